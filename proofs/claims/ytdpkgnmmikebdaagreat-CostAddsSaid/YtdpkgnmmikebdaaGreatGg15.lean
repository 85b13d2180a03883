/- A part of the proof of CostAdds: AcCsA AcCsB AcCsC AcCsD. No condition. -/
import Derived.Test.YtdpkgnmmikebdaaGreatGg14
import Derived.Test.YtdpkgnmmikebdaaGreatProg
set_option linter.unusedSimpArgs false
set_option linter.unusedVariables false
set_option linter.constructorNameAsVariable false
set_option maxRecDepth 100000
set_option maxHeartbeats 4000000
namespace Go.Proofs.YtdpkgnmmikebdaaGreat
open Go.RowKit
/-! compactorlaw21.awake-/
abbrev ZA:List AO:=
 [o1 0 (.mv (.c (.b false)))]
abbrev Zz:List AO:=
 [(o2 14 20 []),o1 1 (.al 25 [.sl0,.n .i64 0,.sl0]),
  (o3 (.st 3 (.t 1) (.t 14)))]
abbrev Zy:List AO:=
 [o1 16 (.ld 3 true (.t 1)),
  (o2 17 12 [.t 16]),
  (mt 15 17),o1 18 (.ext 0 (.t 15)),o1 19 (.ext 1 (.t 15)),o1 20 (.ext 2 (.t 15)),o1 2 (.al 38 [.n .i64 0,.n .i64 0,.n .i64 0,.sl0]),
  (o3 (.st 4 (.t 2) (.t 18))),
  (mt 3 19),
  (mt 4 20)]
abbrev Zx:List AO:=
 [(mt 21 4),o1 22 (.bin .neq (.t 21) (ci 0)),
  (mt 23 22),
  (o4 24 23 (.fa 3 (.t 2))),
  (o4 25 23 (.ld 1 false (.t 24))),
  (o4 26 23 (.len (.t 25))),
  (o4 27 23 (.bin .neq (.t 26) (ci 1))),o1 28 (.pick (.t 23) (.c (.b true)) (.t 27))]
abbrev Zw:List AO:=
 [o1 0 (.mv (.c (.b false)))]
abbrev Zv:List AO:=
 [o1 30 (.ld 3 true (.t 1)),o1 31 (.ld 4 true (.t 2)),
  (o2 32 13 [.t 30,.t 31]),
  (mt 29 32),o1 33 (.ext 0 (.t 29)),o1 34 (.ext 1 (.t 29)),
  (mt 5 33),
  (mt 6 34)]
abbrev Zu:List AO:=
 [o1 35 (.fa 3 (.t 2)),o1 36 (.ld 1 false (.t 35)),o1 37 (.ia 3 (.t 36) (ci 0)),o1 38 (.fa 1 (.t 37)),
  (o3 (.st 1 (.t 38) (ci 0)))]
abbrev Zt:List AO:=
 [o1 40 (.ld 3 true (.t 1)),o1 41 (.ld 4 true (.t 2)),
  (o2 42 13 [.t 40,.t 41]),
  (mt 39 42),o1 43 (.ext 0 (.t 39)),o1 44 (.ext 1 (.t 39)),
  (mt 7 43),
  (mt 8 44)]
abbrev Zs:List AO:=
 [o1 46 (.ld 3 true (.t 1)),
  (o2 47 15 [.t 46]),
  (mt 45 47),o1 48 (.ext 0 (.t 45)),o1 49 (.ext 1 (.t 45)),
  (mt 9 48),
  (mt 10 49)]
abbrev Zr:List AO:=
 [o1 51 (.ld 3 true (.t 1)),
  (o2 52 10 [.t 51,(ci 3)]),
  (mt 50 52),o1 53 (.ext 0 (.t 50)),o1 54 (.ext 1 (.t 50)),o1 11 (.al 29 [.n .i64 0,.n .i64 0]),
  (o3 (.st 2 (.t 11) (.t 53))),
  (mt 12 54)]
abbrev Ue:List AO:=
 [(mt 55 6),
  (mt 56 8),o1 57 (.bin .add (.t 55) (.t 56)),
  (mt 58 10),o1 59 (.bin .add (.t 57) (.t 58)),
  (mt 60 12),o1 61 (.bin .add (.t 59) (.t 60)),o1 62 (.bin .neq (.t 61) (ci 0)),
  (mt 63 62),
  (o4 64 63 (.mv (.t 5))),
  (o4 65 63 (.bin .neq (.t 64) (ci 32))),o1 66 (.pick (.t 63) (.c (.b true)) (.t 65)),
  (mt 67 66),
  (o4 68 67 (.mv (.t 7))),
  (o4 69 67 (.bin .neq (.t 68) (ci 2))),o1 70 (.pick (.t 67) (.c (.b true)) (.t 69)),
  (mt 71 70),
  (o4 72 71 (.mv (.t 9))),
  (o4 73 71 (.bin .neq (.t 72) (ci 196))),o1 74 (.pick (.t 71) (.c (.b true)) (.t 73)),
  (mt 75 74),
  (o4 76 75 (.ld 2 true (.t 11))),
  (o4 77 75 (.bd [.n .i64 0,.n .i64 0] [(0,1,(ci 196)),(1,1,(ci 128))])),
  (o4 78 75 (.eq true (.st [(0,1,.n),(1,1,.n)]) (.t 76) (.t 77))),o1 79 (.pick (.t 75) (.c (.b true)) (.t 78))]
abbrev Ud:List AO:=
 [o1 0 (.mv (.c (.b false)))]
abbrev Uc:List AO:=
 [o1 80 (.bd [.n .i64 0,.n .i64 0] [(0,1,(ci 5)),(1,1,(ci 7))]),o1 13 (.al 29 [.n .i64 0,.n .i64 0]),
  (o3 (.st 2 (.t 13) (.t 80)))]
abbrev Ub:List AO:=
 [o1 81 (.ld 2 true (.t 13)),o1 82 (.bd [.n .i64 0,.n .i64 0] [(0,1,(ci 1)),(1,1,(ci 2))]),
  (o2 83 21 [.t 81,.t 82]),o1 84 (.bd [.n .i64 0,.n .i64 0] [(0,1,(ci 6)),(1,1,(ci 9))]),o1 85 (.eq false (.st [(0,1,.n),(1,1,.n)]) (.t 83) (.t 84)),
  (mt 86 85),
  (o5 87 86 (.ld 2 true (.t 13))),
  (o5 88 86 (.bd [.n .i64 0,.n .i64 0] [(0,1,(ci 5)),(1,1,(ci 8))])),⟨some 89,some (86,true),.cl (.c (.f 22 [] [])) [.t 87,.t 88]⟩,o1 90 (.pick (.t 86) (.t 89) (.c (.b false))),
  (mt 91 90),
  (o5 92 91 (.ld 2 true (.t 13))),
  (o5 93 91 (.bd [.n .i64 0,.n .i64 0] [(0,1,(ci 4)),(1,1,(ci 100))])),⟨some 94,some (91,true),.cl (.c (.f 22 [] [])) [.t 92,.t 93]⟩,
  (o5 95 91 (.un .not (.t 94))),o1 96 (.pick (.t 91) (.t 95) (.c (.b false))),
  (mt 0 96)]
abbrev x1F:AF:=⟨97,(.seq (.reg ZA) (.seq (.reg Zz) (.seq (.reg Zy) (.seq (.seq (.reg Zx) (.cond (.t 28) (.seq (.reg Zw) .ret) .skip)) (.seq (.reg Zv) (.seq (.reg Zu) (.seq (.reg Zt) (.seq (.reg Zs) (.seq (.reg Zr) (.seq (.seq (.reg Ue) (.cond (.t 79) (.seq (.reg Ud) .ret) .skip)) (.seq (.reg Uc) (.seq (.reg Ub) .ret)))))))))))),[.mv (.t 0)]⟩
theorem ZB:aI Tryz.prog (af Tryz.prog 9) 9=some x1F:=by kernel_rfl
/-! compactorlaw21.example-/
abbrev Zf:List AO:=
 [o1 0 (.al 25 [.sl0,.n .i64 0,.sl0])]
abbrev Ze:List AO:=
 [o1 1 (.bd [.n .i64 0,.n .u32 0] [(0,1,(ci 0)),(1,1,(.c (.n .u32 10)))]),o1 2 (.bd [.n .i64 0,.n .u32 0] [(0,1,(ci 29))]),o1 3 (.bd [.n .i64 0,.n .u32 0] [(0,1,(ci 1))]),o1 4 (.bd [.n .i64 0,.n .u32 0] [(0,1,(ci 6))]),o1 5 (.bd [.n .i64 0,.n .u32 0] [(0,1,(ci 31))]),o1 6 (.bs 54 2 5 [.n .i64 0,.n .u32 0,.n .i64 0,.n .u32 0,.n .i64 0,.n .u32 0,.n .i64 0,.n .u32 0,.n .i64 0,.n .u32 0] [(0,2,(.t 1)),(2,2,(.t 2)),(4,2,(.t 3)),(6,2,(.t 4)),(8,2,(.t 5))]),o1 7 (.bd [.sl0,.n .i64 0,.sl0] [(1,1,(ci 1)),(2,1,(.t 6))]),
  (o3 (.st 3 (.t 0) (.t 7)))]
abbrev x2F:AF:=⟨8,(.seq (.reg Zf) (.seq (.reg Ze) .ret)),[.ld 3 true (.t 0)]⟩
theorem Zg:aI Tryz.prog (af Tryz.prog 20) 20=some x2F:=by kernel_rfl
/-! verifier.Verify-/
abbrev Y3:List AO:=
 [o1 1 (.bx 25 0 (.t 0)),o1 2 (.al 38 [.n .i64 0,.n .i64 0,.n .i64 0,.sl0]),o1 3 (.mv (ci 0)),o1 4 (.mv (ci 0))]
abbrev Y0:List AO:=
 [o1 11 (.ld 3 true (.t 1)),
  (o2 12 28 [.t 11]),
  (mt 10 12),o1 13 (.ext 0 (.t 10)),o1 14 (.ext 1 (.t 10)),
  (mt 5 13),
  (mt 6 14)]
abbrev YZ:List AO:=
 [(mt 15 6),o1 16 (.bin .neq (.t 15) (ci 0))]
abbrev YY:List AO:=
 [o1 17 (.bd [.n .i64 0,.n .i64 0,.n .i64 0,.sl0] []),
  (mt 18 5),
  (mt 19 6),
  (o3 (.st 4 (.t 2) (.t 17))),
  (mt 3 18),
  (mt 4 19)]
abbrev YX:List AO:=
 [o1 7 (.al 38 [.n .i64 0,.n .i64 0,.n .i64 0,.sl0])]
abbrev YW:List AO:=
 [o1 21 (.mf 30 [] [.t 1,.t 7]),
  (o2 22 29 [.t 21]),
  (mt 20 22),o1 23 (.ext 0 (.t 20)),o1 24 (.ext 1 (.t 20)),
  (mt 8 23),
  (mt 9 24)]
abbrev YV:List AO:=
 [(mt 25 9),o1 26 (.bin .neq (.t 25) (ci 0))]
abbrev YU:List AO:=
 [o1 27 (.bd [.n .i64 0,.n .i64 0,.n .i64 0,.sl0] []),
  (mt 28 8),
  (mt 29 9),
  (o3 (.st 4 (.t 2) (.t 27))),
  (mt 3 28),
  (mt 4 29)]
abbrev YT:List AO:=
 [o1 30 (.ld 4 true (.t 7)),
  (o3 (.st 4 (.t 2) (.t 30))),o1 3 (.mv (ci 0)),o1 4 (.mv (ci 0))]
abbrev x3F:AF:=⟨31,(.seq (.reg Y3) (.seq (.seq (.reg Y0) (.seq (.reg YZ) (.cond (.t 16) (.seq (.reg YY) .ret) .skip))) (.seq (.reg YX) (.seq (.reg YW) (.seq (.seq (.reg YV) (.cond (.t 26) (.seq (.reg YU) .ret) .skip)) (.seq (.reg YT) .ret)))))),[.ld 4 true (.t 2),.mv (.t 3),.mv (.t 4)]⟩
theorem RI:aI Tryz.prog (af Tryz.prog 12) 12=some x3F:=by kernel_rfl
/-! verifier.Check-/
abbrev YH:List AO:=
 [o1 1 (.bx 25 0 (.t 0)),o1 2 (.mv (ci 0)),o1 3 (.mv (ci 0))]
abbrev YG:List AO:=
 [o1 12 (.ld 3 true (.t 1)),
  (o2 13 38 [.t 12]),
  (mt 11 13),o1 14 (.ext 0 (.t 11)),o1 15 (.ext 1 (.t 11)),
  (mt 4 14),
  (mt 5 15)]
abbrev YF:List AO:=
 [(mt 16 5),o1 17 (.bin .neq (.t 16) (ci 0))]
abbrev YE:List AO:=
 [(mt 18 5),o1 2 (.mv (ci 0)),
  (mt 3 18)]
abbrev YD:List AO:=
 [o1 20 (.fa 2 (.t 1)),o1 21 (.ld 1 false (.t 20)),
  (o2 22 50 [.t 21]),
  (mt 19 22),o1 23 (.ext 0 (.t 19)),o1 24 (.ext 1 (.t 19)),o1 25 (.ext 2 (.t 19)),
  (mt 6 23),
  (mt 7 24),
  (mt 8 25)]
abbrev YC:List AO:=
 [(mt 26 8),o1 27 (.bin .neq (.t 26) (ci 0))]
abbrev YB:List AO:=
 [(mt 28 7),
  (mt 29 8),
  (mt 2 28),
  (mt 3 29)]
abbrev YA:List AO:=
 [o1 30 (.fa 2 (.t 1)),o1 31 (.ld 1 false (.t 30)),o1 32 (.len (.t 31)),o1 33 (.mv (ci 0))]
abbrev Yz:List AO:=
 [o1 34 (.bin .lss (.t 33) (.t 32))]
abbrev Yy:List AO:=
 [(mt 35 33),o1 36 (.ia 2 (.t 31) (.t 33)),o1 37 (.ld 2 true (.t 36)),o1 10 (.al 54 [.n .i64 0,.n .u32 0]),
  (mt 9 35),
  (o3 (.st 2 (.t 10) (.t 37)))]
abbrev Qu:List AO:=
 [o1 38 (.fa 0 (.t 10)),o1 39 (.ld 1 false (.t 38))]
abbrev Qt:List AO:=
 [o1 41 (.bin .eql (.t 39) (ci 1)),
  (mt 40 41)]
abbrev Qs:List AO:=
 [o1 42 (.bin .eql (.t 39) (ci 2)),
  (mt 40 42)]
abbrev Qr:List AO:=
 [o1 43 (.fa 1 (.t 10)),o1 44 (.ld 1 false (.t 43)),o1 45 (.cvi .i64 (.t 44)),o1 46 (.fa 1 (.t 1)),o1 47 (.ld 1 false (.t 46)),o1 48 (.bin .geq (.t 45) (.t 47))]
abbrev Qq:List AO:=
 [(mt 49 9),
  (mt 2 49),o1 3 (.mv (ci 2))]
abbrev Qp:List AO:=
 [o1 51 (.bin .eql (.t 39) (ci 3)),
  (mt 50 51)]
abbrev Qo:List AO:=
 [o1 52 (.bin .eql (.t 39) (ci 4)),
  (mt 50 52)]
abbrev Qn:List AO:=
 [o1 53 (.fa 1 (.t 10)),o1 54 (.ld 1 false (.t 53)),o1 55 (.cvi .i64 (.t 54)),o1 56 (.fa 0 (.t 1)),o1 57 (.ld 1 false (.t 56)),o1 58 (.len (.t 57)),o1 59 (.bin .geq (.t 55) (.t 58))]
abbrev Qm:List AO:=
 [(mt 60 9),
  (mt 2 60),o1 3 (.mv (ci 2))]
abbrev Qx:AC:=
 (.seq (.seq (.reg Qt) (.cond (.t 40) .skip (.reg Qs))) (.cond (.t 40) (.seq (.reg Qr) (.cond (.t 48) (.seq (.reg Qq) .ret) .skip)) (.seq (.seq (.reg Qp) (.cond (.t 50) .skip (.reg Qo))) (.cond (.t 50) (.seq (.reg Qn) (.cond (.t 59) (.seq (.reg Qm) .ret) .skip)) .skip))))
abbrev Qw:AC:=
 (.seq (.reg Yy) (.seq (.reg Qu) (.block 2 Qx)))
abbrev Ql:List AO:=
 [o1 61 (.bin .add (.t 33) (ci 1)),
  (mt 33 61)]
abbrev Qy:AC:=
 (.seq (.reg Yz) (.seq (.cond (.t 34) .skip (.exit 0)) (.seq (.block 1 Qw) (.reg Ql))))
abbrev Qv:AC:=
 (.loop Qy)
abbrev Qk:List AO:=
 [o1 2 (.mv (ci 0)),o1 3 (.mv (ci 0))]
abbrev x4F:AF:=⟨62,(.seq (.reg YH) (.seq (.seq (.reg YG) (.seq (.reg YF) (.cond (.t 17) (.seq (.reg YE) .ret) .skip))) (.seq (.seq (.reg YD) (.seq (.reg YC) (.cond (.t 27) (.seq (.reg YB) .ret) .skip))) (.seq (.seq (.reg YA) (.block 0 Qv)) (.seq (.reg Qk) .ret))))),[.mv (.t 2),.mv (.t 3)]⟩
theorem YI:aI Tryz.prog (af Tryz.prog 28) 28=some x4F:=by kernel_rfl
/-! instruction.Encode-/
abbrev Yl:List AO:=
 [o1 1 (.bx 25 0 (.t 0)),o1 2 (.mv (.c .sl0)),o1 3 (.mv (ci 0))]
abbrev Yk:List AO:=
 [o1 12 (.ld 3 true (.t 1)),
  (o2 13 67 [.t 12]),
  (mt 4 13)]
abbrev Yj:List AO:=
 [(mt 14 4),o1 15 (.bin .neq (.t 14) (ci 0))]
abbrev Yi:List AO:=
 [(mt 16 4),o1 2 (.mv (.c .sl0)),
  (mt 3 16)]
abbrev Yh:List AO:=
 [o1 17 (.fa 0 (.t 1)),o1 18 (.ld 1 false (.t 17)),o1 19 (.len (.t 18)),
  (o2 20 68 [(.c .sl0),.t 19]),
  (mt 5 20)]
abbrev Yg:List AO:=
 [o1 21 (.fa 0 (.t 1)),o1 22 (.ld 1 false (.t 21)),o1 23 (.len (.t 22)),o1 24 (.mv (ci 0))]
abbrev Yf:List AO:=
 [o1 25 (.bin .lss (.t 24) (.t 23))]
abbrev Ye:List AO:=
 [o1 26 (.ia 2 (.t 22) (.t 24)),o1 27 (.ld 2 true (.t 26)),o1 7 (.al 68 [.b false,.n .i64 0]),
  (o3 (.st 2 (.t 7) (.t 27)))]
abbrev Ym:List (Nat×AO):=
 [(2,(mt 28 5)),(2,(o1 29 (.fa 1 (.t 7)))),(2,(o1 32 (.fa 0 (.t 7)))),(1,(o1 30 (.ld 1 false (.t 29)))),(2,(o1 31 (.bin .mul (ci 2) (.t 30)))),(1,(o1 33 (.ld 1 false (.t 32)))),
  (0,(o2 34 69 [.t 33])),(2,(o1 35 (.cvi .i64 (.t 34)))),(2,(o1 36 (.bin .add (.t 31) (.t 35)))),
  (3,(o2 37 68 [.t 28,.t 36])),
  (2,(mt 5 37))]
abbrev Yn:AC:=
 (.seq (.reg Ye) (.mix Ym))
abbrev O5:List AO:=
 [o1 38 (.bin .add (.t 24) (ci 1)),
  (mt 24 38)]
abbrev Pc:AC:=
 (.seq (.reg Yf) (.seq (.cond (.t 25) .skip (.exit 0)) (.seq (.block 1 Yn) (.reg O5))))
abbrev Pa:AC:=
 (.loop Pc)
abbrev O7:List (Nat×AO):=
 [(2,(mt 39 5)),(2,(o1 40 (.fa 1 (.t 1)))),(2,(o1 43 (.fa 2 (.t 1)))),(1,(o1 41 (.ld 1 false (.t 40)))),(1,(o1 44 (.ld 1 false (.t 43)))),(2,(o1 45 (.len (.t 44)))),
  (0,(o2 42 68 [.t 39,.t 41])),
  (3,(o2 46 68 [.t 42,.t 45])),
  (2,(mt 5 46))]
abbrev O4:List AO:=
 [o1 47 (.fa 2 (.t 1)),o1 48 (.ld 1 false (.t 47)),o1 49 (.len (.t 48)),o1 50 (.mv (ci 0))]
abbrev O3:List AO:=
 [o1 51 (.bin .lss (.t 50) (.t 49))]
abbrev O2:List AO:=
 [o1 52 (.ia 2 (.t 48) (.t 50)),o1 53 (.ld 2 true (.t 52)),o1 9 (.al 54 [.n .i64 0,.n .u32 0]),
  (o3 (.st 2 (.t 9) (.t 53)))]
abbrev O1:List AO:=
 [(mt 54 5),o1 55 (.fa 0 (.t 9)),o1 56 (.ld 1 false (.t 55)),o1 57 (.cvi .u8 (.t 56)),o1 58 (.bs 5 1 1 [.n .u8 0] [(0,1,(.t 57))]),o1 59 (.app 5 1 1 (.t 54) (.t 58)),
  (mt 5 59)]
abbrev O0:List AO:=
 [o1 61 (.fa 0 (.t 9)),o1 62 (.ld 1 false (.t 61)),
  (o2 63 70 [.t 62]),
  (mt 60 63),o1 64 (.ext 0 (.t 60)),o1 65 (.ext 1 (.t 60)),o1 10 (.al 146 [.s ⟨#[]⟩,.s ⟨#[]⟩,.s ⟨#[]⟩,.n .u64 0,.b false]),
  (o3 (.st 5 (.t 10) (.t 64))),
  (mt 11 65)]
abbrev OZ:List AO:=
 [o1 66 (.fa 4 (.t 10)),o1 67 (.ld 1 false (.t 66))]
abbrev OY:List AO:=
 [(mt 68 5),o1 69 (.fa 1 (.t 9)),o1 70 (.ld 1 false (.t 69)),o1 71 (.cvi .i64 (.t 70)),
  (o2 72 68 [.t 68,.t 71]),
  (mt 5 72)]
abbrev O9:AC:=
 (.seq (.reg O2) (.seq (.reg O1) (.seq (.reg O0) (.seq (.reg OZ) (.cond (.t 67) (.reg OY) .skip)))))
abbrev OX:List AO:=
 [o1 73 (.bin .add (.t 50) (ci 1)),
  (mt 50 73)]
abbrev Pb:AC:=
 (.seq (.reg O3) (.seq (.cond (.t 51) .skip (.exit 2)) (.seq (.block 3 O9) (.reg OX))))
abbrev O8:AC:=
 (.loop Pb)
abbrev OW:List AO:=
 [(mt 74 5),
  (mt 2 74),o1 3 (.mv (ci 0))]
abbrev x5F:AF:=⟨75,(.seq (.reg Yl) (.seq (.seq (.reg Yk) (.seq (.reg Yj) (.cond (.t 15) (.seq (.reg Yi) .ret) .skip))) (.seq (.reg Yh) (.seq (.seq (.reg Yg) (.block 0 Pa)) (.seq (.mix O7) (.seq (.seq (.reg O4) (.block 2 O8)) (.seq (.reg OW) .ret))))))),[.mv (.t 2),.mv (.t 3)]⟩
theorem O6:aI Tryz.prog (af Tryz.prog 38) 38=some x5F:=by kernel_rfl
/-! instruction.form-/
abbrev X1:List AO:=
 [o1 1 (.bx 25 0 (.t 0)),o1 2 (.mv (ci 0))]
abbrev X0:List AO:=
 [o1 7 (.fa 0 (.t 1)),o1 8 (.ld 1 false (.t 7)),
  (o2 9 93 [.t 8]),
  (mt 3 9)]
abbrev XZ:List AO:=
 [(mt 10 3),o1 11 (.bin .neq (.t 10) (ci 0))]
abbrev XY:List AO:=
 [(mt 12 3),
  (mt 2 12)]
abbrev XX:List AO:=
 [o1 14 (.fa 1 (.t 1)),o1 15 (.ld 1 false (.t 14)),o1 16 (.bin .lss (.t 15) (ci 0)),
  (mt 17 16),
  (o4 18 17 (.fa 1 (.t 1))),
  (o4 19 17 (.ld 1 false (.t 18))),
  (o4 20 17 (.bin .gtr (.t 19) (ci 16))),o1 21 (.pick (.t 17) (.c (.b true)) (.t 20)),
  (mt 13 21)]
abbrev XW:List AO:=
 [o1 2 (.mv (ci 2))]
abbrev XV:List AO:=
 [o1 23 (.fa 2 (.t 1)),o1 24 (.ld 1 false (.t 23)),o1 25 (.len (.t 24)),o1 26 (.bin .gtr (.t 25) (ci 1024)),
  (mt 22 26)]
abbrev XU:List AO:=
 [o1 2 (.mv (ci 6))]
abbrev X3:AC:=
 (.seq (.reg XX) (.cond (.t 13) (.seq (.reg XW) .ret) (.seq (.reg XV) (.cond (.t 22) (.seq (.reg XU) .ret) .skip))))
abbrev XT:List AO:=
 [o1 27 (.fa 2 (.t 1)),o1 28 (.ld 1 false (.t 27)),o1 29 (.len (.t 28)),o1 30 (.mv (ci 0))]
abbrev Nv:List AO:=
 [o1 31 (.bin .lss (.t 30) (.t 29))]
abbrev Nu:List AO:=
 [o1 32 (.ia 2 (.t 28) (.t 30)),o1 33 (.ld 2 true (.t 32)),o1 5 (.al 54 [.n .i64 0,.n .u32 0]),
  (o3 (.st 2 (.t 5) (.t 33)))]
abbrev Nt:List AO:=
 [o1 34 (.ld 2 true (.t 5)),
  (o2 35 94 [.t 34]),
  (mt 6 35)]
abbrev Ns:List AO:=
 [(mt 36 6),o1 37 (.bin .neq (.t 36) (ci 0))]
abbrev Nr:List AO:=
 [(mt 38 6),
  (mt 2 38)]
abbrev Nx:AC:=
 (.seq (.reg Nu) (.seq (.reg Nt) (.seq (.reg Ns) (.cond (.t 37) (.seq (.reg Nr) .ret) .skip))))
abbrev Nq:List AO:=
 [o1 39 (.bin .add (.t 30) (ci 1)),
  (mt 30 39)]
abbrev Ny:AC:=
 (.seq (.reg Nv) (.seq (.cond (.t 31) .skip (.exit 1)) (.seq (.block 2 Nx) (.reg Nq))))
abbrev Nw:AC:=
 (.loop Ny)
abbrev Np:List AO:=
 [o1 2 (.mv (ci 0))]
abbrev x6F:AF:=⟨40,(.seq (.reg X1) (.seq (.seq (.reg X0) (.seq (.reg XZ) (.cond (.t 11) (.seq (.reg XY) .ret) .skip))) (.seq (.block 0 X3) (.seq (.seq (.reg XT) (.block 1 Nw)) (.seq (.reg Np) .ret))))),[.mv (.t 2)]⟩
theorem X2:aI Tryz.prog (af Tryz.prog 67) 67=some x6F:=by kernel_rfl
/-! instruction.arrays-/
abbrev XH:List AO:=
 [o1 2 (.mv (ci 0))]
abbrev XG:List AO:=
 [(mt 6 0),o1 7 (.len (.t 6)),o1 8 (.bin .gtr (.t 7) (ci 8))]
abbrev XF:List AO:=
 [o1 2 (.mv (ci 6))]
abbrev XE:List AO:=
 [o1 3 (.mv (ci 65536))]
abbrev XD:List AO:=
 [(mt 9 0),o1 10 (.len (.t 9)),o1 11 (.mv (ci 0))]
abbrev XC:List AO:=
 [o1 12 (.bin .lss (.t 11) (.t 10))]
abbrev XB:List AO:=
 [o1 13 (.ia 2 (.t 9) (.t 11)),o1 14 (.ld 2 true (.t 13)),o1 5 (.al 68 [.b false,.n .i64 0]),
  (o3 (.st 2 (.t 5) (.t 14)))]
abbrev XA:List AO:=
 [o1 15 (.fa 1 (.t 5)),o1 16 (.ld 1 false (.t 15)),o1 17 (.bin .lss (.t 16) (ci 1)),
  (mt 18 17),
  (o4 19 18 (.fa 1 (.t 5))),
  (o4 20 18 (.ld 1 false (.t 19))),
  (o4 21 18 (.mv (.t 3))),
  (o4 22 18 (.bin .gtr (.t 20) (.t 21))),o1 23 (.pick (.t 18) (.c (.b true)) (.t 22))]
abbrev Xz:List AO:=
 [o1 2 (.mv (ci 2))]
abbrev Xy:List AO:=
 [(mt 24 3),o1 25 (.fa 1 (.t 5)),o1 26 (.ld 1 false (.t 25)),o1 27 (.bin .sub (.t 24) (.t 26)),
  (mt 3 27)]
abbrev Mf:AC:=
 (.seq (.reg XB) (.seq (.seq (.reg XA) (.cond (.t 23) (.seq (.reg Xz) .ret) .skip)) (.reg Xy)))
abbrev Md:List AO:=
 [o1 28 (.bin .add (.t 11) (ci 1)),
  (mt 11 28)]
abbrev Mg:AC:=
 (.seq (.reg XC) (.seq (.cond (.t 12) .skip (.exit 0)) (.seq (.block 1 Mf) (.reg Md))))
abbrev Me:AC:=
 (.loop Mg)
abbrev Mc:List AO:=
 [o1 2 (.mv (ci 0))]
abbrev x7F:AF:=⟨29,(.seq (.reg XH) (.seq (.seq (.reg XG) (.cond (.t 8) (.seq (.reg XF) .ret) .skip)) (.seq (.reg XE) (.seq (.seq (.reg XD) (.block 0 Me)) (.seq (.reg Mc) .ret))))),[.mv (.t 2)]⟩
theorem XI:aI Tryz.prog (af Tryz.prog 93) 93=some x7F:=by kernel_rfl
/-! instruction.Check-/
abbrev Xl:List AO:=
 [o1 1 (.bx 54 0 (.t 0)),o1 2 (.mv (ci 0))]
abbrev Xk:List AO:=
 [o1 6 (.fa 0 (.t 1)),o1 7 (.ld 1 false (.t 6)),
  (o2 8 70 [.t 7]),
  (mt 5 8),o1 9 (.ext 0 (.t 5)),o1 10 (.ext 1 (.t 5)),o1 3 (.al 146 [.s ⟨#[]⟩,.s ⟨#[]⟩,.s ⟨#[]⟩,.n .u64 0,.b false]),
  (o3 (.st 5 (.t 3) (.t 9))),
  (mt 4 10)]
abbrev Xj:List AO:=
 [(mt 12 4),o1 13 (.un .not (.t 12)),
  (mt 11 13)]
abbrev Xi:List AO:=
 [o1 2 (.mv (ci 1))]
abbrev Xh:List AO:=
 [o1 15 (.fa 1 (.t 1)),o1 16 (.ld 1 false (.t 15)),o1 17 (.cvi .u64 (.t 16)),o1 18 (.fa 3 (.t 3)),o1 19 (.ld 1 false (.t 18)),o1 20 (.bin .geq (.t 17) (.t 19)),
  (mt 14 20)]
abbrev Xg:List AO:=
 [o1 2 (.mv (ci 2))]
abbrev Xn:AC:=
 (.seq (.reg Xj) (.cond (.t 11) (.seq (.reg Xi) .ret) (.seq (.reg Xh) (.cond (.t 14) (.seq (.reg Xg) .ret) .skip))))
abbrev Xf:List AO:=
 [o1 2 (.mv (ci 0))]
abbrev x8F:AF:=⟨21,(.seq (.reg Xl) (.seq (.reg Xk) (.seq (.block 0 Xn) (.seq (.reg Xf) .ret)))),[.mv (.t 2)]⟩
theorem Xm:aI Tryz.prog (af Tryz.prog 94) 94=some x8F:=by kernel_rfl
/-! instruction.known-/
abbrev W4:List AO:=
 [o1 2 (.al 146 [.s ⟨#[]⟩,.s ⟨#[]⟩,.s ⟨#[]⟩,.n .u64 0,.b false]),o1 3 (.mv (.c (.b false)))]
abbrev W3:List AO:=
 [(mt 4 0),o1 5 (.bin .lss (.t 4) (ci 0)),
  (mt 6 5),
  (o4 7 6 (.mv (.t 0))),
  (o4 8 6 (.bin .geq (.t 7) (ci 36))),o1 9 (.pick (.t 6) (.c (.b true)) (.t 8))]
abbrev W2:List AO:=
 [o1 10 (.bd [.s ⟨#[]⟩,.s ⟨#[]⟩,.s ⟨#[]⟩,.n .u64 0,.b false] []),
  (o3 (.st 5 (.t 2) (.t 10))),o1 3 (.mv (.c (.b false)))]
abbrev W1:List AO:=
 [(o2 11 97 []),
  (mt 12 0),o1 13 (.ix 36 5 true (.t 11) (.t 12)),
  (o3 (.st 5 (.t 2) (.t 13))),o1 3 (.mv (.c (.b true)))]
abbrev x9F:AF:=⟨14,(.seq (.reg W4) (.seq (.seq (.reg W3) (.cond (.t 9) (.seq (.reg W2) .ret) .skip)) (.seq (.reg W1) .ret))),[.ld 5 true (.t 2),.mv (.t 3)]⟩
theorem Dg:aI Tryz.prog (af Tryz.prog 70) 70=some x9F:=by kernel_rfl
/-! instruction.operations-/
abbrev Ve:List AO:=
 [o1 0 (.al 189 [.s ⟨#[]⟩,.s ⟨#[]⟩,.s ⟨#[]⟩,.n .u64 0,.b false,.s ⟨#[]⟩,.s ⟨#[]⟩,.s ⟨#[]⟩,.n .u64 0,.b false,.s ⟨#[]⟩,.s ⟨#[]⟩,.s ⟨#[]⟩,.n .u64 0,.b false,.s ⟨#[]⟩,.s ⟨#[]⟩,.s ⟨#[]⟩,.n .u64 0,.b false,.s ⟨#[]⟩,.s ⟨#[]⟩,.s ⟨#[]⟩,.n .u64 0,.b false,.s ⟨#[]⟩,.s ⟨#[]⟩,.s ⟨#[]⟩,.n .u64 0,.b false,.s ⟨#[]⟩,.s ⟨#[]⟩,.s ⟨#[]⟩,.n .u64 0,.b false,.s ⟨#[]⟩,.s ⟨#[]⟩,.s ⟨#[]⟩,.n .u64 0,.b false,.s ⟨#[]⟩,.s ⟨#[]⟩,.s ⟨#[]⟩,.n .u64 0,.b false,.s ⟨#[]⟩,.s ⟨#[]⟩,.s ⟨#[]⟩,.n .u64 0,.b false,.s ⟨#[]⟩,.s ⟨#[]⟩,.s ⟨#[]⟩,.n .u64 0,.b false,.s ⟨#[]⟩,.s ⟨#[]⟩,.s ⟨#[]⟩,.n .u64 0,.b false,.s ⟨#[]⟩,.s ⟨#[]⟩,.s ⟨#[]⟩,.n .u64 0,.b false,.s ⟨#[]⟩,.s ⟨#[]⟩,.s ⟨#[]⟩,.n .u64 0,.b false,.s ⟨#[]⟩,.s ⟨#[]⟩,.s ⟨#[]⟩,.n .u64 0,.b false,.s ⟨#[]⟩,.s ⟨#[]⟩,.s ⟨#[]⟩,.n .u64 0,.b false,.s ⟨#[]⟩,.s ⟨#[]⟩,.s ⟨#[]⟩,.n .u64 0,.b false,.s ⟨#[]⟩,.s ⟨#[]⟩,.s ⟨#[]⟩,.n .u64 0,.b false,.s ⟨#[]⟩,.s ⟨#[]⟩,.s ⟨#[]⟩,.n .u64 0,.b false,.s ⟨#[]⟩,.s ⟨#[]⟩,.s ⟨#[]⟩,.n .u64 0,.b false,.s ⟨#[]⟩,.s ⟨#[]⟩,.s ⟨#[]⟩,.n .u64 0,.b false,.s ⟨#[]⟩,.s ⟨#[]⟩,.s ⟨#[]⟩,.n .u64 0,.b false,.s ⟨#[]⟩,.s ⟨#[]⟩,.s ⟨#[]⟩,.n .u64 0,.b false,.s ⟨#[]⟩,.s ⟨#[]⟩,.s ⟨#[]⟩,.n .u64 0,.b false,.s ⟨#[]⟩,.s ⟨#[]⟩,.s ⟨#[]⟩,.n .u64 0,.b false,.s ⟨#[]⟩,.s ⟨#[]⟩,.s ⟨#[]⟩,.n .u64 0,.b false,.s ⟨#[]⟩,.s ⟨#[]⟩,.s ⟨#[]⟩,.n .u64 0,.b false,.s ⟨#[]⟩,.s ⟨#[]⟩,.s ⟨#[]⟩,.n .u64 0,.b false,.s ⟨#[]⟩,.s ⟨#[]⟩,.s ⟨#[]⟩,.n .u64 0,.b false,.s ⟨#[]⟩,.s ⟨#[]⟩,.s ⟨#[]⟩,.n .u64 0,.b false,.s ⟨#[]⟩,.s ⟨#[]⟩,.s ⟨#[]⟩,.n .u64 0,.b false,.s ⟨#[]⟩,.s ⟨#[]⟩,.s ⟨#[]⟩,.n .u64 0,.b false,.s ⟨#[]⟩,.s ⟨#[]⟩,.s ⟨#[]⟩,.n .u64 0,.b false,.s ⟨#[]⟩,.s ⟨#[]⟩,.s ⟨#[]⟩,.n .u64 0,.b false,.s ⟨#[]⟩,.s ⟨#[]⟩,.s ⟨#[]⟩,.n .u64 0,.b false,.s ⟨#[]⟩,.s ⟨#[]⟩,.s ⟨#[]⟩,.n .u64 0,.b false])]
abbrev Vd:List AO:=
 [o1 1 (.mv (.c (.f 131 [] [])))]
abbrev Vc:List AO:=
 [o1 2 (.mv (.c (.f 132 [] [])))]
abbrev Vb:List AO:=
 [o1 3 (.bd [.s ⟨#[]⟩,.s ⟨#[]⟩,.s ⟨#[]⟩,.n .u64 0,.b false] [(0,1,(.c (.s ⟨#[112,117,115,104]⟩))),(1,1,(.c (.s ⟨#[]⟩))),(2,1,(.c (.s ⟨#[110]⟩))),(3,1,(.c (.n .u64 4294967296))),(4,1,(.c (.b true)))]),o1 4 (.bd [.s ⟨#[]⟩,.s ⟨#[]⟩,.s ⟨#[]⟩,.n .u64 0,.b false] [(0,1,(.c (.s ⟨#[108,111,97,100]⟩))),(1,1,(.c (.s ⟨#[]⟩))),(2,1,(.c (.s ⟨#[110]⟩))),(3,1,(.c (.n .u64 16))),(4,1,(.c (.b true)))]),o1 5 (.bd [.s ⟨#[]⟩,.s ⟨#[]⟩,.s ⟨#[]⟩,.n .u64 0,.b false] [(0,1,(.c (.s ⟨#[115,116,111,114,101]⟩))),(1,1,(.c (.s ⟨#[110]⟩))),(2,1,(.c (.s ⟨#[]⟩))),(3,1,(.c (.n .u64 16))),(4,1,(.c (.b true)))]),o1 6 (.bd [.s ⟨#[]⟩,.s ⟨#[]⟩,.s ⟨#[]⟩,.n .u64 0,.b false] [(0,1,(.c (.s ⟨#[103,101,116]⟩))),(1,1,(.c (.s ⟨#[110]⟩))),(2,1,(.c (.s ⟨#[110]⟩))),(3,1,(.c (.n .u64 8))),(4,1,(.c (.b true)))]),o1 7 (.bd [.s ⟨#[]⟩,.s ⟨#[]⟩,.s ⟨#[]⟩,.n .u64 0,.b false] [(0,1,(.c (.s ⟨#[112,117,116]⟩))),(1,1,(.c (.s ⟨#[110,110]⟩))),(2,1,(.c (.s ⟨#[]⟩))),(3,1,(.c (.n .u64 8))),(4,1,(.c (.b true)))]),
  (mt 8 2),⟨some 9,none,.cl (.t 8) [(.c (.s ⟨#[100,117,112]⟩)),(.c (.s ⟨#[97]⟩)),(.c (.s ⟨#[97,97]⟩))]⟩,
  (mt 10 2),⟨some 11,none,.cl (.t 10) [(.c (.s ⟨#[100,114,111,112]⟩)),(.c (.s ⟨#[97]⟩)),(.c (.s ⟨#[]⟩))]⟩,
  (mt 12 2),⟨some 13,none,.cl (.t 12) [(.c (.s ⟨#[115,119,97,112]⟩)),(.c (.s ⟨#[97,98]⟩)),(.c (.s ⟨#[98,97]⟩))]⟩,
  (mt 14 1),⟨some 15,none,.cl (.t 14) [(.c (.s ⟨#[97,100,100]⟩))]⟩,
  (mt 16 1),⟨some 17,none,.cl (.t 16) [(.c (.s ⟨#[115,117,98]⟩))]⟩,
  (mt 18 1),⟨some 19,none,.cl (.t 18) [(.c (.s ⟨#[109,117,108]⟩))]⟩,
  (mt 20 1),⟨some 21,none,.cl (.t 20) [(.c (.s ⟨#[100,105,118]⟩))]⟩,
  (mt 22 1),⟨some 23,none,.cl (.t 22) [(.c (.s ⟨#[109,111,100]⟩))]⟩,
  (mt 24 1),⟨some 25,none,.cl (.t 24) [(.c (.s ⟨#[97,110,100]⟩))]⟩,
  (mt 26 1),⟨some 27,none,.cl (.t 26) [(.c (.s ⟨#[111,114]⟩))]⟩,
  (mt 28 1),⟨some 29,none,.cl (.t 28) [(.c (.s ⟨#[120,111,114]⟩))]⟩,
  (mt 30 1),⟨some 31,none,.cl (.t 30) [(.c (.s ⟨#[115,104,108]⟩))]⟩,
  (mt 32 1),⟨some 33,none,.cl (.t 32) [(.c (.s ⟨#[115,104,114]⟩))]⟩,
  (mt 34 1),⟨some 35,none,.cl (.t 34) [(.c (.s ⟨#[109,105,110]⟩))]⟩,
  (mt 36 1),⟨some 37,none,.cl (.t 36) [(.c (.s ⟨#[109,97,120]⟩))]⟩,
  (mt 38 1),⟨some 39,none,.cl (.t 38) [(.c (.s ⟨#[104,97,115,104]⟩))]⟩,
  (mt 40 2),⟨some 41,none,.cl (.t 40) [(.c (.s ⟨#[101,113]⟩)),(.c (.s ⟨#[110,110]⟩)),(.c (.s ⟨#[116]⟩))]⟩,
  (mt 42 2),⟨some 43,none,.cl (.t 42) [(.c (.s ⟨#[108,101,115,115]⟩)),(.c (.s ⟨#[110,110]⟩)),(.c (.s ⟨#[116]⟩))]⟩,
  (mt 44 2),⟨some 45,none,.cl (.t 44) [(.c (.s ⟨#[110,111,116]⟩)),(.c (.s ⟨#[116]⟩)),(.c (.s ⟨#[116]⟩))]⟩,
  (mt 46 2),⟨some 47,none,.cl (.t 46) [(.c (.s ⟨#[98,111,116,104]⟩)),(.c (.s ⟨#[116,116]⟩)),(.c (.s ⟨#[116]⟩))]⟩,
  (mt 48 2),⟨some 49,none,.cl (.t 48) [(.c (.s ⟨#[101,105,116,104,101,114]⟩)),(.c (.s ⟨#[116,116]⟩)),(.c (.s ⟨#[116]⟩))]⟩,
  (mt 50 2),⟨some 51,none,.cl (.t 50) [(.c (.s ⟨#[105,110,116]⟩)),(.c (.s ⟨#[116]⟩)),(.c (.s ⟨#[110]⟩))]⟩,
  (mt 52 2),⟨some 53,none,.cl (.t 52) [(.c (.s ⟨#[105,102]⟩)),(.c (.s ⟨#[116]⟩)),(.c (.s ⟨#[]⟩))]⟩,
  (mt 54 2),⟨some 55,none,.cl (.t 54) [(.c (.s ⟨#[101,108,115,101]⟩)),(.c (.s ⟨#[]⟩)),(.c (.s ⟨#[]⟩))]⟩,
  (mt 56 2),⟨some 57,none,.cl (.t 56) [(.c (.s ⟨#[108,111,111,112]⟩)),(.c (.s ⟨#[110]⟩)),(.c (.s ⟨#[]⟩))]⟩,
  (mt 58 2),⟨some 59,none,.cl (.t 58) [(.c (.s ⟨#[108,101,97,118,101]⟩)),(.c (.s ⟨#[116]⟩)),(.c (.s ⟨#[]⟩))]⟩,
  (mt 60 2),⟨some 61,none,.cl (.t 60) [(.c (.s ⟨#[101,110,100]⟩)),(.c (.s ⟨#[]⟩)),(.c (.s ⟨#[]⟩))]⟩,
  (mt 62 2),⟨some 63,none,.cl (.t 62) [(.c (.s ⟨#[105,110,112,117,116]⟩)),(.c (.s ⟨#[]⟩)),(.c (.s ⟨#[110]⟩))]⟩,
  (mt 64 2),⟨some 65,none,.cl (.t 64) [(.c (.s ⟨#[101,110,100,101,100]⟩)),(.c (.s ⟨#[]⟩)),(.c (.s ⟨#[116]⟩))]⟩,
  (mt 66 2),⟨some 67,none,.cl (.t 66) [(.c (.s ⟨#[101,109,105,116]⟩)),(.c (.s ⟨#[110]⟩)),(.c (.s ⟨#[]⟩))]⟩,o1 68 (.bd [.s ⟨#[]⟩,.s ⟨#[]⟩,.s ⟨#[]⟩,.n .u64 0,.b false] [(0,1,(.c (.s ⟨#[99,111,110,116,101,120,116]⟩))),(1,1,(.c (.s ⟨#[110]⟩))),(2,1,(.c (.s ⟨#[]⟩))),(3,1,(.c (.n .u64 16))),(4,1,(.c (.b true)))]),o1 69 (.bd [.s ⟨#[]⟩,.s ⟨#[]⟩,.s ⟨#[]⟩,.n .u64 0,.b false,.s ⟨#[]⟩,.s ⟨#[]⟩,.s ⟨#[]⟩,.n .u64 0,.b false,.s ⟨#[]⟩,.s ⟨#[]⟩,.s ⟨#[]⟩,.n .u64 0,.b false,.s ⟨#[]⟩,.s ⟨#[]⟩,.s ⟨#[]⟩,.n .u64 0,.b false,.s ⟨#[]⟩,.s ⟨#[]⟩,.s ⟨#[]⟩,.n .u64 0,.b false,.s ⟨#[]⟩,.s ⟨#[]⟩,.s ⟨#[]⟩,.n .u64 0,.b false,.s ⟨#[]⟩,.s ⟨#[]⟩,.s ⟨#[]⟩,.n .u64 0,.b false,.s ⟨#[]⟩,.s ⟨#[]⟩,.s ⟨#[]⟩,.n .u64 0,.b false,.s ⟨#[]⟩,.s ⟨#[]⟩,.s ⟨#[]⟩,.n .u64 0,.b false,.s ⟨#[]⟩,.s ⟨#[]⟩,.s ⟨#[]⟩,.n .u64 0,.b false,.s ⟨#[]⟩,.s ⟨#[]⟩,.s ⟨#[]⟩,.n .u64 0,.b false,.s ⟨#[]⟩,.s ⟨#[]⟩,.s ⟨#[]⟩,.n .u64 0,.b false,.s ⟨#[]⟩,.s ⟨#[]⟩,.s ⟨#[]⟩,.n .u64 0,.b false,.s ⟨#[]⟩,.s ⟨#[]⟩,.s ⟨#[]⟩,.n .u64 0,.b false,.s ⟨#[]⟩,.s ⟨#[]⟩,.s ⟨#[]⟩,.n .u64 0,.b false,.s ⟨#[]⟩,.s ⟨#[]⟩,.s ⟨#[]⟩,.n .u64 0,.b false,.s ⟨#[]⟩,.s ⟨#[]⟩,.s ⟨#[]⟩,.n .u64 0,.b false,.s ⟨#[]⟩,.s ⟨#[]⟩,.s ⟨#[]⟩,.n .u64 0,.b false,.s ⟨#[]⟩,.s ⟨#[]⟩,.s ⟨#[]⟩,.n .u64 0,.b false,.s ⟨#[]⟩,.s ⟨#[]⟩,.s ⟨#[]⟩,.n .u64 0,.b false,.s ⟨#[]⟩,.s ⟨#[]⟩,.s ⟨#[]⟩,.n .u64 0,.b false,.s ⟨#[]⟩,.s ⟨#[]⟩,.s ⟨#[]⟩,.n .u64 0,.b false,.s ⟨#[]⟩,.s ⟨#[]⟩,.s ⟨#[]⟩,.n .u64 0,.b false,.s ⟨#[]⟩,.s ⟨#[]⟩,.s ⟨#[]⟩,.n .u64 0,.b false,.s ⟨#[]⟩,.s ⟨#[]⟩,.s ⟨#[]⟩,.n .u64 0,.b false,.s ⟨#[]⟩,.s ⟨#[]⟩,.s ⟨#[]⟩,.n .u64 0,.b false,.s ⟨#[]⟩,.s ⟨#[]⟩,.s ⟨#[]⟩,.n .u64 0,.b false,.s ⟨#[]⟩,.s ⟨#[]⟩,.s ⟨#[]⟩,.n .u64 0,.b false,.s ⟨#[]⟩,.s ⟨#[]⟩,.s ⟨#[]⟩,.n .u64 0,.b false,.s ⟨#[]⟩,.s ⟨#[]⟩,.s ⟨#[]⟩,.n .u64 0,.b false,.s ⟨#[]⟩,.s ⟨#[]⟩,.s ⟨#[]⟩,.n .u64 0,.b false,.s ⟨#[]⟩,.s ⟨#[]⟩,.s ⟨#[]⟩,.n .u64 0,.b false,.s ⟨#[]⟩,.s ⟨#[]⟩,.s ⟨#[]⟩,.n .u64 0,.b false,.s ⟨#[]⟩,.s ⟨#[]⟩,.s ⟨#[]⟩,.n .u64 0,.b false,.s ⟨#[]⟩,.s ⟨#[]⟩,.s ⟨#[]⟩,.n .u64 0,.b false,.s ⟨#[]⟩,.s ⟨#[]⟩,.s ⟨#[]⟩,.n .u64 0,.b false] [(0,5,(.t 3)),(5,5,(.t 4)),(10,5,(.t 5)),(15,5,(.t 6)),(20,5,(.t 7)),(25,5,(.t 9)),(30,5,(.t 11)),(35,5,(.t 13)),(40,5,(.t 15)),(45,5,(.t 17)),(50,5,(.t 19)),(55,5,(.t 21)),(60,5,(.t 23)),(65,5,(.t 25)),(70,5,(.t 27)),(75,5,(.t 29)),(80,5,(.t 31)),(85,5,(.t 33)),(90,5,(.t 35)),(95,5,(.t 37)),(100,5,(.t 39)),(105,5,(.t 41)),(110,5,(.t 43)),(115,5,(.t 45)),(120,5,(.t 47)),(125,5,(.t 49)),(130,5,(.t 51)),(135,5,(.t 53)),(140,5,(.t 55)),(145,5,(.t 57)),(150,5,(.t 59)),(155,5,(.t 61)),(160,5,(.t 63)),(165,5,(.t 65)),(170,5,(.t 67)),(175,5,(.t 68))]),
  (o3 (.st 180 (.t 0) (.t 69)))]
abbrev ZL:AF:=⟨70,(.seq (.reg Ve) (.seq (.reg Vd) (.seq (.reg Vc) (.seq (.reg Vb) .ret)))),[.ld 180 true (.t 0)]⟩
theorem Vf:aI Tryz.prog (af Tryz.prog 97) 97=some ZL:=by kernel_rfl
/-! wire.PutInt-/
abbrev U2:List AO:=
 [o1 4 (.mv (.c .sl0))]
abbrev U1:List AO:=
 [(mt 5 0),
  (o2 6 96 [.t 5]),
  (mt 7 1),
  (o2 8 95 [.t 6,.t 7]),
  (mt 4 8)]
abbrev ZK:AF:=⟨9,(.seq (.reg U2) (.seq (.reg U1) .ret)),[.mv (.t 4)]⟩
theorem U3:aI Tryz.prog (af Tryz.prog 68) 68=some ZK:=by kernel_rfl
/-! slices.Clone[[]byte,byte]-/
abbrev UZ:List AO:=
 [o1 2 (.mv (.c .sl0))]
abbrev UY:List AO:=
 [(mt 3 0),⟨some 4,none,.sn false (.t 3)⟩]
abbrev UX:List AO:=
 [o1 2 (.mv (.c .sl0))]
abbrev UW:List AO:=
 [o1 5 (.bs 5 1 0 [] []),
  (mt 6 0),o1 7 (.app 5 1 1 (.t 5) (.t 6)),
  (mt 2 7)]
abbrev ZJ:AF:=⟨8,(.seq (.reg UZ) (.seq (.seq (.reg UY) (.cond (.t 4) (.seq (.reg UX) .ret) .skip)) (.seq (.reg UW) .ret))),[.mv (.t 2)]⟩
theorem U0:aI Tryz.prog (af Tryz.prog 96) 96=some ZJ:=by kernel_rfl
/-! wire.put-/
abbrev UT:List AO:=
 [o1 4 (.mv (.c .sl0))]
abbrev US:List AO:=
 [(mt 8 1),
  (o2 9 129 [.t 8]),
  (mt 1 9)]
abbrev UR:List AO:=
 [(mt 10 1),
  (o2 11 130 [.t 10]),
  (mt 5 11)]
abbrev UQ:List AO:=
 [(mt 12 5),o1 13 (.bin .sub (ci 8) (.t 12)),o1 14 (.bin .shl (.c (.n .u8 255)) (.t 13)),
  (mt 6 14)]
abbrev UP:List AO:=
 [(mt 15 0),
  (mt 16 6),
  (mt 17 1),
  (mt 18 5),o1 19 (.bin .mul (ci 8) (.t 18)),o1 20 (.bin .shr (.t 17) (.t 19)),o1 21 (.cvi .u8 (.t 20)),o1 22 (.bin .or (.t 16) (.t 21)),o1 23 (.bs 5 1 1 [.n .u8 0] [(0,1,(.t 22))]),o1 24 (.app 5 1 1 (.t 15) (.t 23)),
  (mt 0 24)]
abbrev UO:List AO:=
 [(mt 25 5),o1 26 (.bin .sub (.t 25) (ci 1)),
  (mt 7 26)]
abbrev UN:List AO:=
 [(mt 27 7),o1 28 (.bin .geq (.t 27) (ci 0))]
abbrev UM:List AO:=
 [(mt 31 0),
  (mt 32 1),
  (mt 33 7),o1 34 (.bin .mul (ci 8) (.t 33)),o1 35 (.bin .shr (.t 32) (.t 34)),o1 36 (.cvi .u8 (.t 35)),o1 37 (.bs 5 1 1 [.n .u8 0] [(0,1,(.t 36))]),o1 38 (.app 5 1 1 (.t 31) (.t 37)),
  (mt 0 38)]
abbrev UV:AC:=
 (.reg UM)
abbrev UL:List AO:=
 [(mt 29 7),o1 30 (.bin .sub (.t 29) (ci 1)),
  (mt 7 30)]
abbrev GM:AC:=
 (.seq (.seq (.reg UN) (.cond (.t 28) .skip (.exit 0))) (.seq (.block 1 UV) (.reg UL)))
abbrev GL:AC:=
 (.loop GM)
abbrev GK:List AO:=
 [(mt 39 0),
  (mt 4 39)]
abbrev ZI:AF:=⟨40,(.seq (.reg UT) (.seq (.reg US) (.seq (.reg UR) (.seq (.reg UQ) (.seq (.reg UP) (.seq (.seq (.reg UO) (.block 0 GL)) (.seq (.reg GK) .ret))))))),[.mv (.t 4)]⟩
theorem UU:aI Tryz.prog (af Tryz.prog 95) 95=some ZI:=by kernel_rfl
/-! wire.number-/
abbrev UJ:List AO:=
 [o1 2 (.mv (ci 0))]
abbrev UI:List AO:=
 [(mt 3 0),o1 4 (.bin .lss (.t 3) (ci 0)),
  (mt 5 4),
  (o4 6 5 (.mv (.t 0))),
  (o4 7 5 (.bin .gtr (.t 6) (ci 9007199254740991))),o1 8 (.pick (.t 5) (.c (.b true)) (.t 7))]
abbrev UH:List AO:=
 [o1 2 (.mv (ci 0))]
abbrev UG:List AO:=
 [(mt 9 0),
  (mt 2 9)]
abbrev ZH:AF:=⟨10,(.seq (.reg UJ) (.seq (.seq (.reg UI) (.cond (.t 8) (.seq (.reg UH) .ret) .skip)) (.seq (.reg UG) .ret))),[.mv (.t 2)]⟩
theorem UK:aI Tryz.prog (af Tryz.prog 129) 129=some ZH:=by kernel_rfl
/-! wire.further-/
abbrev UE:List AO:=
 [o1 2 (.mv (ci 0))]
abbrev UD:List AO:=
 [(mt 3 0),o1 4 (.cvi .u64 (.t 3)),
  (o2 5 175 [.t 4]),o1 6 (.bin .sub (.t 5) (ci 1)),⟨some 7,none,.mo (.mx (ci 0) (.t 6))⟩,o1 8 (.bin .quo (.t 7) (ci 7)),
  (mt 2 8)]
abbrev ZG:AF:=⟨9,(.seq (.reg UE) (.seq (.reg UD) .ret)),[.mv (.t 2)]⟩
theorem UF:aI Tryz.prog (af Tryz.prog 130) 130=some ZG:=by kernel_rfl
/-! math/bits.Len-/
abbrev UB:List AO:=
 [o1 2 (.mv (ci 0))]
abbrev UA:List AO:=
 [(mt 3 0),o1 4 (.cvi .u32 (.t 3)),
  (o2 5 200 [.t 4]),
  (mt 2 5)]
abbrev Uz:List AO:=
 [(mt 6 0),
  (o2 7 201 [.t 6]),
  (mt 2 7)]
abbrev ZF:AF:=⟨8,(.seq (.reg UB) (.seq (.cond (.c (.b false)) (.seq (.reg UA) .ret) .skip) (.seq (.reg Uz) .ret))),[.mv (.t 2)]⟩
theorem UC:aI Tryz.prog (af Tryz.prog 175) 175=some ZF:=by kernel_rfl
/-! math/bits.Len32-/
/-! math/bits.Len64-/
abbrev Ux:List AO:=
 [o1 2 (.mv (ci 0))]
abbrev Uw:List AO:=
 [(mt 3 0),o1 4 (.bin .geq (.t 3) (.c (.n .u64 4294967296)))]
abbrev Uv:List AO:=
 [(mt 5 0),o1 6 (.bin .shr (.t 5) (.c (.n .u64 32))),
  (mt 0 6)]
abbrev Uu:List AO:=
 [o1 2 (.mv (ci 32))]
abbrev Ut:List AO:=
 [(mt 7 0),o1 8 (.bin .geq (.t 7) (.c (.n .u64 65536)))]
abbrev Us:List AO:=
 [(mt 9 0),o1 10 (.bin .shr (.t 9) (.c (.n .u64 16))),
  (mt 0 10)]
abbrev Ur:List AO:=
 [(mt 11 2),o1 12 (.bin .add (.t 11) (ci 16)),
  (mt 2 12)]
abbrev Uq:List AO:=
 [(mt 13 0),o1 14 (.bin .geq (.t 13) (.c (.n .u64 256)))]
abbrev Up:List AO:=
 [(mt 15 0),o1 16 (.bin .shr (.t 15) (.c (.n .u64 8))),
  (mt 0 16)]
abbrev Uo:List AO:=
 [(mt 17 2),o1 18 (.bin .add (.t 17) (ci 8)),
  (mt 2 18)]
abbrev xo:List AO:=
 [(mt 19 2),
  (mt 20 0),o1 21 (.cvi .u8 (.t 20)),o1 22 (.sx (.c (.s ⟨#[0,1,2,2,3,3,3,3,4,4,4,4,4,4,4,4,5,5,5,5,5,5,5,5,5,5,5,5,5,5,5,5,6,6,6,6,6,6,6,6,6,6,6,6,6,6,6,6,6,6,6,6,6,6,6,6,6,6,6,6,6,6,6,6,7,7,7,7,7,7,7,7,7,7,7,7,7,7,7,7,7,7,7,7,7,7,7,7,7,7,7,7,7,7,7,7,7,7,7,7,7,7,7,7,7,7,7,7,7,7,7,7,7,7,7,7,7,7,7,7,7,7,7,7,7,7,7,7,8,8,8,8,8,8,8,8,8,8,8,8,8,8,8,8,8,8,8,8,8,8,8,8,8,8,8,8,8,8,8,8,8,8,8,8,8,8,8,8,8,8,8,8,8,8,8,8,8,8,8,8,8,8,8,8,8,8,8,8,8,8,8,8,8,8,8,8,8,8,8,8,8,8,8,8,8,8,8,8,8,8,8,8,8,8,8,8,8,8,8,8,8,8,8,8,8,8,8,8,8,8,8,8,8,8,8,8,8,8,8,8,8,8,8,8,8,8,8,8,8,8,8,8,8,8,8,8]⟩)) (.t 21)),o1 23 (.cvi .i64 (.t 22)),o1 24 (.bin .add (.t 19) (.t 23)),
  (mt 2 24)]
abbrev ZE:AF:=⟨25,(.seq (.reg Ux) (.seq (.seq (.reg Uw) (.cond (.t 4) (.seq (.reg Uv) (.reg Uu)) .skip)) (.seq (.seq (.reg Ut) (.cond (.t 8) (.seq (.reg Us) (.reg Ur)) .skip)) (.seq (.seq (.reg Uq) (.cond (.t 14) (.seq (.reg Up) (.reg Uo)) .skip)) (.seq (.reg xo) .ret))))),[.mv (.t 2)]⟩
theorem Uy:aI Tryz.prog (af Tryz.prog 201) 201=some ZE:=by kernel_rfl
/-! instruction.flag-/
abbrev Um:List AO:=
 [o1 2 (.mv (.c (.n .u32 0)))]
abbrev Ul:List AO:=
 [(mt 3 0)]
abbrev Uk:List AO:=
 [o1 2 (.mv (.c (.n .u32 1)))]
abbrev Uj:List AO:=
 [o1 2 (.mv (.c (.n .u32 0)))]
abbrev ZD:AF:=⟨4,(.seq (.reg Um) (.seq (.seq (.reg Ul) (.cond (.t 3) (.seq (.reg Uk) .ret) .skip)) (.seq (.reg Uj) .ret))),[.mv (.t 2)]⟩
theorem Un:aI Tryz.prog (af Tryz.prog 69) 69=some ZD:=by kernel_rfl
/-! flow.Parse-/
/-! flow.begin-/
abbrev Uh:List AO:=
 [o1 2 (.mv (.c .p0))]
abbrev Ug:List AO:=
 [(mt 3 0),o1 4 (.len (.t 3)),o1 5 (.bin .leq (.t 4) (ci 1024)),
  (o2 6 115 [.t 5,(ci 0),(ci 6)])]
abbrev Uf:List AO:=
 [(mt 7 0),o1 8 (.bs 3 1 1 [.n .i64 0] [(0,1,(.c (.n .i64 (-1))))]),
  (mt 9 0),o1 10 (.len (.t 9)),
  (o2 11 116 [.t 8,.t 10]),o1 12 (.bd [.sl0,.n .i64 0,.sl0] [(0,1,(.t 7)),(2,1,(.t 11))]),o1 13 (.bx 173 0 (.t 12)),
  (mt 2 13)]
abbrev ZC:AF:=⟨14,(.seq (.reg Uh) (.seq (.reg Ug) (.seq (.reg Uf) .ret))),[.mv (.t 2)]⟩
theorem Ui:aI Tryz.prog (af Tryz.prog 83) 83=some ZC:=by kernel_rfl
/-! flow.demand-/
abbrev T9:List AO:=
 [(mt 6 0),o1 7 (.un .not (.t 6))]
abbrev Zq:AF:=⟨12,(.seq (.reg T9) (.cond (.t 7) .die .skip)),[]⟩
theorem Ua:aI Tryz.prog (af Tryz.prog 115) 115=some Zq:=by kernel_rfl
/-! slices.Repeat[[]int,int]-/
abbrev T5:List AO:=
 [o1 4 (.mv (.c .sl0))]
abbrev T4:List AO:=
 [(mt 9 1),o1 10 (.bin .lss (.t 9) (ci 0))]
abbrev T3:List AO:=
 [(mt 13 0),o1 14 (.len (.t 13)),o1 15 (.cvi .u64 (.t 14)),
  (mt 16 1),o1 17 (.cvi .u64 (.t 16)),
  (o2 18 85 [.t 15,.t 17]),
  (mt 12 18),o1 19 (.ext 0 (.t 12)),o1 20 (.ext 1 (.t 12)),
  (mt 5 19),
  (mt 6 20)]
abbrev T2:List AO:=
 [(mt 21 5),o1 22 (.bin .gtr (.t 21) (.c (.n .u64 0))),
  (mt 23 22),
  (o4 24 23 (.mv (.t 6))),
  (o4 25 23 (.bin .gtr (.t 24) (.c (.n .u64 9223372036854775807)))),o1 26 (.pick (.t 23) (.c (.b true)) (.t 25))]
abbrev T1:List AO:=
 [(mt 28 6),o1 29 (.cvi .i64 (.t 28)),o1 30 (.ms 3 1 8 [.n .i64 0] (.t 29) (.t 29)),
  (mt 7 30)]
abbrev TZ:List AO:=
 [(mt 31 7),
  (mt 32 0),⟨some 33,none,.mo (.cp 1 (.t 31) (.t 32))⟩,
  (mt 8 33)]
abbrev TY:List AO:=
 [(mt 34 8),
  (mt 35 7),o1 36 (.len (.t 35)),o1 37 (.bin .lss (.t 34) (.t 36))]
abbrev T7:List (Nat×AO):=
 [(2,(mt 38 8)),
  (2,(mt 39 7)),
  (2,(mt 40 8)),(2,(o1 41 (.sl 1 (.t 39) (some (.t 40)) none))),
  (2,(mt 42 7)),
  (2,(mt 43 8)),(2,(o1 44 (.sl 1 (.t 42) none (some (.t 43))))),(3,⟨some 45,none,.mo (.cp 1 (.t 41) (.t 44))⟩),(2,(o1 46 (.bin .add (.t 38) (.t 45)))),
  (2,(mt 8 46))]
abbrev T8:AC:=
 (.mix T7)
abbrev C0:AC:=
 (.seq (.seq (.reg TY) (.cond (.t 37) .skip (.exit 0))) (.block 1 T8))
abbrev GJ:AC:=
 (.loop C0)
abbrev GI:List AO:=
 [(mt 47 7),
  (mt 4 47)]
abbrev Zp:AF:=⟨48,(.seq (.reg T5) (.seq (.seq (.reg T4) (.cond (.t 10) .die .skip)) (.seq (.reg T3) (.seq (.seq (.reg T2) (.cond (.t 26) .die .skip)) (.seq (.reg T1) (.seq (.reg TZ) (.seq (.block 0 GJ) (.seq (.reg GI) .ret)))))))),[.mv (.t 4)]⟩
theorem T6:aI Tryz.prog (af Tryz.prog 116) 116=some Zp:=by kernel_rfl
/-! math/bits.Mul-/
abbrev TW:List AO:=
 [o1 4 (.mv (.c (.n .u64 0))),o1 5 (.mv (.c (.n .u64 0)))]
abbrev TV:List AO:=
 [(mt 11 0),o1 12 (.cvi .u32 (.t 11)),
  (mt 13 1),o1 14 (.cvi .u32 (.t 13)),
  (o2 15 118 [.t 12,.t 14]),
  (mt 10 15),o1 16 (.ext 0 (.t 10)),o1 17 (.ext 1 (.t 10)),
  (mt 6 16),
  (mt 7 17)]
abbrev TU:List AO:=
 [(mt 18 6),o1 19 (.cvi .u64 (.t 18)),
  (mt 20 7),o1 21 (.cvi .u64 (.t 20)),
  (mt 4 19),
  (mt 5 21)]
abbrev TT:List AO:=
 [(mt 23 0),
  (mt 24 1),
  (o2 25 119 [.t 23,.t 24]),
  (mt 22 25),o1 26 (.ext 0 (.t 22)),o1 27 (.ext 1 (.t 22)),
  (mt 8 26),
  (mt 9 27)]
abbrev TS:List AO:=
 [(mt 28 8),
  (mt 29 9),
  (mt 4 28),
  (mt 5 29)]
abbrev Zo:AF:=⟨30,(.seq (.reg TW) (.seq (.cond (.c (.b false)) (.seq (.reg TV) (.seq (.reg TU) .ret)) .skip) (.seq (.reg TT) (.seq (.reg TS) .ret)))),[.mv (.t 4),.mv (.t 5)]⟩
theorem TX:aI Tryz.prog (af Tryz.prog 85) 85=some Zo:=by kernel_rfl
/-! math/bits.Mul32-/
/-! math/bits.Mul64-/
abbrev TQ:List AO:=
 [o1 4 (.mv (.c (.n .u64 0))),o1 5 (.mv (.c (.n .u64 0)))]
abbrev TP:List AO:=
 [(mt 14 0),o1 15 (.bin .and (.t 14) (.c (.n .u64 4294967295))),
  (mt 6 15)]
abbrev TN:List AO:=
 [(mt 16 0),o1 17 (.bin .shr (.t 16) (.c (.n .u64 32))),
  (mt 7 17)]
abbrev TM:List AO:=
 [(mt 18 1),o1 19 (.bin .and (.t 18) (.c (.n .u64 4294967295))),
  (mt 8 19)]
abbrev TL:List AO:=
 [(mt 20 1),o1 21 (.bin .shr (.t 20) (.c (.n .u64 32))),
  (mt 9 21)]
abbrev TK:List AO:=
 [(mt 22 6),
  (mt 23 8),o1 24 (.bin .mul (.t 22) (.t 23)),
  (mt 10 24)]
abbrev TJ:List AO:=
 [(mt 25 7),
  (mt 26 8),o1 27 (.bin .mul (.t 25) (.t 26)),
  (mt 28 10),o1 29 (.bin .shr (.t 28) (.c (.n .u64 32))),o1 30 (.bin .add (.t 27) (.t 29)),
  (mt 11 30)]
abbrev TI:List AO:=
 [(mt 31 11),o1 32 (.bin .and (.t 31) (.c (.n .u64 4294967295))),
  (mt 12 32)]
abbrev TH:List AO:=
 [(mt 33 11),o1 34 (.bin .shr (.t 33) (.c (.n .u64 32))),
  (mt 13 34)]
abbrev TG:List AO:=
 [(mt 35 12),
  (mt 36 6),
  (mt 37 9),o1 38 (.bin .mul (.t 36) (.t 37)),o1 39 (.bin .add (.t 35) (.t 38)),
  (mt 12 39)]
abbrev GH:List AO:=
 [(mt 40 7),
  (mt 41 9),o1 42 (.bin .mul (.t 40) (.t 41)),
  (mt 43 13),o1 44 (.bin .add (.t 42) (.t 43)),
  (mt 45 12),o1 46 (.bin .shr (.t 45) (.c (.n .u64 32))),o1 47 (.bin .add (.t 44) (.t 46)),
  (mt 4 47)]
abbrev GG:List AO:=
 [(mt 48 0),
  (mt 49 1),o1 50 (.bin .mul (.t 48) (.t 49)),
  (mt 5 50)]
abbrev Zn:AF:=⟨51,(.seq (.reg TQ) (.seq (.reg TP) (.seq (.reg TN) (.seq (.reg TM) (.seq (.reg TL) (.seq (.reg TK) (.seq (.reg TJ) (.seq (.reg TI) (.seq (.reg TH) (.seq (.reg TG) (.seq (.reg GH) (.seq (.reg GG) .ret)))))))))))),[.mv (.t 4),.mv (.t 5)]⟩
theorem TR:aI Tryz.prog (af Tryz.prog 119) 119=some Zn:=by kernel_rfl
/-! flow.reader.whole-/
abbrev TD:List AO:=
 [o1 2 (.mv (.c .sl0))]
abbrev TC:List AO:=
 [(mt 4 0),
  (o2 5 117 [.t 4,(ci 0),(.c .p0)]),
  (mt 3 5)]
abbrev TF:List (Nat×AO):=
 [(2,(mt 6 0)),(2,(o1 7 (.nc (.t 6)))),(2,(o1 8 (.fa 1 (.t 7)))),
  (2,(mt 10 0)),(2,(o1 11 (.nc (.t 10)))),(2,(o1 12 (.fa 0 (.t 11)))),
  (2,(mt 16 0)),(2,(o1 17 (.nc (.t 16)))),(2,(o1 18 (.fa 1 (.t 17)))),(1,(o1 9 (.ld 1 false (.t 8)))),(1,(o1 13 (.ld 1 false (.t 12)))),(2,(o1 14 (.len (.t 13)))),(2,(o1 15 (.bin .eql (.t 9) (.t 14)))),(1,(o1 19 (.ld 1 false (.t 18)))),
  (3,(o2 20 115 [.t 15,.t 19,(ci 15)]))]
abbrev TB:List AO:=
 [(mt 21 3),
  (mt 2 21)]
abbrev Zm:AF:=⟨22,(.seq (.reg TD) (.seq (.reg TC) (.seq (.mix TF) (.seq (.reg TB) .ret)))),[.mv (.t 2)]⟩
theorem TE:aI Tryz.prog (af Tryz.prog 84) 84=some Zm:=by kernel_rfl
/-! flow.reader.list-/
abbrev Ty:List AO:=
 [o1 6 (.mv (.c .sl0))]
abbrev Tx:List AO:=
 [o1 7 (.mv (.c .sl0))]
abbrev TA:List (Nat×AO):=
 [(2,(mt 10 0)),(2,(o1 11 (.nc (.t 10)))),(2,(o1 12 (.fa 1 (.t 11)))),
  (2,(mt 14 0)),(2,(o1 15 (.nc (.t 14)))),(2,(o1 16 (.fa 0 (.t 15)))),(1,(o1 13 (.ld 1 false (.t 12)))),(1,(o1 17 (.ld 1 false (.t 16)))),(2,(o1 18 (.len (.t 17)))),(2,(o1 19 (.bin .lss (.t 13) (.t 18))))]
abbrev Tz:List (Nat×AO):=
 [(2,(mt 20 0)),(2,(o1 21 (.nc (.t 20)))),(2,(o1 22 (.fa 0 (.t 21)))),
  (2,(mt 24 0)),(2,(o1 25 (.nc (.t 24)))),(2,(o1 26 (.fa 1 (.t 25)))),(1,(o1 23 (.ld 1 false (.t 22)))),(1,(o1 27 (.ld 1 false (.t 26)))),(2,(o1 28 (.ia 2 (.t 23) (.t 27)))),(2,(o1 29 (.fa 0 (.t 28)))),(1,(o1 30 (.ld 1 false (.t 29)))),
  (2,(mt 8 30))]
abbrev Tw:List AO:=
 [(mt 32 8),o1 33 (.bin .eql (.t 32) (ci 28)),
  (mt 34 33),
  (o4 35 34 (.mv (.t 8))),
  (o4 36 34 (.bin .eql (.t 35) (ci 31))),o1 37 (.pick (.t 34) (.c (.b true)) (.t 36)),
  (mt 31 37)]
abbrev Tv:List AO:=
 [(mt 38 7),
  (mt 6 38)]
abbrev Tu:List AO:=
 [(mt 40 8),
  (o2 41 169 [.t 40]),
  (mt 39 41)]
abbrev Tt:List AO:=
 [(mt 42 7),
  (mt 43 0),
  (mt 44 1),o1 45 (.bin .add (.t 44) (ci 1)),
  (mt 46 2),
  (o2 47 170 [.t 43,.t 45,.t 46]),o1 48 (.bs 140 5 1 [.n .i64 0,.n .i64 0,.n .i64 0,.sl0,.sl0] [(0,5,(.t 47))]),o1 49 (.app 140 5 72 (.t 42) (.t 48)),
  (mt 7 49)]
abbrev Ts:List AO:=
 [(mt 51 8),o1 52 (.bin .eql (.t 51) (ci 30)),
  (mt 50 52)]
abbrev Tq:List AO:=
 [(mt 53 2),o1 54 (.eq true .p (.t 53) (.c .p0)),
  (mt 55 0),o1 56 (.nc (.t 55)),o1 57 (.fa 1 (.t 56)),o1 58 (.ld 1 false (.t 57)),
  (o2 59 115 [.t 54,.t 58,(ci 15)])]
abbrev Gz:List (Nat×AO):=
 [(2,(mt 60 2)),
  (2,(mt 61 2)),(2,(o1 62 (.nc (.t 61)))),
  (2,(mt 64 0)),(2,(o1 65 (.nc (.t 64)))),(2,(o1 66 (.fa 1 (.t 65)))),(1,(o1 63 (.ld 1 false (.t 62)))),(1,(o1 67 (.ld 1 false (.t 66)))),(0,(o1 68 (.bs 3 1 1 [.n .i64 0] [(0,1,(.t 67))]))),(3,(o1 69 (.app 3 1 8 (.t 63) (.t 68)))),(2,(o1 70 (.nc (.t 60)))),
  (3,(o3 (.st 1 (.t 70) (.t 69))))]
abbrev GD:AC:=
 (.seq (.reg Tw) (.cond (.t 31) (.seq (.reg Tv) .ret) (.seq (.reg Tu) (.cond (.t 39) (.seq (.reg Tt) (.exit 1)) (.seq (.reg Ts) (.cond (.t 50) (.seq (.reg Tq) (.mix Gz)) .skip))))))
abbrev Gx:List AO:=
 [(mt 71 7),o1 72 (.len (.t 71)),
  (mt 9 72)]
abbrev Gw:List AO:=
 [(mt 73 9),o1 74 (.bin .gtr (.t 73) (ci 0)),
  (mt 75 74),
  (o5 76 75 (.mv (.t 7))),
  (o5 77 75 (.mv (.t 9))),
  (o5 78 75 (.bin .sub (.t 77) (ci 1))),
  (o5 79 75 (.ia 5 (.t 76) (.t 78))),
  (o5 80 75 (.fa 0 (.t 79))),
  (o5 81 75 (.ld 1 false (.t 80))),
  (o5 82 75 (.bin .eql (.t 81) (.c (.n .i64 (-1))))),o1 83 (.pick (.t 75) (.t 82) (.c (.b false)))]
abbrev Gv:List AO:=
 [(mt 84 7),
  (mt 85 9),o1 86 (.bin .sub (.t 85) (ci 1)),o1 87 (.ia 5 (.t 84) (.t 86)),o1 88 (.fa 2 (.t 87)),o1 89 (.ld 1 false (.t 88)),o1 90 (.bin .add (.t 89) (ci 1)),o1 91 (.ia 5 (.t 84) (.t 86)),o1 92 (.fa 2 (.t 91)),
  (o3 (.st 1 (.t 92) (.t 90)))]
abbrev Gy:List (Nat×AO):=
 [(2,(mt 93 7)),
  (2,(mt 94 0)),(2,(o1 95 (.nc (.t 94)))),(2,(o1 96 (.fa 1 (.t 95)))),
  (2,(mt 98 0)),(2,(o1 99 (.nc (.t 98)))),(2,(o1 100 (.fa 1 (.t 99)))),(1,(o1 97 (.ld 1 false (.t 96)))),(1,(o1 101 (.ld 1 false (.t 100)))),(2,(o1 102 (.bin .add (.t 101) (ci 1)))),(2,(o1 103 (.bd [.n .i64 0,.n .i64 0,.n .i64 0,.sl0,.sl0] [(0,1,(.c (.n .i64 (-1)))),(1,1,(.t 97)),(2,1,(.t 102))]))),(3,(o1 104 (.bs 140 5 1 [.n .i64 0,.n .i64 0,.n .i64 0,.sl0,.sl0] [(0,5,(.t 103))]))),(3,(o1 105 (.app 140 5 72 (.t 93) (.t 104)))),
  (2,(mt 7 105))]
abbrev Gu:List AO:=
 [(mt 106 0),o1 107 (.nc (.t 106)),o1 108 (.fa 1 (.t 107)),o1 109 (.ld 1 false (.t 108)),o1 110 (.bin .add (.t 109) (ci 1)),o1 111 (.nc (.t 106)),o1 112 (.fa 1 (.t 111)),
  (o3 (.st 1 (.t 112) (.t 110)))]
abbrev GC:AC:=
 (.seq (.mix Tz) (.seq (.block 2 GD) (.seq (.seq (.reg Gx) (.seq (.reg Gw) (.cond (.t 83) (.reg Gv) (.mix Gy)))) (.reg Gu))))
abbrev GF:AC:=
 (.seq (.seq (.mix TA) (.cond (.t 19) .skip (.exit 0))) (.block 1 GC))
abbrev GB:AC:=
 (.loop GF)
abbrev Gs:List AO:=
 [(mt 113 7),
  (mt 6 113)]
abbrev Zl:AF:=⟨114,(.seq (.reg Ty) (.seq (.reg Tx) (.seq (.block 0 GB) (.seq (.reg Gs) .ret)))),[.mv (.t 6)]⟩
theorem CZ:aI Tryz.prog (af Tryz.prog 117) 117=some Zl:=by kernel_rfl
/-! flow.opens-/
abbrev Tn:List AO:=
 [o1 2 (.mv (.c (.b false)))]
abbrev Tm:List AO:=
 [(mt 3 0),o1 4 (.bin .eql (.t 3) (ci 27)),
  (mt 5 4),
  (o4 6 5 (.mv (.t 0))),
  (o4 7 5 (.bin .eql (.t 6) (ci 29))),o1 8 (.pick (.t 5) (.c (.b true)) (.t 7)),
  (mt 2 8)]
abbrev Zk:AF:=⟨9,(.seq (.reg Tn) (.seq (.reg Tm) .ret)),[.mv (.t 2)]⟩
theorem Tp:aI Tryz.prog (af Tryz.prog 169) 169=some Zk:=by kernel_rfl
/-! flow.reader.block-/
abbrev Tj:List AO:=
 [o1 6 (.al 140 [.n .i64 0,.n .i64 0,.n .i64 0,.sl0,.sl0])]
abbrev Ti:List AO:=
 [(mt 12 1),o1 13 (.bin .leq (.t 12) (ci 8)),
  (mt 14 0),o1 15 (.nc (.t 14)),o1 16 (.fa 1 (.t 15)),o1 17 (.ld 1 false (.t 16)),
  (o2 18 115 [.t 13,.t 17,(ci 15)])]
abbrev Tl:List (Nat×AO):=
 [(2,(mt 19 0)),(2,(o1 20 (.nc (.t 19)))),(2,(o1 21 (.fa 0 (.t 20)))),
  (2,(mt 23 0)),(2,(o1 24 (.nc (.t 23)))),(2,(o1 25 (.fa 1 (.t 24)))),
  (2,(mt 30 0)),(2,(o1 31 (.nc (.t 30)))),(2,(o1 32 (.fa 1 (.t 31)))),(1,(o1 22 (.ld 1 false (.t 21)))),(1,(o1 26 (.ld 1 false (.t 25)))),(2,(o1 27 (.ia 2 (.t 22) (.t 26)))),(2,(o1 28 (.fa 0 (.t 27)))),(1,(o1 29 (.ld 1 false (.t 28)))),(1,(o1 33 (.ld 1 false (.t 32)))),(2,(o1 34 (.bd [.n .i64 0,.n .i64 0,.n .i64 0,.sl0,.sl0] [(0,1,(.t 29)),(1,1,(.t 33))]))),(0,(o1 7 (.al 140 [.n .i64 0,.n .i64 0,.n .i64 0,.sl0,.sl0]))),
  (3,(o3 (.st 5 (.t 7) (.t 34))))]
abbrev Th:List AO:=
 [o1 8 (.al 95 [.sl0])]
abbrev Tg:List AO:=
 [o1 35 (.fa 0 (.t 7)),o1 36 (.ld 1 false (.t 35)),o1 37 (.bin .eql (.t 36) (ci 29))]
abbrev Tf:List AO:=
 [(mt 2 8)]
abbrev Te:List AO:=
 [(mt 38 0),o1 39 (.nc (.t 38)),o1 40 (.fa 1 (.t 39)),o1 41 (.ld 1 false (.t 40)),o1 42 (.bin .add (.t 41) (ci 1)),o1 43 (.nc (.t 38)),o1 44 (.fa 1 (.t 43)),
  (o3 (.st 1 (.t 44) (.t 42)))]
abbrev Td:List AO:=
 [(mt 45 0),
  (mt 46 1),
  (mt 47 2),
  (o2 48 117 [.t 45,.t 46,.t 47]),o1 49 (.fa 3 (.t 7)),
  (o3 (.st 1 (.t 49) (.t 48)))]
abbrev Tc:List AO:=
 [o1 50 (.fa 1 (.t 7)),o1 51 (.ld 1 false (.t 50)),
  (mt 9 51)]
abbrev Tk:List (Nat×AO):=
 [(2,(o1 52 (.fa 0 (.t 7)))),(1,(o1 53 (.ld 1 false (.t 52)))),(2,(o1 54 (.bin .eql (.t 53) (ci 27)))),
  (2,(mt 55 54)),
  (2,(o5 56 55 (.mv (.t 0)))),
  (2,(o5 57 55 (.nc (.t 56)))),
  (2,(o5 58 55 (.fa 1 (.t 57)))),
  (2,(o5 60 55 (.mv (.t 0)))),
  (2,(o5 61 55 (.nc (.t 60)))),
  (2,(o5 62 55 (.fa 0 (.t 61)))),
  (1,(o5 59 55 (.ld 1 false (.t 58)))),
  (1,(o5 63 55 (.ld 1 false (.t 62)))),
  (2,(o5 64 55 (.len (.t 63)))),
  (2,(o5 65 55 (.bin .lss (.t 59) (.t 64)))),(2,(o1 66 (.pick (.t 55) (.t 65) (.c (.b false))))),
  (2,(mt 67 66)),
  (2,(o5 68 67 (.mv (.t 0)))),
  (2,(o5 69 67 (.nc (.t 68)))),
  (2,(o5 70 67 (.fa 0 (.t 69)))),
  (2,(o5 72 67 (.mv (.t 0)))),
  (2,(o5 73 67 (.nc (.t 72)))),
  (2,(o5 74 67 (.fa 1 (.t 73)))),
  (1,(o5 71 67 (.ld 1 false (.t 70)))),
  (1,(o5 75 67 (.ld 1 false (.t 74)))),
  (2,(o5 76 67 (.ia 2 (.t 71) (.t 75)))),
  (2,(o5 77 67 (.fa 0 (.t 76)))),
  (1,(o5 78 67 (.ld 1 false (.t 77)))),
  (2,(o5 79 67 (.bin .eql (.t 78) (ci 28)))),(2,(o1 80 (.pick (.t 67) (.t 79) (.c (.b false)))))]
abbrev Gn:List (Nat×AO):=
 [(2,(mt 81 0)),(2,(o1 82 (.nc (.t 81)))),(2,(o1 83 (.fa 2 (.t 82)))),
  (2,(mt 85 9)),
  (2,(mt 86 0)),(2,(o1 87 (.nc (.t 86)))),(2,(o1 88 (.fa 1 (.t 87)))),(1,(o1 84 (.ld 1 false (.t 83)))),(1,(o1 89 (.ld 1 false (.t 88)))),(2,(o1 90 (.ia 1 (.t 84) (.t 85)))),
  (3,(o3 (.st 1 (.t 90) (.t 89))))]
abbrev Gj:List AO:=
 [(mt 91 0),o1 92 (.nc (.t 91)),o1 93 (.fa 1 (.t 92)),o1 94 (.ld 1 false (.t 93)),
  (mt 9 94)]
abbrev Gi:List AO:=
 [(mt 95 0),o1 96 (.nc (.t 95)),o1 97 (.fa 1 (.t 96)),o1 98 (.ld 1 false (.t 97)),o1 99 (.bin .add (.t 98) (ci 1)),o1 100 (.nc (.t 95)),o1 101 (.fa 1 (.t 100)),
  (o3 (.st 1 (.t 101) (.t 99)))]
abbrev Gh:List AO:=
 [(mt 102 0),
  (mt 103 1),
  (mt 104 2),
  (o2 105 117 [.t 102,.t 103,.t 104]),o1 106 (.fa 4 (.t 7)),
  (o3 (.st 1 (.t 106) (.t 105)))]
abbrev Gm:List (Nat×AO):=
 [(2,(mt 107 0)),(2,(o1 108 (.nc (.t 107)))),(2,(o1 109 (.fa 1 (.t 108)))),
  (2,(mt 111 0)),(2,(o1 112 (.nc (.t 111)))),(2,(o1 113 (.fa 0 (.t 112)))),
  (2,(mt 131 0)),(2,(o1 132 (.nc (.t 131)))),(2,(o1 133 (.fa 1 (.t 132)))),(1,(o1 110 (.ld 1 false (.t 109)))),(1,(o1 114 (.ld 1 false (.t 113)))),(2,(o1 115 (.len (.t 114)))),(2,(o1 116 (.bin .lss (.t 110) (.t 115)))),
  (2,(mt 117 116)),
  (2,(o5 118 117 (.mv (.t 0)))),
  (2,(o5 119 117 (.nc (.t 118)))),
  (2,(o5 120 117 (.fa 0 (.t 119)))),
  (2,(o5 122 117 (.mv (.t 0)))),
  (2,(o5 123 117 (.nc (.t 122)))),
  (2,(o5 124 117 (.fa 1 (.t 123)))),
  (1,(o5 121 117 (.ld 1 false (.t 120)))),
  (1,(o5 125 117 (.ld 1 false (.t 124)))),
  (2,(o5 126 117 (.ia 2 (.t 121) (.t 125)))),
  (2,(o5 127 117 (.fa 0 (.t 126)))),
  (1,(o5 128 117 (.ld 1 false (.t 127)))),
  (2,(o5 129 117 (.bin .eql (.t 128) (ci 31)))),(2,(o1 130 (.pick (.t 117) (.t 129) (.c (.b false))))),(1,(o1 134 (.ld 1 false (.t 133)))),
  (3,(o2 135 115 [.t 130,.t 134,(ci 15)]))]
abbrev Gl:List (Nat×AO):=
 [(2,(mt 136 0)),(2,(o1 137 (.nc (.t 136)))),(2,(o1 138 (.fa 2 (.t 137)))),
  (2,(mt 140 9)),
  (2,(mt 141 0)),(2,(o1 142 (.nc (.t 141)))),(2,(o1 143 (.fa 2 (.t 142)))),
  (2,(mt 145 0)),(2,(o1 146 (.nc (.t 145)))),(2,(o1 147 (.fa 1 (.t 146)))),
  (2,(mt 149 0)),(2,(o1 150 (.nc (.t 149)))),(2,(o1 151 (.fa 1 (.t 150)))),(2,(o1 153 (.fa 1 (.t 7)))),(1,(o1 139 (.ld 1 false (.t 138)))),(1,(o1 144 (.ld 1 false (.t 143)))),(1,(o1 148 (.ld 1 false (.t 147)))),(1,(o1 152 (.ld 1 false (.t 151)))),(2,(o1 155 (.ia 1 (.t 139) (.t 140)))),(1,(o1 154 (.ld 1 false (.t 153)))),
  (0,(o3 (.st 1 (.t 155) (.t 152)))),(2,(o1 156 (.ia 1 (.t 144) (.t 148)))),
  (3,(o3 (.st 1 (.t 156) (.t 154))))]
abbrev Gg:List AO:=
 [o1 157 (.ld 1 false (.t 8)),o1 158 (.len (.t 157)),o1 159 (.mv (ci 0))]
abbrev Gf:List AO:=
 [o1 160 (.bin .lss (.t 159) (.t 158))]
abbrev Gd:List AO:=
 [o1 161 (.ia 1 (.t 157) (.t 159)),o1 162 (.ld 1 false (.t 161)),
  (mt 11 162)]
abbrev Gk:List (Nat×AO):=
 [(2,(mt 163 0)),(2,(o1 164 (.nc (.t 163)))),(2,(o1 165 (.fa 2 (.t 164)))),
  (2,(mt 167 11)),
  (2,(mt 168 0)),(2,(o1 169 (.nc (.t 168)))),(2,(o1 170 (.fa 1 (.t 169)))),(1,(o1 166 (.ld 1 false (.t 165)))),(1,(o1 171 (.ld 1 false (.t 170)))),(2,(o1 172 (.ia 1 (.t 166) (.t 167)))),
  (3,(o3 (.st 1 (.t 172) (.t 171))))]
abbrev Gq:AC:=
 (.seq (.reg Gd) (.mix Gk))
abbrev Gc:List AO:=
 [o1 173 (.bin .add (.t 159) (ci 1)),
  (mt 159 173)]
abbrev Gr:AC:=
 (.seq (.reg Gf) (.seq (.cond (.t 160) .skip (.exit 0)) (.seq (.block 1 Gq) (.reg Gc))))
abbrev Gp:AC:=
 (.loop Gr)
abbrev Gb:List AO:=
 [(mt 174 0),o1 175 (.nc (.t 174)),o1 176 (.fa 1 (.t 175)),o1 177 (.ld 1 false (.t 176)),o1 178 (.bin .add (.t 177) (ci 1)),o1 179 (.nc (.t 174)),o1 180 (.fa 1 (.t 179)),
  (o3 (.st 1 (.t 180) (.t 178)))]
abbrev Ga:List AO:=
 [(mt 181 0),o1 182 (.nc (.t 181)),o1 183 (.fa 1 (.t 182)),o1 184 (.ld 1 false (.t 183)),o1 185 (.fa 2 (.t 7)),
  (o3 (.st 1 (.t 185) (.t 184)))]
abbrev F9:List AO:=
 [o1 186 (.ld 5 true (.t 7)),
  (o3 (.st 5 (.t 6) (.t 186)))]
abbrev Zj:AF:=⟨187,(.seq (.reg Tj) (.seq (.reg Ti) (.seq (.mix Tl) (.seq (.reg Th) (.seq (.seq (.reg Tg) (.cond (.t 37) (.reg Tf) .skip)) (.seq (.reg Te) (.seq (.reg Td) (.seq (.reg Tc) (.seq (.seq (.mix Tk) (.cond (.t 80) (.seq (.mix Gn) (.seq (.reg Gj) (.seq (.reg Gi) (.reg Gh)))) .skip)) (.seq (.mix Gm) (.seq (.mix Gl) (.seq (.seq (.reg Gg) (.block 0 Gp)) (.seq (.reg Gb) (.seq (.reg Ga) (.seq (.reg F9) .ret))))))))))))))),[.ld 5 true (.t 6)]⟩
theorem CY:aI Tryz.prog (af Tryz.prog 170) 170=some Zj:=by kernel_rfl
/-! verifier.Verify$1-/
abbrev Tb:List (Nat×AO):=
 [(1,(o1 2 (.ld 3 true (.t 0)))),(1,(o1 3 (.ld 3 true (.t 0)))),
  (0,(o2 4 32 [.t 3])),
  (3,(o2 5 31 [.t 2,.t 4])),
  (3,(o3 (.st 4 (.t 1) (.t 5))))]
abbrev Ta:List AO:=
 [o1 6 (.fa 0 (.t 1)),o1 7 (.ld 1 false (.t 6)),o1 8 (.bin .leq (.t 7) (ci 281474976710656)),
  (o2 9 33 [.t 8,(ci 0),(ci 18)])]
abbrev Zi:AF:=⟨10,(.seq (.mix Tb) (.reg Ta)),[]⟩
theorem CX:aI Tryz.prog (af Tryz.prog 30) 30=some Zi:=by kernel_rfl
/-! verifier.widening-/
abbrev S8:List AO:=
 [o1 1 (.bx 25 0 (.t 0)),o1 2 (.al 83 [.f0,.f0])]
abbrev S7:List AO:=
 [o1 3 (.mf 58 [] [.t 1]),o1 4 (.bd [.f0,.f0] [(0,1,(.c (.f 57 [] []))),(1,1,(.t 3))]),
  (o3 (.st 2 (.t 2) (.t 4)))]
abbrev Zh:AF:=⟨5,(.seq (.reg S8) (.seq (.reg S7) .ret)),[.ld 2 true (.t 2)]⟩
theorem S9:aI Tryz.prog (af Tryz.prog 32) 32=some Zh:=by kernel_rfl
/-! verifier.widening$2-/
abbrev S3:List AO:=
 [o1 11 (.mv (.c .sl0))]
abbrev SZ:List AO:=
 [(mt 15 3),
  (o2 16 59 [.t 15]),
  (mt 12 16)]
abbrev SY:List AO:=
 [(mt 17 12),o1 18 (.len (.t 17)),o1 19 (.mv (ci 0))]
abbrev SX:List AO:=
 [o1 20 (.bin .lss (.t 19) (.t 18))]
abbrev SW:List AO:=
 [(mt 21 19),
  (mt 13 21)]
abbrev SV:List AO:=
 [o1 22 (.fa 2 (.t 5)),o1 23 (.ld 1 false (.t 22)),
  (mt 24 0),
  (mt 25 1),o1 26 (.sl 2 (.t 23) (some (.t 24)) (some (.t 25))),
  (mt 27 13),o1 28 (.cvi .u32 (.t 27)),o1 29 (.bd [.n .i64 0,.n .u32 0] [(0,1,(ci 2)),(1,1,(.t 28))]),
  (o2 30 60 [.t 26,.t 29]),
  (mt 14 30)]
abbrev SU:List AO:=
 [(mt 32 2),o1 33 (.bin .lss (.t 32) (ci 3)),
  (mt 31 33)]
abbrev S6:List (Nat×AO):=
 [(2,(mt 34 12)),
  (2,(mt 35 13)),
  (2,(mt 36 3)),
  (2,(mt 37 13)),(2,(o1 38 (.ia 2 (.t 36) (.t 37)))),
  (2,(mt 40 3)),
  (2,(mt 41 13)),(2,(o1 42 (.ia 2 (.t 40) (.t 41)))),
  (2,(mt 44 4)),
  (2,(mt 45 13)),(2,(o1 46 (.ia 2 (.t 44) (.t 45)))),(1,(o1 39 (.ld 2 true (.t 38)))),(1,(o1 43 (.ld 2 true (.t 42)))),(1,(o1 47 (.ld 2 true (.t 46)))),
  (0,(o2 48 62 [.t 43,.t 47])),
  (3,(o2 49 61 [.t 39,.t 48])),(2,(o1 50 (.ia 2 (.t 34) (.t 35)))),
  (3,(o3 (.st 2 (.t 50) (.t 49))))]
abbrev SS:List AO:=
 [(mt 52 14),
  (mt 51 52)]
abbrev SR:List AO:=
 [(mt 53 12),
  (mt 54 13),
  (o2 55 63 []),o1 56 (.ia 2 (.t 53) (.t 54)),
  (o3 (.st 2 (.t 56) (.t 55)))]
abbrev F7:AC:=
 (.seq (.reg SU) (.cond (.t 31) (.mix S6) (.seq (.reg SS) (.cond (.t 51) (.reg SR) .skip))))
abbrev F6:AC:=
 (.seq (.reg SW) (.seq (.reg SV) (.block 2 F7)))
abbrev F4:List AO:=
 [o1 57 (.bin .add (.t 19) (ci 1)),
  (mt 19 57)]
abbrev F8:AC:=
 (.seq (.reg SX) (.seq (.cond (.t 20) .skip (.exit 0)) (.seq (.block 1 F6) (.reg F4))))
abbrev F5:AC:=
 (.loop F8)
abbrev F3:List AO:=
 [(mt 58 12),
  (mt 11 58)]
abbrev Zd:AF:=⟨59,(.seq (.reg S3) (.seq (.reg SZ) (.seq (.seq (.reg SY) (.block 0 F5)) (.seq (.reg F3) .ret)))),[.mv (.t 11)]⟩
theorem S5:aI Tryz.prog (af Tryz.prog 58) 58=some Zd:=by kernel_rfl
/-! slices.Clone[[]api.Interval,api.Interval]-/
abbrev SP:List AO:=
 [o1 2 (.mv (.c .sl0))]
abbrev SO:List AO:=
 [(mt 3 0),⟨some 4,none,.sn false (.t 3)⟩]
abbrev SN:List AO:=
 [o1 2 (.mv (.c .sl0))]
abbrev SM:List AO:=
 [o1 5 (.bs 127 2 0 [] []),
  (mt 6 0),o1 7 (.app 127 2 16 (.t 5) (.t 6)),
  (mt 2 7)]
abbrev Zc:AF:=⟨8,(.seq (.reg SP) (.seq (.seq (.reg SO) (.cond (.t 4) (.seq (.reg SN) .ret) .skip)) (.seq (.reg SM) .ret))),[.mv (.t 2)]⟩
theorem SQ:aI Tryz.prog (af Tryz.prog 59) 59=some Zc:=by kernel_rfl
/-! slices.Contains[[]api.Instr,api.Instr]-/
abbrev SK:List AO:=
 [o1 3 (.bx 54 0 (.t 1)),o1 4 (.mv (.c (.b false)))]
abbrev SJ:List AO:=
 [(mt 5 0),o1 6 (.ld 2 true (.t 3)),
  (o2 7 91 [.t 5,.t 6]),o1 8 (.bin .geq (.t 7) (ci 0)),
  (mt 4 8)]
abbrev Zb:AF:=⟨9,(.seq (.reg SK) (.seq (.reg SJ) .ret)),[.mv (.t 4)]⟩
theorem SL:aI Tryz.prog (af Tryz.prog 60) 60=some Zb:=by kernel_rfl
/-! slices.Index[[]api.Instr,api.Instr]-/
abbrev SC:List AO:=
 [o1 3 (.bx 54 0 (.t 1)),o1 4 (.mv (ci 0))]
abbrev SB:List AO:=
 [(mt 6 0),o1 7 (.len (.t 6)),o1 8 (.mv (ci 0))]
abbrev SA:List AO:=
 [o1 9 (.bin .lss (.t 8) (.t 7))]
abbrev Sz:List AO:=
 [(mt 10 8),
  (mt 5 10)]
abbrev SE:List (Nat×AO):=
 [(2,(mt 12 0)),
  (2,(mt 13 5)),(2,(o1 14 (.ia 2 (.t 12) (.t 13)))),(1,(o1 11 (.ld 2 true (.t 3)))),(1,(o1 15 (.ld 2 true (.t 14)))),(2,(o1 16 (.eq false (.st [(0,1,.n),(1,1,.n)]) (.t 11) (.t 15))))]
abbrev Sy:List AO:=
 [(mt 17 5),
  (mt 4 17)]
abbrev SG:AC:=
 (.seq (.reg Sz) (.seq (.mix SE) (.cond (.t 16) (.seq (.reg Sy) .ret) .skip)))
abbrev Sw:List AO:=
 [o1 18 (.bin .add (.t 8) (ci 1)),
  (mt 8 18)]
abbrev SI:AC:=
 (.seq (.reg SA) (.seq (.cond (.t 9) .skip (.exit 0)) (.seq (.block 1 SG) (.reg Sw))))
abbrev SF:AC:=
 (.loop SI)
abbrev F2:List AO:=
 [o1 4 (.mv (.c (.n .i64 (-1))))]
abbrev Za:AF:=⟨19,(.seq (.reg SC) (.seq (.seq (.reg SB) (.block 0 SF)) (.seq (.reg F2) .ret))),[.mv (.t 4)]⟩
theorem SD:aI Tryz.prog (af Tryz.prog 91) 91=some Za:=by kernel_rfl
/-! interval.Join-/
abbrev Su:List AO:=
 [o1 2 (.bx 127 0 (.t 0)),o1 3 (.bx 127 0 (.t 1)),o1 4 (.al 127 [.n .i64 0,.n .i64 0])]
abbrev Ss:List AO:=
 [o1 5 (.ld 2 true (.t 2)),o1 6 (.ld 2 true (.t 3)),
  (o2 7 92 [.t 5,.t 6]),o1 8 (.un .not (.t 7))]
abbrev Sr:List AO:=
 [o1 9 (.bd [.n .i64 0,.n .i64 0] []),
  (o3 (.st 2 (.t 4) (.t 9)))]
abbrev Sq:List AO:=
 [o1 10 (.fa 0 (.t 2)),o1 11 (.ld 1 false (.t 10)),o1 12 (.fa 0 (.t 3)),o1 13 (.ld 1 false (.t 12)),⟨some 14,none,.mo (.mi (.t 11) (.t 13))⟩,o1 15 (.fa 1 (.t 2)),o1 16 (.ld 1 false (.t 15)),o1 17 (.fa 1 (.t 3)),o1 18 (.ld 1 false (.t 17)),⟨some 19,none,.mo (.mx (.t 16) (.t 18))⟩,o1 20 (.bd [.n .i64 0,.n .i64 0] [(0,1,(.t 14)),(1,1,(.t 19))]),
  (o3 (.st 2 (.t 4) (.t 20)))]
abbrev Y9:AF:=⟨21,(.seq (.reg Su) (.seq (.seq (.reg Ss) (.cond (.t 8) (.seq (.reg Sr) .ret) .skip)) (.seq (.reg Sq) .ret))),[.ld 2 true (.t 4)]⟩
theorem Sv:aI Tryz.prog (af Tryz.prog 62) 62=some Y9:=by kernel_rfl
/-! interval.ordered-/
abbrev So:List AO:=
 [o1 2 (.bx 127 0 (.t 0)),o1 3 (.bx 127 0 (.t 1)),o1 4 (.mv (.c (.b false)))]
abbrev Sn:List AO:=
 [o1 5 (.ld 2 true (.t 2)),
  (o2 6 128 [.t 5]),o1 7 (.bin .eql (.t 6) (ci 0)),
  (mt 8 7),
  (o5 9 8 (.ld 2 true (.t 3))),⟨some 10,some (8,true),.cl (.c (.f 128 [] [])) [.t 9]⟩,
  (o5 11 8 (.bin .eql (.t 10) (ci 0))),o1 12 (.pick (.t 8) (.t 11) (.c (.b false))),
  (mt 4 12)]
abbrev Y8:AF:=⟨13,(.seq (.reg So) (.seq (.reg Sn) .ret)),[.mv (.t 4)]⟩
theorem Sp:aI Tryz.prog (af Tryz.prog 92) 92=some Y8:=by kernel_rfl
/-! interval.Check-/
abbrev Sj:List AO:=
 [o1 1 (.bx 127 0 (.t 0)),o1 2 (.mv (ci 0))]
abbrev Sh:List AO:=
 [o1 4 (.fa 0 (.t 1)),o1 5 (.ld 1 false (.t 4)),o1 6 (.bin .lss (.t 5) (ci 0)),
  (mt 7 6),
  (o4 8 7 (.fa 0 (.t 1))),
  (o4 9 7 (.ld 1 false (.t 8))),
  (o4 10 7 (.bin .gtr (.t 9) (ci 4294967295))),o1 11 (.pick (.t 7) (.c (.b true)) (.t 10)),
  (mt 12 11),
  (o4 13 12 (.fa 1 (.t 1))),
  (o4 14 12 (.ld 1 false (.t 13))),
  (o4 15 12 (.bin .lss (.t 14) (ci 0))),o1 16 (.pick (.t 12) (.c (.b true)) (.t 15)),
  (mt 17 16),
  (o4 18 17 (.fa 1 (.t 1))),
  (o4 19 17 (.ld 1 false (.t 18))),
  (o4 20 17 (.bin .gtr (.t 19) (ci 4294967295))),o1 21 (.pick (.t 17) (.c (.b true)) (.t 20)),
  (mt 3 21)]
abbrev Sf:List AO:=
 [o1 2 (.mv (ci 2))]
abbrev Se:List AO:=
 [o1 23 (.fa 0 (.t 1)),o1 24 (.ld 1 false (.t 23)),o1 25 (.fa 1 (.t 1)),o1 26 (.ld 1 false (.t 25)),o1 27 (.bin .gtr (.t 24) (.t 26)),
  (mt 22 27)]
abbrev Sd:List AO:=
 [o1 2 (.mv (ci 29))]
abbrev Sl:AC:=
 (.seq (.reg Sh) (.cond (.t 3) (.seq (.reg Sf) .ret) (.seq (.reg Se) (.cond (.t 22) (.seq (.reg Sd) .ret) .skip))))
abbrev Sc:List AO:=
 [o1 2 (.mv (ci 0))]
abbrev Y7:AF:=⟨28,(.seq (.reg Sj) (.seq (.block 0 Sl) (.seq (.reg Sc) .ret))),[.mv (.t 2)]⟩
theorem Sk:aI Tryz.prog (af Tryz.prog 128) 128=some Y7:=by kernel_rfl
/-! interval.Widen-/
abbrev Sa:List AO:=
 [o1 2 (.bx 127 0 (.t 0)),o1 3 (.bx 127 0 (.t 1)),o1 4 (.al 127 [.n .i64 0,.n .i64 0])]
abbrev R9:List AO:=
 [o1 7 (.ld 2 true (.t 2)),o1 8 (.ld 2 true (.t 3)),
  (o2 9 92 [.t 7,.t 8]),o1 10 (.un .not (.t 9))]
abbrev R8:List AO:=
 [o1 11 (.bd [.n .i64 0,.n .i64 0] []),
  (o3 (.st 2 (.t 4) (.t 11)))]
abbrev R7:List AO:=
 [o1 12 (.fa 0 (.t 3)),o1 13 (.ld 1 false (.t 12)),o1 14 (.fa 0 (.t 2)),o1 15 (.ld 1 false (.t 14)),o1 16 (.bin .lss (.t 13) (.t 15))]
abbrev R6:List AO:=
 [o1 17 (.fa 0 (.t 2)),
  (o3 (.st 1 (.t 17) (ci 0)))]
abbrev R5:List AO:=
 [o1 18 (.fa 1 (.t 3)),o1 19 (.ld 1 false (.t 18)),o1 20 (.fa 1 (.t 2)),o1 21 (.ld 1 false (.t 20)),o1 22 (.bin .gtr (.t 19) (.t 21))]
abbrev R4:List AO:=
 [o1 23 (.bd [.n .i64 0,.n .i64 0,.n .i64 0] [(0,1,(ci 255)),(1,1,(ci 65535)),(2,1,(ci 4294967295))]),o1 24 (.mv (ci 0))]
abbrev R3:List AO:=
 [o1 25 (.bin .lss (.t 24) (ci 3))]
abbrev R1:List AO:=
 [o1 26 (.ix 3 1 false (.t 23) (.t 24)),
  (mt 6 26)]
abbrev R0:List AO:=
 [(mt 27 6),o1 28 (.fa 1 (.t 3)),o1 29 (.ld 1 false (.t 28)),o1 30 (.bin .geq (.t 27) (.t 29))]
abbrev FY:List AO:=
 [(mt 31 6),o1 32 (.fa 1 (.t 2)),
  (o3 (.st 1 (.t 32) (.t 31)))]
abbrev F0:AC:=
 (.seq (.reg R1) (.seq (.reg R0) (.cond (.t 30) (.seq (.reg FY) (.exit 0)) .skip)))
abbrev FX:List AO:=
 [o1 33 (.bin .add (.t 24) (ci 1)),
  (mt 24 33)]
abbrev F1:AC:=
 (.seq (.reg R3) (.seq (.cond (.t 25) .skip (.exit 0)) (.seq (.block 1 F0) (.reg FX))))
abbrev FZ:AC:=
 (.loop F1)
abbrev FW:List AO:=
 [o1 34 (.ld 2 true (.t 2)),
  (o3 (.st 2 (.t 4) (.t 34)))]
abbrev Y6:AF:=⟨35,(.seq (.reg Sa) (.seq (.seq (.reg R9) (.cond (.t 10) (.seq (.reg R8) .ret) .skip)) (.seq (.seq (.reg R7) (.cond (.t 16) (.reg R6) .skip)) (.seq (.seq (.reg R5) (.cond (.t 22) (.seq (.reg R4) (.block 0 FZ)) .skip)) (.seq (.reg FW) .ret))))),[.ld 2 true (.t 4)]⟩
theorem Sb:aI Tryz.prog (af Tryz.prog 61) 61=some Y6:=by kernel_rfl
/-! interval.Full-/
abbrev RY:List AO:=
 [o1 0 (.al 127 [.n .i64 0,.n .i64 0])]
abbrev RX:List AO:=
 [o1 1 (.bd [.n .i64 0,.n .i64 0] [(1,1,(ci 4294967295))]),
  (o3 (.st 2 (.t 0) (.t 1)))]
abbrev Y5:AF:=⟨2,(.seq (.reg RY) (.seq (.reg RX) .ret)),[.ld 2 true (.t 0)]⟩
theorem RZ:aI Tryz.prog (af Tryz.prog 63) 63=some Y5:=by kernel_rfl
/-! verifier.analyse-/
abbrev RQ:List AO:=
 [o1 2 (.bx 25 0 (.t 0)),o1 3 (.bx 83 0 (.t 1)),o1 4 (.al 38 [.n .i64 0,.n .i64 0,.n .i64 0,.sl0])]
abbrev RP:List AO:=
 [o1 14 (.fa 2 (.t 2)),o1 15 (.ld 1 false (.t 14)),
  (o2 16 52 [.t 15]),
  (mt 13 16),o1 17 (.ext 0 (.t 13)),o1 18 (.ext 1 (.t 13)),
  (mt 5 17),
  (mt 6 18)]
abbrev RO:List AO:=
 [(mt 19 6),o1 20 (.bin .eql (.t 19) (ci 0)),
  (mt 21 6),
  (o2 22 33 [.t 20,(ci 0),.t 21])]
abbrev RN:List AO:=
 [o1 23 (.ld 3 true (.t 2)),
  (mt 24 5),o1 25 (.ld 2 true (.t 3)),⟨some 26,none,.mo (.mm)⟩,o1 27 (.bd [.sl0,.n .i64 0,.sl0,.sl0,.f0,.f0,.sl0,.sl0,.n .i64 0,.sl0,.cv (.map none)] [(0,3,(.t 23)),(3,1,(.t 24)),(4,2,(.t 25)),(10,1,(.t 26))]),o1 28 (.bx 124 0 (.t 27)),
  (mt 7 28)]
abbrev RV:List (Nat×AO):=
 [(2,(mt 29 7)),(2,(o1 32 (.fa 1 (.t 2)))),(1,(o1 33 (.ld 1 false (.t 32)))),
  (0,(o2 30 54 [(.c (.n .u32 0))])),(0,(o1 31 (.bs 127 2 1 [.n .i64 0,.n .i64 0] [(0,2,(.t 30))]))),
  (3,(o2 34 53 [.t 31,.t 33])),(2,(o1 35 (.nc (.t 29)))),(2,(o1 36 (.fa 6 (.t 35)))),
  (3,(o3 (.st 1 (.t 36) (.t 34))))]
abbrev RM:List AO:=
 [(mt 37 7),o1 38 (.fa 2 (.t 2)),o1 39 (.ld 1 false (.t 38)),o1 40 (.len (.t 39)),
  (o2 41 55 [.t 37,(ci 0),.t 40,(ci 0),(ci 0)]),o1 8 (.al 130 [.n .i64 0,.n .i64 0]),
  (o3 (.st 2 (.t 8) (.t 41)))]
abbrev RL:List AO:=
 [(mt 42 7),o1 43 (.fa 2 (.t 2)),o1 44 (.ld 1 false (.t 43)),o1 45 (.len (.t 44)),
  (o2 46 56 [.t 42,.t 45,(ci 0)])]
abbrev RU:List (Nat×AO):=
 [(2,(o1 47 (.fa 0 (.t 8)))),(2,(o1 49 (.fa 1 (.t 8)))),
  (2,(mt 51 7)),(2,(o1 52 (.nc (.t 51)))),(2,(o1 53 (.fa 8 (.t 52)))),(1,(o1 48 (.ld 1 false (.t 47)))),(1,(o1 50 (.ld 1 false (.t 49)))),(1,(o1 54 (.ld 1 false (.t 53)))),(2,(o1 55 (.bd [.n .i64 0,.n .i64 0,.n .i64 0,.sl0] [(0,1,(.t 48)),(1,1,(.t 50)),(2,1,(.t 54))]))),(0,(o1 9 (.al 38 [.n .i64 0,.n .i64 0,.n .i64 0,.sl0]))),
  (3,(o3 (.st 4 (.t 9) (.t 55))))]
abbrev RK:List AO:=
 [o1 56 (.fa 2 (.t 2)),o1 57 (.ld 1 false (.t 56)),o1 58 (.len (.t 57)),o1 59 (.mv (ci 0))]
abbrev RJ:List AO:=
 [o1 60 (.bin .lss (.t 59) (.t 58))]
abbrev FS:List AO:=
 [(mt 61 59),
  (mt 10 61)]
abbrev FR:List AO:=
 [(mt 63 7),o1 64 (.nc (.t 63)),o1 65 (.fa 10 (.t 64)),o1 66 (.ld 1 false (.t 65)),
  (mt 67 10),⟨some 68,none,.mo (.lz (.agg [.n .i64 0,.n .i64 0,.sl0]) true (.t 66) (.t 67))⟩,
  (mt 62 68),o1 69 (.ext 0 (.t 62)),o1 70 (.ext 1 (.t 62)),o1 11 (.al 48 [.n .i64 0,.n .i64 0,.sl0]),
  (o3 (.st 3 (.t 11) (.t 69))),
  (mt 12 70)]
abbrev FQ:List AO:=
 [(mt 71 12)]
abbrev FP:List AO:=
 [o1 72 (.fa 3 (.t 9)),o1 73 (.ld 1 false (.t 72)),o1 74 (.ld 3 true (.t 11)),o1 75 (.bs 48 3 1 [.n .i64 0,.n .i64 0,.sl0] [(0,3,(.t 74))]),o1 76 (.app 48 3 40 (.t 73) (.t 75)),o1 77 (.fa 3 (.t 9)),
  (o3 (.st 1 (.t 77) (.t 76)))]
abbrev FU:AC:=
 (.seq (.reg FS) (.seq (.reg FR) (.seq (.reg FQ) (.cond (.t 71) (.reg FP) .skip))))
abbrev FO:List AO:=
 [o1 78 (.bin .add (.t 59) (ci 1)),
  (mt 59 78)]
abbrev FV:AC:=
 (.seq (.reg RJ) (.seq (.cond (.t 60) .skip (.exit 0)) (.seq (.block 1 FU) (.reg FO))))
abbrev FT:AC:=
 (.loop FV)
abbrev FN:List AO:=
 [o1 79 (.ld 4 true (.t 9)),
  (o3 (.st 4 (.t 4) (.t 79)))]
abbrev Y4:AF:=⟨80,(.seq (.reg RQ) (.seq (.reg RP) (.seq (.reg RO) (.seq (.reg RN) (.seq (.mix RV) (.seq (.reg RM) (.seq (.reg RL) (.seq (.mix RU) (.seq (.seq (.reg RK) (.block 0 FT)) (.seq (.reg FN) .ret)))))))))),[.ld 4 true (.t 4)]⟩
theorem RR:aI Tryz.prog (af Tryz.prog 31) 31=some Y4:=by kernel_rfl
/-! flow.Partners-/
/-! verifier.demand-/
abbrev RH:List AO:=
 [(mt 6 0),o1 7 (.un .not (.t 6))]
abbrev RG:List AO:=
 [(mt 8 1),
  (mt 9 2),
  (o2 10 64 [.t 8,.t 9])]
abbrev YS:AF:=⟨11,(.seq (.reg RH) (.cond (.t 7) (.reg RG) .skip)),[]⟩
theorem CW:aI Tryz.prog (af Tryz.prog 33) 33=some YS:=by kernel_rfl
/-! verifier.fail-/
/-! interval.Exact-/
abbrev RE:List AO:=
 [o1 2 (.al 127 [.n .i64 0,.n .i64 0])]
abbrev RD:List AO:=
 [(mt 3 0),o1 4 (.cvi .i64 (.t 3)),
  (mt 5 0),o1 6 (.cvi .i64 (.t 5)),o1 7 (.bd [.n .i64 0,.n .i64 0] [(0,1,(.t 4)),(1,1,(.t 6))]),
  (o3 (.st 2 (.t 2) (.t 7)))]
abbrev YR:AF:=⟨8,(.seq (.reg RE) (.seq (.reg RD) .ret)),[.ld 2 true (.t 2)]⟩
theorem RF:aI Tryz.prog (af Tryz.prog 54) 54=some YR:=by kernel_rfl
/-! slices.Repeat[[]api.Interval,api.Interval]-/
abbrev Rz:List AO:=
 [o1 4 (.mv (.c .sl0))]
abbrev Ry:List AO:=
 [(mt 9 1),o1 10 (.bin .lss (.t 9) (ci 0))]
abbrev Rx:List AO:=
 [(mt 13 0),o1 14 (.len (.t 13)),o1 15 (.cvi .u64 (.t 14)),
  (mt 16 1),o1 17 (.cvi .u64 (.t 16)),
  (o2 18 85 [.t 15,.t 17]),
  (mt 12 18),o1 19 (.ext 0 (.t 12)),o1 20 (.ext 1 (.t 12)),
  (mt 5 19),
  (mt 6 20)]
abbrev Rv:List AO:=
 [(mt 21 5),o1 22 (.bin .gtr (.t 21) (.c (.n .u64 0))),
  (mt 23 22),
  (o4 24 23 (.mv (.t 6))),
  (o4 25 23 (.bin .gtr (.t 24) (.c (.n .u64 9223372036854775807)))),o1 26 (.pick (.t 23) (.c (.b true)) (.t 25))]
abbrev Ru:List AO:=
 [(mt 28 6),o1 29 (.cvi .i64 (.t 28)),o1 30 (.ms 127 2 16 [.n .i64 0,.n .i64 0] (.t 29) (.t 29)),
  (mt 7 30)]
abbrev Rt:List AO:=
 [(mt 31 7),
  (mt 32 0),⟨some 33,none,.mo (.cp 2 (.t 31) (.t 32))⟩,
  (mt 8 33)]
abbrev Rs:List AO:=
 [(mt 34 8),
  (mt 35 7),o1 36 (.len (.t 35)),o1 37 (.bin .lss (.t 34) (.t 36))]
abbrev RB:List (Nat×AO):=
 [(2,(mt 38 8)),
  (2,(mt 39 7)),
  (2,(mt 40 8)),(2,(o1 41 (.sl 2 (.t 39) (some (.t 40)) none))),
  (2,(mt 42 7)),
  (2,(mt 43 8)),(2,(o1 44 (.sl 2 (.t 42) none (some (.t 43))))),(3,⟨some 45,none,.mo (.cp 2 (.t 41) (.t 44))⟩),(2,(o1 46 (.bin .add (.t 38) (.t 45)))),
  (2,(mt 8 46))]
abbrev RC:AC:=
 (.mix RB)
abbrev CV:AC:=
 (.seq (.seq (.reg Rs) (.cond (.t 37) .skip (.exit 0))) (.block 1 RC))
abbrev FM:AC:=
 (.loop CV)
abbrev FL:List AO:=
 [(mt 47 7),
  (mt 4 47)]
abbrev YQ:AF:=⟨48,(.seq (.reg Rz) (.seq (.seq (.reg Ry) (.cond (.t 10) .die .skip)) (.seq (.reg Rx) (.seq (.seq (.reg Rv) (.cond (.t 26) .die .skip)) (.seq (.reg Ru) (.seq (.reg Rt) (.seq (.block 0 FM) (.seq (.reg FL) .ret)))))))),[.mv (.t 4)]⟩
theorem RA:aI Tryz.prog (af Tryz.prog 53) 53=some YQ:=by kernel_rfl
/-! verifier.walker.code-/
abbrev Rq:List AO:=
 [o1 10 (.al 130 [.n .i64 0,.n .i64 0])]
abbrev Rp:List AO:=
 [o1 11 (.al 130 [.n .i64 0,.n .i64 0])]
abbrev Ro:List AO:=
 [(mt 14 1),
  (mt 12 14)]
abbrev Rn:List AO:=
 [(mt 15 12),
  (mt 16 2),o1 17 (.bin .lss (.t 15) (.t 16))]
abbrev Rm:List AO:=
 [o1 13 (.al 130 [.n .i64 0,.n .i64 0])]
abbrev Rl:List AO:=
 [(mt 20 0),o1 21 (.nc (.t 20)),o1 22 (.fa 0 (.t 21)),o1 23 (.fa 2 (.t 22)),o1 24 (.ld 1 false (.t 23)),
  (mt 25 12),o1 26 (.ia 2 (.t 24) (.t 25)),o1 27 (.fa 0 (.t 26)),o1 28 (.ld 1 false (.t 27))]
abbrev Rk:List AO:=
 [o1 34 (.bin .eql (.t 28) (ci 27)),
  (mt 33 34)]
abbrev Rj:List AO:=
 [(mt 36 0),
  (mt 37 12),
  (mt 38 3),
  (mt 39 4),
  (o2 40 86 [.t 36,.t 37,.t 38,.t 39]),
  (mt 35 40),o1 41 (.ext 0 (.t 35)),o1 42 (.ext 1 (.t 35)),
  (o3 (.st 2 (.t 13) (.t 41))),
  (mt 12 42)]
abbrev Ri:List AO:=
 [o1 44 (.bin .eql (.t 28) (ci 29)),
  (mt 43 44)]
abbrev Rh:List AO:=
 [(mt 46 0),
  (mt 47 12),
  (mt 48 3),
  (o2 49 87 [.t 46,.t 47,.t 48]),
  (mt 45 49),o1 50 (.ext 0 (.t 45)),o1 51 (.ext 1 (.t 45)),
  (o3 (.st 2 (.t 13) (.t 50))),
  (mt 12 51)]
abbrev FF:List AO:=
 [o1 53 (.bin .eql (.t 28) (ci 30)),
  (mt 52 53)]
abbrev FE:List AO:=
 [(mt 54 0),
  (mt 55 12),
  (mt 56 3),
  (o2 57 88 [.t 54,.t 55,.t 56,(.c (.s ⟨#[116]⟩))])]
abbrev FD:List AO:=
 [(mt 58 0),
  (mt 59 12),
  (mt 60 4),
  (o2 61 56 [.t 58,.t 59,.t 60])]
abbrev FG:List (Nat×AO):=
 [(2,(mt 62 0)),
  (2,(mt 63 0)),(2,(o1 64 (.nc (.t 63)))),(2,(o1 65 (.fa 9 (.t 64)))),
  (2,(mt 67 0)),(2,(o1 68 (.nc (.t 67)))),(2,(o1 69 (.fa 6 (.t 68)))),(1,(o1 66 (.ld 1 false (.t 65)))),(1,(o1 70 (.ld 1 false (.t 69)))),(0,(o1 71 (.bs 46 1 1 [.sl0] [(0,1,(.t 70))]))),(3,(o1 72 (.app 46 1 24 (.t 66) (.t 71)))),(2,(o1 73 (.nc (.t 62)))),(2,(o1 74 (.fa 9 (.t 73)))),
  (3,(o3 (.st 1 (.t 74) (.t 72))))]
abbrev FC:List AO:=
 [o1 75 (.bd [.n .i64 0,.n .i64 0] [(0,1,(ci 1))]),
  (o3 (.st 2 (.t 13) (.t 75)))]
abbrev FB:List AO:=
 [(mt 29 0),
  (mt 30 12),
  (mt 31 3),
  (o2 32 89 [.t 29,.t 30,.t 31]),
  (o3 (.st 2 (.t 13) (.t 32)))]
abbrev FJ:AC:=
 (.seq (.reg Rk) (.cond (.t 33) (.reg Rj) (.seq (.reg Ri) (.cond (.t 43) (.reg Rh) (.seq (.reg FF) (.cond (.t 52) (.seq (.reg FE) (.seq (.reg FD) (.seq (.mix FG) (.reg FC)))) (.reg FB)))))))
abbrev FA:List AO:=
 [o1 76 (.ld 2 true (.t 11)),o1 77 (.ld 2 true (.t 13)),
  (o2 78 90 [.t 76,.t 77]),
  (o3 (.st 2 (.t 11) (.t 78)))]
abbrev FI:AC:=
 (.seq (.reg Rm) (.seq (.seq (.reg Rl) (.block 2 FJ)) (.reg FA)))
abbrev Fy:List AO:=
 [(mt 18 12),o1 19 (.bin .add (.t 18) (ci 1)),
  (mt 12 19)]
abbrev FK:AC:=
 (.seq (.seq (.reg Rn) (.cond (.t 17) .skip (.exit 0))) (.seq (.block 1 FI) (.reg Fy)))
abbrev FH:AC:=
 (.loop FK)
abbrev Fx:List AO:=
 [o1 79 (.ld 2 true (.t 11)),
  (o3 (.st 2 (.t 10) (.t 79)))]
abbrev YP:AF:=⟨80,(.seq (.reg Rq) (.seq (.reg Rp) (.seq (.seq (.reg Ro) (.block 0 FH)) (.seq (.reg Fx) .ret)))),[.ld 2 true (.t 10)]⟩
theorem Rr:aI Tryz.prog (af Tryz.prog 55) 55=some YP:=by kernel_rfl
/-! verifier.walker.choice-/
abbrev Re:List AO:=
 [o1 8 (.al 130 [.n .i64 0,.n .i64 0]),o1 9 (.mv (ci 0))]
abbrev Rd:List AO:=
 [(mt 18 0),
  (mt 19 1),
  (mt 20 2),
  (o2 21 88 [.t 18,.t 19,.t 20,(.c (.s ⟨#[116]⟩))])]
abbrev Rc:List AO:=
 [(mt 22 0),o1 23 (.nc (.t 22)),o1 24 (.fa 3 (.t 23)),o1 25 (.ld 1 false (.t 24)),
  (mt 26 1),o1 27 (.ia 1 (.t 25) (.t 26)),o1 28 (.ld 1 false (.t 27)),
  (mt 10 28)]
abbrev Rb:List AO:=
 [(mt 29 10),
  (mt 11 29)]
abbrev Rg:List (Nat×AO):=
 [(2,(mt 30 0)),(2,(o1 31 (.nc (.t 30)))),(2,(o1 32 (.fa 6 (.t 31)))),
  (2,(mt 34 0)),(2,(o1 35 (.nc (.t 34)))),(2,(o1 36 (.fa 7 (.t 35)))),(1,(o1 33 (.ld 1 false (.t 32)))),
  (2,(mt 12 33)),(1,(o1 37 (.ld 1 false (.t 36)))),(2,(o1 38 (.len (.t 37)))),
  (2,(mt 13 38))]
abbrev Ra:List AO:=
 [(mt 39 0),
  (mt 40 1),o1 41 (.bin .add (.t 40) (ci 1)),
  (mt 42 10),
  (mt 43 13),
  (mt 44 3),
  (o2 45 55 [.t 39,.t 41,.t 42,.t 43,.t 44]),o1 46 (.bd [.n .i64 0,.n .i64 0] []),o1 14 (.al 130 [.n .i64 0,.n .i64 0]),o1 15 (.al 130 [.n .i64 0,.n .i64 0]),
  (o3 (.st 2 (.t 14) (.t 45))),
  (o3 (.st 2 (.t 15) (.t 46)))]
abbrev Q9:List AO:=
 [(mt 47 0),
  (mt 48 10),
  (mt 49 13),
  (o2 50 56 [.t 47,.t 48,.t 49])]
abbrev Q8:List AO:=
 [(mt 51 0),o1 52 (.nc (.t 51)),o1 53 (.fa 6 (.t 52)),o1 54 (.ld 1 false (.t 53)),
  (mt 16 54)]
abbrev Q7:List AO:=
 [(mt 55 0),
  (mt 56 12),o1 57 (.nc (.t 55)),o1 58 (.fa 6 (.t 57)),
  (o3 (.st 1 (.t 58) (.t 56)))]
abbrev Q6:List AO:=
 [(mt 59 0),o1 60 (.nc (.t 59)),o1 61 (.fa 0 (.t 60)),o1 62 (.fa 2 (.t 61)),o1 63 (.ld 1 false (.t 62)),
  (mt 64 10),o1 65 (.ia 2 (.t 63) (.t 64)),o1 66 (.fa 0 (.t 65)),o1 67 (.ld 1 false (.t 66)),o1 68 (.bin .eql (.t 67) (ci 28))]
abbrev Fw:List AO:=
 [(mt 69 0),o1 70 (.nc (.t 69)),o1 71 (.fa 3 (.t 70)),o1 72 (.ld 1 false (.t 71)),
  (mt 73 10),o1 74 (.ia 1 (.t 72) (.t 73)),o1 75 (.ld 1 false (.t 74)),
  (mt 11 75)]
abbrev Fv:List AO:=
 [(mt 76 0),
  (mt 77 10),o1 78 (.bin .add (.t 77) (ci 1)),
  (mt 79 11),
  (mt 80 13),
  (mt 81 3),
  (o2 82 55 [.t 76,.t 78,.t 79,.t 80,.t 81]),
  (o3 (.st 2 (.t 15) (.t 82)))]
abbrev Fu:List AO:=
 [(mt 83 0),
  (mt 84 11),
  (mt 85 13),
  (o2 86 56 [.t 83,.t 84,.t 85])]
abbrev Ft:List AO:=
 [(mt 87 0),
  (mt 88 16),
  (mt 89 0),o1 90 (.nc (.t 89)),o1 91 (.fa 6 (.t 90)),o1 92 (.ld 1 false (.t 91)),
  (o2 93 120 [.t 88,.t 92]),o1 94 (.nc (.t 87)),o1 95 (.fa 6 (.t 94)),
  (o3 (.st 1 (.t 95) (.t 93)))]
abbrev Fs:List AO:=
 [o1 96 (.fa 0 (.t 14)),o1 97 (.ld 1 false (.t 96)),o1 98 (.fa 0 (.t 15)),o1 99 (.ld 1 false (.t 98)),⟨some 100,none,.mo (.mx (.t 97) (.t 99))⟩,o1 101 (.fa 1 (.t 14)),o1 102 (.ld 1 false (.t 101)),o1 103 (.fa 1 (.t 15)),o1 104 (.ld 1 false (.t 103)),⟨some 105,none,.mo (.mx (.t 102) (.t 104))⟩,o1 106 (.bd [.n .i64 0,.n .i64 0] [(0,1,(.t 100)),(1,1,(.t 105))]),o1 17 (.al 130 [.n .i64 0,.n .i64 0]),
  (o3 (.st 2 (.t 17) (.t 106)))]
abbrev Fq:List AO:=
 [o1 107 (.ld 2 true (.t 17)),o1 108 (.bd [.n .i64 0,.n .i64 0] [(0,1,(ci 1))]),
  (o2 109 90 [.t 107,.t 108]),
  (mt 110 11),
  (o3 (.st 2 (.t 8) (.t 109))),
  (mt 9 110)]
abbrev YO:AF:=⟨111,(.seq (.reg Re) (.seq (.reg Rd) (.seq (.reg Rc) (.seq (.reg Rb) (.seq (.mix Rg) (.seq (.reg Ra) (.seq (.reg Q9) (.seq (.reg Q8) (.seq (.reg Q7) (.seq (.seq (.reg Q6) (.cond (.t 68) (.seq (.reg Fw) (.seq (.reg Fv) (.reg Fu))) .skip)) (.seq (.reg Ft) (.seq (.reg Fs) (.seq (.reg Fq) .ret))))))))))))),[.ld 2 true (.t 8),.mv (.t 9)]⟩
theorem Rf:aI Tryz.prog (af Tryz.prog 86) 86=some YO:=by kernel_rfl
/-! verifier.walker.pop-/
abbrev Q2:List AO:=
 [o1 8 (.mv (.c .sl0))]
abbrev Q0:List AO:=
 [(mt 13 0),o1 14 (.nc (.t 13)),o1 15 (.fa 7 (.t 14)),o1 16 (.ld 1 false (.t 15)),o1 17 (.len (.t 16)),
  (mt 18 3),o1 19 (.lns (.t 18)),o1 20 (.bin .sub (.t 17) (.t 19)),
  (mt 9 20)]
abbrev QZ:List AO:=
 [(mt 21 9),
  (mt 22 2),o1 23 (.bin .geq (.t 21) (.t 22)),
  (mt 24 1),
  (o2 25 33 [.t 23,.t 24,(ci 14)])]
abbrev QY:List AO:=
 [(mt 26 0),o1 27 (.nc (.t 26)),o1 28 (.fa 7 (.t 27)),o1 29 (.ld 1 false (.t 28)),
  (mt 30 9),o1 31 (.sl 3 (.t 29) (some (.t 30)) none),
  (o2 32 123 [.t 31]),
  (mt 10 32)]
abbrev QX:List AO:=
 [(mt 33 10),o1 34 (.len (.t 33)),o1 35 (.mv (ci 0))]
abbrev QW:List AO:=
 [o1 36 (.bin .lss (.t 35) (.t 34))]
abbrev QV:List AO:=
 [(mt 37 35),o1 38 (.ia 3 (.t 33) (.t 35)),o1 39 (.ld 3 true (.t 38)),o1 12 (.al 221 [.b false,.n .i64 0,.n .i64 0]),
  (mt 11 37),
  (o3 (.st 3 (.t 12) (.t 39)))]
abbrev Q4:List (Nat×AO):=
 [(2,(mt 40 3)),
  (2,(mt 41 11)),(2,(o1 42 (.sx (.t 40) (.t 41)))),(2,(o1 43 (.bin .neq (.t 42) (.c (.n .u8 110))))),
  (2,(mt 44 43)),
  (2,(o5 45 44 (.mv (.t 3)))),
  (2,(o5 46 44 (.mv (.t 11)))),
  (2,(o5 47 44 (.sx (.t 45) (.t 46)))),
  (2,(o5 48 44 (.bin .neq (.t 47) (.c (.n .u8 116))))),(2,(o1 49 (.pick (.t 44) (.t 48) (.c (.b false))))),
  (2,(mt 50 49)),
  (2,(o4 51 50 (.mv (.t 3)))),
  (2,(o4 52 50 (.mv (.t 11)))),
  (2,(o4 53 50 (.sx (.t 51) (.t 52)))),
  (2,(o4 54 50 (.bin .eql (.t 53) (.c (.n .u8 116))))),
  (2,(o4 55 50 (.fa 0 (.t 12)))),
  (2,(mt 59 1)),
  (1,(o4 56 50 (.ld 1 false (.t 55)))),
  (2,(o4 57 50 (.eq false .b (.t 54) (.t 56)))),(2,(o1 58 (.pick (.t 50) (.c (.b true)) (.t 57)))),
  (3,(o2 60 33 [.t 58,.t 59,(ci 13)]))]
abbrev Q5:AC:=
 (.seq (.reg QV) (.mix Q4))
abbrev QU:List AO:=
 [o1 61 (.bin .add (.t 35) (ci 1)),
  (mt 35 61)]
abbrev Fp:AC:=
 (.seq (.reg QW) (.seq (.cond (.t 36) .skip (.exit 0)) (.seq (.block 1 Q5) (.reg QU))))
abbrev Fn:AC:=
 (.loop Fp)
abbrev Fm:List AO:=
 [(mt 62 0),
  (mt 63 0),o1 64 (.nc (.t 63)),o1 65 (.fa 7 (.t 64)),o1 66 (.ld 1 false (.t 65)),
  (mt 67 9),o1 68 (.sl 3 (.t 66) none (some (.t 67))),o1 69 (.nc (.t 62)),o1 70 (.fa 7 (.t 69)),
  (o3 (.st 1 (.t 70) (.t 68)))]
abbrev Fl:List AO:=
 [(mt 71 10),
  (mt 8 71)]
abbrev YN:AF:=⟨72,(.seq (.reg Q2) (.seq (.reg Q0) (.seq (.reg QZ) (.seq (.reg QY) (.seq (.seq (.reg QX) (.block 0 Fn)) (.seq (.reg Fm) (.seq (.reg Fl) .ret))))))),[.mv (.t 8)]⟩
theorem Q3:aI Tryz.prog (af Tryz.prog 88) 88=some YN:=by kernel_rfl
/-! slices.Clone[[]verifier.value,verifier.value]-/
abbrev QS:List AO:=
 [o1 2 (.mv (.c .sl0))]
abbrev QR:List AO:=
 [(mt 3 0),⟨some 4,none,.sn false (.t 3)⟩]
abbrev QQ:List AO:=
 [o1 2 (.mv (.c .sl0))]
abbrev QP:List AO:=
 [o1 5 (.bs 221 3 0 [] []),
  (mt 6 0),o1 7 (.app 221 3 24 (.t 5) (.t 6)),
  (mt 2 7)]
abbrev YM:AF:=⟨8,(.seq (.reg QS) (.seq (.seq (.reg QR) (.cond (.t 4) (.seq (.reg QQ) .ret) .skip)) (.seq (.reg QP) .ret))),[.mv (.t 2)]⟩
theorem QT:aI Tryz.prog (af Tryz.prog 123) 123=some YM:=by kernel_rfl
/-! verifier.walker.level-/
abbrev QN:List AO:=
 [(mt 6 0),o1 7 (.nc (.t 6)),o1 8 (.fa 7 (.t 7)),o1 9 (.ld 1 false (.t 8)),o1 10 (.len (.t 9)),
  (mt 11 2),o1 12 (.bin .eql (.t 10) (.t 11)),
  (mt 13 1),
  (o2 14 33 [.t 12,.t 13,(ci 14)])]
abbrev YL:AF:=⟨15,(.reg QN),[]⟩
theorem QO:aI Tryz.prog (af Tryz.prog 56) 56=some YL:=by kernel_rfl
/-! verifier.join-/
abbrev QH:List AO:=
 [o1 4 (.mv (.c .sl0))]
abbrev QG:List AO:=
 [(mt 7 0),
  (o2 8 59 [.t 7]),
  (mt 5 8)]
abbrev QF:List AO:=
 [(mt 9 5),o1 10 (.len (.t 9)),o1 11 (.mv (ci 0))]
abbrev QE:List AO:=
 [o1 12 (.bin .lss (.t 11) (.t 10))]
abbrev QD:List AO:=
 [(mt 13 11),
  (mt 6 13)]
abbrev QJ:List (Nat×AO):=
 [(2,(mt 14 5)),
  (2,(mt 15 6)),
  (2,(mt 16 0)),
  (2,(mt 17 6)),(2,(o1 18 (.ia 2 (.t 16) (.t 17)))),
  (2,(mt 20 1)),
  (2,(mt 21 6)),(2,(o1 22 (.ia 2 (.t 20) (.t 21)))),(1,(o1 19 (.ld 2 true (.t 18)))),(1,(o1 23 (.ld 2 true (.t 22)))),
  (3,(o2 24 62 [.t 19,.t 23])),(2,(o1 25 (.ia 2 (.t 14) (.t 15)))),
  (3,(o3 (.st 2 (.t 25) (.t 24))))]
abbrev QL:AC:=
 (.seq (.reg QD) (.mix QJ))
abbrev QC:List AO:=
 [o1 26 (.bin .add (.t 11) (ci 1)),
  (mt 11 26)]
abbrev QM:AC:=
 (.seq (.reg QE) (.seq (.cond (.t 12) .skip (.exit 0)) (.seq (.block 1 QL) (.reg QC))))
abbrev QK:AC:=
 (.loop QM)
abbrev Fk:List AO:=
 [(mt 27 5),
  (mt 4 27)]
abbrev YK:AF:=⟨28,(.seq (.reg QH) (.seq (.reg QG) (.seq (.seq (.reg QF) (.block 0 QK)) (.seq (.reg Fk) .ret)))),[.mv (.t 4)]⟩
theorem QI:aI Tryz.prog (af Tryz.prog 120) 120=some YK:=by kernel_rfl
/-! verifier.bounds.plus-/
abbrev QA:List AO:=
 [o1 2 (.bx 130 0 (.t 0)),o1 3 (.bx 130 0 (.t 1)),o1 4 (.al 130 [.n .i64 0,.n .i64 0])]
abbrev Qz:List AO:=
 [o1 5 (.fa 0 (.t 2)),o1 6 (.ld 1 false (.t 5)),o1 7 (.fa 0 (.t 3)),o1 8 (.ld 1 false (.t 7)),o1 9 (.bin .add (.t 6) (.t 8)),⟨some 10,none,.mo (.mi (.t 9) (ci 281474976710657))⟩,o1 11 (.fa 1 (.t 2)),o1 12 (.ld 1 false (.t 11)),o1 13 (.fa 1 (.t 3)),o1 14 (.ld 1 false (.t 13)),o1 15 (.bin .add (.t 12) (.t 14)),⟨some 16,none,.mo (.mi (.t 15) (ci 281474976710657))⟩,o1 17 (.bd [.n .i64 0,.n .i64 0] [(0,1,(.t 10)),(1,1,(.t 16))]),
  (o3 (.st 2 (.t 4) (.t 17)))]
abbrev YJ:AF:=⟨18,(.seq (.reg QA) (.seq (.reg Qz) .ret)),[.ld 2 true (.t 4)]⟩
theorem QB:aI Tryz.prog (af Tryz.prog 90) 90=some YJ:=by kernel_rfl
/-! verifier.walker.repetition-/
abbrev Qg:List AO:=
 [o1 6 (.al 130 [.n .i64 0,.n .i64 0]),o1 7 (.mv (ci 0))]
abbrev Qf:List AO:=
 [(mt 17 0),
  (mt 18 1),
  (mt 19 2),
  (o2 20 88 [.t 17,.t 18,.t 19,(.c (.s ⟨#[110]⟩))]),o1 21 (.ia 3 (.t 20) (ci 0)),o1 22 (.fa 1 (.t 21)),o1 23 (.fa 1 (.t 22)),o1 24 (.ld 1 false (.t 23)),
  (mt 8 24)]
abbrev Qe:List AO:=
 [(mt 25 8),o1 26 (.bin .leq (.t 25) (ci 65536)),
  (mt 27 1),
  (o2 28 33 [.t 26,.t 27,(ci 18)])]
abbrev Qj:List (Nat×AO):=
 [(2,(mt 30 0)),(2,(o1 31 (.nc (.t 30)))),(2,(o1 32 (.fa 4 (.t 31)))),(2,(o1 33 (.fa 0 (.t 32)))),
  (2,(mt 35 1)),
  (2,(mt 36 8)),
  (2,(mt 37 0)),(2,(o1 38 (.nc (.t 37)))),(2,(o1 39 (.fa 6 (.t 38)))),(1,(o1 34 (.ld 1 false (.t 33)))),(1,(o1 40 (.ld 1 false (.t 39)))),(3,⟨some 41,none,.cl (.t 34) [.t 35,.t 36,.t 40]⟩),
  (2,(mt 29 41)),(2,(o1 42 (.ext 0 (.t 29)))),(2,(o1 43 (.ext 1 (.t 29)))),
  (2,(mt 9 42)),
  (2,(mt 8 43))]
abbrev Qi:List (Nat×AO):=
 [(2,(mt 44 0)),(2,(o1 45 (.nc (.t 44)))),(2,(o1 46 (.fa 3 (.t 45)))),
  (2,(mt 48 1)),
  (2,(mt 51 0)),(2,(o1 52 (.nc (.t 51)))),(2,(o1 53 (.fa 7 (.t 52)))),
  (2,(mt 56 0)),(2,(o1 57 (.nc (.t 56)))),(2,(o1 58 (.fa 9 (.t 57)))),(1,(o1 47 (.ld 1 false (.t 46)))),(2,(o1 49 (.ia 1 (.t 47) (.t 48)))),(1,(o1 50 (.ld 1 false (.t 49)))),
  (2,(mt 10 50)),(1,(o1 54 (.ld 1 false (.t 53)))),(2,(o1 55 (.len (.t 54)))),
  (2,(mt 11 55)),(1,(o1 59 (.ld 1 false (.t 58)))),
  (2,(mt 12 59))]
abbrev Qd:List AO:=
 [o1 13 (.al 130 [.n .i64 0,.n .i64 0])]
abbrev Qc:List AO:=
 [o1 14 (.mv (ci 1))]
abbrev Qb:List AO:=
 [(mt 62 0),
  (mt 63 0),
  (mt 64 9),o1 65 (.nc (.t 62)),o1 66 (.fa 6 (.t 65)),
  (o3 (.st 1 (.t 66) (.t 64))),o1 67 (.nc (.t 63)),o1 68 (.fa 9 (.t 67)),
  (o3 (.st 1 (.t 68) (.c .sl0)))]
abbrev Qa:List AO:=
 [(mt 69 0),
  (mt 70 1),o1 71 (.bin .add (.t 70) (ci 1)),
  (mt 72 10),
  (mt 73 11),
  (mt 74 11),
  (o2 75 55 [.t 69,.t 71,.t 72,.t 73,.t 74]),
  (o3 (.st 2 (.t 13) (.t 75)))]
abbrev P9:List AO:=
 [(mt 76 0),
  (mt 77 10),
  (mt 78 11),
  (o2 79 56 [.t 76,.t 77,.t 78])]
abbrev Fb:List AO:=
 [(mt 80 0),o1 81 (.nc (.t 80)),o1 82 (.fa 6 (.t 81)),o1 83 (.ld 1 false (.t 82)),
  (mt 84 9),
  (o2 85 121 [.t 83,.t 84])]
abbrev Fd:List (Nat×AO):=
 [(2,(mt 86 0)),(2,(o1 87 (.nc (.t 86)))),(2,(o1 88 (.fa 4 (.t 87)))),(2,(o1 89 (.fa 1 (.t 88)))),
  (2,(mt 91 1)),
  (2,(mt 92 10)),
  (2,(mt 93 14)),
  (2,(mt 94 9)),
  (2,(mt 95 0)),(2,(o1 96 (.nc (.t 95)))),(2,(o1 97 (.fa 6 (.t 96)))),(1,(o1 90 (.ld 1 false (.t 89)))),(1,(o1 98 (.ld 1 false (.t 97)))),(3,⟨some 99,none,.cl (.t 90) [.t 91,.t 92,.t 93,.t 94,.t 98]⟩),
  (2,(mt 9 99))]
abbrev Fh:AC:=
 (.seq (.reg Qb) (.seq (.reg Qa) (.seq (.reg P9) (.seq (.seq (.reg Fb) (.cond (.t 85) (.exit 0) .skip)) (.mix Fd)))))
abbrev Fa:List AO:=
 [(mt 60 14),o1 61 (.bin .add (.t 60) (ci 1)),
  (mt 14 61)]
abbrev Fj:AC:=
 (.seq (.block 1 Fh) (.reg Fa))
abbrev Fg:AC:=
 (.loop Fj)
abbrev Fc:List (Nat×AO):=
 [(2,(mt 100 0)),(2,(o1 101 (.nc (.t 100)))),(2,(o1 102 (.fa 10 (.t 101)))),
  (2,(mt 104 1)),
  (2,(mt 105 1)),
  (2,(mt 106 8)),
  (2,(mt 107 9)),(1,(o1 103 (.ld 1 false (.t 102)))),
  (0,(o2 108 59 [.t 107])),(2,(o1 109 (.bd [.n .i64 0,.n .i64 0,.sl0] [(0,1,(.t 105)),(1,1,(.t 106)),(2,1,(.t 108))]))),(3,⟨none,none,.mo (.mu (.t 103) (.t 104) (.t 109))⟩)]
abbrev E9:List AO:=
 [(mt 110 0),
  (mt 111 9),o1 112 (.nc (.t 110)),o1 113 (.fa 6 (.t 112)),
  (o3 (.st 1 (.t 113) (.t 111)))]
abbrev E8:List AO:=
 [(mt 114 0),o1 115 (.nc (.t 114)),o1 116 (.fa 9 (.t 115)),o1 117 (.ld 1 false (.t 116)),o1 118 (.len (.t 117)),o1 119 (.mv (ci 0))]
abbrev E7:List AO:=
 [o1 120 (.bin .lss (.t 119) (.t 118))]
abbrev E6:List AO:=
 [o1 121 (.ia 1 (.t 117) (.t 119)),o1 122 (.ld 1 false (.t 121)),
  (mt 16 122)]
abbrev E5:List AO:=
 [(mt 123 0),
  (mt 124 0),o1 125 (.nc (.t 124)),o1 126 (.fa 6 (.t 125)),o1 127 (.ld 1 false (.t 126)),
  (mt 128 16),
  (o2 129 120 [.t 127,.t 128]),o1 130 (.nc (.t 123)),o1 131 (.fa 6 (.t 130)),
  (o3 (.st 1 (.t 131) (.t 129)))]
abbrev Ff:AC:=
 (.seq (.reg E6) (.reg E5))
abbrev E4:List AO:=
 [o1 132 (.bin .add (.t 119) (ci 1)),
  (mt 119 132)]
abbrev Fi:AC:=
 (.seq (.reg E7) (.seq (.cond (.t 120) .skip (.exit 2)) (.seq (.block 3 Ff) (.reg E4))))
abbrev Fe:AC:=
 (.loop Fi)
abbrev E3:List AO:=
 [(mt 133 0),
  (mt 134 12),o1 135 (.nc (.t 133)),o1 136 (.fa 9 (.t 135)),
  (o3 (.st 1 (.t 136) (.t 134)))]
abbrev E2:List AO:=
 [o1 137 (.ld 2 true (.t 13)),
  (mt 138 8),
  (o2 139 122 [.t 137,.t 138]),o1 140 (.bd [.n .i64 0,.n .i64 0] [(0,1,(ci 1))]),
  (o2 141 90 [.t 139,.t 140]),
  (mt 142 10),
  (o3 (.st 2 (.t 6) (.t 141))),
  (mt 7 142)]
abbrev Yx:AF:=⟨143,(.seq (.reg Qg) (.seq (.reg Qf) (.seq (.reg Qe) (.seq (.mix Qj) (.seq (.mix Qi) (.seq (.reg Qd) (.seq (.seq (.reg Qc) (.block 0 Fg)) (.seq (.mix Fc) (.seq (.reg E9) (.seq (.seq (.reg E8) (.block 2 Fe)) (.seq (.reg E3) (.seq (.reg E2) .ret)))))))))))),[.ld 2 true (.t 6),.mv (.t 7)]⟩
theorem Qh:aI Tryz.prog (af Tryz.prog 87) 87=some Yx:=by kernel_rfl
/-! verifier.within-/
abbrev P7:List AO:=
 [o1 4 (.mv (.c (.b false)))]
abbrev P6:List AO:=
 [(mt 5 0),
  (mt 6 1),
  (o2 7 171 [.t 5,.t 6,(.c (.f 172 [] []))]),
  (mt 4 7)]
abbrev Yw:AF:=⟨8,(.seq (.reg P7) (.seq (.reg P6) .ret)),[.mv (.t 4)]⟩
theorem P8:aI Tryz.prog (af Tryz.prog 121) 121=some Yw:=by kernel_rfl
/-! slices.EqualFunc[[]api.Interval,[]api.Interval,api.Interval,api.Interval]-/
abbrev P3:List AO:=
 [o1 6 (.mv (.c (.b false)))]
abbrev P2:List AO:=
 [(mt 10 0),o1 11 (.len (.t 10)),
  (mt 12 1),o1 13 (.len (.t 12)),o1 14 (.bin .neq (.t 11) (.t 13))]
abbrev P1:List AO:=
 [o1 6 (.mv (.c (.b false)))]
abbrev P0:List AO:=
 [(mt 15 0),o1 16 (.len (.t 15)),o1 17 (.mv (ci 0))]
abbrev PZ:List AO:=
 [o1 18 (.bin .lss (.t 17) (.t 16))]
abbrev PY:List AO:=
 [(mt 19 17),o1 20 (.ia 2 (.t 15) (.t 17)),o1 21 (.ld 2 true (.t 20)),o1 8 (.al 127 [.n .i64 0,.n .i64 0]),
  (mt 7 19),
  (o3 (.st 2 (.t 8) (.t 21)))]
abbrev PX:List AO:=
 [(mt 22 1),
  (mt 23 7),o1 24 (.ia 2 (.t 22) (.t 23)),o1 25 (.ld 2 true (.t 24)),o1 9 (.al 127 [.n .i64 0,.n .i64 0]),
  (o3 (.st 2 (.t 9) (.t 25)))]
abbrev PW:List AO:=
 [(mt 26 2),o1 27 (.ld 2 true (.t 8)),o1 28 (.ld 2 true (.t 9)),⟨some 29,none,.cl (.t 26) [.t 27,.t 28]⟩,o1 30 (.un .not (.t 29))]
abbrev PV:List AO:=
 [o1 6 (.mv (.c (.b false)))]
abbrev P5:AC:=
 (.seq (.reg PY) (.seq (.reg PX) (.seq (.reg PW) (.cond (.t 30) (.seq (.reg PV) .ret) .skip))))
abbrev EZ:List AO:=
 [o1 31 (.bin .add (.t 17) (ci 1)),
  (mt 17 31)]
abbrev E1:AC:=
 (.seq (.reg PZ) (.seq (.cond (.t 18) .skip (.exit 0)) (.seq (.block 1 P5) (.reg EZ))))
abbrev E0:AC:=
 (.loop E1)
abbrev EY:List AO:=
 [o1 6 (.mv (.c (.b true)))]
abbrev Yv:AF:=⟨32,(.seq (.reg P3) (.seq (.seq (.reg P2) (.cond (.t 14) (.seq (.reg P1) .ret) .skip)) (.seq (.seq (.reg P0) (.block 0 E0)) (.seq (.reg EY) .ret)))),[.mv (.t 6)]⟩
theorem P4:aI Tryz.prog (af Tryz.prog 171) 171=some Yv:=by kernel_rfl
/-! verifier.bounds.times-/
abbrev PR:List AO:=
 [o1 2 (.bx 130 0 (.t 0)),o1 3 (.bx 3 0 (.t 1)),o1 4 (.al 130 [.n .i64 0,.n .i64 0])]
abbrev PQ:List AO:=
 [o1 6 (.mf 173 [] [.t 3]),
  (mt 5 6)]
abbrev PU:List (Nat×AO):=
 [(2,(mt 7 5)),(2,(o1 8 (.fa 0 (.t 2)))),
  (2,(mt 13 5)),(2,(o1 14 (.fa 1 (.t 2)))),(1,(o1 9 (.ld 1 false (.t 8)))),(2,(o1 10 (.bin .add (.t 9) (ci 1)))),(1,(o1 15 (.ld 1 false (.t 14)))),(0,⟨some 11,none,.mo (.mi (.t 10) (ci 281474976710657))⟩),(0,⟨some 12,none,.cl (.t 7) [.t 11]⟩),(3,⟨some 16,none,.cl (.t 13) [.t 15]⟩),(2,(o1 17 (.bd [.n .i64 0,.n .i64 0] [(0,1,(.t 12)),(1,1,(.t 16))]))),
  (3,(o3 (.st 2 (.t 4) (.t 17))))]
abbrev Yu:AF:=⟨18,(.seq (.reg PR) (.seq (.reg PQ) (.seq (.mix PU) .ret))),[.ld 2 true (.t 4)]⟩
theorem PS:aI Tryz.prog (af Tryz.prog 122) 122=some Yu:=by kernel_rfl
/-! verifier.bounds.times$1-/
abbrev PO:List AO:=
 [o1 3 (.mv (ci 0))]
abbrev PN:List AO:=
 [o1 4 (.ld 1 false (.t 1)),o1 5 (.bin .gtr (.t 4) (ci 0)),
  (mt 6 5),
  (o5 7 6 (.mv (.t 0))),
  (o5 8 6 (.ld 1 false (.t 1))),
  (o5 9 6 (.bin .quo (ci 281474976710657) (.t 8))),
  (o5 10 6 (.bin .gtr (.t 7) (.t 9))),o1 11 (.pick (.t 6) (.t 10) (.c (.b false)))]
abbrev PM:List AO:=
 [o1 3 (.mv (ci 281474976710657))]
abbrev PL:List AO:=
 [(mt 12 0),o1 13 (.ld 1 false (.t 1)),o1 14 (.bin .mul (.t 12) (.t 13)),⟨some 15,none,.mo (.mi (.t 14) (ci 281474976710657))⟩,
  (mt 3 15)]
abbrev Yt:AF:=⟨16,(.seq (.reg PO) (.seq (.seq (.reg PN) (.cond (.t 11) (.seq (.reg PM) .ret) .skip)) (.seq (.reg PL) .ret))),[.mv (.t 3)]⟩
theorem PP:aI Tryz.prog (af Tryz.prog 173) 173=some Yt:=by kernel_rfl
/-! verifier.walker.plain-/
abbrev PH:List AO:=
 [o1 6 (.al 130 [.n .i64 0,.n .i64 0])]
abbrev PG:List AO:=
 [(mt 15 0),o1 16 (.nc (.t 15)),o1 17 (.fa 0 (.t 16)),o1 18 (.fa 2 (.t 17)),o1 19 (.ld 1 false (.t 18)),
  (mt 20 1),o1 21 (.ia 2 (.t 19) (.t 20)),o1 22 (.ld 2 true (.t 21)),o1 7 (.al 54 [.n .i64 0,.n .u32 0]),
  (o3 (.st 2 (.t 7) (.t 22)))]
abbrev PF:List AO:=
 [o1 24 (.fa 0 (.t 7)),o1 25 (.ld 1 false (.t 24)),
  (o2 26 103 [.t 25]),
  (mt 23 26),o1 27 (.ext 0 (.t 23)),o1 28 (.ext 1 (.t 23)),o1 29 (.ext 2 (.t 23)),
  (mt 8 27),
  (mt 9 28),
  (mt 10 29)]
abbrev PE:List AO:=
 [(mt 30 0),
  (mt 31 1),
  (mt 32 2),
  (mt 33 8),
  (o2 34 88 [.t 30,.t 31,.t 32,.t 33]),
  (mt 11 34)]
abbrev PD:List AO:=
 [o1 35 (.bd [.n .i64 0,.n .i64 0] [(0,1,(ci 1))]),o1 12 (.al 130 [.n .i64 0,.n .i64 0]),
  (o3 (.st 2 (.t 12) (.t 35)))]
abbrev PB:List AO:=
 [o1 36 (.fa 0 (.t 7)),o1 37 (.ld 1 false (.t 36))]
abbrev PA:List AO:=
 [o1 71 (.bin .eql (.t 37) (ci 0)),
  (mt 70 71)]
abbrev Pz:List AO:=
 [(mt 72 0),
  (mt 73 1),o1 74 (.fa 1 (.t 7)),o1 75 (.ld 1 false (.t 74)),
  (o2 76 54 [.t 75]),
  (o2 77 125 [.t 76]),o1 78 (.bs 221 3 1 [.b false,.n .i64 0,.n .i64 0] [(0,3,(.t 77))]),
  (o2 79 124 [.t 72,.t 73,.t 78])]
abbrev Py:List AO:=
 [o1 81 (.bin .eql (.t 37) (ci 1)),
  (mt 80 81)]
abbrev PK:List (Nat×AO):=
 [(2,(mt 82 0)),
  (2,(mt 83 1)),
  (2,(mt 84 0)),(2,(o1 85 (.nc (.t 84)))),(2,(o1 86 (.fa 6 (.t 85)))),(2,(o1 88 (.fa 1 (.t 7)))),(1,(o1 87 (.ld 1 false (.t 86)))),(1,(o1 89 (.ld 1 false (.t 88)))),(2,(o1 90 (.ia 2 (.t 87) (.t 89)))),(1,(o1 91 (.ld 2 true (.t 90)))),
  (3,(o2 92 125 [.t 91])),(3,(o1 93 (.bs 221 3 1 [.b false,.n .i64 0,.n .i64 0] [(0,3,(.t 92))]))),
  (3,(o2 94 124 [.t 82,.t 83,.t 93]))]
abbrev ES:List AO:=
 [o1 96 (.bin .eql (.t 37) (ci 2)),
  (mt 95 96)]
abbrev EP:List AO:=
 [(mt 97 0),
  (mt 98 0),o1 99 (.nc (.t 98)),o1 100 (.fa 6 (.t 99)),o1 101 (.ld 1 false (.t 100)),
  (o2 102 59 [.t 101]),o1 103 (.nc (.t 97)),o1 104 (.fa 6 (.t 103)),
  (o3 (.st 1 (.t 104) (.t 102)))]
abbrev EW:List (Nat×AO):=
 [(2,(mt 105 0)),(2,(o1 106 (.nc (.t 105)))),(2,(o1 107 (.fa 6 (.t 106)))),(2,(o1 109 (.fa 1 (.t 7)))),
  (2,(mt 111 11)),(2,(o1 112 (.ia 3 (.t 111) (ci 0)))),(2,(o1 113 (.fa 1 (.t 112)))),(1,(o1 108 (.ld 1 false (.t 107)))),(1,(o1 110 (.ld 1 false (.t 109)))),(1,(o1 114 (.ld 2 true (.t 113)))),(2,(o1 115 (.ia 2 (.t 108) (.t 110)))),
  (3,(o3 (.st 2 (.t 115) (.t 114))))]
abbrev EO:List AO:=
 [o1 117 (.bin .eql (.t 37) (ci 3)),
  (mt 116 117)]
abbrev EM:List AO:=
 [(mt 118 0),
  (mt 119 1),
  (mt 120 0),
  (mt 121 1),
  (mt 122 11),o1 123 (.ia 3 (.t 122) (ci 0)),o1 124 (.ld 3 true (.t 123)),
  (o2 125 126 [.t 120,.t 121,.t 124]),
  (o2 126 125 [.t 125]),o1 127 (.bs 221 3 1 [.b false,.n .i64 0,.n .i64 0] [(0,3,(.t 126))]),
  (o2 128 124 [.t 118,.t 119,.t 127])]
abbrev EL:List AO:=
 [o1 130 (.bin .eql (.t 37) (ci 4)),
  (mt 129 130)]
abbrev EK:List AO:=
 [(mt 131 0),
  (mt 132 1),
  (mt 133 11),o1 134 (.ia 3 (.t 133) (ci 0)),o1 135 (.ld 3 true (.t 134)),
  (o2 136 126 [.t 131,.t 132,.t 135])]
abbrev EJ:List AO:=
 [o1 138 (.bin .eql (.t 37) (ci 5)),
  (mt 137 138)]
abbrev EV:List (Nat×AO):=
 [(2,(mt 139 0)),
  (2,(mt 140 1)),
  (2,(mt 141 11)),(2,(o1 142 (.ia 3 (.t 141) (ci 0)))),
  (2,(mt 144 11)),(2,(o1 145 (.ia 3 (.t 144) (ci 0)))),(1,(o1 143 (.ld 3 true (.t 142)))),(1,(o1 146 (.ld 3 true (.t 145)))),(3,(o1 147 (.bs 221 3 2 [.b false,.n .i64 0,.n .i64 0,.b false,.n .i64 0,.n .i64 0] [(0,3,(.t 143)),(3,3,(.t 146))]))),
  (3,(o2 148 124 [.t 139,.t 140,.t 147]))]
abbrev EI:List AO:=
 [o1 150 (.bin .eql (.t 37) (ci 7)),
  (mt 149 150)]
abbrev EU:List (Nat×AO):=
 [(2,(mt 151 0)),
  (2,(mt 152 1)),
  (2,(mt 153 11)),(2,(o1 154 (.ia 3 (.t 153) (ci 1)))),
  (2,(mt 156 11)),(2,(o1 157 (.ia 3 (.t 156) (ci 0)))),(1,(o1 155 (.ld 3 true (.t 154)))),(1,(o1 158 (.ld 3 true (.t 157)))),(3,(o1 159 (.bs 221 3 2 [.b false,.n .i64 0,.n .i64 0,.b false,.n .i64 0,.n .i64 0] [(0,3,(.t 155)),(3,3,(.t 158))]))),
  (3,(o2 160 124 [.t 151,.t 152,.t 159]))]
abbrev EH:List AO:=
 [o1 162 (.bin .eql (.t 37) (ci 6)),
  (mt 161 162)]
abbrev EG:List AO:=
 [o1 163 (.bin .eql (.t 37) (ci 35)),
  (mt 161 163)]
abbrev EF:List AO:=
 [o1 165 (.bin .eql (.t 37) (ci 34)),
  (mt 164 165)]
abbrev EE:List AO:=
 [o1 166 (.fa 1 (.t 12)),
  (o3 (.st 1 (.t 166) (ci 1)))]
abbrev ED:List AO:=
 [o1 168 (.bin .eql (.t 37) (ci 32)),
  (mt 167 168)]
abbrev EC:List AO:=
 [(mt 169 0),
  (mt 170 1),
  (o2 171 63 []),
  (o2 172 125 [.t 171]),o1 173 (.bs 221 3 1 [.b false,.n .i64 0,.n .i64 0] [(0,3,(.t 172))]),
  (o2 174 124 [.t 169,.t 170,.t 173])]
abbrev EB:List AO:=
 [o1 176 (.bin .eql (.t 37) (ci 26)),
  (mt 175 176)]
abbrev EA:List AO:=
 [(mt 177 0),
  (mt 178 1),o1 179 (.bd [.n .i64 0,.n .i64 0] [(1,1,(ci 1))]),
  (o2 180 125 [.t 179]),o1 181 (.bs 221 3 1 [.b false,.n .i64 0,.n .i64 0] [(0,3,(.t 180))]),
  (o2 182 124 [.t 177,.t 178,.t 181])]
abbrev Ez:List AO:=
 [(mt 38 9),o1 39 (.bin .eql (.t 38) (.c (.s ⟨#[116]⟩)))]
abbrev Ey:List AO:=
 [(mt 40 0),
  (mt 41 1),o1 42 (.bd [.b false,.n .i64 0,.n .i64 0] [(0,1,(.c (.b true)))]),o1 43 (.bs 221 3 1 [.b false,.n .i64 0,.n .i64 0] [(0,3,(.t 42))]),
  (o2 44 124 [.t 40,.t 41,.t 43])]
abbrev ET:List (Nat×AO):=
 [(2,(o1 46 (.fa 0 (.t 7)))),(1,(o1 47 (.ld 1 false (.t 46)))),
  (2,(mt 48 11)),(2,(o1 49 (.ia 3 (.t 48) (ci 0)))),(2,(o1 50 (.fa 1 (.t 49)))),(1,(o1 51 (.ld 2 true (.t 50)))),
  (2,(mt 52 11)),(2,(o1 53 (.ia 3 (.t 52) (ci 1)))),(2,(o1 54 (.fa 1 (.t 53)))),(1,(o1 55 (.ld 2 true (.t 54))))]
abbrev Eu:AT:=
 (.alt (o2 56 127 [.t 47,.t 51,.t 55]) (.alt (mt 45 56) (.alt (o1 57 (.ext 0 (.t 45))) (.alt (o1 58 (.ext 1 (.t 45))) (.alt (o1 13 (.al 127 [.n .i64 0,.n .i64 0])) (.alt (o3 (.st 2 (.t 13) (.t 57))) (.alt (mt 14 58) .fin .none) .none) .none) (.alt (o1 13 (.al 127 [.n .i64 0,.n .i64 0])) (.alt (o1 58 (.ext 1 (.t 45))) (.alt (o3 (.st 2 (.t 13) (.t 57))) (.alt (mt 14 58) .fin .none) .none) (.alt (o3 (.st 2 (.t 13) (.t 57))) (.alt (o1 58 (.ext 1 (.t 45))) (.alt (mt 14 58) .fin .none) .none) .none)) .none)) (.alt (o1 58 (.ext 1 (.t 45))) (.alt (o1 57 (.ext 0 (.t 45))) (.alt (o1 13 (.al 127 [.n .i64 0,.n .i64 0])) (.alt (o3 (.st 2 (.t 13) (.t 57))) (.alt (mt 14 58) .fin .none) .none) .none) (.alt (o1 13 (.al 127 [.n .i64 0,.n .i64 0])) (.alt (o1 57 (.ext 0 (.t 45))) (.alt (o3 (.st 2 (.t 13) (.t 57))) (.alt (mt 14 58) .fin .none) .none) .none) .none)) (.alt (o1 13 (.al 127 [.n .i64 0,.n .i64 0])) (.alt (o1 57 (.ext 0 (.t 45))) (.alt (o1 58 (.ext 1 (.t 45))) (.alt (o3 (.st 2 (.t 13) (.t 57))) (.alt (mt 14 58) .fin .none) .none) (.alt (o3 (.st 2 (.t 13) (.t 57))) (.alt (o1 58 (.ext 1 (.t 45))) (.alt (mt 14 58) .fin .none) .none) .none)) (.alt (o1 58 (.ext 1 (.t 45))) (.alt (o1 57 (.ext 0 (.t 45))) (.alt (o3 (.st 2 (.t 13) (.t 57))) (.alt (mt 14 58) .fin .none) .none) .none) .none)) .none))) (.alt (o1 13 (.al 127 [.n .i64 0,.n .i64 0])) (.alt (mt 45 56) (.alt (o1 57 (.ext 0 (.t 45))) (.alt (o1 58 (.ext 1 (.t 45))) (.alt (o3 (.st 2 (.t 13) (.t 57))) (.alt (mt 14 58) .fin .none) .none) (.alt (o3 (.st 2 (.t 13) (.t 57))) (.alt (o1 58 (.ext 1 (.t 45))) (.alt (mt 14 58) .fin .none) .none) .none)) (.alt (o1 58 (.ext 1 (.t 45))) (.alt (o1 57 (.ext 0 (.t 45))) (.alt (o3 (.st 2 (.t 13) (.t 57))) (.alt (mt 14 58) .fin .none) .none) .none) .none)) .none) .none)) (.alt (o1 13 (.al 127 [.n .i64 0,.n .i64 0])) (.alt (o2 56 127 [.t 47,.t 51,.t 55]) (.alt (mt 45 56) (.alt (o1 57 (.ext 0 (.t 45))) (.alt (o1 58 (.ext 1 (.t 45))) (.alt (o3 (.st 2 (.t 13) (.t 57))) (.alt (mt 14 58) .fin .none) .none) (.alt (o3 (.st 2 (.t 13) (.t 57))) (.alt (o1 58 (.ext 1 (.t 45))) (.alt (mt 14 58) .fin .none) .none) .none)) (.alt (o1 58 (.ext 1 (.t 45))) (.alt (o1 57 (.ext 0 (.t 45))) (.alt (o3 (.st 2 (.t 13) (.t 57))) (.alt (mt 14 58) .fin .none) .none) .none) .none)) .none) .none) .none))
abbrev Ex:List AO:=
 [(mt 59 14),o1 60 (.bin .eql (.t 59) (ci 0)),
  (mt 61 1),
  (mt 62 14),
  (o2 63 33 [.t 60,.t 61,.t 62])]
abbrev Ew:List AO:=
 [(mt 64 0),
  (mt 65 1),o1 66 (.ld 2 true (.t 13)),
  (o2 67 125 [.t 66]),o1 68 (.bs 221 3 1 [.b false,.n .i64 0,.n .i64 0] [(0,3,(.t 67))]),
  (o2 69 124 [.t 64,.t 65,.t 68])]
abbrev EX:AC:=
 (.seq (.reg PA) (.cond (.t 70) (.reg Pz) (.seq (.reg Py) (.cond (.t 80) (.mix PK) (.seq (.reg ES) (.cond (.t 95) (.seq (.reg EP) (.mix EW)) (.seq (.reg EO) (.cond (.t 116) (.reg EM) (.seq (.reg EL) (.cond (.t 129) (.reg EK) (.seq (.reg EJ) (.cond (.t 137) (.mix EV) (.seq (.reg EI) (.cond (.t 149) (.mix EU) (.seq (.seq (.reg EH) (.cond (.t 161) .skip (.reg EG))) (.cond (.t 161) .skip (.seq (.reg EF) (.cond (.t 164) (.reg EE) (.seq (.reg ED) (.cond (.t 167) (.reg EC) (.seq (.reg EB) (.cond (.t 175) (.reg EA) (.seq (.seq (.reg Ez) (.cond (.t 39) (.seq (.reg Ey) (.exit 0)) .skip)) (.seq (.frk ET Eu) (.seq (.reg Ex) (.reg Ew))))))))))))))))))))))))))
abbrev Ev:List AO:=
 [o1 183 (.ld 2 true (.t 12)),
  (o3 (.st 2 (.t 6) (.t 183)))]
abbrev Ys:AF:=⟨184,(.seq (.reg PH) (.seq (.reg PG) (.seq (.reg PF) (.seq (.reg PE) (.seq (.reg PD) (.seq (.seq (.reg PB) (.block 0 EX)) (.seq (.reg Ev) .ret))))))),[.ld 2 true (.t 6)]⟩
theorem PJ:aI Tryz.prog (af Tryz.prog 89) 89=some Ys:=by kernel_rfl
/-! instruction.Effect-/
abbrev Pv:List AO:=
 [o1 2 (.mv (.c (.s ⟨#[]⟩))),o1 3 (.mv (.c (.s ⟨#[]⟩))),o1 4 (.mv (.c (.b false)))]
abbrev Pu:List AO:=
 [(mt 8 0),
  (o2 9 70 [.t 8]),
  (mt 7 9),o1 10 (.ext 0 (.t 7)),o1 11 (.ext 1 (.t 7)),o1 5 (.al 146 [.s ⟨#[]⟩,.s ⟨#[]⟩,.s ⟨#[]⟩,.n .u64 0,.b false]),
  (o3 (.st 5 (.t 5) (.t 10))),
  (mt 6 11)]
abbrev Px:List (Nat×AO):=
 [(2,(o1 12 (.fa 1 (.t 5)))),(2,(o1 14 (.fa 2 (.t 5)))),
  (2,(mt 16 6)),(1,(o1 13 (.ld 1 false (.t 12)))),
  (2,(mt 2 13)),(1,(o1 15 (.ld 1 false (.t 14)))),
  (2,(mt 3 15)),
  (2,(mt 4 16))]
abbrev Yr:AF:=⟨17,(.seq (.reg Pv) (.seq (.reg Pu) (.seq (.mix Px) .ret))),[.mv (.t 2),.mv (.t 3),.mv (.t 4)]⟩
theorem Pw:aI Tryz.prog (af Tryz.prog 103) 103=some Yr:=by kernel_rfl
/-! verifier.numeric-/
abbrev Ps:List AO:=
 [o1 1 (.bx 127 0 (.t 0)),o1 2 (.al 221 [.b false,.n .i64 0,.n .i64 0])]
abbrev Pq:List AO:=
 [o1 3 (.ld 2 true (.t 1)),o1 4 (.bd [.b false,.n .i64 0,.n .i64 0] [(1,2,(.t 3))]),
  (o3 (.st 3 (.t 2) (.t 4)))]
abbrev Yq:AF:=⟨5,(.seq (.reg Ps) (.seq (.reg Pq) .ret)),[.ld 3 true (.t 2)]⟩
theorem Pt:aI Tryz.prog (af Tryz.prog 125) 125=some Yq:=by kernel_rfl
/-! verifier.walker.push-/
abbrev Pn:List AO:=
 [(mt 6 0),
  (mt 7 0),o1 8 (.nc (.t 7)),o1 9 (.fa 7 (.t 8)),o1 10 (.ld 1 false (.t 9)),
  (mt 11 2),o1 12 (.app 221 3 24 (.t 10) (.t 11)),o1 13 (.nc (.t 6)),o1 14 (.fa 7 (.t 13)),
  (o3 (.st 1 (.t 14) (.t 12)))]
abbrev Pm:List AO:=
 [(mt 15 0),o1 16 (.nc (.t 15)),o1 17 (.fa 7 (.t 16)),o1 18 (.ld 1 false (.t 17)),o1 19 (.len (.t 18)),o1 20 (.bin .leq (.t 19) (ci 32)),
  (mt 21 1),
  (o2 22 33 [.t 20,.t 21,(ci 14)])]
abbrev Pp:List (Nat×AO):=
 [(2,(mt 23 0)),
  (2,(mt 24 0)),(2,(o1 25 (.nc (.t 24)))),(2,(o1 26 (.fa 8 (.t 25)))),
  (2,(mt 28 0)),(2,(o1 29 (.nc (.t 28)))),(2,(o1 30 (.fa 7 (.t 29)))),(1,(o1 27 (.ld 1 false (.t 26)))),(1,(o1 31 (.ld 1 false (.t 30)))),(2,(o1 32 (.len (.t 31)))),(3,⟨some 33,none,.mo (.mx (.t 27) (.t 32))⟩),(2,(o1 34 (.nc (.t 23)))),(2,(o1 35 (.fa 8 (.t 34)))),
  (3,(o3 (.st 1 (.t 35) (.t 33))))]
abbrev Yp:AF:=⟨36,(.seq (.reg Pn) (.seq (.reg Pm) (.mix Pp))),[]⟩
theorem Po:aI Tryz.prog (af Tryz.prog 124) 124=some Yp:=by kernel_rfl
/-! verifier.walker.element-/
abbrev Ph:List AO:=
 [o1 5 (.bx 221 0 (.t 2)),o1 6 (.al 127 [.n .i64 0,.n .i64 0])]
abbrev Pk:List (Nat×AO):=
 [(2,(mt 8 0)),(2,(o1 9 (.nc (.t 8)))),(2,(o1 10 (.fa 0 (.t 9)))),(2,(o1 11 (.fa 0 (.t 10)))),
  (2,(mt 13 0)),(2,(o1 14 (.nc (.t 13)))),(2,(o1 15 (.fa 0 (.t 14)))),(2,(o1 16 (.fa 2 (.t 15)))),
  (2,(mt 18 1)),(1,(o1 12 (.ld 1 false (.t 11)))),(1,(o1 17 (.ld 1 false (.t 16)))),(2,(o1 19 (.ia 2 (.t 17) (.t 18)))),(2,(o1 20 (.fa 1 (.t 19)))),(1,(o1 21 (.ld 1 false (.t 20)))),(2,(o1 22 (.ia 2 (.t 12) (.t 21)))),(1,(o1 23 (.ld 2 true (.t 22)))),(0,(o1 7 (.al 68 [.b false,.n .i64 0]))),
  (3,(o3 (.st 2 (.t 7) (.t 23))))]
abbrev Pg:List AO:=
 [o1 24 (.fa 1 (.t 5)),o1 25 (.fa 1 (.t 24)),o1 26 (.ld 1 false (.t 25)),o1 27 (.fa 1 (.t 7)),o1 28 (.ld 1 false (.t 27)),o1 29 (.bin .lss (.t 26) (.t 28)),
  (mt 30 1),
  (o2 31 33 [.t 29,.t 30,(ci 16)])]
abbrev Pf:List AO:=
 [o1 32 (.fa 0 (.t 7)),o1 33 (.ld 1 false (.t 32))]
abbrev Pe:List AO:=
 [(o2 34 63 []),
  (o3 (.st 2 (.t 6) (.t 34)))]
abbrev Pd:List AO:=
 [o1 35 (.bd [.n .i64 0,.n .i64 0] [(1,1,(ci 255))]),
  (o3 (.st 2 (.t 6) (.t 35)))]
abbrev Yo:AF:=⟨36,(.seq (.reg Ph) (.seq (.mix Pk) (.seq (.reg Pg) (.seq (.seq (.reg Pf) (.cond (.t 33) (.seq (.reg Pe) .ret) .skip)) (.seq (.reg Pd) .ret))))),[.ld 2 true (.t 6)]⟩
theorem Pj:aI Tryz.prog (af Tryz.prog 126) 126=some Yo:=by kernel_rfl
/-! interval.Apply-/
abbrev OS:List AO:=
 [o1 4 (.bx 127 0 (.t 1)),o1 5 (.bx 127 0 (.t 2)),o1 6 (.al 127 [.n .i64 0,.n .i64 0]),o1 7 (.mv (ci 0))]
abbrev OQ:List AO:=
 [o1 15 (.ld 2 true (.t 4)),o1 16 (.ld 2 true (.t 5)),o1 17 (.bs 127 2 2 [.n .i64 0,.n .i64 0,.n .i64 0,.n .i64 0] [(0,2,(.t 15)),(2,2,(.t 16))]),o1 18 (.len (.t 17)),o1 19 (.mv (ci 0))]
abbrev OP:List AO:=
 [o1 20 (.bin .lss (.t 19) (.t 18))]
abbrev OO:List AO:=
 [o1 21 (.ia 2 (.t 17) (.t 19)),o1 22 (.ld 2 true (.t 21)),o1 9 (.al 127 [.n .i64 0,.n .i64 0]),
  (o3 (.st 2 (.t 9) (.t 22)))]
abbrev OL:List AO:=
 [o1 23 (.ld 2 true (.t 9)),
  (o2 24 128 [.t 23]),
  (mt 10 24)]
abbrev OK:List AO:=
 [(mt 25 10),o1 26 (.bin .neq (.t 25) (ci 0))]
abbrev OJ:List AO:=
 [o1 27 (.bd [.n .i64 0,.n .i64 0] []),
  (mt 28 10),
  (o3 (.st 2 (.t 6) (.t 27))),
  (mt 7 28)]
abbrev OU:AC:=
 (.seq (.reg OO) (.seq (.reg OL) (.seq (.reg OK) (.cond (.t 26) (.seq (.reg OJ) .ret) .skip))))
abbrev OI:List AO:=
 [o1 29 (.bin .add (.t 19) (ci 1)),
  (mt 19 29)]
abbrev OV:AC:=
 (.seq (.reg OP) (.seq (.cond (.t 20) .skip (.exit 0)) (.seq (.block 1 OU) (.reg OI))))
abbrev Et:AC:=
 (.loop OV)
abbrev Ep:List AO:=
 [(o2 31 174 []),
  (mt 32 0),⟨some 33,none,.mo (.lk .f0 true (.t 31) (.t 32))⟩,
  (mt 30 33),o1 34 (.ext 0 (.t 30)),o1 35 (.ext 1 (.t 30)),
  (mt 11 34),
  (mt 12 35)]
abbrev Eo:List AO:=
 [(mt 37 12),o1 38 (.un .not (.t 37)),
  (mt 39 38),
  (o5 40 39 (.mv (.t 0))),
  (o5 41 39 (.bin .lss (.t 40) (ci 21))),
  (o5 42 39 (.mv (.t 41))),
  (o4 43 42 (.mv (.t 0))),
  (o4 44 42 (.bin .gtr (.t 43) (ci 26))),
  (o5 45 39 (.pick (.t 42) (.c (.b true)) (.t 44))),o1 46 (.pick (.t 39) (.t 45) (.c (.b false))),
  (mt 36 46)]
abbrev En:List AO:=
 [o1 47 (.bd [.n .i64 0,.n .i64 0] []),
  (o3 (.st 2 (.t 6) (.t 47))),o1 7 (.mv (ci 1))]
abbrev Em:List AO:=
 [(mt 49 12),o1 50 (.un .not (.t 49)),
  (mt 48 50)]
abbrev El:List AO:=
 [o1 51 (.bd [.n .i64 0,.n .i64 0] [(1,1,(ci 1))]),
  (o3 (.st 2 (.t 6) (.t 51))),o1 7 (.mv (ci 0))]
abbrev Ek:List AO:=
 [o1 53 (.fa 0 (.t 5)),o1 54 (.ld 1 false (.t 53)),o1 55 (.bin .eql (.t 54) (ci 0)),
  (mt 56 55),
  (o5 57 56 (.mv (.t 0))),
  (o5 58 56 (.bin .eql (.t 57) (ci 11))),
  (o5 59 56 (.mv (.t 58))),
  (o4 60 59 (.mv (.t 0))),
  (o4 61 59 (.bin .eql (.t 60) (ci 12))),
  (o5 62 56 (.pick (.t 59) (.c (.b true)) (.t 61))),o1 63 (.pick (.t 56) (.t 62) (.c (.b false))),
  (mt 52 63)]
abbrev Ej:List AO:=
 [o1 64 (.bd [.n .i64 0,.n .i64 0] []),
  (o3 (.st 2 (.t 6) (.t 64))),o1 7 (.mv (ci 17))]
abbrev Ei:List AO:=
 [o1 66 (.fa 0 (.t 4)),o1 67 (.ld 1 false (.t 66)),o1 68 (.fa 1 (.t 4)),o1 69 (.ld 1 false (.t 68)),o1 70 (.bin .eql (.t 67) (.t 69)),
  (mt 71 70),
  (o5 72 71 (.fa 0 (.t 5))),
  (o5 73 71 (.ld 1 false (.t 72))),
  (o5 74 71 (.fa 1 (.t 5))),
  (o5 75 71 (.ld 1 false (.t 74))),
  (o5 76 71 (.bin .eql (.t 73) (.t 75))),o1 77 (.pick (.t 71) (.t 76) (.c (.b false))),
  (mt 65 77)]
abbrev Eh:List AO:=
 [(mt 79 0),o1 80 (.fa 0 (.t 4)),o1 81 (.ld 1 false (.t 80)),o1 82 (.cvi .u32 (.t 81)),o1 83 (.fa 0 (.t 5)),o1 84 (.ld 1 false (.t 83)),o1 85 (.cvi .u32 (.t 84)),
  (o2 86 152 [.t 79,.t 82,.t 85]),
  (mt 78 86),o1 87 (.ext 0 (.t 78)),o1 88 (.ext 1 (.t 78)),
  (mt 13 87),
  (mt 14 88)]
abbrev Eg:List AO:=
 [(mt 89 13),
  (o2 90 54 [.t 89]),
  (mt 91 14),
  (o3 (.st 2 (.t 6) (.t 90))),
  (mt 7 91)]
abbrev Es:AC:=
 (.seq (.reg Eo) (.cond (.t 36) (.seq (.reg En) .ret) (.seq (.reg Em) (.cond (.t 48) (.seq (.reg El) .ret) (.seq (.reg Ek) (.cond (.t 52) (.seq (.reg Ej) .ret) (.seq (.reg Ei) (.cond (.t 65) (.seq (.reg Eh) (.seq (.reg Eg) .ret)) .skip))))))))
abbrev Ef:List AO:=
 [(mt 92 11),o1 93 (.fa 0 (.t 4)),o1 94 (.ld 1 false (.t 93)),o1 95 (.fa 1 (.t 4)),o1 96 (.ld 1 false (.t 95)),o1 97 (.fa 0 (.t 5)),o1 98 (.ld 1 false (.t 97)),o1 99 (.fa 1 (.t 5)),o1 100 (.ld 1 false (.t 99)),o1 101 (.bd [.n .i64 0,.n .i64 0,.n .i64 0,.n .i64 0] [(0,1,(.t 94)),(1,1,(.t 96)),(2,1,(.t 98)),(3,1,(.t 100))]),⟨some 102,none,.cl (.t 92) [.t 101]⟩,
  (o3 (.st 2 (.t 6) (.t 102))),o1 7 (.mv (ci 0))]
abbrev Yd:AF:=⟨103,(.seq (.reg OS) (.seq (.seq (.reg OQ) (.block 0 Et)) (.seq (.reg Ep) (.seq (.block 2 Es) (.seq (.reg Ef) .ret))))),[.ld 2 true (.t 6),.mv (.t 7)]⟩
theorem OT:aI Tryz.prog (af Tryz.prog 127) 127=some Yd:=by kernel_rfl
/-! interval.rules-/
abbrev OG:List AO:=
 [o1 0 (.mv (.c (.cv (.map none))))]
abbrev OE:List AO:=
 [⟨some 1,none,.mo (.mm)⟩,⟨none,none,.mo (.mu (.t 1) (ci 8) (.c (.f 187 [] [])))⟩,⟨none,none,.mo (.mu (.t 1) (ci 9) (.c (.f 188 [] [])))⟩,⟨none,none,.mo (.mu (.t 1) (ci 10) (.c (.f 189 [] [])))⟩,⟨none,none,.mo (.mu (.t 1) (ci 11) (.c (.f 190 [] [])))⟩,⟨none,none,.mo (.mu (.t 1) (ci 12) (.c (.f 191 [] [])))⟩,⟨none,none,.mo (.mu (.t 1) (ci 13) (.c (.f 192 [] [])))⟩,⟨none,none,.mo (.mu (.t 1) (ci 14) (.c (.f 193 [] [])))⟩,⟨none,none,.mo (.mu (.t 1) (ci 15) (.c (.f 194 [] [])))⟩,⟨none,none,.mo (.mu (.t 1) (ci 16) (.c (.f 195 [] [])))⟩,⟨none,none,.mo (.mu (.t 1) (ci 17) (.c (.f 196 [] [])))⟩,⟨none,none,.mo (.mu (.t 1) (ci 18) (.c (.f 197 [] [])))⟩,⟨none,none,.mo (.mu (.t 1) (ci 19) (.c (.f 198 [] [])))⟩,⟨none,none,.mo (.mu (.t 1) (ci 20) (.c (.f 199 [] [])))⟩,
  (mt 2 1),
  (mt 0 2)]
abbrev Yc:AF:=⟨3,(.seq (.reg OG) (.seq (.reg OE) .ret)),[.mv (.t 0)]⟩
theorem OH:aI Tryz.prog (af Tryz.prog 174) 174=some Yc:=by kernel_rfl
/-! instruction.Apply-/
abbrev OA:List AO:=
 [o1 6 (.mv (.c (.n .u32 0))),o1 7 (.mv (ci 0))]
abbrev Oz:List AO:=
 [(o2 11 179 []),
  (mt 12 0),⟨some 13,none,.mo (.lk .f0 true (.t 11) (.t 12))⟩,
  (mt 10 13),o1 14 (.ext 0 (.t 10)),o1 15 (.ext 1 (.t 10)),
  (mt 8 14),
  (mt 9 15)]
abbrev Oy:List AO:=
 [(mt 17 9),o1 18 (.un .not (.t 17)),
  (mt 16 18)]
abbrev Ox:List AO:=
 [o1 6 (.mv (.c (.n .u32 0))),o1 7 (.mv (ci 1))]
abbrev Ow:List AO:=
 [(mt 20 2),o1 21 (.bin .eql (.t 20) (.c (.n .u32 0))),
  (mt 22 21),
  (o5 23 22 (.mv (.t 0))),
  (o5 24 22 (.bin .eql (.t 23) (ci 11))),
  (o5 25 22 (.mv (.t 24))),
  (o4 26 25 (.mv (.t 0))),
  (o4 27 25 (.bin .eql (.t 26) (ci 12))),
  (o5 28 22 (.pick (.t 25) (.c (.b true)) (.t 27))),o1 29 (.pick (.t 22) (.t 28) (.c (.b false))),
  (mt 19 29)]
abbrev Ov:List AO:=
 [o1 6 (.mv (.c (.n .u32 0))),o1 7 (.mv (ci 17))]
abbrev OD:AC:=
 (.seq (.reg Oy) (.cond (.t 16) (.seq (.reg Ox) .ret) (.seq (.reg Ow) (.cond (.t 19) (.seq (.reg Ov) .ret) .skip))))
abbrev Ou:List AO:=
 [(mt 30 8),
  (mt 31 1),
  (mt 32 2),⟨some 33,none,.cl (.t 30) [.t 31,.t 32]⟩,
  (mt 6 33),o1 7 (.mv (ci 0))]
abbrev Yb:AF:=⟨34,(.seq (.reg OA) (.seq (.reg Oz) (.seq (.block 0 OD) (.seq (.reg Ou) .ret)))),[.mv (.t 6),.mv (.t 7)]⟩
theorem OC:aI Tryz.prog (af Tryz.prog 152) 152=some Yb:=by kernel_rfl
/-! instruction.combinations-/
abbrev Oq:List AO:=
 [o1 0 (.mv (.c (.cv (.map none))))]
abbrev Oo:List AO:=
 [⟨some 1,none,.mo (.mm)⟩,⟨none,none,.mo (.mu (.t 1) (ci 8) (.c (.f 202 [] [])))⟩,⟨none,none,.mo (.mu (.t 1) (ci 9) (.c (.f 203 [] [])))⟩,⟨none,none,.mo (.mu (.t 1) (ci 10) (.c (.f 204 [] [])))⟩,⟨none,none,.mo (.mu (.t 1) (ci 11) (.c (.f 205 [] [])))⟩,⟨none,none,.mo (.mu (.t 1) (ci 12) (.c (.f 206 [] [])))⟩,⟨none,none,.mo (.mu (.t 1) (ci 13) (.c (.f 207 [] [])))⟩,⟨none,none,.mo (.mu (.t 1) (ci 14) (.c (.f 208 [] [])))⟩,⟨none,none,.mo (.mu (.t 1) (ci 15) (.c (.f 209 [] [])))⟩,⟨none,none,.mo (.mu (.t 1) (ci 16) (.c (.f 210 [] [])))⟩,⟨none,none,.mo (.mu (.t 1) (ci 17) (.c (.f 211 [] [])))⟩,⟨none,none,.mo (.mu (.t 1) (ci 18) (.c (.f 212 [] [])))⟩,⟨none,none,.mo (.mu (.t 1) (ci 19) (.c (.f 213 [] [])))⟩,⟨none,none,.mo (.mu (.t 1) (ci 20) (.c (.f 214 [] [])))⟩,⟨none,none,.mo (.mu (.t 1) (ci 21) (.c (.f 215 [] [])))⟩,⟨none,none,.mo (.mu (.t 1) (ci 22) (.c (.f 216 [] [])))⟩,⟨none,none,.mo (.mu (.t 1) (ci 23) (.c (.f 217 [] [])))⟩,⟨none,none,.mo (.mu (.t 1) (ci 24) (.c (.f 218 [] [])))⟩,⟨none,none,.mo (.mu (.t 1) (ci 25) (.c (.f 219 [] [])))⟩,⟨none,none,.mo (.mu (.t 1) (ci 26) (.c (.f 220 [] [])))⟩,
  (mt 2 1),
  (mt 0 2)]
abbrev Ya:AF:=⟨3,(.seq (.reg Oq) (.seq (.reg Oo) .ret)),[.mv (.t 0)]⟩
theorem Ot:aI Tryz.prog (af Tryz.prog 179) 179=some Ya:=by kernel_rfl
end Go.Proofs.YtdpkgnmmikebdaaGreat