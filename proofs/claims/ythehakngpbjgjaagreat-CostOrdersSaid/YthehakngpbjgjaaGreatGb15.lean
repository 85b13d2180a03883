/- A part of the proof of CostOrders: AcCsA AcCsB AcCsC AcCsE. No condition. -/
import Derived.Test.YthehakngpbjgjaaGreatGb14
import Derived.Test.YthehakngpbjgjaaGreatProg
set_option linter.unusedSimpArgs false
set_option linter.unusedVariables false
set_option linter.constructorNameAsVariable false
set_option maxRecDepth 100000
set_option maxHeartbeats 4000000
namespace Go.Proofs.YthehakngpbjgjaaGreat
open Go.RowKit
/-! compactorlaw21.awake-/
abbrev QB:List AO:=
 [o1 0 (.mv (.c (.b false)))]
abbrev QA:List AO:=
 [(o2 14 21 []),o1 1 (.al 25 [.sl0,.n .i64 0,.sl0]),
  (o3 (.st 3 (.t 1) (.t 14)))]
abbrev Qz:List AO:=
 [o1 16 (.ld 3 true (.t 1)),
  (o2 17 22 [.t 16]),
  (mt 15 17),o1 18 (.ext 0 (.t 15)),o1 19 (.ext 1 (.t 15)),o1 20 (.ext 2 (.t 15)),o1 2 (.al 44 [.n .i64 0,.n .i64 0,.n .i64 0,.sl0]),
  (o3 (.st 4 (.t 2) (.t 18))),
  (mt 3 19),
  (mt 4 20)]
abbrev Qy:List AO:=
 [(mt 21 4),o1 22 (.bin .neq (.t 21) (ci 0)),
  (mt 23 22),
  (o4 24 23 (.fa 3 (.t 2))),
  (o4 25 23 (.ld 1 false (.t 24))),
  (o4 26 23 (.len (.t 25))),
  (o4 27 23 (.bin .neq (.t 26) (ci 1))),o1 28 (.pick (.t 23) (.c (.b true)) (.t 27))]
abbrev Qx:List AO:=
 [o1 0 (.mv (.c (.b false)))]
abbrev Qw:List AO:=
 [o1 30 (.ld 3 true (.t 1)),o1 31 (.ld 4 true (.t 2)),
  (o2 32 16 [.t 30,.t 31]),
  (mt 29 32),o1 33 (.ext 0 (.t 29)),o1 34 (.ext 1 (.t 29)),
  (mt 5 33),
  (mt 6 34)]
abbrev Qv:List AO:=
 [o1 35 (.fa 3 (.t 2)),o1 36 (.ld 1 false (.t 35)),o1 37 (.ia 3 (.t 36) (ci 0)),o1 38 (.fa 1 (.t 37)),
  (o3 (.st 1 (.t 38) (ci 0)))]
abbrev Qu:List AO:=
 [o1 40 (.ld 3 true (.t 1)),o1 41 (.ld 4 true (.t 2)),
  (o2 42 16 [.t 40,.t 41]),
  (mt 39 42),o1 43 (.ext 0 (.t 39)),o1 44 (.ext 1 (.t 39)),
  (mt 7 43),
  (mt 8 44)]
abbrev Qt:List AO:=
 [o1 46 (.ld 3 true (.t 1)),
  (o2 47 9 [.t 46]),
  (mt 45 47),o1 48 (.ext 0 (.t 45)),o1 49 (.ext 1 (.t 45)),
  (mt 9 48),
  (mt 10 49)]
abbrev Qs:List AO:=
 [o1 51 (.ld 3 true (.t 1)),
  (o2 52 23 [.t 51,(ci 3)]),
  (mt 50 52),o1 53 (.ext 0 (.t 50)),o1 54 (.ext 1 (.t 50)),o1 11 (.al 34 [.n .i64 0,.n .i64 0]),
  (o3 (.st 2 (.t 11) (.t 53))),
  (mt 12 54)]
abbrev M3:List AO:=
 [(mt 55 6),
  (mt 56 8),o1 57 (.bin .add (.t 55) (.t 56)),
  (mt 58 10),o1 59 (.bin .add (.t 57) (.t 58)),
  (mt 60 12),o1 61 (.bin .add (.t 59) (.t 60)),o1 62 (.bin .neq (.t 61) (ci 0)),
  (mt 63 62),
  (o4 64 63 (.mv (.t 5))),
  (o4 65 63 (.bin .neq (.t 64) (ci 32))),o1 66 (.pick (.t 63) (.c (.b true)) (.t 65)),
  (mt 67 66),
  (o4 68 67 (.mv (.t 7))),
  (o4 69 67 (.bin .neq (.t 68) (ci 2))),o1 70 (.pick (.t 67) (.c (.b true)) (.t 69)),
  (mt 71 70),
  (o4 72 71 (.mv (.t 9))),
  (o4 73 71 (.bin .neq (.t 72) (ci 196))),o1 74 (.pick (.t 71) (.c (.b true)) (.t 73)),
  (mt 75 74),
  (o4 76 75 (.ld 2 true (.t 11))),
  (o4 77 75 (.bd [.n .i64 0,.n .i64 0] [(0,1,(ci 196)),(1,1,(ci 128))])),
  (o4 78 75 (.eq true (.st [(0,1,.n),(1,1,.n)]) (.t 76) (.t 77))),o1 79 (.pick (.t 75) (.c (.b true)) (.t 78))]
abbrev M2:List AO:=
 [o1 0 (.mv (.c (.b false)))]
abbrev M1:List AO:=
 [o1 80 (.bd [.n .i64 0,.n .i64 0] [(0,1,(ci 5)),(1,1,(ci 7))]),o1 13 (.al 34 [.n .i64 0,.n .i64 0]),
  (o3 (.st 2 (.t 13) (.t 80)))]
abbrev M0:List AO:=
 [o1 81 (.ld 2 true (.t 13)),o1 82 (.bd [.n .i64 0,.n .i64 0] [(0,1,(ci 1)),(1,1,(ci 2))]),
  (o2 83 11 [.t 81,.t 82]),o1 84 (.bd [.n .i64 0,.n .i64 0] [(0,1,(ci 6)),(1,1,(ci 9))]),o1 85 (.eq false (.st [(0,1,.n),(1,1,.n)]) (.t 83) (.t 84)),
  (mt 86 85),
  (o5 87 86 (.ld 2 true (.t 13))),
  (o5 88 86 (.bd [.n .i64 0,.n .i64 0] [(0,1,(ci 5)),(1,1,(ci 8))])),⟨some 89,some (86,true),.cl (.c (.f 13 [] [])) [.t 87,.t 88]⟩,o1 90 (.pick (.t 86) (.t 89) (.c (.b false))),
  (mt 91 90),
  (o5 92 91 (.ld 2 true (.t 13))),
  (o5 93 91 (.bd [.n .i64 0,.n .i64 0] [(0,1,(ci 4)),(1,1,(ci 100))])),⟨some 94,some (91,true),.cl (.c (.f 13 [] [])) [.t 92,.t 93]⟩,
  (o5 95 91 (.un .not (.t 94))),o1 96 (.pick (.t 91) (.t 95) (.c (.b false))),
  (mt 0 96)]
abbrev x1F:AF:=⟨97,(.seq (.reg QB) (.seq (.reg QA) (.seq (.reg Qz) (.seq (.seq (.reg Qy) (.cond (.t 28) (.seq (.reg Qx) .ret) .skip)) (.seq (.reg Qw) (.seq (.reg Qv) (.seq (.reg Qu) (.seq (.reg Qt) (.seq (.reg Qs) (.seq (.seq (.reg M3) (.cond (.t 79) (.seq (.reg M2) .ret) .skip)) (.seq (.reg M1) (.seq (.reg M0) .ret)))))))))))),[.mv (.t 0)]⟩
theorem QC:ab Tryz.prog (aa Tryz.prog 8) 8=some x1F:=by kernel_rfl
/-! compactorlaw21.example-/
abbrev Qq:List AO:=
 [o1 0 (.al 25 [.sl0,.n .i64 0,.sl0])]
abbrev Qp:List AO:=
 [o1 1 (.bd [.n .i64 0,.n .u32 0] [(0,1,(ci 0)),(1,1,(.c (.n .u32 10)))]),o1 2 (.bd [.n .i64 0,.n .u32 0] [(0,1,(ci 29))]),o1 3 (.bd [.n .i64 0,.n .u32 0] [(0,1,(ci 1))]),o1 4 (.bd [.n .i64 0,.n .u32 0] [(0,1,(ci 6))]),o1 5 (.bd [.n .i64 0,.n .u32 0] [(0,1,(ci 31))]),o1 6 (.bs 82 2 5 [.n .i64 0,.n .u32 0,.n .i64 0,.n .u32 0,.n .i64 0,.n .u32 0,.n .i64 0,.n .u32 0,.n .i64 0,.n .u32 0] [(0,2,(.t 1)),(2,2,(.t 2)),(4,2,(.t 3)),(6,2,(.t 4)),(8,2,(.t 5))]),o1 7 (.bd [.sl0,.n .i64 0,.sl0] [(1,1,(ci 1)),(2,1,(.t 6))]),
  (o3 (.st 3 (.t 0) (.t 7)))]
abbrev x2F:AF:=⟨8,(.seq (.reg Qq) (.seq (.reg Qp) .ret)),[.ld 3 true (.t 0)]⟩
theorem Qr:ab Tryz.prog (aa Tryz.prog 21) 21=some x2F:=by kernel_rfl
/-! verifier.Verify-/
abbrev Qn:List AO:=
 [o1 1 (.bx 25 0 (.t 0)),o1 2 (.al 44 [.n .i64 0,.n .i64 0,.n .i64 0,.sl0]),o1 3 (.mv (ci 0)),o1 4 (.mv (ci 0))]
abbrev Qm:List AO:=
 [o1 11 (.ld 3 true (.t 1)),
  (o2 12 40 [.t 11]),
  (mt 10 12),o1 13 (.ext 0 (.t 10)),o1 14 (.ext 1 (.t 10)),
  (mt 5 13),
  (mt 6 14)]
abbrev Ql:List AO:=
 [(mt 15 6),o1 16 (.bin .neq (.t 15) (ci 0))]
abbrev Qk:List AO:=
 [o1 17 (.bd [.n .i64 0,.n .i64 0,.n .i64 0,.sl0] []),
  (mt 18 5),
  (mt 19 6),
  (o3 (.st 4 (.t 2) (.t 17))),
  (mt 3 18),
  (mt 4 19)]
abbrev Qj:List AO:=
 [o1 7 (.al 44 [.n .i64 0,.n .i64 0,.n .i64 0,.sl0])]
abbrev Qi:List AO:=
 [o1 21 (.mf 42 [] [.t 1,.t 7]),
  (o2 22 41 [.t 21]),
  (mt 20 22),o1 23 (.ext 0 (.t 20)),o1 24 (.ext 1 (.t 20)),
  (mt 8 23),
  (mt 9 24)]
abbrev Qh:List AO:=
 [(mt 25 9),o1 26 (.bin .neq (.t 25) (ci 0))]
abbrev Qg:List AO:=
 [o1 27 (.bd [.n .i64 0,.n .i64 0,.n .i64 0,.sl0] []),
  (mt 28 8),
  (mt 29 9),
  (o3 (.st 4 (.t 2) (.t 27))),
  (mt 3 28),
  (mt 4 29)]
abbrev Qf:List AO:=
 [o1 30 (.ld 4 true (.t 7)),
  (o3 (.st 4 (.t 2) (.t 30))),o1 3 (.mv (ci 0)),o1 4 (.mv (ci 0))]
abbrev x3F:AF:=⟨31,(.seq (.reg Qn) (.seq (.seq (.reg Qm) (.seq (.reg Ql) (.cond (.t 16) (.seq (.reg Qk) .ret) .skip))) (.seq (.reg Qj) (.seq (.reg Qi) (.seq (.seq (.reg Qh) (.cond (.t 26) (.seq (.reg Qg) .ret) .skip)) (.seq (.reg Qf) .ret)))))),[.ld 4 true (.t 2),.mv (.t 3),.mv (.t 4)]⟩
theorem Qo:ab Tryz.prog (aa Tryz.prog 22) 22=some x3F:=by kernel_rfl
/-! verifier.Check-/
abbrev Qd:List AO:=
 [o1 1 (.bx 25 0 (.t 0)),o1 2 (.mv (ci 0)),o1 3 (.mv (ci 0))]
abbrev Qc:List AO:=
 [o1 12 (.ld 3 true (.t 1)),
  (o2 13 24 [.t 12]),
  (mt 11 13),o1 14 (.ext 0 (.t 11)),o1 15 (.ext 1 (.t 11)),
  (mt 4 14),
  (mt 5 15)]
abbrev Qb:List AO:=
 [(mt 16 5),o1 17 (.bin .neq (.t 16) (ci 0))]
abbrev Qa:List AO:=
 [(mt 18 5),o1 2 (.mv (ci 0)),
  (mt 3 18)]
abbrev P9:List AO:=
 [o1 20 (.fa 2 (.t 1)),o1 21 (.ld 1 false (.t 20)),
  (o2 22 53 [.t 21]),
  (mt 19 22),o1 23 (.ext 0 (.t 19)),o1 24 (.ext 1 (.t 19)),o1 25 (.ext 2 (.t 19)),
  (mt 6 23),
  (mt 7 24),
  (mt 8 25)]
abbrev P8:List AO:=
 [(mt 26 8),o1 27 (.bin .neq (.t 26) (ci 0))]
abbrev P7:List AO:=
 [(mt 28 7),
  (mt 29 8),
  (mt 2 28),
  (mt 3 29)]
abbrev P6:List AO:=
 [o1 30 (.fa 2 (.t 1)),o1 31 (.ld 1 false (.t 30)),o1 32 (.len (.t 31)),o1 33 (.mv (ci 0))]
abbrev P5:List AO:=
 [o1 34 (.bin .lss (.t 33) (.t 32))]
abbrev P4:List AO:=
 [(mt 35 33),o1 36 (.ia 2 (.t 31) (.t 33)),o1 37 (.ld 2 true (.t 36)),o1 10 (.al 82 [.n .i64 0,.n .u32 0]),
  (mt 9 35),
  (o3 (.st 2 (.t 10) (.t 37)))]
abbrev Ja:List AO:=
 [o1 38 (.fa 0 (.t 10)),o1 39 (.ld 1 false (.t 38))]
abbrev I9:List AO:=
 [o1 41 (.bin .eql (.t 39) (ci 1)),
  (mt 40 41)]
abbrev I8:List AO:=
 [o1 42 (.bin .eql (.t 39) (ci 2)),
  (mt 40 42)]
abbrev I7:List AO:=
 [o1 43 (.fa 1 (.t 10)),o1 44 (.ld 1 false (.t 43)),o1 45 (.cvi .i64 (.t 44)),o1 46 (.fa 1 (.t 1)),o1 47 (.ld 1 false (.t 46)),o1 48 (.bin .geq (.t 45) (.t 47))]
abbrev I6:List AO:=
 [(mt 49 9),
  (mt 2 49),o1 3 (.mv (ci 2))]
abbrev I5:List AO:=
 [o1 51 (.bin .eql (.t 39) (ci 3)),
  (mt 50 51)]
abbrev I4:List AO:=
 [o1 52 (.bin .eql (.t 39) (ci 4)),
  (mt 50 52)]
abbrev I3:List AO:=
 [o1 53 (.fa 1 (.t 10)),o1 54 (.ld 1 false (.t 53)),o1 55 (.cvi .i64 (.t 54)),o1 56 (.fa 0 (.t 1)),o1 57 (.ld 1 false (.t 56)),o1 58 (.len (.t 57)),o1 59 (.bin .geq (.t 55) (.t 58))]
abbrev I2:List AO:=
 [(mt 60 9),
  (mt 2 60),o1 3 (.mv (ci 2))]
abbrev Jd:AC:=
 (.seq (.seq (.reg I9) (.cond (.t 40) .skip (.reg I8))) (.cond (.t 40) (.seq (.reg I7) (.cond (.t 48) (.seq (.reg I6) .ret) .skip)) (.seq (.seq (.reg I5) (.cond (.t 50) .skip (.reg I4))) (.cond (.t 50) (.seq (.reg I3) (.cond (.t 59) (.seq (.reg I2) .ret) .skip)) .skip))))
abbrev Jc:AC:=
 (.seq (.reg P4) (.seq (.reg Ja) (.block 2 Jd)))
abbrev I1:List AO:=
 [o1 61 (.bin .add (.t 33) (ci 1)),
  (mt 33 61)]
abbrev Je:AC:=
 (.seq (.reg P5) (.seq (.cond (.t 34) .skip (.exit 0)) (.seq (.block 1 Jc) (.reg I1))))
abbrev Jb:AC:=
 (.loop Je)
abbrev I0:List AO:=
 [o1 2 (.mv (ci 0)),o1 3 (.mv (ci 0))]
abbrev x4F:AF:=⟨62,(.seq (.reg Qd) (.seq (.seq (.reg Qc) (.seq (.reg Qb) (.cond (.t 17) (.seq (.reg Qa) .ret) .skip))) (.seq (.seq (.reg P9) (.seq (.reg P8) (.cond (.t 27) (.seq (.reg P7) .ret) .skip))) (.seq (.seq (.reg P6) (.block 0 Jb)) (.seq (.reg I0) .ret))))),[.mv (.t 2),.mv (.t 3)]⟩
theorem Qe:ab Tryz.prog (aa Tryz.prog 40) 40=some x4F:=by kernel_rfl
/-! instruction.Encode-/
abbrev P0:List AO:=
 [o1 1 (.bx 25 0 (.t 0)),o1 2 (.mv (.c .sl0)),o1 3 (.mv (ci 0))]
abbrev PZ:List AO:=
 [o1 12 (.ld 3 true (.t 1)),
  (o2 13 47 [.t 12]),
  (mt 4 13)]
abbrev PY:List AO:=
 [(mt 14 4),o1 15 (.bin .neq (.t 14) (ci 0))]
abbrev PX:List AO:=
 [(mt 16 4),o1 2 (.mv (.c .sl0)),
  (mt 3 16)]
abbrev PW:List AO:=
 [o1 17 (.fa 0 (.t 1)),o1 18 (.ld 1 false (.t 17)),o1 19 (.len (.t 18)),
  (o2 20 48 [(.c .sl0),.t 19]),
  (mt 5 20)]
abbrev PV:List AO:=
 [o1 21 (.fa 0 (.t 1)),o1 22 (.ld 1 false (.t 21)),o1 23 (.len (.t 22)),o1 24 (.mv (ci 0))]
abbrev PU:List AO:=
 [o1 25 (.bin .lss (.t 24) (.t 23))]
abbrev PS:List AO:=
 [o1 26 (.ia 2 (.t 22) (.t 24)),o1 27 (.ld 2 true (.t 26)),o1 7 (.al 50 [.b false,.n .i64 0]),
  (o3 (.st 2 (.t 7) (.t 27)))]
abbrev P2:List (Nat×AO):=
 [(2,(mt 28 5)),(2,(o1 29 (.fa 1 (.t 7)))),(2,(o1 32 (.fa 0 (.t 7)))),(1,(o1 30 (.ld 1 false (.t 29)))),(2,(o1 31 (.bin .mul (ci 2) (.t 30)))),(1,(o1 33 (.ld 1 false (.t 32)))),
  (0,(o2 34 49 [.t 33])),(2,(o1 35 (.cvi .i64 (.t 34)))),(2,(o1 36 (.bin .add (.t 31) (.t 35)))),
  (3,(o2 37 48 [.t 28,.t 36])),
  (2,(mt 5 37))]
abbrev P3:AC:=
 (.seq (.reg PS) (.mix P2))
abbrev Hr:List AO:=
 [o1 38 (.bin .add (.t 24) (ci 1)),
  (mt 24 38)]
abbrev Hx:AC:=
 (.seq (.reg PU) (.seq (.cond (.t 25) .skip (.exit 0)) (.seq (.block 1 P3) (.reg Hr))))
abbrev Hv:AC:=
 (.loop Hx)
abbrev Hs:List (Nat×AO):=
 [(2,(mt 39 5)),(2,(o1 40 (.fa 1 (.t 1)))),(2,(o1 43 (.fa 2 (.t 1)))),(1,(o1 41 (.ld 1 false (.t 40)))),(1,(o1 44 (.ld 1 false (.t 43)))),(2,(o1 45 (.len (.t 44)))),
  (0,(o2 42 48 [.t 39,.t 41])),
  (3,(o2 46 48 [.t 42,.t 45])),
  (2,(mt 5 46))]
abbrev Hq:List AO:=
 [o1 47 (.fa 2 (.t 1)),o1 48 (.ld 1 false (.t 47)),o1 49 (.len (.t 48)),o1 50 (.mv (ci 0))]
abbrev Hp:List AO:=
 [o1 51 (.bin .lss (.t 50) (.t 49))]
abbrev Ho:List AO:=
 [o1 52 (.ia 2 (.t 48) (.t 50)),o1 53 (.ld 2 true (.t 52)),o1 9 (.al 82 [.n .i64 0,.n .u32 0]),
  (o3 (.st 2 (.t 9) (.t 53)))]
abbrev Hn:List AO:=
 [(mt 54 5),o1 55 (.fa 0 (.t 9)),o1 56 (.ld 1 false (.t 55)),o1 57 (.cvi .u8 (.t 56)),o1 58 (.bs 5 1 1 [.n .u8 0] [(0,1,(.t 57))]),o1 59 (.app 5 1 1 (.t 54) (.t 58)),
  (mt 5 59)]
abbrev Hm:List AO:=
 [o1 61 (.fa 0 (.t 9)),o1 62 (.ld 1 false (.t 61)),
  (o2 63 50 [.t 62]),
  (mt 60 63),o1 64 (.ext 0 (.t 60)),o1 65 (.ext 1 (.t 60)),o1 10 (.al 96 [.s ⟨#[]⟩,.s ⟨#[]⟩,.s ⟨#[]⟩,.n .u64 0,.b false]),
  (o3 (.st 5 (.t 10) (.t 64))),
  (mt 11 65)]
abbrev Hl:List AO:=
 [o1 66 (.fa 4 (.t 10)),o1 67 (.ld 1 false (.t 66))]
abbrev Hk:List AO:=
 [(mt 68 5),o1 69 (.fa 1 (.t 9)),o1 70 (.ld 1 false (.t 69)),o1 71 (.cvi .i64 (.t 70)),
  (o2 72 48 [.t 68,.t 71]),
  (mt 5 72)]
abbrev Hu:AC:=
 (.seq (.reg Ho) (.seq (.reg Hn) (.seq (.reg Hm) (.seq (.reg Hl) (.cond (.t 67) (.reg Hk) .skip)))))
abbrev Hj:List AO:=
 [o1 73 (.bin .add (.t 50) (ci 1)),
  (mt 50 73)]
abbrev Hw:AC:=
 (.seq (.reg Hp) (.seq (.cond (.t 51) .skip (.exit 2)) (.seq (.block 3 Hu) (.reg Hj))))
abbrev Ht:AC:=
 (.loop Hw)
abbrev Hi:List AO:=
 [(mt 74 5),
  (mt 2 74),o1 3 (.mv (ci 0))]
abbrev x5F:AF:=⟨75,(.seq (.reg P0) (.seq (.seq (.reg PZ) (.seq (.reg PY) (.cond (.t 15) (.seq (.reg PX) .ret) .skip))) (.seq (.reg PW) (.seq (.seq (.reg PV) (.block 0 Hv)) (.seq (.mix Hs) (.seq (.seq (.reg Hq) (.block 2 Ht)) (.seq (.reg Hi) .ret))))))),[.mv (.t 2),.mv (.t 3)]⟩
theorem P1:ab Tryz.prog (aa Tryz.prog 24) 24=some x5F:=by kernel_rfl
/-! instruction.form-/
abbrev PP:List AO:=
 [o1 1 (.bx 25 0 (.t 0)),o1 2 (.mv (ci 0))]
abbrev PO:List AO:=
 [o1 7 (.fa 0 (.t 1)),o1 8 (.ld 1 false (.t 7)),
  (o2 9 75 [.t 8]),
  (mt 3 9)]
abbrev PN:List AO:=
 [(mt 10 3),o1 11 (.bin .neq (.t 10) (ci 0))]
abbrev PM:List AO:=
 [(mt 12 3),
  (mt 2 12)]
abbrev PL:List AO:=
 [o1 14 (.fa 1 (.t 1)),o1 15 (.ld 1 false (.t 14)),o1 16 (.bin .lss (.t 15) (ci 0)),
  (mt 17 16),
  (o4 18 17 (.fa 1 (.t 1))),
  (o4 19 17 (.ld 1 false (.t 18))),
  (o4 20 17 (.bin .gtr (.t 19) (ci 16))),o1 21 (.pick (.t 17) (.c (.b true)) (.t 20)),
  (mt 13 21)]
abbrev PK:List AO:=
 [o1 2 (.mv (ci 2))]
abbrev PJ:List AO:=
 [o1 23 (.fa 2 (.t 1)),o1 24 (.ld 1 false (.t 23)),o1 25 (.len (.t 24)),o1 26 (.bin .gtr (.t 25) (ci 1024)),
  (mt 22 26)]
abbrev PH:List AO:=
 [o1 2 (.mv (ci 6))]
abbrev PR:AC:=
 (.seq (.reg PL) (.cond (.t 13) (.seq (.reg PK) .ret) (.seq (.reg PJ) (.cond (.t 22) (.seq (.reg PH) .ret) .skip))))
abbrev PG:List AO:=
 [o1 27 (.fa 2 (.t 1)),o1 28 (.ld 1 false (.t 27)),o1 29 (.len (.t 28)),o1 30 (.mv (ci 0))]
abbrev FY:List AO:=
 [o1 31 (.bin .lss (.t 30) (.t 29))]
abbrev FX:List AO:=
 [o1 32 (.ia 2 (.t 28) (.t 30)),o1 33 (.ld 2 true (.t 32)),o1 5 (.al 82 [.n .i64 0,.n .u32 0]),
  (o3 (.st 2 (.t 5) (.t 33)))]
abbrev FW:List AO:=
 [o1 34 (.ld 2 true (.t 5)),
  (o2 35 76 [.t 34]),
  (mt 6 35)]
abbrev FV:List AO:=
 [(mt 36 6),o1 37 (.bin .neq (.t 36) (ci 0))]
abbrev FU:List AO:=
 [(mt 38 6),
  (mt 2 38)]
abbrev F0:AC:=
 (.seq (.reg FX) (.seq (.reg FW) (.seq (.reg FV) (.cond (.t 37) (.seq (.reg FU) .ret) .skip))))
abbrev FT:List AO:=
 [o1 39 (.bin .add (.t 30) (ci 1)),
  (mt 30 39)]
abbrev F1:AC:=
 (.seq (.reg FY) (.seq (.cond (.t 31) .skip (.exit 1)) (.seq (.block 2 F0) (.reg FT))))
abbrev FZ:AC:=
 (.loop F1)
abbrev FS:List AO:=
 [o1 2 (.mv (ci 0))]
abbrev x6F:AF:=⟨40,(.seq (.reg PP) (.seq (.seq (.reg PO) (.seq (.reg PN) (.cond (.t 11) (.seq (.reg PM) .ret) .skip))) (.seq (.block 0 PR) (.seq (.seq (.reg PG) (.block 1 FZ)) (.seq (.reg FS) .ret))))),[.mv (.t 2)]⟩
theorem PQ:ab Tryz.prog (aa Tryz.prog 47) 47=some x6F:=by kernel_rfl
/-! instruction.arrays-/
abbrev PE:List AO:=
 [o1 2 (.mv (ci 0))]
abbrev PD:List AO:=
 [(mt 6 0),o1 7 (.len (.t 6)),o1 8 (.bin .gtr (.t 7) (ci 8))]
abbrev PC:List AO:=
 [o1 2 (.mv (ci 6))]
abbrev PB:List AO:=
 [o1 3 (.mv (ci 65536))]
abbrev PA:List AO:=
 [(mt 9 0),o1 10 (.len (.t 9)),o1 11 (.mv (ci 0))]
abbrev Pz:List AO:=
 [o1 12 (.bin .lss (.t 11) (.t 10))]
abbrev Py:List AO:=
 [o1 13 (.ia 2 (.t 9) (.t 11)),o1 14 (.ld 2 true (.t 13)),o1 5 (.al 50 [.b false,.n .i64 0]),
  (o3 (.st 2 (.t 5) (.t 14)))]
abbrev Px:List AO:=
 [o1 15 (.fa 1 (.t 5)),o1 16 (.ld 1 false (.t 15)),o1 17 (.bin .lss (.t 16) (ci 1)),
  (mt 18 17),
  (o4 19 18 (.fa 1 (.t 5))),
  (o4 20 18 (.ld 1 false (.t 19))),
  (o4 21 18 (.mv (.t 3))),
  (o4 22 18 (.bin .gtr (.t 20) (.t 21))),o1 23 (.pick (.t 18) (.c (.b true)) (.t 22))]
abbrev Pw:List AO:=
 [o1 2 (.mv (ci 2))]
abbrev Pv:List AO:=
 [(mt 24 3),o1 25 (.fa 1 (.t 5)),o1 26 (.ld 1 false (.t 25)),o1 27 (.bin .sub (.t 24) (.t 26)),
  (mt 3 27)]
abbrev El:AC:=
 (.seq (.reg Py) (.seq (.seq (.reg Px) (.cond (.t 23) (.seq (.reg Pw) .ret) .skip)) (.reg Pv)))
abbrev Ej:List AO:=
 [o1 28 (.bin .add (.t 11) (ci 1)),
  (mt 11 28)]
abbrev Em:AC:=
 (.seq (.reg Pz) (.seq (.cond (.t 12) .skip (.exit 0)) (.seq (.block 1 El) (.reg Ej))))
abbrev Ek:AC:=
 (.loop Em)
abbrev Ei:List AO:=
 [o1 2 (.mv (ci 0))]
abbrev x7F:AF:=⟨29,(.seq (.reg PE) (.seq (.seq (.reg PD) (.cond (.t 8) (.seq (.reg PC) .ret) .skip)) (.seq (.reg PB) (.seq (.seq (.reg PA) (.block 0 Ek)) (.seq (.reg Ei) .ret))))),[.mv (.t 2)]⟩
theorem PF:ab Tryz.prog (aa Tryz.prog 75) 75=some x7F:=by kernel_rfl
/-! instruction.Check-/
abbrev Ps:List AO:=
 [o1 1 (.bx 82 0 (.t 0)),o1 2 (.mv (ci 0))]
abbrev Pr:List AO:=
 [o1 6 (.fa 0 (.t 1)),o1 7 (.ld 1 false (.t 6)),
  (o2 8 50 [.t 7]),
  (mt 5 8),o1 9 (.ext 0 (.t 5)),o1 10 (.ext 1 (.t 5)),o1 3 (.al 96 [.s ⟨#[]⟩,.s ⟨#[]⟩,.s ⟨#[]⟩,.n .u64 0,.b false]),
  (o3 (.st 5 (.t 3) (.t 9))),
  (mt 4 10)]
abbrev Pq:List AO:=
 [(mt 12 4),o1 13 (.un .not (.t 12)),
  (mt 11 13)]
abbrev Pp:List AO:=
 [o1 2 (.mv (ci 1))]
abbrev Po:List AO:=
 [o1 15 (.fa 1 (.t 1)),o1 16 (.ld 1 false (.t 15)),o1 17 (.cvi .u64 (.t 16)),o1 18 (.fa 3 (.t 3)),o1 19 (.ld 1 false (.t 18)),o1 20 (.bin .geq (.t 17) (.t 19)),
  (mt 14 20)]
abbrev Pn:List AO:=
 [o1 2 (.mv (ci 2))]
abbrev Pu:AC:=
 (.seq (.reg Pq) (.cond (.t 11) (.seq (.reg Pp) .ret) (.seq (.reg Po) (.cond (.t 14) (.seq (.reg Pn) .ret) .skip))))
abbrev Pm:List AO:=
 [o1 2 (.mv (ci 0))]
abbrev x8F:AF:=⟨21,(.seq (.reg Ps) (.seq (.reg Pr) (.seq (.block 0 Pu) (.seq (.reg Pm) .ret)))),[.mv (.t 2)]⟩
theorem Pt:ab Tryz.prog (aa Tryz.prog 76) 76=some x8F:=by kernel_rfl
/-! instruction.known-/
abbrev Pk:List AO:=
 [o1 2 (.al 96 [.s ⟨#[]⟩,.s ⟨#[]⟩,.s ⟨#[]⟩,.n .u64 0,.b false]),o1 3 (.mv (.c (.b false)))]
abbrev Pj:List AO:=
 [(mt 4 0),o1 5 (.bin .lss (.t 4) (ci 0)),
  (mt 6 5),
  (o4 7 6 (.mv (.t 0))),
  (o4 8 6 (.bin .geq (.t 7) (ci 36))),o1 9 (.pick (.t 6) (.c (.b true)) (.t 8))]
abbrev Ph:List AO:=
 [o1 10 (.bd [.s ⟨#[]⟩,.s ⟨#[]⟩,.s ⟨#[]⟩,.n .u64 0,.b false] []),
  (o3 (.st 5 (.t 2) (.t 10))),o1 3 (.mv (.c (.b false)))]
abbrev Pg:List AO:=
 [(o2 11 79 []),
  (mt 12 0),o1 13 (.ix 36 5 true (.t 11) (.t 12)),
  (o3 (.st 5 (.t 2) (.t 13))),o1 3 (.mv (.c (.b true)))]
abbrev x9F:AF:=⟨14,(.seq (.reg Pk) (.seq (.seq (.reg Pj) (.cond (.t 9) (.seq (.reg Ph) .ret) .skip)) (.seq (.reg Pg) .ret))),[.ld 5 true (.t 2),.mv (.t 3)]⟩
theorem Pl:ab Tryz.prog (aa Tryz.prog 50) 50=some x9F:=by kernel_rfl
/-! instruction.operations-/
abbrev Oe:List AO:=
 [o1 0 (.al 138 [.s ⟨#[]⟩,.s ⟨#[]⟩,.s ⟨#[]⟩,.n .u64 0,.b false,.s ⟨#[]⟩,.s ⟨#[]⟩,.s ⟨#[]⟩,.n .u64 0,.b false,.s ⟨#[]⟩,.s ⟨#[]⟩,.s ⟨#[]⟩,.n .u64 0,.b false,.s ⟨#[]⟩,.s ⟨#[]⟩,.s ⟨#[]⟩,.n .u64 0,.b false,.s ⟨#[]⟩,.s ⟨#[]⟩,.s ⟨#[]⟩,.n .u64 0,.b false,.s ⟨#[]⟩,.s ⟨#[]⟩,.s ⟨#[]⟩,.n .u64 0,.b false,.s ⟨#[]⟩,.s ⟨#[]⟩,.s ⟨#[]⟩,.n .u64 0,.b false,.s ⟨#[]⟩,.s ⟨#[]⟩,.s ⟨#[]⟩,.n .u64 0,.b false,.s ⟨#[]⟩,.s ⟨#[]⟩,.s ⟨#[]⟩,.n .u64 0,.b false,.s ⟨#[]⟩,.s ⟨#[]⟩,.s ⟨#[]⟩,.n .u64 0,.b false,.s ⟨#[]⟩,.s ⟨#[]⟩,.s ⟨#[]⟩,.n .u64 0,.b false,.s ⟨#[]⟩,.s ⟨#[]⟩,.s ⟨#[]⟩,.n .u64 0,.b false,.s ⟨#[]⟩,.s ⟨#[]⟩,.s ⟨#[]⟩,.n .u64 0,.b false,.s ⟨#[]⟩,.s ⟨#[]⟩,.s ⟨#[]⟩,.n .u64 0,.b false,.s ⟨#[]⟩,.s ⟨#[]⟩,.s ⟨#[]⟩,.n .u64 0,.b false,.s ⟨#[]⟩,.s ⟨#[]⟩,.s ⟨#[]⟩,.n .u64 0,.b false,.s ⟨#[]⟩,.s ⟨#[]⟩,.s ⟨#[]⟩,.n .u64 0,.b false,.s ⟨#[]⟩,.s ⟨#[]⟩,.s ⟨#[]⟩,.n .u64 0,.b false,.s ⟨#[]⟩,.s ⟨#[]⟩,.s ⟨#[]⟩,.n .u64 0,.b false,.s ⟨#[]⟩,.s ⟨#[]⟩,.s ⟨#[]⟩,.n .u64 0,.b false,.s ⟨#[]⟩,.s ⟨#[]⟩,.s ⟨#[]⟩,.n .u64 0,.b false,.s ⟨#[]⟩,.s ⟨#[]⟩,.s ⟨#[]⟩,.n .u64 0,.b false,.s ⟨#[]⟩,.s ⟨#[]⟩,.s ⟨#[]⟩,.n .u64 0,.b false,.s ⟨#[]⟩,.s ⟨#[]⟩,.s ⟨#[]⟩,.n .u64 0,.b false,.s ⟨#[]⟩,.s ⟨#[]⟩,.s ⟨#[]⟩,.n .u64 0,.b false,.s ⟨#[]⟩,.s ⟨#[]⟩,.s ⟨#[]⟩,.n .u64 0,.b false,.s ⟨#[]⟩,.s ⟨#[]⟩,.s ⟨#[]⟩,.n .u64 0,.b false,.s ⟨#[]⟩,.s ⟨#[]⟩,.s ⟨#[]⟩,.n .u64 0,.b false,.s ⟨#[]⟩,.s ⟨#[]⟩,.s ⟨#[]⟩,.n .u64 0,.b false,.s ⟨#[]⟩,.s ⟨#[]⟩,.s ⟨#[]⟩,.n .u64 0,.b false,.s ⟨#[]⟩,.s ⟨#[]⟩,.s ⟨#[]⟩,.n .u64 0,.b false,.s ⟨#[]⟩,.s ⟨#[]⟩,.s ⟨#[]⟩,.n .u64 0,.b false,.s ⟨#[]⟩,.s ⟨#[]⟩,.s ⟨#[]⟩,.n .u64 0,.b false,.s ⟨#[]⟩,.s ⟨#[]⟩,.s ⟨#[]⟩,.n .u64 0,.b false,.s ⟨#[]⟩,.s ⟨#[]⟩,.s ⟨#[]⟩,.n .u64 0,.b false,.s ⟨#[]⟩,.s ⟨#[]⟩,.s ⟨#[]⟩,.n .u64 0,.b false])]
abbrev Od:List AO:=
 [o1 1 (.mv (.c (.f 95 [] [])))]
abbrev Oc:List AO:=
 [o1 2 (.mv (.c (.f 96 [] [])))]
abbrev Ob:List AO:=
 [o1 3 (.bd [.s ⟨#[]⟩,.s ⟨#[]⟩,.s ⟨#[]⟩,.n .u64 0,.b false] [(0,1,(.c (.s ⟨#[112,117,115,104]⟩))),(1,1,(.c (.s ⟨#[]⟩))),(2,1,(.c (.s ⟨#[110]⟩))),(3,1,(.c (.n .u64 4294967296))),(4,1,(.c (.b true)))]),o1 4 (.bd [.s ⟨#[]⟩,.s ⟨#[]⟩,.s ⟨#[]⟩,.n .u64 0,.b false] [(0,1,(.c (.s ⟨#[108,111,97,100]⟩))),(1,1,(.c (.s ⟨#[]⟩))),(2,1,(.c (.s ⟨#[110]⟩))),(3,1,(.c (.n .u64 16))),(4,1,(.c (.b true)))]),o1 5 (.bd [.s ⟨#[]⟩,.s ⟨#[]⟩,.s ⟨#[]⟩,.n .u64 0,.b false] [(0,1,(.c (.s ⟨#[115,116,111,114,101]⟩))),(1,1,(.c (.s ⟨#[110]⟩))),(2,1,(.c (.s ⟨#[]⟩))),(3,1,(.c (.n .u64 16))),(4,1,(.c (.b true)))]),o1 6 (.bd [.s ⟨#[]⟩,.s ⟨#[]⟩,.s ⟨#[]⟩,.n .u64 0,.b false] [(0,1,(.c (.s ⟨#[103,101,116]⟩))),(1,1,(.c (.s ⟨#[110]⟩))),(2,1,(.c (.s ⟨#[110]⟩))),(3,1,(.c (.n .u64 8))),(4,1,(.c (.b true)))]),o1 7 (.bd [.s ⟨#[]⟩,.s ⟨#[]⟩,.s ⟨#[]⟩,.n .u64 0,.b false] [(0,1,(.c (.s ⟨#[112,117,116]⟩))),(1,1,(.c (.s ⟨#[110,110]⟩))),(2,1,(.c (.s ⟨#[]⟩))),(3,1,(.c (.n .u64 8))),(4,1,(.c (.b true)))]),
  (mt 8 2),⟨some 9,none,.cl (.t 8) [(.c (.s ⟨#[100,117,112]⟩)),(.c (.s ⟨#[97]⟩)),(.c (.s ⟨#[97,97]⟩))]⟩,
  (mt 10 2),⟨some 11,none,.cl (.t 10) [(.c (.s ⟨#[100,114,111,112]⟩)),(.c (.s ⟨#[97]⟩)),(.c (.s ⟨#[]⟩))]⟩,
  (mt 12 2),⟨some 13,none,.cl (.t 12) [(.c (.s ⟨#[115,119,97,112]⟩)),(.c (.s ⟨#[97,98]⟩)),(.c (.s ⟨#[98,97]⟩))]⟩,
  (mt 14 1),⟨some 15,none,.cl (.t 14) [(.c (.s ⟨#[97,100,100]⟩))]⟩,
  (mt 16 1),⟨some 17,none,.cl (.t 16) [(.c (.s ⟨#[115,117,98]⟩))]⟩,
  (mt 18 1),⟨some 19,none,.cl (.t 18) [(.c (.s ⟨#[109,117,108]⟩))]⟩,
  (mt 20 1),⟨some 21,none,.cl (.t 20) [(.c (.s ⟨#[100,105,118]⟩))]⟩,
  (mt 22 1),⟨some 23,none,.cl (.t 22) [(.c (.s ⟨#[109,111,100]⟩))]⟩,
  (mt 24 1),⟨some 25,none,.cl (.t 24) [(.c (.s ⟨#[97,110,100]⟩))]⟩,
  (mt 26 1),⟨some 27,none,.cl (.t 26) [(.c (.s ⟨#[111,114]⟩))]⟩,
  (mt 28 1),⟨some 29,none,.cl (.t 28) [(.c (.s ⟨#[120,111,114]⟩))]⟩,
  (mt 30 1),⟨some 31,none,.cl (.t 30) [(.c (.s ⟨#[115,104,108]⟩))]⟩,
  (mt 32 1),⟨some 33,none,.cl (.t 32) [(.c (.s ⟨#[115,104,114]⟩))]⟩,
  (mt 34 1),⟨some 35,none,.cl (.t 34) [(.c (.s ⟨#[109,105,110]⟩))]⟩,
  (mt 36 1),⟨some 37,none,.cl (.t 36) [(.c (.s ⟨#[109,97,120]⟩))]⟩,
  (mt 38 1),⟨some 39,none,.cl (.t 38) [(.c (.s ⟨#[104,97,115,104]⟩))]⟩,
  (mt 40 2),⟨some 41,none,.cl (.t 40) [(.c (.s ⟨#[101,113]⟩)),(.c (.s ⟨#[110,110]⟩)),(.c (.s ⟨#[116]⟩))]⟩,
  (mt 42 2),⟨some 43,none,.cl (.t 42) [(.c (.s ⟨#[108,101,115,115]⟩)),(.c (.s ⟨#[110,110]⟩)),(.c (.s ⟨#[116]⟩))]⟩,
  (mt 44 2),⟨some 45,none,.cl (.t 44) [(.c (.s ⟨#[110,111,116]⟩)),(.c (.s ⟨#[116]⟩)),(.c (.s ⟨#[116]⟩))]⟩,
  (mt 46 2),⟨some 47,none,.cl (.t 46) [(.c (.s ⟨#[98,111,116,104]⟩)),(.c (.s ⟨#[116,116]⟩)),(.c (.s ⟨#[116]⟩))]⟩,
  (mt 48 2),⟨some 49,none,.cl (.t 48) [(.c (.s ⟨#[101,105,116,104,101,114]⟩)),(.c (.s ⟨#[116,116]⟩)),(.c (.s ⟨#[116]⟩))]⟩,
  (mt 50 2),⟨some 51,none,.cl (.t 50) [(.c (.s ⟨#[105,110,116]⟩)),(.c (.s ⟨#[116]⟩)),(.c (.s ⟨#[110]⟩))]⟩,
  (mt 52 2),⟨some 53,none,.cl (.t 52) [(.c (.s ⟨#[105,102]⟩)),(.c (.s ⟨#[116]⟩)),(.c (.s ⟨#[]⟩))]⟩,
  (mt 54 2),⟨some 55,none,.cl (.t 54) [(.c (.s ⟨#[101,108,115,101]⟩)),(.c (.s ⟨#[]⟩)),(.c (.s ⟨#[]⟩))]⟩,
  (mt 56 2),⟨some 57,none,.cl (.t 56) [(.c (.s ⟨#[108,111,111,112]⟩)),(.c (.s ⟨#[110]⟩)),(.c (.s ⟨#[]⟩))]⟩,
  (mt 58 2),⟨some 59,none,.cl (.t 58) [(.c (.s ⟨#[108,101,97,118,101]⟩)),(.c (.s ⟨#[116]⟩)),(.c (.s ⟨#[]⟩))]⟩,
  (mt 60 2),⟨some 61,none,.cl (.t 60) [(.c (.s ⟨#[101,110,100]⟩)),(.c (.s ⟨#[]⟩)),(.c (.s ⟨#[]⟩))]⟩,
  (mt 62 2),⟨some 63,none,.cl (.t 62) [(.c (.s ⟨#[105,110,112,117,116]⟩)),(.c (.s ⟨#[]⟩)),(.c (.s ⟨#[110]⟩))]⟩,
  (mt 64 2),⟨some 65,none,.cl (.t 64) [(.c (.s ⟨#[101,110,100,101,100]⟩)),(.c (.s ⟨#[]⟩)),(.c (.s ⟨#[116]⟩))]⟩,
  (mt 66 2),⟨some 67,none,.cl (.t 66) [(.c (.s ⟨#[101,109,105,116]⟩)),(.c (.s ⟨#[110]⟩)),(.c (.s ⟨#[]⟩))]⟩,o1 68 (.bd [.s ⟨#[]⟩,.s ⟨#[]⟩,.s ⟨#[]⟩,.n .u64 0,.b false] [(0,1,(.c (.s ⟨#[99,111,110,116,101,120,116]⟩))),(1,1,(.c (.s ⟨#[110]⟩))),(2,1,(.c (.s ⟨#[]⟩))),(3,1,(.c (.n .u64 16))),(4,1,(.c (.b true)))]),o1 69 (.bd [.s ⟨#[]⟩,.s ⟨#[]⟩,.s ⟨#[]⟩,.n .u64 0,.b false,.s ⟨#[]⟩,.s ⟨#[]⟩,.s ⟨#[]⟩,.n .u64 0,.b false,.s ⟨#[]⟩,.s ⟨#[]⟩,.s ⟨#[]⟩,.n .u64 0,.b false,.s ⟨#[]⟩,.s ⟨#[]⟩,.s ⟨#[]⟩,.n .u64 0,.b false,.s ⟨#[]⟩,.s ⟨#[]⟩,.s ⟨#[]⟩,.n .u64 0,.b false,.s ⟨#[]⟩,.s ⟨#[]⟩,.s ⟨#[]⟩,.n .u64 0,.b false,.s ⟨#[]⟩,.s ⟨#[]⟩,.s ⟨#[]⟩,.n .u64 0,.b false,.s ⟨#[]⟩,.s ⟨#[]⟩,.s ⟨#[]⟩,.n .u64 0,.b false,.s ⟨#[]⟩,.s ⟨#[]⟩,.s ⟨#[]⟩,.n .u64 0,.b false,.s ⟨#[]⟩,.s ⟨#[]⟩,.s ⟨#[]⟩,.n .u64 0,.b false,.s ⟨#[]⟩,.s ⟨#[]⟩,.s ⟨#[]⟩,.n .u64 0,.b false,.s ⟨#[]⟩,.s ⟨#[]⟩,.s ⟨#[]⟩,.n .u64 0,.b false,.s ⟨#[]⟩,.s ⟨#[]⟩,.s ⟨#[]⟩,.n .u64 0,.b false,.s ⟨#[]⟩,.s ⟨#[]⟩,.s ⟨#[]⟩,.n .u64 0,.b false,.s ⟨#[]⟩,.s ⟨#[]⟩,.s ⟨#[]⟩,.n .u64 0,.b false,.s ⟨#[]⟩,.s ⟨#[]⟩,.s ⟨#[]⟩,.n .u64 0,.b false,.s ⟨#[]⟩,.s ⟨#[]⟩,.s ⟨#[]⟩,.n .u64 0,.b false,.s ⟨#[]⟩,.s ⟨#[]⟩,.s ⟨#[]⟩,.n .u64 0,.b false,.s ⟨#[]⟩,.s ⟨#[]⟩,.s ⟨#[]⟩,.n .u64 0,.b false,.s ⟨#[]⟩,.s ⟨#[]⟩,.s ⟨#[]⟩,.n .u64 0,.b false,.s ⟨#[]⟩,.s ⟨#[]⟩,.s ⟨#[]⟩,.n .u64 0,.b false,.s ⟨#[]⟩,.s ⟨#[]⟩,.s ⟨#[]⟩,.n .u64 0,.b false,.s ⟨#[]⟩,.s ⟨#[]⟩,.s ⟨#[]⟩,.n .u64 0,.b false,.s ⟨#[]⟩,.s ⟨#[]⟩,.s ⟨#[]⟩,.n .u64 0,.b false,.s ⟨#[]⟩,.s ⟨#[]⟩,.s ⟨#[]⟩,.n .u64 0,.b false,.s ⟨#[]⟩,.s ⟨#[]⟩,.s ⟨#[]⟩,.n .u64 0,.b false,.s ⟨#[]⟩,.s ⟨#[]⟩,.s ⟨#[]⟩,.n .u64 0,.b false,.s ⟨#[]⟩,.s ⟨#[]⟩,.s ⟨#[]⟩,.n .u64 0,.b false,.s ⟨#[]⟩,.s ⟨#[]⟩,.s ⟨#[]⟩,.n .u64 0,.b false,.s ⟨#[]⟩,.s ⟨#[]⟩,.s ⟨#[]⟩,.n .u64 0,.b false,.s ⟨#[]⟩,.s ⟨#[]⟩,.s ⟨#[]⟩,.n .u64 0,.b false,.s ⟨#[]⟩,.s ⟨#[]⟩,.s ⟨#[]⟩,.n .u64 0,.b false,.s ⟨#[]⟩,.s ⟨#[]⟩,.s ⟨#[]⟩,.n .u64 0,.b false,.s ⟨#[]⟩,.s ⟨#[]⟩,.s ⟨#[]⟩,.n .u64 0,.b false,.s ⟨#[]⟩,.s ⟨#[]⟩,.s ⟨#[]⟩,.n .u64 0,.b false,.s ⟨#[]⟩,.s ⟨#[]⟩,.s ⟨#[]⟩,.n .u64 0,.b false] [(0,5,(.t 3)),(5,5,(.t 4)),(10,5,(.t 5)),(15,5,(.t 6)),(20,5,(.t 7)),(25,5,(.t 9)),(30,5,(.t 11)),(35,5,(.t 13)),(40,5,(.t 15)),(45,5,(.t 17)),(50,5,(.t 19)),(55,5,(.t 21)),(60,5,(.t 23)),(65,5,(.t 25)),(70,5,(.t 27)),(75,5,(.t 29)),(80,5,(.t 31)),(85,5,(.t 33)),(90,5,(.t 35)),(95,5,(.t 37)),(100,5,(.t 39)),(105,5,(.t 41)),(110,5,(.t 43)),(115,5,(.t 45)),(120,5,(.t 47)),(125,5,(.t 49)),(130,5,(.t 51)),(135,5,(.t 53)),(140,5,(.t 55)),(145,5,(.t 57)),(150,5,(.t 59)),(155,5,(.t 61)),(160,5,(.t 63)),(165,5,(.t 65)),(170,5,(.t 67)),(175,5,(.t 68))]),
  (o3 (.st 180 (.t 0) (.t 69)))]
abbrev Oh:AF:=⟨70,(.seq (.reg Oe) (.seq (.reg Od) (.seq (.reg Oc) (.seq (.reg Ob) .ret)))),[.ld 180 true (.t 0)]⟩
theorem Og:ab Tryz.prog (aa Tryz.prog 79) 79=some Oh:=by kernel_rfl
/-! wire.PutInt-/
abbrev N8:List AO:=
 [o1 4 (.mv (.c .sl0))]
abbrev N7:List AO:=
 [(mt 5 0),
  (o2 6 78 [.t 5]),
  (mt 7 1),
  (o2 8 77 [.t 6,.t 7]),
  (mt 4 8)]
abbrev Oa:AF:=⟨9,(.seq (.reg N8) (.seq (.reg N7) .ret)),[.mv (.t 4)]⟩
theorem N9:ab Tryz.prog (aa Tryz.prog 48) 48=some Oa:=by kernel_rfl
/-! slices.Clone[[]byte,byte]-/
abbrev N5:List AO:=
 [o1 2 (.mv (.c .sl0))]
abbrev N4:List AO:=
 [(mt 3 0),⟨some 4,none,.sn false (.t 3)⟩]
abbrev N3:List AO:=
 [o1 2 (.mv (.c .sl0))]
abbrev N2:List AO:=
 [o1 5 (.bs 5 1 0 [] []),
  (mt 6 0),o1 7 (.app 5 1 1 (.t 5) (.t 6)),
  (mt 2 7)]
abbrev N6:AF:=⟨8,(.seq (.reg N5) (.seq (.seq (.reg N4) (.cond (.t 4) (.seq (.reg N3) .ret) .skip)) (.seq (.reg N2) .ret))),[.mv (.t 2)]⟩
theorem pJ:ab Tryz.prog (aa Tryz.prog 78) 78=some N6:=by kernel_rfl
/-! wire.put-/
abbrev NY:List AO:=
 [o1 4 (.mv (.c .sl0))]
abbrev NX:List AO:=
 [(mt 8 1),
  (o2 9 93 [.t 8]),
  (mt 1 9)]
abbrev NW:List AO:=
 [(mt 10 1),
  (o2 11 94 [.t 10]),
  (mt 5 11)]
abbrev NV:List AO:=
 [(mt 12 5),o1 13 (.bin .sub (ci 8) (.t 12)),o1 14 (.bin .shl (.c (.n .u8 255)) (.t 13)),
  (mt 6 14)]
abbrev NU:List AO:=
 [(mt 15 0),
  (mt 16 6),
  (mt 17 1),
  (mt 18 5),o1 19 (.bin .mul (ci 8) (.t 18)),o1 20 (.bin .shr (.t 17) (.t 19)),o1 21 (.cvi .u8 (.t 20)),o1 22 (.bin .or (.t 16) (.t 21)),o1 23 (.bs 5 1 1 [.n .u8 0] [(0,1,(.t 22))]),o1 24 (.app 5 1 1 (.t 15) (.t 23)),
  (mt 0 24)]
abbrev NT:List AO:=
 [(mt 25 5),o1 26 (.bin .sub (.t 25) (ci 1)),
  (mt 7 26)]
abbrev NS:List AO:=
 [(mt 27 7),o1 28 (.bin .geq (.t 27) (ci 0))]
abbrev NQ:List AO:=
 [(mt 31 0),
  (mt 32 1),
  (mt 33 7),o1 34 (.bin .mul (ci 8) (.t 33)),o1 35 (.bin .shr (.t 32) (.t 34)),o1 36 (.cvi .u8 (.t 35)),o1 37 (.bs 5 1 1 [.n .u8 0] [(0,1,(.t 36))]),o1 38 (.app 5 1 1 (.t 31) (.t 37)),
  (mt 0 38)]
abbrev N0:AC:=
 (.reg NQ)
abbrev NP:List AO:=
 [(mt 29 7),o1 30 (.bin .sub (.t 29) (ci 1)),
  (mt 7 30)]
abbrev vT:AC:=
 (.seq (.seq (.reg NS) (.cond (.t 28) .skip (.exit 0))) (.seq (.block 1 N0) (.reg NP)))
abbrev vS:AC:=
 (.loop vT)
abbrev vR:List AO:=
 [(mt 39 0),
  (mt 4 39)]
abbrev N1:AF:=⟨40,(.seq (.reg NY) (.seq (.reg NX) (.seq (.reg NW) (.seq (.reg NV) (.seq (.reg NU) (.seq (.seq (.reg NT) (.block 0 vS)) (.seq (.reg vR) .ret))))))),[.mv (.t 4)]⟩
theorem NZ:ab Tryz.prog (aa Tryz.prog 77) 77=some N1:=by kernel_rfl
/-! wire.number-/
abbrev NL:List AO:=
 [o1 2 (.mv (ci 0))]
abbrev NK:List AO:=
 [(mt 3 0),o1 4 (.bin .lss (.t 3) (ci 0)),
  (mt 5 4),
  (o4 6 5 (.mv (.t 0))),
  (o4 7 5 (.bin .gtr (.t 6) (ci 9007199254740991))),o1 8 (.pick (.t 5) (.c (.b true)) (.t 7))]
abbrev NJ:List AO:=
 [o1 2 (.mv (ci 0))]
abbrev NI:List AO:=
 [(mt 9 0),
  (mt 2 9)]
abbrev NN:AF:=⟨10,(.seq (.reg NL) (.seq (.seq (.reg NK) (.cond (.t 8) (.seq (.reg NJ) .ret) .skip)) (.seq (.reg NI) .ret))),[.mv (.t 2)]⟩
theorem NM:ab Tryz.prog (aa Tryz.prog 93) 93=some NN:=by kernel_rfl
/-! wire.further-/
abbrev NF:List AO:=
 [o1 2 (.mv (ci 0))]
abbrev ND:List AO:=
 [(mt 3 0),o1 4 (.cvi .u64 (.t 3)),
  (o2 5 114 [.t 4]),o1 6 (.bin .sub (.t 5) (ci 1)),⟨some 7,none,.mo (.mx (ci 0) (.t 6))⟩,o1 8 (.bin .quo (.t 7) (ci 7)),
  (mt 2 8)]
abbrev NH:AF:=⟨9,(.seq (.reg NF) (.seq (.reg ND) .ret)),[.mv (.t 2)]⟩
theorem NG:ab Tryz.prog (aa Tryz.prog 94) 94=some NH:=by kernel_rfl
/-! math/bits.Len-/
abbrev NA:List AO:=
 [o1 2 (.mv (ci 0))]
abbrev Nz:List AO:=
 [(mt 3 0),o1 4 (.cvi .u32 (.t 3)),
  (o2 5 122 [.t 4]),
  (mt 2 5)]
abbrev Ny:List AO:=
 [(mt 6 0),
  (o2 7 123 [.t 6]),
  (mt 2 7)]
abbrev NC:AF:=⟨8,(.seq (.reg NA) (.seq (.cond (.c (.b false)) (.seq (.reg Nz) .ret) .skip) (.seq (.reg Ny) .ret))),[.mv (.t 2)]⟩
theorem NB:ab Tryz.prog (aa Tryz.prog 114) 114=some NC:=by kernel_rfl
/-! math/bits.Len32-/
abbrev Nv:List AO:=
 [o1 2 (.mv (ci 0))]
abbrev Nu:List AO:=
 [(mt 3 0),o1 4 (.bin .geq (.t 3) (.c (.n .u32 65536)))]
abbrev Nt:List AO:=
 [(mt 5 0),o1 6 (.bin .shr (.t 5) (.c (.n .u64 16))),
  (mt 0 6)]
abbrev Ns:List AO:=
 [o1 2 (.mv (ci 16))]
abbrev Nr:List AO:=
 [(mt 7 0),o1 8 (.bin .geq (.t 7) (.c (.n .u32 256)))]
abbrev Nq:List AO:=
 [(mt 9 0),o1 10 (.bin .shr (.t 9) (.c (.n .u64 8))),
  (mt 0 10)]
abbrev Np:List AO:=
 [(mt 11 2),o1 12 (.bin .add (.t 11) (ci 8)),
  (mt 2 12)]
abbrev Nn:List AO:=
 [(mt 13 2),
  (mt 14 0),o1 15 (.cvi .u8 (.t 14)),o1 16 (.sx (.c (.s ⟨#[0,1,2,2,3,3,3,3,4,4,4,4,4,4,4,4,5,5,5,5,5,5,5,5,5,5,5,5,5,5,5,5,6,6,6,6,6,6,6,6,6,6,6,6,6,6,6,6,6,6,6,6,6,6,6,6,6,6,6,6,6,6,6,6,7,7,7,7,7,7,7,7,7,7,7,7,7,7,7,7,7,7,7,7,7,7,7,7,7,7,7,7,7,7,7,7,7,7,7,7,7,7,7,7,7,7,7,7,7,7,7,7,7,7,7,7,7,7,7,7,7,7,7,7,7,7,7,7,8,8,8,8,8,8,8,8,8,8,8,8,8,8,8,8,8,8,8,8,8,8,8,8,8,8,8,8,8,8,8,8,8,8,8,8,8,8,8,8,8,8,8,8,8,8,8,8,8,8,8,8,8,8,8,8,8,8,8,8,8,8,8,8,8,8,8,8,8,8,8,8,8,8,8,8,8,8,8,8,8,8,8,8,8,8,8,8,8,8,8,8,8,8,8,8,8,8,8,8,8,8,8,8,8,8,8,8,8,8,8,8,8,8,8,8,8,8,8,8,8,8,8,8,8,8,8,8]⟩)) (.t 15)),o1 17 (.cvi .i64 (.t 16)),o1 18 (.bin .add (.t 13) (.t 17)),
  (mt 2 18)]
abbrev Nx:AF:=⟨19,(.seq (.reg Nv) (.seq (.seq (.reg Nu) (.cond (.t 4) (.seq (.reg Nt) (.reg Ns)) .skip)) (.seq (.seq (.reg Nr) (.cond (.t 8) (.seq (.reg Nq) (.reg Np)) .skip)) (.seq (.reg Nn) .ret)))),[.mv (.t 2)]⟩
theorem Nw:ab Tryz.prog (aa Tryz.prog 122) 122=some Nx:=by kernel_rfl
/-! math/bits.Len64-/
abbrev Nk:List AO:=
 [o1 2 (.mv (ci 0))]
abbrev Nj:List AO:=
 [(mt 3 0),o1 4 (.bin .geq (.t 3) (.c (.n .u64 4294967296)))]
abbrev Ni:List AO:=
 [(mt 5 0),o1 6 (.bin .shr (.t 5) (.c (.n .u64 32))),
  (mt 0 6)]
abbrev Nh:List AO:=
 [o1 2 (.mv (ci 32))]
abbrev Ng:List AO:=
 [(mt 7 0),o1 8 (.bin .geq (.t 7) (.c (.n .u64 65536)))]
abbrev Nf:List AO:=
 [(mt 9 0),o1 10 (.bin .shr (.t 9) (.c (.n .u64 16))),
  (mt 0 10)]
abbrev Nd:List AO:=
 [(mt 11 2),o1 12 (.bin .add (.t 11) (ci 16)),
  (mt 2 12)]
abbrev Nc:List AO:=
 [(mt 13 0),o1 14 (.bin .geq (.t 13) (.c (.n .u64 256)))]
abbrev Nb:List AO:=
 [(mt 15 0),o1 16 (.bin .shr (.t 15) (.c (.n .u64 8))),
  (mt 0 16)]
abbrev Na:List AO:=
 [(mt 17 2),o1 18 (.bin .add (.t 17) (ci 8)),
  (mt 2 18)]
abbrev uY:List AO:=
 [(mt 19 2),
  (mt 20 0),o1 21 (.cvi .u8 (.t 20)),o1 22 (.sx (.c (.s ⟨#[0,1,2,2,3,3,3,3,4,4,4,4,4,4,4,4,5,5,5,5,5,5,5,5,5,5,5,5,5,5,5,5,6,6,6,6,6,6,6,6,6,6,6,6,6,6,6,6,6,6,6,6,6,6,6,6,6,6,6,6,6,6,6,6,7,7,7,7,7,7,7,7,7,7,7,7,7,7,7,7,7,7,7,7,7,7,7,7,7,7,7,7,7,7,7,7,7,7,7,7,7,7,7,7,7,7,7,7,7,7,7,7,7,7,7,7,7,7,7,7,7,7,7,7,7,7,7,7,8,8,8,8,8,8,8,8,8,8,8,8,8,8,8,8,8,8,8,8,8,8,8,8,8,8,8,8,8,8,8,8,8,8,8,8,8,8,8,8,8,8,8,8,8,8,8,8,8,8,8,8,8,8,8,8,8,8,8,8,8,8,8,8,8,8,8,8,8,8,8,8,8,8,8,8,8,8,8,8,8,8,8,8,8,8,8,8,8,8,8,8,8,8,8,8,8,8,8,8,8,8,8,8,8,8,8,8,8,8,8,8,8,8,8,8,8,8,8,8,8,8,8,8,8,8,8,8]⟩)) (.t 21)),o1 23 (.cvi .i64 (.t 22)),o1 24 (.bin .add (.t 19) (.t 23)),
  (mt 2 24)]
abbrev Nm:AF:=⟨25,(.seq (.reg Nk) (.seq (.seq (.reg Nj) (.cond (.t 4) (.seq (.reg Ni) (.reg Nh)) .skip)) (.seq (.seq (.reg Ng) (.cond (.t 8) (.seq (.reg Nf) (.reg Nd)) .skip)) (.seq (.seq (.reg Nc) (.cond (.t 14) (.seq (.reg Nb) (.reg Na)) .skip)) (.seq (.reg uY) .ret))))),[.mv (.t 2)]⟩
theorem Nl:ab Tryz.prog (aa Tryz.prog 123) 123=some Nm:=by kernel_rfl
/-! instruction.flag-/
abbrev M7:List AO:=
 [o1 2 (.mv (.c (.n .u32 0)))]
abbrev M6:List AO:=
 [(mt 3 0)]
abbrev M5:List AO:=
 [o1 2 (.mv (.c (.n .u32 1)))]
abbrev M4:List AO:=
 [o1 2 (.mv (.c (.n .u32 0)))]
abbrev M9:AF:=⟨4,(.seq (.reg M7) (.seq (.seq (.reg M6) (.cond (.t 3) (.seq (.reg M5) .ret) .skip)) (.seq (.reg M4) .ret))),[.mv (.t 2)]⟩
theorem M8:ab Tryz.prog (aa Tryz.prog 49) 49=some M9:=by kernel_rfl
/-! flow.Parse-/
abbrev MX:List AO:=
 [o1 2 (.mv (.c .sl0)),o1 3 (.al 3 [.n .i64 0]),o1 4 (.al 28 [.n .i64 0])]
abbrev MW:List AO:=
 []
abbrev MV:List AO:=
 [(mt 5 0),
  (o2 6 81 [.t 5]),
  (o2 7 82 [.t 6]),
  (mt 2 7),
  (o3 (.st 1 (.t 3) (ci 0))),
  (o3 (.st 1 (.t 4) (ci 0)))]
abbrev MZ:AF:=⟨8,(.seq (.reg MX) (.seq (.dfr MW (.c (.f 80 [] [])) [.t 3,.t 4]) (.seq (.reg MV) .ret))),[.mv (.t 2),.ld 1 false (.t 3),.ld 1 false (.t 4)]⟩
theorem MY:ab Tryz.prog (aa Tryz.prog 53) 53=some MZ:=by kernel_rfl
/-! flow.begin-/
abbrev MS:List AO:=
 [o1 2 (.mv (.c .p0))]
abbrev MR:List AO:=
 [(mt 3 0),o1 4 (.len (.t 3)),o1 5 (.bin .leq (.t 4) (ci 1024)),
  (o2 6 97 [.t 5,(ci 0),(ci 6)])]
abbrev MQ:List AO:=
 [(mt 7 0),o1 8 (.bs 3 1 1 [.n .i64 0] [(0,1,(.c (.n .i64 (-1))))]),
  (mt 9 0),o1 10 (.len (.t 9)),
  (o2 11 98 [.t 8,.t 10]),o1 12 (.bd [.sl0,.n .i64 0,.sl0] [(0,1,(.t 7)),(2,1,(.t 11))]),o1 13 (.bx 150 0 (.t 12)),
  (mt 2 13)]
abbrev MU:AF:=⟨14,(.seq (.reg MS) (.seq (.reg MR) (.seq (.reg MQ) .ret))),[.mv (.t 2)]⟩
theorem MT:ab Tryz.prog (aa Tryz.prog 81) 81=some MU:=by kernel_rfl
/-! flow.demand-/
abbrev MM:List AO:=
 [(mt 6 0),o1 7 (.un .not (.t 6))]
abbrev MP:AF:=⟨12,(.seq (.reg MM) (.cond (.t 7) .die .skip)),[]⟩
theorem MN:ab Tryz.prog (aa Tryz.prog 97) 97=some MP:=by kernel_rfl
/-! slices.Repeat[[]int,int]-/
abbrev MF:List AO:=
 [o1 4 (.mv (.c .sl0))]
abbrev ME:List AO:=
 [(mt 9 1),o1 10 (.bin .lss (.t 9) (ci 0))]
abbrev MC:List AO:=
 [(mt 13 0),o1 14 (.len (.t 13)),o1 15 (.cvi .u64 (.t 14)),
  (mt 16 1),o1 17 (.cvi .u64 (.t 16)),
  (o2 18 85 [.t 15,.t 17]),
  (mt 12 18),o1 19 (.ext 0 (.t 12)),o1 20 (.ext 1 (.t 12)),
  (mt 5 19),
  (mt 6 20)]
abbrev MB:List AO:=
 [(mt 21 5),o1 22 (.bin .gtr (.t 21) (.c (.n .u64 0))),
  (mt 23 22),
  (o4 24 23 (.mv (.t 6))),
  (o4 25 23 (.bin .gtr (.t 24) (.c (.n .u64 9223372036854775807)))),o1 26 (.pick (.t 23) (.c (.b true)) (.t 25))]
abbrev MA:List AO:=
 [(mt 28 6),o1 29 (.cvi .i64 (.t 28)),o1 30 (.ms 3 1 8 [.n .i64 0] (.t 29) (.t 29)),
  (mt 7 30)]
abbrev Mz:List AO:=
 [(mt 31 7),
  (mt 32 0),⟨some 33,none,.mo (.cp 1 (.t 31) (.t 32))⟩,
  (mt 8 33)]
abbrev My:List AO:=
 [(mt 34 8),
  (mt 35 7),o1 36 (.len (.t 35)),o1 37 (.bin .lss (.t 34) (.t 36))]
abbrev MH:List (Nat×AO):=
 [(2,(mt 38 8)),
  (2,(mt 39 7)),
  (2,(mt 40 8)),(2,(o1 41 (.sl 1 (.t 39) (some (.t 40)) none))),
  (2,(mt 42 7)),
  (2,(mt 43 8)),(2,(o1 44 (.sl 1 (.t 42) none (some (.t 43))))),(3,⟨some 45,none,.mo (.cp 1 (.t 41) (.t 44))⟩),(2,(o1 46 (.bin .add (.t 38) (.t 45)))),
  (2,(mt 8 46))]
abbrev MI:AC:=
 (.mix MH)
abbrev MJ:AC:=
 (.seq (.seq (.reg My) (.cond (.t 37) .skip (.exit 0))) (.block 1 MI))
abbrev uX:AC:=
 (.loop MJ)
abbrev uW:List AO:=
 [(mt 47 7),
  (mt 4 47)]
abbrev ML:AF:=⟨48,(.seq (.reg MF) (.seq (.seq (.reg ME) (.cond (.t 10) .die .skip)) (.seq (.reg MC) (.seq (.seq (.reg MB) (.cond (.t 26) .die .skip)) (.seq (.reg MA) (.seq (.reg Mz) (.seq (.block 0 uX) (.seq (.reg uW) .ret)))))))),[.mv (.t 4)]⟩
theorem MG:ab Tryz.prog (aa Tryz.prog 98) 98=some ML:=by kernel_rfl
/-! math/bits.Mul-/
abbrev Mv:List AO:=
 [o1 4 (.mv (.c (.n .u64 0))),o1 5 (.mv (.c (.n .u64 0)))]
abbrev Mu:List AO:=
 [(mt 11 0),o1 12 (.cvi .u32 (.t 11)),
  (mt 13 1),o1 14 (.cvi .u32 (.t 13)),
  (o2 15 102 [.t 12,.t 14]),
  (mt 10 15),o1 16 (.ext 0 (.t 10)),o1 17 (.ext 1 (.t 10)),
  (mt 6 16),
  (mt 7 17)]
abbrev Mt:List AO:=
 [(mt 18 6),o1 19 (.cvi .u64 (.t 18)),
  (mt 20 7),o1 21 (.cvi .u64 (.t 20)),
  (mt 4 19),
  (mt 5 21)]
abbrev Ms:List AO:=
 [(mt 23 0),
  (mt 24 1),
  (o2 25 103 [.t 23,.t 24]),
  (mt 22 25),o1 26 (.ext 0 (.t 22)),o1 27 (.ext 1 (.t 22)),
  (mt 8 26),
  (mt 9 27)]
abbrev Mr:List AO:=
 [(mt 28 8),
  (mt 29 9),
  (mt 4 28),
  (mt 5 29)]
abbrev Mx:AF:=⟨30,(.seq (.reg Mv) (.seq (.cond (.c (.b false)) (.seq (.reg Mu) (.seq (.reg Mt) .ret)) .skip) (.seq (.reg Ms) (.seq (.reg Mr) .ret)))),[.mv (.t 4),.mv (.t 5)]⟩
theorem Mw:ab Tryz.prog (aa Tryz.prog 85) 85=some Mx:=by kernel_rfl
/-! math/bits.Mul32-/
abbrev Mo:List AO:=
 [o1 4 (.mv (.c (.n .u32 0))),o1 5 (.mv (.c (.n .u32 0)))]
abbrev Mn:List AO:=
 [(mt 7 0),o1 8 (.cvi .u64 (.t 7)),
  (mt 9 1),o1 10 (.cvi .u64 (.t 9)),o1 11 (.bin .mul (.t 8) (.t 10)),
  (mt 6 11)]
abbrev Mm:List AO:=
 [(mt 12 6),o1 13 (.bin .shr (.t 12) (.c (.n .u64 32))),o1 14 (.cvi .u32 (.t 13)),
  (mt 15 6),o1 16 (.cvi .u32 (.t 15)),
  (mt 4 14),
  (mt 5 16)]
abbrev Mq:AF:=⟨17,(.seq (.reg Mo) (.seq (.reg Mn) (.seq (.reg Mm) .ret))),[.mv (.t 4),.mv (.t 5)]⟩
theorem Mp:ab Tryz.prog (aa Tryz.prog 102) 102=some Mq:=by kernel_rfl
/-! math/bits.Mul64-/
abbrev Mi:List AO:=
 [o1 4 (.mv (.c (.n .u64 0))),o1 5 (.mv (.c (.n .u64 0)))]
abbrev Mh:List AO:=
 [(mt 14 0),o1 15 (.bin .and (.t 14) (.c (.n .u64 4294967295))),
  (mt 6 15)]
abbrev Mg:List AO:=
 [(mt 16 0),o1 17 (.bin .shr (.t 16) (.c (.n .u64 32))),
  (mt 7 17)]
abbrev Mf:List AO:=
 [(mt 18 1),o1 19 (.bin .and (.t 18) (.c (.n .u64 4294967295))),
  (mt 8 19)]
abbrev Me:List AO:=
 [(mt 20 1),o1 21 (.bin .shr (.t 20) (.c (.n .u64 32))),
  (mt 9 21)]
abbrev Md:List AO:=
 [(mt 22 6),
  (mt 23 8),o1 24 (.bin .mul (.t 22) (.t 23)),
  (mt 10 24)]
abbrev Mc:List AO:=
 [(mt 25 7),
  (mt 26 8),o1 27 (.bin .mul (.t 25) (.t 26)),
  (mt 28 10),o1 29 (.bin .shr (.t 28) (.c (.n .u64 32))),o1 30 (.bin .add (.t 27) (.t 29)),
  (mt 11 30)]
abbrev Mb:List AO:=
 [(mt 31 11),o1 32 (.bin .and (.t 31) (.c (.n .u64 4294967295))),
  (mt 12 32)]
abbrev Ma:List AO:=
 [(mt 33 11),o1 34 (.bin .shr (.t 33) (.c (.n .u64 32))),
  (mt 13 34)]
abbrev L9:List AO:=
 [(mt 35 12),
  (mt 36 6),
  (mt 37 9),o1 38 (.bin .mul (.t 36) (.t 37)),o1 39 (.bin .add (.t 35) (.t 38)),
  (mt 12 39)]
abbrev uV:List AO:=
 [(mt 40 7),
  (mt 41 9),o1 42 (.bin .mul (.t 40) (.t 41)),
  (mt 43 13),o1 44 (.bin .add (.t 42) (.t 43)),
  (mt 45 12),o1 46 (.bin .shr (.t 45) (.c (.n .u64 32))),o1 47 (.bin .add (.t 44) (.t 46)),
  (mt 4 47)]
abbrev uU:List AO:=
 [(mt 48 0),
  (mt 49 1),o1 50 (.bin .mul (.t 48) (.t 49)),
  (mt 5 50)]
abbrev Ml:AF:=⟨51,(.seq (.reg Mi) (.seq (.reg Mh) (.seq (.reg Mg) (.seq (.reg Mf) (.seq (.reg Me) (.seq (.reg Md) (.seq (.reg Mc) (.seq (.reg Mb) (.seq (.reg Ma) (.seq (.reg L9) (.seq (.reg uV) (.seq (.reg uU) .ret)))))))))))),[.mv (.t 4),.mv (.t 5)]⟩
theorem Mj:ab Tryz.prog (aa Tryz.prog 103) 103=some Ml:=by kernel_rfl
/-! flow.reader.whole-/
abbrev L5:List AO:=
 [o1 2 (.mv (.c .sl0))]
abbrev L4:List AO:=
 [(mt 4 0),
  (o2 5 99 [.t 4,(ci 0),(.c .p0)]),
  (mt 3 5)]
abbrev L7:List (Nat×AO):=
 [(2,(mt 6 0)),(2,(o1 7 (.nc (.t 6)))),(2,(o1 8 (.fa 1 (.t 7)))),
  (2,(mt 10 0)),(2,(o1 11 (.nc (.t 10)))),(2,(o1 12 (.fa 0 (.t 11)))),
  (2,(mt 16 0)),(2,(o1 17 (.nc (.t 16)))),(2,(o1 18 (.fa 1 (.t 17)))),(1,(o1 9 (.ld 1 false (.t 8)))),(1,(o1 13 (.ld 1 false (.t 12)))),(2,(o1 14 (.len (.t 13)))),(2,(o1 15 (.bin .eql (.t 9) (.t 14)))),(1,(o1 19 (.ld 1 false (.t 18)))),
  (3,(o2 20 97 [.t 15,.t 19,(ci 15)]))]
abbrev L3:List AO:=
 [(mt 21 3),
  (mt 2 21)]
abbrev L8:AF:=⟨22,(.seq (.reg L5) (.seq (.reg L4) (.seq (.mix L7) (.seq (.reg L3) .ret)))),[.mv (.t 2)]⟩
theorem L6:ab Tryz.prog (aa Tryz.prog 82) 82=some L8:=by kernel_rfl
/-! flow.reader.list-/
abbrev LY:List AO:=
 [o1 6 (.mv (.c .sl0))]
abbrev LX:List AO:=
 [o1 7 (.mv (.c .sl0))]
abbrev L1:List (Nat×AO):=
 [(2,(mt 10 0)),(2,(o1 11 (.nc (.t 10)))),(2,(o1 12 (.fa 1 (.t 11)))),
  (2,(mt 14 0)),(2,(o1 15 (.nc (.t 14)))),(2,(o1 16 (.fa 0 (.t 15)))),(1,(o1 13 (.ld 1 false (.t 12)))),(1,(o1 17 (.ld 1 false (.t 16)))),(2,(o1 18 (.len (.t 17)))),(2,(o1 19 (.bin .lss (.t 13) (.t 18))))]
abbrev L0:List (Nat×AO):=
 [(2,(mt 20 0)),(2,(o1 21 (.nc (.t 20)))),(2,(o1 22 (.fa 0 (.t 21)))),
  (2,(mt 24 0)),(2,(o1 25 (.nc (.t 24)))),(2,(o1 26 (.fa 1 (.t 25)))),(1,(o1 23 (.ld 1 false (.t 22)))),(1,(o1 27 (.ld 1 false (.t 26)))),(2,(o1 28 (.ia 2 (.t 23) (.t 27)))),(2,(o1 29 (.fa 0 (.t 28)))),(1,(o1 30 (.ld 1 false (.t 29)))),
  (2,(mt 8 30))]
abbrev LW:List AO:=
 [(mt 32 8),o1 33 (.bin .eql (.t 32) (ci 28)),
  (mt 34 33),
  (o4 35 34 (.mv (.t 8))),
  (o4 36 34 (.bin .eql (.t 35) (ci 31))),o1 37 (.pick (.t 34) (.c (.b true)) (.t 36)),
  (mt 31 37)]
abbrev LV:List AO:=
 [(mt 38 7),
  (mt 6 38)]
abbrev LU:List AO:=
 [(mt 40 8),
  (o2 41 115 [.t 40]),
  (mt 39 41)]
abbrev LS:List AO:=
 [(mt 42 7),
  (mt 43 0),
  (mt 44 1),o1 45 (.bin .add (.t 44) (ci 1)),
  (mt 46 2),
  (o2 47 116 [.t 43,.t 45,.t 46]),o1 48 (.bs 106 5 1 [.n .i64 0,.n .i64 0,.n .i64 0,.sl0,.sl0] [(0,5,(.t 47))]),o1 49 (.app 106 5 72 (.t 42) (.t 48)),
  (mt 7 49)]
abbrev LR:List AO:=
 [(mt 51 8),o1 52 (.bin .eql (.t 51) (ci 30)),
  (mt 50 52)]
abbrev LQ:List AO:=
 [(mt 53 2),o1 54 (.bin .neq (.t 53) (.c .p0)),
  (mt 55 0),o1 56 (.nc (.t 55)),o1 57 (.fa 1 (.t 56)),o1 58 (.ld 1 false (.t 57)),
  (o2 59 97 [.t 54,.t 58,(ci 15)])]
abbrev uP:List (Nat×AO):=
 [(2,(mt 60 2)),
  (2,(mt 61 2)),(2,(o1 62 (.nc (.t 61)))),
  (2,(mt 64 0)),(2,(o1 65 (.nc (.t 64)))),(2,(o1 66 (.fa 1 (.t 65)))),(1,(o1 63 (.ld 1 false (.t 62)))),(1,(o1 67 (.ld 1 false (.t 66)))),(0,(o1 68 (.bs 3 1 1 [.n .i64 0] [(0,1,(.t 67))]))),(3,(o1 69 (.app 3 1 8 (.t 63) (.t 68)))),(2,(o1 70 (.nc (.t 60)))),
  (3,(o3 (.st 1 (.t 70) (.t 69))))]
abbrev uS:AC:=
 (.seq (.reg LW) (.cond (.t 31) (.seq (.reg LV) .ret) (.seq (.reg LU) (.cond (.t 39) (.seq (.reg LS) (.exit 1)) (.seq (.reg LR) (.cond (.t 50) (.seq (.reg LQ) (.mix uP)) .skip))))))
abbrev uN:List AO:=
 [(mt 71 7),o1 72 (.len (.t 71)),
  (mt 9 72)]
abbrev uM:List AO:=
 [(mt 73 9),o1 74 (.bin .gtr (.t 73) (ci 0)),
  (mt 75 74),
  (o5 76 75 (.mv (.t 7))),
  (o5 77 75 (.mv (.t 9))),
  (o5 78 75 (.bin .sub (.t 77) (ci 1))),
  (o5 79 75 (.ia 5 (.t 76) (.t 78))),
  (o5 80 75 (.fa 0 (.t 79))),
  (o5 81 75 (.ld 1 false (.t 80))),
  (o5 82 75 (.bin .eql (.t 81) (.c (.n .i64 (-1))))),o1 83 (.pick (.t 75) (.t 82) (.c (.b false)))]
abbrev uL:List AO:=
 [(mt 84 7),
  (mt 85 9),o1 86 (.bin .sub (.t 85) (ci 1)),o1 87 (.ia 5 (.t 84) (.t 86)),o1 88 (.fa 2 (.t 87)),o1 89 (.ld 1 false (.t 88)),o1 90 (.bin .add (.t 89) (ci 1)),o1 91 (.ia 5 (.t 84) (.t 86)),o1 92 (.fa 2 (.t 91)),
  (o3 (.st 1 (.t 92) (.t 90)))]
abbrev uO:List (Nat×AO):=
 [(2,(mt 93 7)),
  (2,(mt 94 0)),(2,(o1 95 (.nc (.t 94)))),(2,(o1 96 (.fa 1 (.t 95)))),
  (2,(mt 98 0)),(2,(o1 99 (.nc (.t 98)))),(2,(o1 100 (.fa 1 (.t 99)))),(1,(o1 97 (.ld 1 false (.t 96)))),(1,(o1 101 (.ld 1 false (.t 100)))),(2,(o1 102 (.bin .add (.t 101) (ci 1)))),(2,(o1 103 (.bd [.n .i64 0,.n .i64 0,.n .i64 0,.sl0,.sl0] [(0,1,(.c (.n .i64 (-1)))),(1,1,(.t 97)),(2,1,(.t 102))]))),(3,(o1 104 (.bs 106 5 1 [.n .i64 0,.n .i64 0,.n .i64 0,.sl0,.sl0] [(0,5,(.t 103))]))),(3,(o1 105 (.app 106 5 72 (.t 93) (.t 104)))),
  (2,(mt 7 105))]
abbrev uK:List AO:=
 [(mt 106 0),o1 107 (.nc (.t 106)),o1 108 (.fa 1 (.t 107)),o1 109 (.ld 1 false (.t 108)),o1 110 (.bin .add (.t 109) (ci 1)),o1 111 (.nc (.t 106)),o1 112 (.fa 1 (.t 111)),
  (o3 (.st 1 (.t 112) (.t 110)))]
abbrev uR:AC:=
 (.seq (.mix L0) (.seq (.block 2 uS) (.seq (.seq (.reg uN) (.seq (.reg uM) (.cond (.t 83) (.reg uL) (.mix uO)))) (.reg uK))))
abbrev uT:AC:=
 (.seq (.seq (.mix L1) (.cond (.t 19) .skip (.exit 0))) (.block 1 uR))
abbrev uQ:AC:=
 (.loop uT)
abbrev uJ:List AO:=
 [(mt 113 7),
  (mt 6 113)]
abbrev L2:AF:=⟨114,(.seq (.reg LY) (.seq (.reg LX) (.seq (.block 0 uQ) (.seq (.reg uJ) .ret)))),[.mv (.t 6)]⟩
theorem LZ:ab Tryz.prog (aa Tryz.prog 99) 99=some L2:=by kernel_rfl
/-! flow.opens-/
abbrev LN:List AO:=
 [o1 2 (.mv (.c (.b false)))]
abbrev LM:List AO:=
 [(mt 3 0),o1 4 (.bin .eql (.t 3) (ci 27)),
  (mt 5 4),
  (o4 6 5 (.mv (.t 0))),
  (o4 7 5 (.bin .eql (.t 6) (ci 29))),o1 8 (.pick (.t 5) (.c (.b true)) (.t 7)),
  (mt 2 8)]
abbrev LP:AF:=⟨9,(.seq (.reg LN) (.seq (.reg LM) .ret)),[.mv (.t 2)]⟩
theorem LO:ab Tryz.prog (aa Tryz.prog 115) 115=some LP:=by kernel_rfl
/-! flow.reader.block-/
abbrev LH:List AO:=
 [o1 6 (.al 106 [.n .i64 0,.n .i64 0,.n .i64 0,.sl0,.sl0])]
abbrev LG:List AO:=
 [(mt 12 1),o1 13 (.bin .leq (.t 12) (ci 8)),
  (mt 14 0),o1 15 (.nc (.t 14)),o1 16 (.fa 1 (.t 15)),o1 17 (.ld 1 false (.t 16)),
  (o2 18 97 [.t 13,.t 17,(ci 15)])]
abbrev LK:List (Nat×AO):=
 [(2,(mt 19 0)),(2,(o1 20 (.nc (.t 19)))),(2,(o1 21 (.fa 0 (.t 20)))),
  (2,(mt 23 0)),(2,(o1 24 (.nc (.t 23)))),(2,(o1 25 (.fa 1 (.t 24)))),
  (2,(mt 30 0)),(2,(o1 31 (.nc (.t 30)))),(2,(o1 32 (.fa 1 (.t 31)))),(1,(o1 22 (.ld 1 false (.t 21)))),(1,(o1 26 (.ld 1 false (.t 25)))),(2,(o1 27 (.ia 2 (.t 22) (.t 26)))),(2,(o1 28 (.fa 0 (.t 27)))),(1,(o1 29 (.ld 1 false (.t 28)))),(1,(o1 33 (.ld 1 false (.t 32)))),(2,(o1 34 (.bd [.n .i64 0,.n .i64 0,.n .i64 0,.sl0,.sl0] [(0,1,(.t 29)),(1,1,(.t 33))]))),(0,(o1 7 (.al 106 [.n .i64 0,.n .i64 0,.n .i64 0,.sl0,.sl0]))),
  (3,(o3 (.st 5 (.t 7) (.t 34))))]
abbrev LF:List AO:=
 [o1 8 (.al 100 [.sl0])]
abbrev LD:List AO:=
 [o1 35 (.fa 0 (.t 7)),o1 36 (.ld 1 false (.t 35)),o1 37 (.bin .eql (.t 36) (ci 29))]
abbrev LC:List AO:=
 [(mt 2 8)]
abbrev LB:List AO:=
 [(mt 38 0),o1 39 (.nc (.t 38)),o1 40 (.fa 1 (.t 39)),o1 41 (.ld 1 false (.t 40)),o1 42 (.bin .add (.t 41) (ci 1)),o1 43 (.nc (.t 38)),o1 44 (.fa 1 (.t 43)),
  (o3 (.st 1 (.t 44) (.t 42)))]
abbrev LA:List AO:=
 [(mt 45 0),
  (mt 46 1),
  (mt 47 2),
  (o2 48 99 [.t 45,.t 46,.t 47]),o1 49 (.fa 3 (.t 7)),
  (o3 (.st 1 (.t 49) (.t 48)))]
abbrev Lz:List AO:=
 [o1 50 (.fa 1 (.t 7)),o1 51 (.ld 1 false (.t 50)),
  (mt 9 51)]
abbrev LJ:List (Nat×AO):=
 [(2,(o1 52 (.fa 0 (.t 7)))),(1,(o1 53 (.ld 1 false (.t 52)))),(2,(o1 54 (.bin .eql (.t 53) (ci 27)))),
  (2,(mt 55 54)),
  (2,(o5 56 55 (.mv (.t 0)))),
  (2,(o5 57 55 (.nc (.t 56)))),
  (2,(o5 58 55 (.fa 1 (.t 57)))),
  (2,(o5 60 55 (.mv (.t 0)))),
  (2,(o5 61 55 (.nc (.t 60)))),
  (2,(o5 62 55 (.fa 0 (.t 61)))),
  (1,(o5 59 55 (.ld 1 false (.t 58)))),
  (1,(o5 63 55 (.ld 1 false (.t 62)))),
  (2,(o5 64 55 (.len (.t 63)))),
  (2,(o5 65 55 (.bin .lss (.t 59) (.t 64)))),(2,(o1 66 (.pick (.t 55) (.t 65) (.c (.b false))))),
  (2,(mt 67 66)),
  (2,(o5 68 67 (.mv (.t 0)))),
  (2,(o5 69 67 (.nc (.t 68)))),
  (2,(o5 70 67 (.fa 0 (.t 69)))),
  (2,(o5 72 67 (.mv (.t 0)))),
  (2,(o5 73 67 (.nc (.t 72)))),
  (2,(o5 74 67 (.fa 1 (.t 73)))),
  (1,(o5 71 67 (.ld 1 false (.t 70)))),
  (1,(o5 75 67 (.ld 1 false (.t 74)))),
  (2,(o5 76 67 (.ia 2 (.t 71) (.t 75)))),
  (2,(o5 77 67 (.fa 0 (.t 76)))),
  (1,(o5 78 67 (.ld 1 false (.t 77)))),
  (2,(o5 79 67 (.bin .eql (.t 78) (ci 28)))),(2,(o1 80 (.pick (.t 67) (.t 79) (.c (.b false)))))]
abbrev uF:List (Nat×AO):=
 [(2,(mt 81 0)),(2,(o1 82 (.nc (.t 81)))),(2,(o1 83 (.fa 2 (.t 82)))),
  (2,(mt 85 9)),
  (2,(mt 86 0)),(2,(o1 87 (.nc (.t 86)))),(2,(o1 88 (.fa 1 (.t 87)))),(1,(o1 84 (.ld 1 false (.t 83)))),(1,(o1 89 (.ld 1 false (.t 88)))),(2,(o1 90 (.ia 1 (.t 84) (.t 85)))),
  (3,(o3 (.st 1 (.t 90) (.t 89))))]
abbrev uB:List AO:=
 [(mt 91 0),o1 92 (.nc (.t 91)),o1 93 (.fa 1 (.t 92)),o1 94 (.ld 1 false (.t 93)),
  (mt 9 94)]
abbrev uA:List AO:=
 [(mt 95 0),o1 96 (.nc (.t 95)),o1 97 (.fa 1 (.t 96)),o1 98 (.ld 1 false (.t 97)),o1 99 (.bin .add (.t 98) (ci 1)),o1 100 (.nc (.t 95)),o1 101 (.fa 1 (.t 100)),
  (o3 (.st 1 (.t 101) (.t 99)))]
abbrev uz:List AO:=
 [(mt 102 0),
  (mt 103 1),
  (mt 104 2),
  (o2 105 99 [.t 102,.t 103,.t 104]),o1 106 (.fa 4 (.t 7)),
  (o3 (.st 1 (.t 106) (.t 105)))]
abbrev uE:List (Nat×AO):=
 [(2,(mt 107 0)),(2,(o1 108 (.nc (.t 107)))),(2,(o1 109 (.fa 1 (.t 108)))),
  (2,(mt 111 0)),(2,(o1 112 (.nc (.t 111)))),(2,(o1 113 (.fa 0 (.t 112)))),
  (2,(mt 131 0)),(2,(o1 132 (.nc (.t 131)))),(2,(o1 133 (.fa 1 (.t 132)))),(1,(o1 110 (.ld 1 false (.t 109)))),(1,(o1 114 (.ld 1 false (.t 113)))),(2,(o1 115 (.len (.t 114)))),(2,(o1 116 (.bin .lss (.t 110) (.t 115)))),
  (2,(mt 117 116)),
  (2,(o5 118 117 (.mv (.t 0)))),
  (2,(o5 119 117 (.nc (.t 118)))),
  (2,(o5 120 117 (.fa 0 (.t 119)))),
  (2,(o5 122 117 (.mv (.t 0)))),
  (2,(o5 123 117 (.nc (.t 122)))),
  (2,(o5 124 117 (.fa 1 (.t 123)))),
  (1,(o5 121 117 (.ld 1 false (.t 120)))),
  (1,(o5 125 117 (.ld 1 false (.t 124)))),
  (2,(o5 126 117 (.ia 2 (.t 121) (.t 125)))),
  (2,(o5 127 117 (.fa 0 (.t 126)))),
  (1,(o5 128 117 (.ld 1 false (.t 127)))),
  (2,(o5 129 117 (.bin .eql (.t 128) (ci 31)))),(2,(o1 130 (.pick (.t 117) (.t 129) (.c (.b false))))),(1,(o1 134 (.ld 1 false (.t 133)))),
  (3,(o2 135 97 [.t 130,.t 134,(ci 15)]))]
abbrev uD:List (Nat×AO):=
 [(2,(mt 136 0)),(2,(o1 137 (.nc (.t 136)))),(2,(o1 138 (.fa 2 (.t 137)))),
  (2,(mt 140 9)),
  (2,(mt 141 0)),(2,(o1 142 (.nc (.t 141)))),(2,(o1 143 (.fa 2 (.t 142)))),
  (2,(mt 145 0)),(2,(o1 146 (.nc (.t 145)))),(2,(o1 147 (.fa 1 (.t 146)))),
  (2,(mt 149 0)),(2,(o1 150 (.nc (.t 149)))),(2,(o1 151 (.fa 1 (.t 150)))),(2,(o1 153 (.fa 1 (.t 7)))),(1,(o1 139 (.ld 1 false (.t 138)))),(1,(o1 144 (.ld 1 false (.t 143)))),(1,(o1 148 (.ld 1 false (.t 147)))),(1,(o1 152 (.ld 1 false (.t 151)))),(2,(o1 155 (.ia 1 (.t 139) (.t 140)))),(1,(o1 154 (.ld 1 false (.t 153)))),
  (0,(o3 (.st 1 (.t 155) (.t 152)))),(2,(o1 156 (.ia 1 (.t 144) (.t 148)))),
  (3,(o3 (.st 1 (.t 156) (.t 154))))]
abbrev uy:List AO:=
 [o1 157 (.ld 1 false (.t 8)),o1 158 (.len (.t 157)),o1 159 (.mv (ci 0))]
abbrev ux:List AO:=
 [o1 160 (.bin .lss (.t 159) (.t 158))]
abbrev uw:List AO:=
 [o1 161 (.ia 1 (.t 157) (.t 159)),o1 162 (.ld 1 false (.t 161)),
  (mt 11 162)]
abbrev uC:List (Nat×AO):=
 [(2,(mt 163 0)),(2,(o1 164 (.nc (.t 163)))),(2,(o1 165 (.fa 2 (.t 164)))),
  (2,(mt 167 11)),
  (2,(mt 168 0)),(2,(o1 169 (.nc (.t 168)))),(2,(o1 170 (.fa 1 (.t 169)))),(1,(o1 166 (.ld 1 false (.t 165)))),(1,(o1 171 (.ld 1 false (.t 170)))),(2,(o1 172 (.ia 1 (.t 166) (.t 167)))),
  (3,(o3 (.st 1 (.t 172) (.t 171))))]
abbrev uH:AC:=
 (.seq (.reg uw) (.mix uC))
abbrev uv:List AO:=
 [o1 173 (.bin .add (.t 159) (ci 1)),
  (mt 159 173)]
abbrev uI:AC:=
 (.seq (.reg ux) (.seq (.cond (.t 160) .skip (.exit 0)) (.seq (.block 1 uH) (.reg uv))))
abbrev uG:AC:=
 (.loop uI)
abbrev uu:List AO:=
 [(mt 174 0),o1 175 (.nc (.t 174)),o1 176 (.fa 1 (.t 175)),o1 177 (.ld 1 false (.t 176)),o1 178 (.bin .add (.t 177) (ci 1)),o1 179 (.nc (.t 174)),o1 180 (.fa 1 (.t 179)),
  (o3 (.st 1 (.t 180) (.t 178)))]
abbrev ut:List AO:=
 [(mt 181 0),o1 182 (.nc (.t 181)),o1 183 (.fa 1 (.t 182)),o1 184 (.ld 1 false (.t 183)),o1 185 (.fa 2 (.t 7)),
  (o3 (.st 1 (.t 185) (.t 184)))]
abbrev ur:List AO:=
 [o1 186 (.ld 5 true (.t 7)),
  (o3 (.st 5 (.t 6) (.t 186)))]
abbrev LL:AF:=⟨187,(.seq (.reg LH) (.seq (.reg LG) (.seq (.mix LK) (.seq (.reg LF) (.seq (.seq (.reg LD) (.cond (.t 37) (.reg LC) .skip)) (.seq (.reg LB) (.seq (.reg LA) (.seq (.reg Lz) (.seq (.seq (.mix LJ) (.cond (.t 80) (.seq (.mix uF) (.seq (.reg uB) (.seq (.reg uA) (.reg uz)))) .skip)) (.seq (.mix uE) (.seq (.mix uD) (.seq (.seq (.reg uy) (.block 0 uG)) (.seq (.reg uu) (.seq (.reg ut) (.seq (.reg ur) .ret))))))))))))))),[.ld 5 true (.t 6)]⟩
theorem LI:ab Tryz.prog (aa Tryz.prog 116) 116=some LL:=by kernel_rfl
/-! verifier.Verify$1-/
abbrev Lx:List (Nat×AO):=
 [(1,(o1 2 (.ld 3 true (.t 0)))),(1,(o1 3 (.ld 3 true (.t 0)))),
  (0,(o2 4 44 [.t 3])),
  (3,(o2 5 43 [.t 2,.t 4])),
  (3,(o3 (.st 4 (.t 1) (.t 5))))]
abbrev Lv:List AO:=
 [o1 6 (.fa 0 (.t 1)),o1 7 (.ld 1 false (.t 6)),o1 8 (.bin .leq (.t 7) (ci 281474976710656)),
  (o2 9 45 [.t 8,(ci 0),(ci 18)])]
abbrev Ly:AF:=⟨10,(.seq (.mix Lx) (.reg Lv)),[]⟩
theorem Lw:ab Tryz.prog (aa Tryz.prog 42) 42=some Ly:=by kernel_rfl
/-! verifier.widening-/
abbrev Lr:List AO:=
 [o1 1 (.bx 25 0 (.t 0)),o1 2 (.al 88 [.f0,.f0])]
abbrev Lq:List AO:=
 [o1 3 (.mf 68 [] [.t 1]),o1 4 (.bd [.f0,.f0] [(0,1,(.c (.f 67 [] []))),(1,1,(.t 3))]),
  (o3 (.st 2 (.t 2) (.t 4)))]
abbrev Lu:AF:=⟨5,(.seq (.reg Lr) (.seq (.reg Lq) .ret)),[.ld 2 true (.t 2)]⟩
theorem Ls:ab Tryz.prog (aa Tryz.prog 44) 44=some Lu:=by kernel_rfl
/-! verifier.widening$2-/
abbrev Lm:List AO:=
 [o1 11 (.mv (.c .sl0))]
abbrev Ll:List AO:=
 [(mt 15 3),
  (o2 16 69 [.t 15]),
  (mt 12 16)]
abbrev Lk:List AO:=
 [(mt 17 12),o1 18 (.len (.t 17)),o1 19 (.mv (ci 0))]
abbrev Lj:List AO:=
 [o1 20 (.bin .lss (.t 19) (.t 18))]
abbrev Li:List AO:=
 [(mt 21 19),
  (mt 13 21)]
abbrev Lh:List AO:=
 [o1 22 (.fa 2 (.t 5)),o1 23 (.ld 1 false (.t 22)),
  (mt 24 0),
  (mt 25 1),o1 26 (.sl 2 (.t 23) (some (.t 24)) (some (.t 25))),
  (mt 27 13),o1 28 (.cvi .u32 (.t 27)),o1 29 (.bd [.n .i64 0,.n .u32 0] [(0,1,(ci 2)),(1,1,(.t 28))]),
  (o2 30 70 [.t 26,.t 29]),
  (mt 14 30)]
abbrev Lg:List AO:=
 [(mt 32 2),o1 33 (.bin .lss (.t 32) (ci 3)),
  (mt 31 33)]
abbrev Lo:List (Nat×AO):=
 [(2,(mt 34 12)),
  (2,(mt 35 13)),
  (2,(mt 36 3)),
  (2,(mt 37 13)),(2,(o1 38 (.ia 2 (.t 36) (.t 37)))),
  (2,(mt 40 3)),
  (2,(mt 41 13)),(2,(o1 42 (.ia 2 (.t 40) (.t 41)))),
  (2,(mt 44 4)),
  (2,(mt 45 13)),(2,(o1 46 (.ia 2 (.t 44) (.t 45)))),(1,(o1 39 (.ld 2 true (.t 38)))),(1,(o1 43 (.ld 2 true (.t 42)))),(1,(o1 47 (.ld 2 true (.t 46)))),
  (0,(o2 48 72 [.t 43,.t 47])),
  (3,(o2 49 71 [.t 39,.t 48])),(2,(o1 50 (.ia 2 (.t 34) (.t 35)))),
  (3,(o3 (.st 2 (.t 50) (.t 49))))]
abbrev Lf:List AO:=
 [(mt 52 14),
  (mt 51 52)]
abbrev Ld:List AO:=
 [(mt 53 12),
  (mt 54 13),
  (o2 55 73 []),o1 56 (.ia 2 (.t 53) (.t 54)),
  (o3 (.st 2 (.t 56) (.t 55)))]
abbrev uo:AC:=
 (.seq (.reg Lg) (.cond (.t 31) (.mix Lo) (.seq (.reg Lf) (.cond (.t 51) (.reg Ld) .skip))))
abbrev um:AC:=
 (.seq (.reg Li) (.seq (.reg Lh) (.block 2 uo)))
abbrev uk:List AO:=
 [o1 57 (.bin .add (.t 19) (ci 1)),
  (mt 19 57)]
abbrev uq:AC:=
 (.seq (.reg Lj) (.seq (.cond (.t 20) .skip (.exit 0)) (.seq (.block 1 um) (.reg uk))))
abbrev ul:AC:=
 (.loop uq)
abbrev uj:List AO:=
 [(mt 58 12),
  (mt 11 58)]
abbrev Lp:AF:=⟨59,(.seq (.reg Lm) (.seq (.reg Ll) (.seq (.seq (.reg Lk) (.block 0 ul)) (.seq (.reg uj) .ret)))),[.mv (.t 11)]⟩
theorem Ln:ab Tryz.prog (aa Tryz.prog 68) 68=some Lp:=by kernel_rfl
/-! slices.Clone[[]api.Interval,api.Interval]-/
abbrev Lb:List AO:=
 [o1 2 (.mv (.c .sl0))]
abbrev La:List AO:=
 [(mt 3 0),⟨some 4,none,.sn false (.t 3)⟩]
abbrev K9:List AO:=
 [o1 2 (.mv (.c .sl0))]
abbrev K8:List AO:=
 [o1 5 (.bs 123 2 0 [] []),
  (mt 6 0),o1 7 (.app 123 2 16 (.t 5) (.t 6)),
  (mt 2 7)]
abbrev Lc:AF:=⟨8,(.seq (.reg Lb) (.seq (.seq (.reg La) (.cond (.t 4) (.seq (.reg K9) .ret) .skip)) (.seq (.reg K8) .ret))),[.mv (.t 2)]⟩
theorem pc:ab Tryz.prog (aa Tryz.prog 69) 69=some Lc:=by kernel_rfl
/-! slices.Contains[[]api.Instr,api.Instr]-/
abbrev K5:List AO:=
 [o1 3 (.bx 82 0 (.t 1)),o1 4 (.mv (.c (.b false)))]
abbrev K4:List AO:=
 [(mt 5 0),o1 6 (.ld 2 true (.t 3)),
  (o2 7 91 [.t 5,.t 6]),o1 8 (.bin .geq (.t 7) (ci 0)),
  (mt 4 8)]
abbrev K7:AF:=⟨9,(.seq (.reg K5) (.seq (.reg K4) .ret)),[.mv (.t 4)]⟩
theorem K6:ab Tryz.prog (aa Tryz.prog 70) 70=some K7:=by kernel_rfl
/-! slices.Index[[]api.Instr,api.Instr]-/
abbrev KX:List AO:=
 [o1 3 (.bx 82 0 (.t 1)),o1 4 (.mv (ci 0))]
abbrev KW:List AO:=
 [(mt 6 0),o1 7 (.len (.t 6)),o1 8 (.mv (ci 0))]
abbrev KV:List AO:=
 [o1 9 (.bin .lss (.t 8) (.t 7))]
abbrev KU:List AO:=
 [(mt 10 8),
  (mt 5 10)]
abbrev KZ:List (Nat×AO):=
 [(2,(mt 12 0)),
  (2,(mt 13 5)),(2,(o1 14 (.ia 2 (.t 12) (.t 13)))),(1,(o1 11 (.ld 2 true (.t 3)))),(1,(o1 15 (.ld 2 true (.t 14)))),(2,(o1 16 (.eq false (.st [(0,1,.n),(1,1,.n)]) (.t 11) (.t 15))))]
abbrev KT:List AO:=
 [(mt 17 5),
  (mt 4 17)]
abbrev K1:AC:=
 (.seq (.reg KU) (.seq (.mix KZ) (.cond (.t 16) (.seq (.reg KT) .ret) .skip)))
abbrev KS:List AO:=
 [o1 18 (.bin .add (.t 8) (ci 1)),
  (mt 8 18)]
abbrev K2:AC:=
 (.seq (.reg KV) (.seq (.cond (.t 9) .skip (.exit 0)) (.seq (.block 1 K1) (.reg KS))))
abbrev K0:AC:=
 (.loop K2)
abbrev ui:List AO:=
 [o1 4 (.mv (.c (.n .i64 (-1))))]
abbrev K3:AF:=⟨19,(.seq (.reg KX) (.seq (.seq (.reg KW) (.block 0 K0)) (.seq (.reg ui) .ret))),[.mv (.t 4)]⟩
theorem KY:ab Tryz.prog (aa Tryz.prog 91) 91=some K3:=by kernel_rfl
/-! interval.Join-/
abbrev KP:List AO:=
 [o1 2 (.bx 123 0 (.t 0)),o1 3 (.bx 123 0 (.t 1)),o1 4 (.al 123 [.n .i64 0,.n .i64 0])]
abbrev KO:List AO:=
 [o1 5 (.ld 2 true (.t 2)),o1 6 (.ld 2 true (.t 3)),
  (o2 7 92 [.t 5,.t 6]),o1 8 (.un .not (.t 7))]
abbrev KN:List AO:=
 [o1 9 (.bd [.n .i64 0,.n .i64 0] []),
  (o3 (.st 2 (.t 4) (.t 9)))]
abbrev KM:List AO:=
 [o1 10 (.fa 0 (.t 2)),o1 11 (.ld 1 false (.t 10)),o1 12 (.fa 0 (.t 3)),o1 13 (.ld 1 false (.t 12)),⟨some 14,none,.mo (.mi (.t 11) (.t 13))⟩,o1 15 (.fa 1 (.t 2)),o1 16 (.ld 1 false (.t 15)),o1 17 (.fa 1 (.t 3)),o1 18 (.ld 1 false (.t 17)),⟨some 19,none,.mo (.mx (.t 16) (.t 18))⟩,o1 20 (.bd [.n .i64 0,.n .i64 0] [(0,1,(.t 14)),(1,1,(.t 19))]),
  (o3 (.st 2 (.t 4) (.t 20)))]
abbrev KR:AF:=⟨21,(.seq (.reg KP) (.seq (.seq (.reg KO) (.cond (.t 8) (.seq (.reg KN) .ret) .skip)) (.seq (.reg KM) .ret))),[.ld 2 true (.t 4)]⟩
theorem KQ:ab Tryz.prog (aa Tryz.prog 72) 72=some KR:=by kernel_rfl
/-! interval.ordered-/
abbrev KJ:List AO:=
 [o1 2 (.bx 123 0 (.t 0)),o1 3 (.bx 123 0 (.t 1)),o1 4 (.mv (.c (.b false)))]
abbrev KI:List AO:=
 [o1 5 (.ld 2 true (.t 2)),
  (o2 6 113 [.t 5]),o1 7 (.bin .eql (.t 6) (ci 0)),
  (mt 8 7),
  (o5 9 8 (.ld 2 true (.t 3))),⟨some 10,some (8,true),.cl (.c (.f 113 [] [])) [.t 9]⟩,
  (o5 11 8 (.bin .eql (.t 10) (ci 0))),o1 12 (.pick (.t 8) (.t 11) (.c (.b false))),
  (mt 4 12)]
abbrev KL:AF:=⟨13,(.seq (.reg KJ) (.seq (.reg KI) .ret)),[.mv (.t 4)]⟩
theorem KK:ab Tryz.prog (aa Tryz.prog 92) 92=some KL:=by kernel_rfl
/-! interval.Check-/
abbrev KE:List AO:=
 [o1 1 (.bx 123 0 (.t 0)),o1 2 (.mv (ci 0))]
abbrev KD:List AO:=
 [o1 4 (.fa 0 (.t 1)),o1 5 (.ld 1 false (.t 4)),o1 6 (.bin .lss (.t 5) (ci 0)),
  (mt 7 6),
  (o4 8 7 (.fa 0 (.t 1))),
  (o4 9 7 (.ld 1 false (.t 8))),
  (o4 10 7 (.bin .gtr (.t 9) (ci 4294967295))),o1 11 (.pick (.t 7) (.c (.b true)) (.t 10)),
  (mt 12 11),
  (o4 13 12 (.fa 1 (.t 1))),
  (o4 14 12 (.ld 1 false (.t 13))),
  (o4 15 12 (.bin .lss (.t 14) (ci 0))),o1 16 (.pick (.t 12) (.c (.b true)) (.t 15)),
  (mt 17 16),
  (o4 18 17 (.fa 1 (.t 1))),
  (o4 19 17 (.ld 1 false (.t 18))),
  (o4 20 17 (.bin .gtr (.t 19) (ci 4294967295))),o1 21 (.pick (.t 17) (.c (.b true)) (.t 20)),
  (mt 3 21)]
abbrev KC:List AO:=
 [o1 2 (.mv (ci 2))]
abbrev KB:List AO:=
 [o1 23 (.fa 0 (.t 1)),o1 24 (.ld 1 false (.t 23)),o1 25 (.fa 1 (.t 1)),o1 26 (.ld 1 false (.t 25)),o1 27 (.bin .gtr (.t 24) (.t 26)),
  (mt 22 27)]
abbrev KA:List AO:=
 [o1 2 (.mv (ci 29))]
abbrev KG:AC:=
 (.seq (.reg KD) (.cond (.t 3) (.seq (.reg KC) .ret) (.seq (.reg KB) (.cond (.t 22) (.seq (.reg KA) .ret) .skip))))
abbrev Kz:List AO:=
 [o1 2 (.mv (ci 0))]
abbrev KH:AF:=⟨28,(.seq (.reg KE) (.seq (.block 0 KG) (.seq (.reg Kz) .ret))),[.mv (.t 2)]⟩
theorem KF:ab Tryz.prog (aa Tryz.prog 113) 113=some KH:=by kernel_rfl
/-! interval.Widen-/
abbrev Kw:List AO:=
 [o1 2 (.bx 123 0 (.t 0)),o1 3 (.bx 123 0 (.t 1)),o1 4 (.al 123 [.n .i64 0,.n .i64 0])]
abbrev Kv:List AO:=
 [o1 7 (.ld 2 true (.t 2)),o1 8 (.ld 2 true (.t 3)),
  (o2 9 92 [.t 7,.t 8]),o1 10 (.un .not (.t 9))]
abbrev Ku:List AO:=
 [o1 11 (.bd [.n .i64 0,.n .i64 0] []),
  (o3 (.st 2 (.t 4) (.t 11)))]
abbrev Kt:List AO:=
 [o1 12 (.fa 0 (.t 3)),o1 13 (.ld 1 false (.t 12)),o1 14 (.fa 0 (.t 2)),o1 15 (.ld 1 false (.t 14)),o1 16 (.bin .lss (.t 13) (.t 15))]
abbrev Ks:List AO:=
 [o1 17 (.fa 0 (.t 2)),
  (o3 (.st 1 (.t 17) (ci 0)))]
abbrev Kr:List AO:=
 [o1 18 (.fa 1 (.t 3)),o1 19 (.ld 1 false (.t 18)),o1 20 (.fa 1 (.t 2)),o1 21 (.ld 1 false (.t 20)),o1 22 (.bin .gtr (.t 19) (.t 21))]
abbrev Kq:List AO:=
 [o1 23 (.bd [.n .i64 0,.n .i64 0,.n .i64 0] [(0,1,(ci 255)),(1,1,(ci 65535)),(2,1,(ci 4294967295))]),o1 24 (.mv (ci 0))]
abbrev Kp:List AO:=
 [o1 25 (.bin .lss (.t 24) (ci 3))]
abbrev Ko:List AO:=
 [o1 26 (.ix 3 1 false (.t 23) (.t 24)),
  (mt 6 26)]
abbrev Kn:List AO:=
 [(mt 27 6),o1 28 (.fa 1 (.t 3)),o1 29 (.ld 1 false (.t 28)),o1 30 (.bin .geq (.t 27) (.t 29))]
abbrev ue:List AO:=
 [(mt 31 6),o1 32 (.fa 1 (.t 2)),
  (o3 (.st 1 (.t 32) (.t 31)))]
abbrev ug:AC:=
 (.seq (.reg Ko) (.seq (.reg Kn) (.cond (.t 30) (.seq (.reg ue) (.exit 0)) .skip)))
abbrev ud:List AO:=
 [o1 33 (.bin .add (.t 24) (ci 1)),
  (mt 24 33)]
abbrev uh:AC:=
 (.seq (.reg Kp) (.seq (.cond (.t 25) .skip (.exit 0)) (.seq (.block 1 ug) (.reg ud))))
abbrev uf:AC:=
 (.loop uh)
abbrev uc:List AO:=
 [o1 34 (.ld 2 true (.t 2)),
  (o3 (.st 2 (.t 4) (.t 34)))]
abbrev Ky:AF:=⟨35,(.seq (.reg Kw) (.seq (.seq (.reg Kv) (.cond (.t 10) (.seq (.reg Ku) .ret) .skip)) (.seq (.seq (.reg Kt) (.cond (.t 16) (.reg Ks) .skip)) (.seq (.seq (.reg Kr) (.cond (.t 22) (.seq (.reg Kq) (.block 0 uf)) .skip)) (.seq (.reg uc) .ret))))),[.ld 2 true (.t 4)]⟩
theorem Kx:ab Tryz.prog (aa Tryz.prog 71) 71=some Ky:=by kernel_rfl
/-! interval.Full-/
abbrev Kk:List AO:=
 [o1 0 (.al 123 [.n .i64 0,.n .i64 0])]
abbrev Kj:List AO:=
 [o1 1 (.bd [.n .i64 0,.n .i64 0] [(1,1,(ci 4294967295))]),
  (o3 (.st 2 (.t 0) (.t 1)))]
abbrev Km:AF:=⟨2,(.seq (.reg Kk) (.seq (.reg Kj) .ret)),[.ld 2 true (.t 0)]⟩
theorem Kl:ab Tryz.prog (aa Tryz.prog 73) 73=some Km:=by kernel_rfl
/-! verifier.analyse-/
abbrev Ke:List AO:=
 [o1 2 (.bx 25 0 (.t 0)),o1 3 (.bx 88 0 (.t 1)),o1 4 (.al 44 [.n .i64 0,.n .i64 0,.n .i64 0,.sl0])]
abbrev Kd:List AO:=
 [o1 14 (.fa 2 (.t 2)),o1 15 (.ld 1 false (.t 14)),
  (o2 16 62 [.t 15]),
  (mt 13 16),o1 17 (.ext 0 (.t 13)),o1 18 (.ext 1 (.t 13)),
  (mt 5 17),
  (mt 6 18)]
abbrev Kc:List AO:=
 [(mt 19 6),o1 20 (.bin .eql (.t 19) (ci 0)),
  (mt 21 6),
  (o2 22 45 [.t 20,(ci 0),.t 21])]
abbrev Kb:List AO:=
 [o1 23 (.ld 3 true (.t 2)),
  (mt 24 5),o1 25 (.ld 2 true (.t 3)),⟨some 26,none,.mo (.mm)⟩,o1 27 (.bd [.sl0,.n .i64 0,.sl0,.sl0,.f0,.f0,.sl0,.sl0,.n .i64 0,.sl0,.cv (.map none)] [(0,3,(.t 23)),(3,1,(.t 24)),(4,2,(.t 25)),(10,1,(.t 26))]),o1 28 (.bx 120 0 (.t 27)),
  (mt 7 28)]
abbrev Kh:List (Nat×AO):=
 [(2,(mt 29 7)),(2,(o1 32 (.fa 1 (.t 2)))),(1,(o1 33 (.ld 1 false (.t 32)))),
  (0,(o2 30 64 [(.c (.n .u32 0))])),(0,(o1 31 (.bs 123 2 1 [.n .i64 0,.n .i64 0] [(0,2,(.t 30))]))),
  (3,(o2 34 63 [.t 31,.t 33])),(2,(o1 35 (.nc (.t 29)))),(2,(o1 36 (.fa 6 (.t 35)))),
  (3,(o3 (.st 1 (.t 36) (.t 34))))]
abbrev Ka:List AO:=
 [(mt 37 7),o1 38 (.fa 2 (.t 2)),o1 39 (.ld 1 false (.t 38)),o1 40 (.len (.t 39)),
  (o2 41 65 [.t 37,(ci 0),.t 40,(ci 0),(ci 0)]),o1 8 (.al 126 [.n .i64 0,.n .i64 0]),
  (o3 (.st 2 (.t 8) (.t 41)))]
abbrev J9:List AO:=
 [(mt 42 7),o1 43 (.fa 2 (.t 2)),o1 44 (.ld 1 false (.t 43)),o1 45 (.len (.t 44)),
  (o2 46 66 [.t 42,.t 45,(ci 0)])]
abbrev Kg:List (Nat×AO):=
 [(2,(o1 47 (.fa 0 (.t 8)))),(2,(o1 49 (.fa 1 (.t 8)))),
  (2,(mt 51 7)),(2,(o1 52 (.nc (.t 51)))),(2,(o1 53 (.fa 8 (.t 52)))),(1,(o1 48 (.ld 1 false (.t 47)))),(1,(o1 50 (.ld 1 false (.t 49)))),(1,(o1 54 (.ld 1 false (.t 53)))),(2,(o1 55 (.bd [.n .i64 0,.n .i64 0,.n .i64 0,.sl0] [(0,1,(.t 48)),(1,1,(.t 50)),(2,1,(.t 54))]))),(0,(o1 9 (.al 44 [.n .i64 0,.n .i64 0,.n .i64 0,.sl0]))),
  (3,(o3 (.st 4 (.t 9) (.t 55))))]
abbrev J8:List AO:=
 [o1 56 (.fa 2 (.t 2)),o1 57 (.ld 1 false (.t 56)),o1 58 (.len (.t 57)),o1 59 (.mv (ci 0))]
abbrev J7:List AO:=
 [o1 60 (.bin .lss (.t 59) (.t 58))]
abbrev t8:List AO:=
 [(mt 61 59),
  (mt 10 61)]
abbrev t7:List AO:=
 [(mt 63 7),o1 64 (.nc (.t 63)),o1 65 (.fa 10 (.t 64)),o1 66 (.ld 1 false (.t 65)),
  (mt 67 10),⟨some 68,none,.mo (.lz (.agg [.n .i64 0,.n .i64 0,.sl0]) true (.t 66) (.t 67))⟩,
  (mt 62 68),o1 69 (.ext 0 (.t 62)),o1 70 (.ext 1 (.t 62)),o1 11 (.al 56 [.n .i64 0,.n .i64 0,.sl0]),
  (o3 (.st 3 (.t 11) (.t 69))),
  (mt 12 70)]
abbrev t6:List AO:=
 [(mt 71 12)]
abbrev t5:List AO:=
 [o1 72 (.fa 3 (.t 9)),o1 73 (.ld 1 false (.t 72)),o1 74 (.ld 3 true (.t 11)),o1 75 (.bs 56 3 1 [.n .i64 0,.n .i64 0,.sl0] [(0,3,(.t 74))]),o1 76 (.app 56 3 40 (.t 73) (.t 75)),o1 77 (.fa 3 (.t 9)),
  (o3 (.st 1 (.t 77) (.t 76)))]
abbrev ua:AC:=
 (.seq (.reg t8) (.seq (.reg t7) (.seq (.reg t6) (.cond (.t 71) (.reg t5) .skip))))
abbrev t4:List AO:=
 [o1 78 (.bin .add (.t 59) (ci 1)),
  (mt 59 78)]
abbrev ub:AC:=
 (.seq (.reg J7) (.seq (.cond (.t 60) .skip (.exit 0)) (.seq (.block 1 ua) (.reg t4))))
abbrev t9:AC:=
 (.loop ub)
abbrev t3:List AO:=
 [o1 79 (.ld 4 true (.t 9)),
  (o3 (.st 4 (.t 4) (.t 79)))]
abbrev Ki:AF:=⟨80,(.seq (.reg Ke) (.seq (.reg Kd) (.seq (.reg Kc) (.seq (.reg Kb) (.seq (.mix Kh) (.seq (.reg Ka) (.seq (.reg J9) (.seq (.mix Kg) (.seq (.seq (.reg J8) (.block 0 t9)) (.seq (.reg t3) .ret)))))))))),[.ld 4 true (.t 4)]⟩
theorem Kf:ab Tryz.prog (aa Tryz.prog 43) 43=some Ki:=by kernel_rfl
/-! flow.Partners-/
abbrev J4:List AO:=
 [o1 2 (.mv (.c .sl0)),o1 3 (.al 28 [.n .i64 0])]
abbrev J3:List AO:=
 [o1 4 (.al 3 [.n .i64 0]),
  (o3 (.st 1 (.t 4) (ci 0)))]
abbrev J2:List AO:=
 []
abbrev J1:List AO:=
 [(mt 6 0),
  (o2 7 81 [.t 6]),
  (mt 5 7)]
abbrev J0:List AO:=
 [(mt 8 5),
  (o2 9 82 [.t 8])]
abbrev JZ:List AO:=
 [(mt 10 5),o1 11 (.nc (.t 10)),o1 12 (.fa 2 (.t 11)),o1 13 (.ld 1 false (.t 12)),
  (mt 2 13),
  (o3 (.st 1 (.t 3) (ci 0)))]
abbrev J6:AF:=⟨14,(.seq (.reg J4) (.seq (.reg J3) (.seq (.dfr J2 (.c (.f 80 [] [])) [.t 4,.t 3]) (.seq (.reg J1) (.seq (.reg J0) (.seq (.reg JZ) .ret)))))),[.mv (.t 2),.ld 1 false (.t 3)]⟩
theorem J5:ab Tryz.prog (aa Tryz.prog 62) 62=some J6:=by kernel_rfl
/-! verifier.demand-/
abbrev JW:List AO:=
 [(mt 6 0),o1 7 (.un .not (.t 6))]
abbrev JV:List AO:=
 [(mt 8 1),
  (mt 9 2),
  (o2 10 74 [.t 8,.t 9])]
abbrev JY:AF:=⟨11,(.seq (.reg JW) (.cond (.t 7) (.reg JV) .skip)),[]⟩
theorem JX:ab Tryz.prog (aa Tryz.prog 45) 45=some JY:=by kernel_rfl
/-! verifier.fail-/
abbrev JU:AF:=⟨8,.die,[]⟩
theorem JT:ab Tryz.prog (aa Tryz.prog 74) 74=some JU:=by kernel_rfl
/-! interval.Exact-/
abbrev JQ:List AO:=
 [o1 2 (.al 123 [.n .i64 0,.n .i64 0])]
abbrev JP:List AO:=
 [(mt 3 0),o1 4 (.cvi .i64 (.t 3)),
  (mt 5 0),o1 6 (.cvi .i64 (.t 5)),o1 7 (.bd [.n .i64 0,.n .i64 0] [(0,1,(.t 4)),(1,1,(.t 6))]),
  (o3 (.st 2 (.t 2) (.t 7)))]
abbrev JS:AF:=⟨8,(.seq (.reg JQ) (.seq (.reg JP) .ret)),[.ld 2 true (.t 2)]⟩
theorem JR:ab Tryz.prog (aa Tryz.prog 64) 64=some JS:=by kernel_rfl
/-! slices.Repeat[[]api.Interval,api.Interval]-/
abbrev JJ:List AO:=
 [o1 4 (.mv (.c .sl0))]
abbrev JI:List AO:=
 [(mt 9 1),o1 10 (.bin .lss (.t 9) (ci 0))]
abbrev JH:List AO:=
 [(mt 13 0),o1 14 (.len (.t 13)),o1 15 (.cvi .u64 (.t 14)),
  (mt 16 1),o1 17 (.cvi .u64 (.t 16)),
  (o2 18 85 [.t 15,.t 17]),
  (mt 12 18),o1 19 (.ext 0 (.t 12)),o1 20 (.ext 1 (.t 12)),
  (mt 5 19),
  (mt 6 20)]
abbrev JG:List AO:=
 [(mt 21 5),o1 22 (.bin .gtr (.t 21) (.c (.n .u64 0))),
  (mt 23 22),
  (o4 24 23 (.mv (.t 6))),
  (o4 25 23 (.bin .gtr (.t 24) (.c (.n .u64 9223372036854775807)))),o1 26 (.pick (.t 23) (.c (.b true)) (.t 25))]
abbrev JF:List AO:=
 [(mt 28 6),o1 29 (.cvi .i64 (.t 28)),o1 30 (.ms 123 2 16 [.n .i64 0,.n .i64 0] (.t 29) (.t 29)),
  (mt 7 30)]
abbrev JE:List AO:=
 [(mt 31 7),
  (mt 32 0),⟨some 33,none,.mo (.cp 2 (.t 31) (.t 32))⟩,
  (mt 8 33)]
abbrev JD:List AO:=
 [(mt 34 8),
  (mt 35 7),o1 36 (.len (.t 35)),o1 37 (.bin .lss (.t 34) (.t 36))]
abbrev JL:List (Nat×AO):=
 [(2,(mt 38 8)),
  (2,(mt 39 7)),
  (2,(mt 40 8)),(2,(o1 41 (.sl 2 (.t 39) (some (.t 40)) none))),
  (2,(mt 42 7)),
  (2,(mt 43 8)),(2,(o1 44 (.sl 2 (.t 42) none (some (.t 43))))),(3,⟨some 45,none,.mo (.cp 2 (.t 41) (.t 44))⟩),(2,(o1 46 (.bin .add (.t 38) (.t 45)))),
  (2,(mt 8 46))]
abbrev JM:AC:=
 (.mix JL)
abbrev JN:AC:=
 (.seq (.seq (.reg JD) (.cond (.t 37) .skip (.exit 0))) (.block 1 JM))
abbrev t2:AC:=
 (.loop JN)
abbrev t1:List AO:=
 [(mt 47 7),
  (mt 4 47)]
abbrev JO:AF:=⟨48,(.seq (.reg JJ) (.seq (.seq (.reg JI) (.cond (.t 10) .die .skip)) (.seq (.reg JH) (.seq (.seq (.reg JG) (.cond (.t 26) .die .skip)) (.seq (.reg JF) (.seq (.reg JE) (.seq (.block 0 t2) (.seq (.reg t1) .ret)))))))),[.mv (.t 4)]⟩
theorem JK:ab Tryz.prog (aa Tryz.prog 63) 63=some JO:=by kernel_rfl
/-! verifier.walker.code-/
abbrev JA:List AO:=
 [o1 10 (.al 126 [.n .i64 0,.n .i64 0])]
abbrev Jz:List AO:=
 [o1 11 (.al 126 [.n .i64 0,.n .i64 0])]
abbrev Jy:List AO:=
 [(mt 14 1),
  (mt 12 14)]
abbrev Jx:List AO:=
 [(mt 15 12),
  (mt 16 2),o1 17 (.bin .lss (.t 15) (.t 16))]
abbrev Jw:List AO:=
 [o1 13 (.al 126 [.n .i64 0,.n .i64 0])]
abbrev Jv:List AO:=
 [(mt 20 0),o1 21 (.nc (.t 20)),o1 22 (.fa 0 (.t 21)),o1 23 (.fa 2 (.t 22)),o1 24 (.ld 1 false (.t 23)),
  (mt 25 12),o1 26 (.ia 2 (.t 24) (.t 25)),o1 27 (.fa 0 (.t 26)),o1 28 (.ld 1 false (.t 27))]
abbrev Ju:List AO:=
 [o1 34 (.bin .eql (.t 28) (ci 27)),
  (mt 33 34)]
abbrev Jt:List AO:=
 [(mt 36 0),
  (mt 37 12),
  (mt 38 3),
  (mt 39 4),
  (o2 40 86 [.t 36,.t 37,.t 38,.t 39]),
  (mt 35 40),o1 41 (.ext 0 (.t 35)),o1 42 (.ext 1 (.t 35)),
  (o3 (.st 2 (.t 13) (.t 41))),
  (mt 12 42)]
abbrev Js:List AO:=
 [o1 44 (.bin .eql (.t 28) (ci 29)),
  (mt 43 44)]
abbrev Jr:List AO:=
 [(mt 46 0),
  (mt 47 12),
  (mt 48 3),
  (o2 49 87 [.t 46,.t 47,.t 48]),
  (mt 45 49),o1 50 (.ext 0 (.t 45)),o1 51 (.ext 1 (.t 45)),
  (o3 (.st 2 (.t 13) (.t 50))),
  (mt 12 51)]
abbrev tV:List AO:=
 [o1 53 (.bin .eql (.t 28) (ci 30)),
  (mt 52 53)]
abbrev tU:List AO:=
 [(mt 54 0),
  (mt 55 12),
  (mt 56 3),
  (o2 57 88 [.t 54,.t 55,.t 56,(.c (.s ⟨#[116]⟩))])]
abbrev tT:List AO:=
 [(mt 58 0),
  (mt 59 12),
  (mt 60 4),
  (o2 61 66 [.t 58,.t 59,.t 60])]
abbrev tW:List (Nat×AO):=
 [(2,(mt 62 0)),
  (2,(mt 63 0)),(2,(o1 64 (.nc (.t 63)))),(2,(o1 65 (.fa 9 (.t 64)))),
  (2,(mt 67 0)),(2,(o1 68 (.nc (.t 67)))),(2,(o1 69 (.fa 6 (.t 68)))),(1,(o1 66 (.ld 1 false (.t 65)))),(1,(o1 70 (.ld 1 false (.t 69)))),(0,(o1 71 (.bs 54 1 1 [.sl0] [(0,1,(.t 70))]))),(3,(o1 72 (.app 54 1 24 (.t 66) (.t 71)))),(2,(o1 73 (.nc (.t 62)))),(2,(o1 74 (.fa 9 (.t 73)))),
  (3,(o3 (.st 1 (.t 74) (.t 72))))]
abbrev tS:List AO:=
 [o1 75 (.bd [.n .i64 0,.n .i64 0] [(0,1,(ci 1))]),
  (o3 (.st 2 (.t 13) (.t 75)))]
abbrev tR:List AO:=
 [(mt 29 0),
  (mt 30 12),
  (mt 31 3),
  (o2 32 89 [.t 29,.t 30,.t 31]),
  (o3 (.st 2 (.t 13) (.t 32)))]
abbrev tZ:AC:=
 (.seq (.reg Ju) (.cond (.t 33) (.reg Jt) (.seq (.reg Js) (.cond (.t 43) (.reg Jr) (.seq (.reg tV) (.cond (.t 52) (.seq (.reg tU) (.seq (.reg tT) (.seq (.mix tW) (.reg tS)))) (.reg tR)))))))
abbrev tQ:List AO:=
 [o1 76 (.ld 2 true (.t 11)),o1 77 (.ld 2 true (.t 13)),
  (o2 78 90 [.t 76,.t 77]),
  (o3 (.st 2 (.t 11) (.t 78)))]
abbrev tY:AC:=
 (.seq (.reg Jw) (.seq (.seq (.reg Jv) (.block 2 tZ)) (.reg tQ)))
abbrev tP:List AO:=
 [(mt 18 12),o1 19 (.bin .add (.t 18) (ci 1)),
  (mt 12 19)]
abbrev t0:AC:=
 (.seq (.seq (.reg Jx) (.cond (.t 17) .skip (.exit 0))) (.seq (.block 1 tY) (.reg tP)))
abbrev tX:AC:=
 (.loop t0)
abbrev tN:List AO:=
 [o1 79 (.ld 2 true (.t 11)),
  (o3 (.st 2 (.t 10) (.t 79)))]
abbrev JC:AF:=⟨80,(.seq (.reg JA) (.seq (.reg Jz) (.seq (.seq (.reg Jy) (.block 0 tX)) (.seq (.reg tN) .ret)))),[.ld 2 true (.t 10)]⟩
theorem JB:ab Tryz.prog (aa Tryz.prog 65) 65=some JC:=by kernel_rfl
/-! verifier.walker.choice-/
abbrev Jn:List AO:=
 [o1 8 (.al 126 [.n .i64 0,.n .i64 0]),o1 9 (.mv (ci 0))]
abbrev Jm:List AO:=
 [(mt 18 0),
  (mt 19 1),
  (mt 20 2),
  (o2 21 88 [.t 18,.t 19,.t 20,(.c (.s ⟨#[116]⟩))])]
abbrev Jl:List AO:=
 [(mt 22 0),o1 23 (.nc (.t 22)),o1 24 (.fa 3 (.t 23)),o1 25 (.ld 1 false (.t 24)),
  (mt 26 1),o1 27 (.ia 1 (.t 25) (.t 26)),o1 28 (.ld 1 false (.t 27)),
  (mt 10 28)]
abbrev Jk:List AO:=
 [(mt 29 10),
  (mt 11 29)]
abbrev Jp:List (Nat×AO):=
 [(2,(mt 30 0)),(2,(o1 31 (.nc (.t 30)))),(2,(o1 32 (.fa 6 (.t 31)))),
  (2,(mt 34 0)),(2,(o1 35 (.nc (.t 34)))),(2,(o1 36 (.fa 7 (.t 35)))),(1,(o1 33 (.ld 1 false (.t 32)))),
  (2,(mt 12 33)),(1,(o1 37 (.ld 1 false (.t 36)))),(2,(o1 38 (.len (.t 37)))),
  (2,(mt 13 38))]
abbrev Jj:List AO:=
 [(mt 39 0),
  (mt 40 1),o1 41 (.bin .add (.t 40) (ci 1)),
  (mt 42 10),
  (mt 43 13),
  (mt 44 3),
  (o2 45 65 [.t 39,.t 41,.t 42,.t 43,.t 44]),o1 46 (.bd [.n .i64 0,.n .i64 0] []),o1 14 (.al 126 [.n .i64 0,.n .i64 0]),o1 15 (.al 126 [.n .i64 0,.n .i64 0]),
  (o3 (.st 2 (.t 14) (.t 45))),
  (o3 (.st 2 (.t 15) (.t 46)))]
abbrev Ji:List AO:=
 [(mt 47 0),
  (mt 48 10),
  (mt 49 13),
  (o2 50 66 [.t 47,.t 48,.t 49])]
abbrev Jh:List AO:=
 [(mt 51 0),o1 52 (.nc (.t 51)),o1 53 (.fa 6 (.t 52)),o1 54 (.ld 1 false (.t 53)),
  (mt 16 54)]
abbrev Jg:List AO:=
 [(mt 55 0),
  (mt 56 12),o1 57 (.nc (.t 55)),o1 58 (.fa 6 (.t 57)),
  (o3 (.st 1 (.t 58) (.t 56)))]
abbrev Jf:List AO:=
 [(mt 59 0),o1 60 (.nc (.t 59)),o1 61 (.fa 0 (.t 60)),o1 62 (.fa 2 (.t 61)),o1 63 (.ld 1 false (.t 62)),
  (mt 64 10),o1 65 (.ia 2 (.t 63) (.t 64)),o1 66 (.fa 0 (.t 65)),o1 67 (.ld 1 false (.t 66)),o1 68 (.bin .eql (.t 67) (ci 28))]
abbrev tM:List AO:=
 [(mt 69 0),o1 70 (.nc (.t 69)),o1 71 (.fa 3 (.t 70)),o1 72 (.ld 1 false (.t 71)),
  (mt 73 10),o1 74 (.ia 1 (.t 72) (.t 73)),o1 75 (.ld 1 false (.t 74)),
  (mt 11 75)]
abbrev tL:List AO:=
 [(mt 76 0),
  (mt 77 10),o1 78 (.bin .add (.t 77) (ci 1)),
  (mt 79 11),
  (mt 80 13),
  (mt 81 3),
  (o2 82 65 [.t 76,.t 78,.t 79,.t 80,.t 81]),
  (o3 (.st 2 (.t 15) (.t 82)))]
abbrev tK:List AO:=
 [(mt 83 0),
  (mt 84 11),
  (mt 85 13),
  (o2 86 66 [.t 83,.t 84,.t 85])]
abbrev tJ:List AO:=
 [(mt 87 0),
  (mt 88 16),
  (mt 89 0),o1 90 (.nc (.t 89)),o1 91 (.fa 6 (.t 90)),o1 92 (.ld 1 false (.t 91)),
  (o2 93 104 [.t 88,.t 92]),o1 94 (.nc (.t 87)),o1 95 (.fa 6 (.t 94)),
  (o3 (.st 1 (.t 95) (.t 93)))]
abbrev tI:List AO:=
 [o1 96 (.fa 0 (.t 14)),o1 97 (.ld 1 false (.t 96)),o1 98 (.fa 0 (.t 15)),o1 99 (.ld 1 false (.t 98)),⟨some 100,none,.mo (.mx (.t 97) (.t 99))⟩,o1 101 (.fa 1 (.t 14)),o1 102 (.ld 1 false (.t 101)),o1 103 (.fa 1 (.t 15)),o1 104 (.ld 1 false (.t 103)),⟨some 105,none,.mo (.mx (.t 102) (.t 104))⟩,o1 106 (.bd [.n .i64 0,.n .i64 0] [(0,1,(.t 100)),(1,1,(.t 105))]),o1 17 (.al 126 [.n .i64 0,.n .i64 0]),
  (o3 (.st 2 (.t 17) (.t 106)))]
abbrev tH:List AO:=
 [o1 107 (.ld 2 true (.t 17)),o1 108 (.bd [.n .i64 0,.n .i64 0] [(0,1,(ci 1))]),
  (o2 109 90 [.t 107,.t 108]),
  (mt 110 11),
  (o3 (.st 2 (.t 8) (.t 109))),
  (mt 9 110)]
abbrev Jq:AF:=⟨111,(.seq (.reg Jn) (.seq (.reg Jm) (.seq (.reg Jl) (.seq (.reg Jk) (.seq (.mix Jp) (.seq (.reg Jj) (.seq (.reg Ji) (.seq (.reg Jh) (.seq (.reg Jg) (.seq (.seq (.reg Jf) (.cond (.t 68) (.seq (.reg tM) (.seq (.reg tL) (.reg tK))) .skip)) (.seq (.reg tJ) (.seq (.reg tI) (.seq (.reg tH) .ret))))))))))))),[.ld 2 true (.t 8),.mv (.t 9)]⟩
theorem Jo:ab Tryz.prog (aa Tryz.prog 86) 86=some Jq:=by kernel_rfl
/-! verifier.walker.pop-/
abbrev IV:List AO:=
 [o1 8 (.mv (.c .sl0))]
abbrev IU:List AO:=
 [(mt 13 0),o1 14 (.nc (.t 13)),o1 15 (.fa 7 (.t 14)),o1 16 (.ld 1 false (.t 15)),o1 17 (.len (.t 16)),
  (mt 18 3),o1 19 (.lns (.t 18)),o1 20 (.bin .sub (.t 17) (.t 19)),
  (mt 9 20)]
abbrev IR:List AO:=
 [(mt 21 9),
  (mt 22 2),o1 23 (.bin .geq (.t 21) (.t 22)),
  (mt 24 1),
  (o2 25 45 [.t 23,.t 24,(ci 14)])]
abbrev IQ:List AO:=
 [(mt 26 0),o1 27 (.nc (.t 26)),o1 28 (.fa 7 (.t 27)),o1 29 (.ld 1 false (.t 28)),
  (mt 30 9),o1 31 (.sl 3 (.t 29) (some (.t 30)) none),
  (o2 32 107 [.t 31]),
  (mt 10 32)]
abbrev IP:List AO:=
 [(mt 33 10),o1 34 (.len (.t 33)),o1 35 (.mv (ci 0))]
abbrev IM:List AO:=
 [o1 36 (.bin .lss (.t 35) (.t 34))]
abbrev IL:List AO:=
 [(mt 37 35),o1 38 (.ia 3 (.t 33) (.t 35)),o1 39 (.ld 3 true (.t 38)),o1 12 (.al 178 [.b false,.n .i64 0,.n .i64 0]),
  (mt 11 37),
  (o3 (.st 3 (.t 12) (.t 39)))]
abbrev IX:List (Nat×AO):=
 [(2,(mt 40 3)),
  (2,(mt 41 11)),(2,(o1 42 (.sx (.t 40) (.t 41)))),(2,(o1 43 (.bin .neq (.t 42) (.c (.n .u8 110))))),
  (2,(mt 44 43)),
  (2,(o5 45 44 (.mv (.t 3)))),
  (2,(o5 46 44 (.mv (.t 11)))),
  (2,(o5 47 44 (.sx (.t 45) (.t 46)))),
  (2,(o5 48 44 (.bin .neq (.t 47) (.c (.n .u8 116))))),(2,(o1 49 (.pick (.t 44) (.t 48) (.c (.b false))))),
  (2,(mt 50 49)),
  (2,(o4 51 50 (.mv (.t 3)))),
  (2,(o4 52 50 (.mv (.t 11)))),
  (2,(o4 53 50 (.sx (.t 51) (.t 52)))),
  (2,(o4 54 50 (.bin .eql (.t 53) (.c (.n .u8 116))))),
  (2,(o4 55 50 (.fa 0 (.t 12)))),
  (2,(mt 59 1)),
  (1,(o4 56 50 (.ld 1 false (.t 55)))),
  (2,(o4 57 50 (.eq false .b (.t 54) (.t 56)))),(2,(o1 58 (.pick (.t 50) (.c (.b true)) (.t 57)))),
  (3,(o2 60 45 [.t 58,.t 59,(ci 13)]))]
abbrev IY:AC:=
 (.seq (.reg IL) (.mix IX))
abbrev IK:List AO:=
 [o1 61 (.bin .add (.t 35) (ci 1)),
  (mt 35 61)]
abbrev tG:AC:=
 (.seq (.reg IM) (.seq (.cond (.t 36) .skip (.exit 0)) (.seq (.block 1 IY) (.reg IK))))
abbrev tF:AC:=
 (.loop tG)
abbrev tE:List AO:=
 [(mt 62 0),
  (mt 63 0),o1 64 (.nc (.t 63)),o1 65 (.fa 7 (.t 64)),o1 66 (.ld 1 false (.t 65)),
  (mt 67 9),o1 68 (.sl 3 (.t 66) none (some (.t 67))),o1 69 (.nc (.t 62)),o1 70 (.fa 7 (.t 69)),
  (o3 (.st 1 (.t 70) (.t 68)))]
abbrev tD:List AO:=
 [(mt 71 10),
  (mt 8 71)]
abbrev IZ:AF:=⟨72,(.seq (.reg IV) (.seq (.reg IU) (.seq (.reg IR) (.seq (.reg IQ) (.seq (.seq (.reg IP) (.block 0 tF)) (.seq (.reg tE) (.seq (.reg tD) .ret))))))),[.mv (.t 8)]⟩
theorem IW:ab Tryz.prog (aa Tryz.prog 88) 88=some IZ:=by kernel_rfl
/-! slices.Clone[[]verifier.value,verifier.value]-/
abbrev II:List AO:=
 [o1 2 (.mv (.c .sl0))]
abbrev IH:List AO:=
 [(mt 3 0),⟨some 4,none,.sn false (.t 3)⟩]
abbrev IG:List AO:=
 [o1 2 (.mv (.c .sl0))]
abbrev IE:List AO:=
 [o1 5 (.bs 178 3 0 [] []),
  (mt 6 0),o1 7 (.app 178 3 24 (.t 5) (.t 6)),
  (mt 2 7)]
abbrev IJ:AF:=⟨8,(.seq (.reg II) (.seq (.seq (.reg IH) (.cond (.t 4) (.seq (.reg IG) .ret) .skip)) (.seq (.reg IE) .ret))),[.mv (.t 2)]⟩
theorem pb:ab Tryz.prog (aa Tryz.prog 107) 107=some IJ:=by kernel_rfl
/-! verifier.guarded-/
abbrev F5:List AO:=
 [o1 2 (.al 3 [.n .i64 0]),o1 3 (.al 28 [.n .i64 0])]
abbrev F4:List AO:=
 [o1 4 (.mf 61 [] [.t 2,.t 3])]
abbrev F3:List AO:=
 [(mt 5 0),⟨some 6,none,.cl (.t 5) []⟩]
abbrev F2:List AO:=
 [(o3 (.st 1 (.t 2) (ci 0))),
  (o3 (.st 1 (.t 3) (ci 0)))]
abbrev F7:AF:=⟨7,(.seq (.reg F5) (.seq (.dfr F4 (.t 4) []) (.seq (.reg F3) (.seq (.reg F2) .ret)))),[.ld 1 false (.t 2),.ld 1 false (.t 3)]⟩
theorem F6:ab Tryz.prog (aa Tryz.prog 41) 41=some F7:=by kernel_rfl
/-! cost.Steps-/
abbrev FP:List AO:=
 [o1 2 (.bx 25 0 (.t 0)),o1 3 (.bx 44 0 (.t 1)),o1 4 (.mv (ci 0)),o1 5 (.mv (ci 0))]
abbrev FO:List AO:=
 [o1 10 (.ld 3 true (.t 2)),o1 11 (.ld 4 true (.t 3)),
  (o2 12 31 [.t 10,.t 11]),
  (mt 9 12),o1 13 (.ext 0 (.t 9)),o1 14 (.ext 1 (.t 9)),o1 15 (.ext 2 (.t 9)),o1 6 (.al 69 [.sl0,.cv (.map none)]),
  (o3 (.st 2 (.t 6) (.t 13))),
  (mt 7 14),
  (mt 8 15)]
abbrev FN:List AO:=
 [(mt 16 8),o1 17 (.bin .neq (.t 16) (ci 0))]
abbrev FM:List AO:=
 [(mt 18 8),o1 4 (.mv (ci 0)),
  (mt 5 18)]
abbrev FL:List AO:=
 [o1 19 (.ld 2 true (.t 6)),
  (mt 20 7),o1 21 (.ld 2 true (.t 6)),o1 22 (.mf 34 [.t 21] []),
  (o2 23 33 [.t 19,.t 20,.t 22,(ci 1)]),
  (o2 24 32 [.t 23]),o1 25 (.ext 0 (.t 24)),o1 26 (.ext 1 (.t 24)),
  (mt 4 25),
  (mt 5 26)]
abbrev FR:AF:=⟨27,(.seq (.reg FP) (.seq (.reg FO) (.seq (.seq (.reg FN) (.cond (.t 17) (.seq (.reg FM) .ret) .skip)) (.seq (.reg FL) .ret)))),[.mv (.t 4),.mv (.t 5)]⟩
theorem FQ:ab Tryz.prog (aa Tryz.prog 16) 16=some FR:=by kernel_rfl
/-! cost.open-/
abbrev FI:List AO:=
 [o1 2 (.bx 25 0 (.t 0)),o1 3 (.bx 44 0 (.t 1)),o1 4 (.al 69 [.sl0,.cv (.map none)]),o1 5 (.mv (.c .sl0)),o1 6 (.mv (ci 0))]
abbrev FH:List AO:=
 [o1 19 (.ld 3 true (.t 2)),
  (o2 20 40 [.t 19]),
  (mt 18 20),o1 21 (.ext 0 (.t 18)),o1 22 (.ext 1 (.t 18)),
  (mt 7 21),
  (mt 8 22)]
abbrev FG:List AO:=
 [(mt 23 8),o1 24 (.bin .neq (.t 23) (ci 0))]
abbrev FF:List AO:=
 [o1 25 (.bd [.sl0,.cv (.map none)] []),
  (mt 26 8),
  (o3 (.st 2 (.t 4) (.t 25))),o1 5 (.mv (.c .sl0)),
  (mt 6 26)]
abbrev FE:List AO:=
 [o1 28 (.fa 2 (.t 2)),o1 29 (.ld 1 false (.t 28)),
  (o2 30 52 [.t 29]),
  (mt 27 30),o1 31 (.ext 0 (.t 27)),o1 32 (.ext 1 (.t 27)),
  (mt 9 31),
  (mt 10 32)]
abbrev FD:List AO:=
 [(mt 33 10),o1 34 (.bin .neq (.t 33) (ci 0))]
abbrev FC:List AO:=
 [o1 35 (.bd [.sl0,.cv (.map none)] []),
  (mt 36 10),
  (o3 (.st 2 (.t 4) (.t 35))),o1 5 (.mv (.c .sl0)),
  (mt 6 36)]
abbrev FB:List AO:=
 [(mt 37 9),o1 38 (.len (.t 37)),o1 39 (.fa 3 (.t 3)),o1 40 (.ld 1 false (.t 39)),o1 41 (.len (.t 40)),o1 42 (.bin .neq (.t 38) (.t 41))]
abbrev FA:List AO:=
 [o1 43 (.bd [.sl0,.cv (.map none)] []),
  (o3 (.st 2 (.t 4) (.t 43))),o1 5 (.mv (.c .sl0)),o1 6 (.mv (ci 23))]
abbrev Fy:List AO:=
 [o1 44 (.fa 2 (.t 2)),o1 45 (.ld 1 false (.t 44)),⟨some 46,none,.mo (.mm)⟩,o1 47 (.bd [.sl0,.cv (.map none)] [(0,1,(.t 45)),(1,1,(.t 46))]),o1 11 (.al 69 [.sl0,.cv (.map none)]),
  (o3 (.st 2 (.t 11) (.t 47)))]
abbrev sb:List AO:=
 [o1 12 (.mv (.c (.b false)))]
abbrev sa:List AO:=
 [(mt 48 9),o1 49 (.len (.t 48)),o1 50 (.mv (ci 0))]
abbrev r9:List AO:=
 [o1 51 (.bin .lss (.t 50) (.t 49))]
abbrev r8:List AO:=
 [(mt 52 50),o1 53 (.ia 1 (.t 48) (.t 50)),o1 54 (.ld 1 false (.t 53)),
  (mt 13 52),
  (mt 14 54)]
abbrev r7:List AO:=
 [o1 55 (.fa 3 (.t 3)),o1 56 (.ld 1 false (.t 55)),
  (mt 57 13),o1 58 (.ia 3 (.t 56) (.t 57)),o1 59 (.ld 3 true (.t 58)),o1 15 (.al 56 [.n .i64 0,.n .i64 0,.sl0]),
  (o3 (.st 3 (.t 15) (.t 59)))]
abbrev r6:List AO:=
 [o1 60 (.fa 0 (.t 15)),o1 61 (.ld 1 false (.t 60)),
  (mt 62 14),o1 63 (.bin .neq (.t 61) (.t 62))]
abbrev rZ:List AO:=
 [o1 64 (.bd [.sl0,.cv (.map none)] []),
  (o3 (.st 2 (.t 4) (.t 64))),o1 5 (.mv (.c .sl0)),o1 6 (.mv (ci 23))]
abbrev rY:List AO:=
 [(mt 65 12),
  (mt 66 65),
  (o4 67 66 (.fa 1 (.t 15))),
  (o4 68 66 (.ld 1 false (.t 67))),
  (o4 69 66 (.bin .lss (.t 68) (ci 0))),o1 70 (.pick (.t 66) (.c (.b true)) (.t 69)),
  (mt 71 70),
  (o4 72 71 (.fa 1 (.t 15))),
  (o4 73 71 (.ld 1 false (.t 72))),
  (o4 74 71 (.bin .gtr (.t 73) (ci 65536))),o1 75 (.pick (.t 71) (.c (.b true)) (.t 74)),
  (mt 12 75)]
abbrev rX:List AO:=
 [o1 76 (.fa 1 (.t 11)),o1 77 (.ld 1 false (.t 76)),
  (mt 78 14),o1 79 (.fa 1 (.t 15)),o1 80 (.ld 1 false (.t 79)),⟨none,none,.mo (.mu (.t 77) (.t 78) (.t 80))⟩]
abbrev sf:AC:=
 (.seq (.reg r8) (.seq (.reg r7) (.seq (.seq (.reg r6) (.cond (.t 63) (.seq (.reg rZ) .ret) .skip)) (.seq (.reg rY) (.reg rX)))))
abbrev rV:List AO:=
 [o1 81 (.bin .add (.t 50) (ci 1)),
  (mt 50 81)]
abbrev sg:AC:=
 (.seq (.reg r9) (.seq (.cond (.t 51) .skip (.exit 0)) (.seq (.block 1 sf) (.reg rV))))
abbrev sd:AC:=
 (.loop sg)
abbrev rU:List AO:=
 [(mt 82 12)]
abbrev rT:List AO:=
 [o1 83 (.bd [.sl0,.cv (.map none)] []),
  (o3 (.st 2 (.t 4) (.t 83))),o1 5 (.mv (.c .sl0)),o1 6 (.mv (ci 2))]
abbrev rS:List AO:=
 [o1 85 (.fa 2 (.t 2)),o1 86 (.ld 1 false (.t 85)),
  (o2 87 53 [.t 86]),
  (mt 84 87),o1 88 (.ext 0 (.t 84)),o1 89 (.ext 1 (.t 84)),o1 90 (.ext 2 (.t 84)),
  (mt 16 88),
  (mt 17 89),
  (mt 10 90)]
abbrev rR:List AO:=
 [o1 91 (.ld 2 true (.t 11)),
  (mt 92 16),
  (mt 93 10),
  (o3 (.st 2 (.t 4) (.t 91))),
  (mt 5 92),
  (mt 6 93)]
abbrev FK:AF:=⟨94,(.seq (.reg FI) (.seq (.seq (.reg FH) (.seq (.reg FG) (.cond (.t 24) (.seq (.reg FF) .ret) .skip))) (.seq (.reg FE) (.seq (.seq (.reg FD) (.cond (.t 34) (.seq (.reg FC) .ret) .skip)) (.seq (.seq (.reg FB) (.cond (.t 42) (.seq (.reg FA) .ret) .skip)) (.seq (.reg Fy) (.seq (.reg sb) (.seq (.seq (.reg sa) (.block 0 sd)) (.seq (.seq (.reg rU) (.cond (.t 82) (.seq (.reg rT) .ret) .skip)) (.seq (.reg rS) (.seq (.reg rR) .ret))))))))))),[.ld 2 true (.t 4),.mv (.t 5),.mv (.t 6)]⟩
theorem FJ:ab Tryz.prog (aa Tryz.prog 31) 31=some FK:=by kernel_rfl
/-! flow.Loops-/
abbrev Fv:List AO:=
 [o1 2 (.mv (.c .sl0)),o1 3 (.mv (ci 0))]
abbrev Fu:List AO:=
 [(mt 11 0),
  (o2 12 53 [.t 11]),
  (mt 10 12),o1 13 (.ext 0 (.t 10)),o1 14 (.ext 1 (.t 10)),o1 15 (.ext 2 (.t 10)),
  (mt 4 13),
  (mt 5 14),
  (mt 6 15)]
abbrev Ft:List AO:=
 [(mt 16 6),o1 17 (.bin .neq (.t 16) (ci 0))]
abbrev Fs:List AO:=
 [(mt 18 6),o1 2 (.mv (.c .sl0)),
  (mt 3 18)]
abbrev Fq:List AO:=
 [o1 7 (.mv (.c .sl0))]
abbrev Fp:List AO:=
 [(mt 19 0),o1 20 (.len (.t 19)),o1 21 (.mv (ci 0))]
abbrev Fo:List AO:=
 [o1 22 (.bin .lss (.t 21) (.t 20))]
abbrev Fn:List AO:=
 [(mt 23 21),o1 24 (.ia 2 (.t 19) (.t 21)),o1 25 (.ld 2 true (.t 24)),o1 9 (.al 82 [.n .i64 0,.n .u32 0]),
  (mt 8 23),
  (o3 (.st 2 (.t 9) (.t 25)))]
abbrev Fm:List AO:=
 [o1 26 (.fa 0 (.t 9)),o1 27 (.ld 1 false (.t 26)),o1 28 (.bin .eql (.t 27) (ci 29))]
abbrev Fl:List AO:=
 [(mt 29 7),
  (mt 30 8),o1 31 (.bs 3 1 1 [.n .i64 0] [(0,1,(.t 30))]),o1 32 (.app 3 1 8 (.t 29) (.t 31)),
  (mt 7 32)]
abbrev rP:AC:=
 (.seq (.reg Fn) (.seq (.reg Fm) (.cond (.t 28) (.reg Fl) .skip)))
abbrev rN:List AO:=
 [o1 33 (.bin .add (.t 21) (ci 1)),
  (mt 21 33)]
abbrev rQ:AC:=
 (.seq (.reg Fo) (.seq (.cond (.t 22) .skip (.exit 0)) (.seq (.block 1 rP) (.reg rN))))
abbrev rO:AC:=
 (.loop rQ)
abbrev rM:List AO:=
 [(mt 34 7),
  (mt 2 34),o1 3 (.mv (ci 0))]
abbrev Fx:AF:=⟨35,(.seq (.reg Fv) (.seq (.reg Fu) (.seq (.seq (.reg Ft) (.cond (.t 17) (.seq (.reg Fs) .ret) .skip)) (.seq (.reg Fq) (.seq (.seq (.reg Fp) (.block 0 rO)) (.seq (.reg rM) .ret)))))),[.mv (.t 2),.mv (.t 3)]⟩
theorem Fw:ab Tryz.prog (aa Tryz.prog 52) 52=some Fx:=by kernel_rfl
/-! cost.bounds.steps-/
abbrev Fi:List AO:=
 [o1 3 (.bx 69 0 (.t 0)),o1 6 (.mv (ci 0))]
abbrev Fh:List AO:=
 [(mt 7 2),
  (mt 8 1),o1 9 (.bin .sub (.t 7) (.t 8)),
  (mt 6 9)]
abbrev Fk:AF:=⟨10,(.seq (.reg Fi) (.seq (.reg Fh) .ret)),[.mv (.t 6)]⟩
theorem Fj:ab Tryz.prog (aa Tryz.prog 34) 34=some Fk:=by kernel_rfl
/-! cost.bounds.walk-/
abbrev Fd:List AO:=
 [o1 4 (.bx 69 0 (.t 0)),o1 8 (.mv (ci 0))]
abbrev Fc:List AO:=
 [o1 9 (.mv (ci 0))]
abbrev Fb:List AO:=
 [(mt 13 1),o1 14 (.len (.t 13)),o1 15 (.mv (ci 0))]
abbrev Fa:List AO:=
 [o1 16 (.bin .lss (.t 15) (.t 14))]
abbrev E9:List AO:=
 [o1 17 (.ia 5 (.t 13) (.t 15)),o1 18 (.ld 5 true (.t 17)),o1 11 (.al 106 [.n .i64 0,.n .i64 0,.n .i64 0,.sl0,.sl0]),
  (o3 (.st 5 (.t 11) (.t 18)))]
abbrev E8:List AO:=
 [o1 12 (.mv (ci 0))]
abbrev E7:List AO:=
 [o1 19 (.fa 0 (.t 11)),o1 20 (.ld 1 false (.t 19))]
abbrev E6:List AO:=
 [o1 28 (.bin .eql (.t 20) (ci 27)),
  (mt 27 28)]
abbrev Ff:List (Nat×AO):=
 [(2,(mt 29 3)),(2,(o1 31 (.fa 3 (.t 11)))),
  (2,(mt 33 2)),
  (2,(mt 34 3)),(2,(o1 37 (.fa 4 (.t 11)))),
  (2,(mt 39 2)),
  (2,(mt 40 3)),(1,(o1 30 (.ld 2 true (.t 4)))),(1,(o1 32 (.ld 1 false (.t 31)))),(1,(o1 36 (.ld 2 true (.t 4)))),(1,(o1 38 (.ld 1 false (.t 37)))),
  (0,(o2 35 33 [.t 30,.t 32,.t 33,.t 34])),
  (3,(o2 41 33 [.t 36,.t 38,.t 39,.t 40])),(3,⟨some 42,none,.mo (.mx (.t 35) (.t 41))⟩),
  (3,(o2 43 54 [.t 29,.t 42])),
  (2,(mt 12 43))]
abbrev E5:List AO:=
 [o1 45 (.bin .eql (.t 20) (ci 29)),
  (mt 44 45)]
abbrev rH:List (Nat×AO):=
 [(2,(mt 46 3)),
  (2,(mt 47 3)),(2,(o1 49 (.fa 3 (.t 11)))),
  (2,(mt 51 2)),
  (2,(mt 52 3)),(2,(o1 55 (.fa 1 (.t 4)))),(2,(o1 57 (.fa 1 (.t 11)))),(1,(o1 48 (.ld 2 true (.t 4)))),(1,(o1 50 (.ld 1 false (.t 49)))),(1,(o1 56 (.ld 1 false (.t 55)))),(1,(o1 58 (.ld 1 false (.t 57)))),(4,⟨some 59,none,.mo (.lk (.n .i64 0) false (.t 56) (.t 58))⟩),
  (0,(o2 53 33 [.t 48,.t 50,.t 51,.t 52])),
  (0,(o2 54 54 [.t 47,.t 53])),
  (3,(o2 60 46 [.t 54,.t 59])),
  (3,(o2 61 54 [.t 46,.t 60])),
  (2,(mt 12 61))]
abbrev rG:List AO:=
 [(mt 21 2),o1 22 (.fa 1 (.t 11)),o1 23 (.ld 1 false (.t 22)),o1 24 (.fa 2 (.t 11)),o1 25 (.ld 1 false (.t 24)),⟨some 26,none,.cl (.t 21) [.t 23,.t 25]⟩,
  (mt 12 26)]
abbrev rK:AC:=
 (.seq (.reg E6) (.cond (.t 27) (.mix Ff) (.seq (.reg E5) (.cond (.t 44) (.mxl rH) (.reg rG)))))
abbrev rF:List AO:=
 [(mt 62 9),
  (mt 63 12),
  (o2 64 54 [.t 62,.t 63]),
  (mt 9 64)]
abbrev rJ:AC:=
 (.seq (.reg E9) (.seq (.reg E8) (.seq (.seq (.reg E7) (.block 2 rK)) (.reg rF))))
abbrev rE:List AO:=
 [o1 65 (.bin .add (.t 15) (ci 1)),
  (mt 15 65)]
abbrev rL:AC:=
 (.seq (.reg Fa) (.seq (.cond (.t 16) .skip (.exit 0)) (.seq (.block 1 rJ) (.reg rE))))
abbrev rI:AC:=
 (.loop rL)
abbrev rD:List AO:=
 [(mt 66 9),
  (mt 8 66)]
abbrev Fg:AF:=⟨67,(.seq (.reg Fd) (.seq (.reg Fc) (.seq (.seq (.reg Fb) (.block 0 rI)) (.seq (.reg rD) .ret)))),[.mv (.t 8)]⟩
theorem Fe:ab Tryz.prog (aa Tryz.prog 33) 33=some Fg:=by kernel_rfl
/-! cost.plus[int]-/
abbrev E2:List AO:=
 [o1 4 (.mv (ci 0))]
abbrev E1:List AO:=
 [(mt 5 0),
  (mt 6 1),o1 7 (.bin .add (.t 5) (.t 6)),⟨some 8,none,.mo (.mi (.t 7) (ci 281474976710657))⟩,
  (mt 4 8)]
abbrev E4:AF:=⟨9,(.seq (.reg E2) (.seq (.reg E1) .ret)),[.mv (.t 4)]⟩
theorem E3:ab Tryz.prog (aa Tryz.prog 54) 54=some E4:=by kernel_rfl
/-! cost.times[int]-/
abbrev EY:List AO:=
 [o1 4 (.mv (ci 0))]
abbrev EX:List AO:=
 [(mt 5 1),o1 6 (.bin .gtr (.t 5) (ci 0)),
  (mt 7 6),
  (o5 8 7 (.mv (.t 0))),
  (o5 9 7 (.mv (.t 1))),
  (o5 10 7 (.bin .quo (ci 281474976710657) (.t 9))),
  (o5 11 7 (.bin .gtr (.t 8) (.t 10))),o1 12 (.pick (.t 7) (.t 11) (.c (.b false)))]
abbrev EW:List AO:=
 [o1 4 (.mv (ci 281474976710657))]
abbrev EV:List AO:=
 [(mt 13 0),
  (mt 14 1),o1 15 (.bin .mul (.t 13) (.t 14)),⟨some 16,none,.mo (.mi (.t 15) (ci 281474976710657))⟩,
  (mt 4 16)]
abbrev E0:AF:=⟨17,(.seq (.reg EY) (.seq (.seq (.reg EX) (.cond (.t 12) (.seq (.reg EW) .ret) .skip)) (.seq (.reg EV) .ret))),[.mv (.t 4)]⟩
theorem EZ:ab Tryz.prog (aa Tryz.prog 46) 46=some E0:=by kernel_rfl
/-! cost.bounded-/
abbrev ES:List AO:=
 [o1 2 (.mv (ci 0)),o1 3 (.mv (ci 0))]
abbrev EP:List AO:=
 [(mt 4 0),o1 5 (.bin .geq (.t 4) (ci 281474976710657))]
abbrev EO:List AO:=
 [o1 2 (.mv (ci 0)),o1 3 (.mv (ci 18))]
abbrev EM:List AO:=
 [(mt 6 0),
  (mt 2 6),o1 3 (.mv (ci 0))]
abbrev EU:AF:=⟨7,(.seq (.reg ES) (.seq (.seq (.reg EP) (.cond (.t 5) (.seq (.reg EO) .ret) .skip)) (.seq (.reg EM) .ret))),[.mv (.t 2),.mv (.t 3)]⟩
theorem ET:ab Tryz.prog (aa Tryz.prog 32) 32=some EU:=by kernel_rfl
/-! cost.Memory-/
abbrev EJ:List AO:=
 [o1 1 (.bx 25 0 (.t 0)),o1 2 (.mv (ci 0)),o1 3 (.mv (ci 0))]
abbrev EI:List AO:=
 [o1 11 (.ld 3 true (.t 1)),
  (o2 12 24 [.t 11]),
  (mt 10 12),o1 13 (.ext 0 (.t 10)),o1 14 (.ext 1 (.t 10)),
  (mt 4 13),
  (mt 5 14)]
abbrev EH:List AO:=
 [(mt 15 5),o1 16 (.bin .neq (.t 15) (ci 0))]
abbrev EG:List AO:=
 [(mt 17 5),o1 2 (.mv (ci 0)),
  (mt 3 17)]
abbrev EF:List AO:=
 [o1 18 (.fa 1 (.t 1)),o1 19 (.ld 1 false (.t 18)),o1 20 (.bin .add (.t 19) (ci 32)),o1 21 (.bin .add (.t 20) (ci 16)),o1 22 (.bin .mul (ci 4) (.t 21)),
  (mt 6 22)]
abbrev EE:List AO:=
 [o1 23 (.fa 0 (.t 1)),o1 24 (.ld 1 false (.t 23)),o1 25 (.len (.t 24)),o1 26 (.mv (ci 0))]
abbrev ED:List AO:=
 [o1 27 (.bin .lss (.t 26) (.t 25))]
abbrev EC:List AO:=
 [o1 28 (.ia 2 (.t 24) (.t 26)),o1 29 (.ld 2 true (.t 28)),o1 8 (.al 50 [.b false,.n .i64 0]),
  (o3 (.st 2 (.t 8) (.t 29)))]
abbrev EB:List AO:=
 [o1 30 (.fa 1 (.t 8)),o1 31 (.ld 1 false (.t 30)),
  (mt 9 31)]
abbrev EA:List AO:=
 [o1 32 (.fa 0 (.t 8)),o1 33 (.ld 1 false (.t 32))]
abbrev rz:List AO:=
 [(mt 34 9),o1 35 (.bin .mul (.t 34) (ci 4)),
  (mt 9 35)]
abbrev ry:List AO:=
 [(mt 36 6),
  (mt 37 9),o1 38 (.bin .add (.t 36) (.t 37)),
  (mt 6 38)]
abbrev rB:AC:=
 (.seq (.reg EC) (.seq (.reg EB) (.seq (.seq (.reg EA) (.cond (.t 33) (.reg rz) .skip)) (.reg ry))))
abbrev rx:List AO:=
 [o1 39 (.bin .add (.t 26) (ci 1)),
  (mt 26 39)]
abbrev rC:AC:=
 (.seq (.reg ED) (.seq (.cond (.t 27) .skip (.exit 0)) (.seq (.block 1 rB) (.reg rx))))
abbrev rA:AC:=
 (.loop rC)
abbrev rv:List AO:=
 [(mt 40 6),
  (mt 2 40),o1 3 (.mv (ci 0))]
abbrev EL:AF:=⟨41,(.seq (.reg EJ) (.seq (.seq (.reg EI) (.seq (.reg EH) (.cond (.t 16) (.seq (.reg EG) .ret) .skip))) (.seq (.reg EF) (.seq (.seq (.reg EE) (.block 0 rA)) (.seq (.reg rv) .ret))))),[.mv (.t 2),.mv (.t 3)]⟩
theorem EK:ab Tryz.prog (aa Tryz.prog 9) 9=some EL:=by kernel_rfl
/-! cost.Limit-/
abbrev Ew:List AO:=
 [o1 2 (.bx 25 0 (.t 0)),o1 4 (.al 34 [.n .i64 0,.n .i64 0]),o1 5 (.mv (ci 0))]
abbrev Ev:List AO:=
 [o1 12 (.ld 3 true (.t 2)),
  (o2 13 22 [.t 12]),
  (mt 11 13),o1 14 (.ext 0 (.t 11)),o1 15 (.ext 1 (.t 11)),o1 16 (.ext 2 (.t 11)),o1 6 (.al 44 [.n .i64 0,.n .i64 0,.n .i64 0,.sl0]),
  (o3 (.st 4 (.t 6) (.t 14))),
  (mt 7 15),
  (mt 8 16)]
abbrev Eu:List AO:=
 [(mt 18 8),o1 19 (.bin .neq (.t 18) (ci 0)),
  (mt 17 19)]
abbrev Et:List AO:=
 [o1 20 (.bd [.n .i64 0,.n .i64 0] []),
  (mt 21 8),
  (o3 (.st 2 (.t 4) (.t 20))),
  (mt 5 21)]
abbrev Es:List AO:=
 [(mt 23 1),o1 24 (.bin .lss (.t 23) (ci 0)),
  (mt 25 24),
  (o4 26 25 (.mv (.t 1))),
  (o4 27 25 (.bin .gtr (.t 26) (ci 65536))),o1 28 (.pick (.t 25) (.c (.b true)) (.t 27)),
  (mt 22 28)]
abbrev Er:List AO:=
 [o1 29 (.bd [.n .i64 0,.n .i64 0] []),
  (o3 (.st 2 (.t 4) (.t 29))),o1 5 (.mv (ci 2))]
abbrev Ey:AC:=
 (.seq (.reg Eu) (.cond (.t 17) (.seq (.reg Et) .ret) (.seq (.reg Es) (.cond (.t 22) (.seq (.reg Er) .ret) .skip))))
abbrev Ep:List AO:=
 [o1 31 (.ld 3 true (.t 2)),
  (o2 32 9 [.t 31]),
  (mt 30 32),o1 33 (.ext 0 (.t 30)),o1 34 (.ext 1 (.t 30)),
  (mt 9 33),
  (mt 8 34)]
abbrev Eo:List AO:=
 [(mt 35 8),o1 36 (.bin .neq (.t 35) (ci 0))]
abbrev En:List AO:=
 [o1 37 (.bd [.n .i64 0,.n .i64 0] []),
  (mt 38 8),
  (o3 (.st 2 (.t 4) (.t 37))),
  (mt 5 38)]
abbrev ru:List AO:=
 [o1 40 (.fa 0 (.t 6)),o1 41 (.ld 1 false (.t 40)),
  (mt 42 1),o1 43 (.bin .add (.t 42) (ci 1)),
  (o2 44 46 [.t 41,.t 43]),
  (o2 45 32 [.t 44]),
  (mt 39 45),o1 46 (.ext 0 (.t 39)),o1 47 (.ext 1 (.t 39)),
  (mt 10 46),
  (mt 8 47)]
abbrev rr:List AO:=
 [(mt 48 8),o1 49 (.bin .neq (.t 48) (ci 0))]
abbrev rq:List AO:=
 [o1 50 (.bd [.n .i64 0,.n .i64 0] []),
  (mt 51 8),
  (o3 (.st 2 (.t 4) (.t 50))),
  (mt 5 51)]
abbrev rp:List AO:=
 [(mt 52 9),
  (mt 53 10),o1 54 (.bd [.n .i64 0,.n .i64 0] [(0,1,(.t 52)),(1,1,(.t 53))]),
  (o3 (.st 2 (.t 4) (.t 54))),o1 5 (.mv (ci 0))]
abbrev Ez:AF:=⟨55,(.seq (.reg Ew) (.seq (.reg Ev) (.seq (.block 0 Ey) (.seq (.reg Ep) (.seq (.seq (.reg Eo) (.cond (.t 36) (.seq (.reg En) .ret) .skip)) (.seq (.reg ru) (.seq (.seq (.reg rr) (.cond (.t 49) (.seq (.reg rq) .ret) .skip)) (.seq (.reg rp) .ret)))))))),[.ld 2 true (.t 4),.mv (.t 5)]⟩
theorem Ex:ab Tryz.prog (aa Tryz.prog 23) 23=some Ez:=by kernel_rfl
/-! cost.Add-/
abbrev Ef:List AO:=
 [o1 2 (.bx 34 0 (.t 0)),o1 3 (.bx 34 0 (.t 1)),o1 4 (.al 34 [.n .i64 0,.n .i64 0])]
abbrev Eg:List (Nat×AO):=
 [(2,(o1 5 (.fa 0 (.t 2)))),(2,(o1 7 (.fa 0 (.t 3)))),(2,(o1 10 (.fa 1 (.t 2)))),(2,(o1 12 (.fa 1 (.t 3)))),(1,(o1 6 (.ld 1 false (.t 5)))),(1,(o1 8 (.ld 1 false (.t 7)))),(1,(o1 11 (.ld 1 false (.t 10)))),(1,(o1 13 (.ld 1 false (.t 12)))),
  (0,(o2 9 26 [.t 6,.t 8])),
  (3,(o2 14 26 [.t 11,.t 13])),(2,(o1 15 (.bd [.n .i64 0,.n .i64 0] [(0,1,(.t 9)),(1,1,(.t 14))]))),
  (3,(o3 (.st 2 (.t 4) (.t 15))))]
abbrev Eh:AF:=⟨16,(.seq (.reg Ef) (.seq (.mix Eg) .ret)),[.ld 2 true (.t 4)]⟩
theorem o9:ab Tryz.prog (aa Tryz.prog 11) 11=some Eh:=by kernel_rfl
/-! cost.sum-/
abbrev Ed:List AO:=
 [o1 4 (.mv (ci 0))]
abbrev Ec:List AO:=
 [(mt 5 0),
  (o2 6 28 [.t 5]),o1 7 (.un .not (.t 6)),
  (mt 8 7),
  (o4 9 8 (.mv (.t 1))),⟨some 10,some (8,false),.cl (.c (.f 28 [] [])) [.t 9]⟩,
  (o4 11 8 (.un .not (.t 10))),o1 12 (.pick (.t 8) (.c (.b true)) (.t 11)),
  (mt 13 12),
  (o4 14 13 (.mv (.t 0))),
  (o4 15 13 (.mv (.t 1))),
  (o4 16 13 (.bin .add (.t 14) (.t 15))),⟨some 17,some (13,false),.cl (.c (.f 28 [] [])) [.t 16]⟩,
  (o4 18 13 (.un .not (.t 17))),o1 19 (.pick (.t 13) (.c (.b true)) (.t 18))]
abbrev Eb:List AO:=
 [o1 4 (.mv (ci 281474976710656))]
abbrev Ea:List AO:=
 [(mt 20 0),
  (mt 21 1),o1 22 (.bin .add (.t 20) (.t 21)),
  (mt 4 22)]
abbrev Ee:AF:=⟨23,(.seq (.reg Ed) (.seq (.seq (.reg Ec) (.cond (.t 19) (.seq (.reg Eb) .ret) .skip)) (.seq (.reg Ea) .ret))),[.mv (.t 4)]⟩
theorem o8:ab Tryz.prog (aa Tryz.prog 26) 26=some Ee:=by kernel_rfl
/-! cost.known-/
abbrev D8:List AO:=
 [o1 2 (.mv (.c (.b false)))]
abbrev D7:List AO:=
 [(mt 3 0),o1 4 (.bin .geq (.t 3) (ci 0)),
  (mt 5 4),
  (o5 6 5 (.mv (.t 0))),
  (o5 7 5 (.bin .leq (.t 6) (ci 281474976710656))),o1 8 (.pick (.t 5) (.t 7) (.c (.b false))),
  (mt 2 8)]
abbrev D9:AF:=⟨9,(.seq (.reg D8) (.seq (.reg D7) .ret)),[.mv (.t 2)]⟩
theorem o7:ab Tryz.prog (aa Tryz.prog 28) 28=some D9:=by kernel_rfl
/-! cost.Fits-/
abbrev D5:List AO:=
 [o1 2 (.bx 34 0 (.t 0)),o1 3 (.bx 34 0 (.t 1)),o1 4 (.mv (.c (.b false)))]
abbrev D4:List AO:=
 [o1 5 (.fa 0 (.t 2)),o1 6 (.ld 1 false (.t 5)),
  (o2 7 28 [.t 6]),
  (mt 8 7),
  (o5 9 8 (.fa 1 (.t 2))),
  (o5 10 8 (.ld 1 false (.t 9))),⟨some 11,some (8,true),.cl (.c (.f 28 [] [])) [.t 10]⟩,o1 12 (.pick (.t 8) (.t 11) (.c (.b false))),
  (mt 13 12),
  (o5 14 13 (.fa 0 (.t 3))),
  (o5 15 13 (.ld 1 false (.t 14))),⟨some 16,some (13,true),.cl (.c (.f 28 [] [])) [.t 15]⟩,o1 17 (.pick (.t 13) (.t 16) (.c (.b false))),
  (mt 18 17),
  (o5 19 18 (.fa 1 (.t 3))),
  (o5 20 18 (.ld 1 false (.t 19))),⟨some 21,some (18,true),.cl (.c (.f 28 [] [])) [.t 20]⟩,o1 22 (.pick (.t 18) (.t 21) (.c (.b false))),
  (mt 23 22),
  (o5 24 23 (.fa 0 (.t 2))),
  (o5 25 23 (.ld 1 false (.t 24))),
  (o5 26 23 (.fa 0 (.t 3))),
  (o5 27 23 (.ld 1 false (.t 26))),
  (o5 28 23 (.bin .leq (.t 25) (.t 27))),o1 29 (.pick (.t 23) (.t 28) (.c (.b false))),
  (mt 30 29),
  (o5 31 30 (.fa 1 (.t 2))),
  (o5 32 30 (.ld 1 false (.t 31))),
  (o5 33 30 (.fa 1 (.t 3))),
  (o5 34 30 (.ld 1 false (.t 33))),
  (o5 35 30 (.bin .leq (.t 32) (.t 34))),o1 36 (.pick (.t 30) (.t 35) (.c (.b false))),
  (mt 4 36)]
abbrev D6:AF:=⟨37,(.seq (.reg D5) (.seq (.reg D4) .ret)),[.mv (.t 4)]⟩
theorem o6:ab Tryz.prog (aa Tryz.prog 13) 13=some D6:=by kernel_rfl
end Go.Proofs.YthehakngpbjgjaaGreat