/- A part of the proof of CostBounds: AcCsA AcCsB AcCsC AcCsE. No condition. -/
import Derived.Test.YthehakngpbjgjaaGreatGd14
import Derived.Test.YthehakngpbjgjaaGreatProg
set_option linter.unusedSimpArgs false
set_option linter.unusedVariables false
set_option linter.constructorNameAsVariable false
set_option maxRecDepth 100000
set_option maxHeartbeats 4000000
namespace Go.Proofs.YthehakngpbjgjaaGreat
open Go.RowKit
/-! compactorlaw21.awake-/
abbrev Zm:List AO:=
 [o1 0 (.mv (.c (.b false)))]
abbrev Zl:List AO:=
 [(o2 14 21 []),o1 1 (.al 25 [.sl0,.n .i64 0,.sl0]),
  (o3 (.st 3 (.t 1) (.t 14)))]
abbrev Zk:List AO:=
 [o1 16 (.ld 3 true (.t 1)),
  (o2 17 22 [.t 16]),
  (mt 15 17),o1 18 (.ext 0 (.t 15)),o1 19 (.ext 1 (.t 15)),o1 20 (.ext 2 (.t 15)),o1 2 (.al 44 [.n .i64 0,.n .i64 0,.n .i64 0,.sl0]),
  (o3 (.st 4 (.t 2) (.t 18))),
  (mt 3 19),
  (mt 4 20)]
abbrev Zj:List AO:=
 [(mt 21 4),o1 22 (.bin .neq (.t 21) (ci 0)),
  (mt 23 22),
  (o4 24 23 (.fa 3 (.t 2))),
  (o4 25 23 (.ld 1 false (.t 24))),
  (o4 26 23 (.len (.t 25))),
  (o4 27 23 (.bin .neq (.t 26) (ci 1))),o1 28 (.pick (.t 23) (.c (.b true)) (.t 27))]
abbrev Zi:List AO:=
 [o1 0 (.mv (.c (.b false)))]
abbrev Zh:List AO:=
 [o1 30 (.ld 3 true (.t 1)),o1 31 (.ld 4 true (.t 2)),
  (o2 32 16 [.t 30,.t 31]),
  (mt 29 32),o1 33 (.ext 0 (.t 29)),o1 34 (.ext 1 (.t 29)),
  (mt 5 33),
  (mt 6 34)]
abbrev Zg:List AO:=
 [o1 35 (.fa 3 (.t 2)),o1 36 (.ld 1 false (.t 35)),o1 37 (.ia 3 (.t 36) (ci 0)),o1 38 (.fa 1 (.t 37)),
  (o3 (.st 1 (.t 38) (ci 0)))]
abbrev Zf:List AO:=
 [o1 40 (.ld 3 true (.t 1)),o1 41 (.ld 4 true (.t 2)),
  (o2 42 16 [.t 40,.t 41]),
  (mt 39 42),o1 43 (.ext 0 (.t 39)),o1 44 (.ext 1 (.t 39)),
  (mt 7 43),
  (mt 8 44)]
abbrev Ze:List AO:=
 [o1 46 (.ld 3 true (.t 1)),
  (o2 47 9 [.t 46]),
  (mt 45 47),o1 48 (.ext 0 (.t 45)),o1 49 (.ext 1 (.t 45)),
  (mt 9 48),
  (mt 10 49)]
abbrev Zd:List AO:=
 [o1 51 (.ld 3 true (.t 1)),
  (o2 52 23 [.t 51,(ci 3)]),
  (mt 50 52),o1 53 (.ext 0 (.t 50)),o1 54 (.ext 1 (.t 50)),o1 11 (.al 34 [.n .i64 0,.n .i64 0]),
  (o3 (.st 2 (.t 11) (.t 53))),
  (mt 12 54)]
abbrev VT:List AO:=
 [(mt 55 6),
  (mt 56 8),o1 57 (.bin .add (.t 55) (.t 56)),
  (mt 58 10),o1 59 (.bin .add (.t 57) (.t 58)),
  (mt 60 12),o1 61 (.bin .add (.t 59) (.t 60)),o1 62 (.bin .neq (.t 61) (ci 0)),
  (mt 63 62),
  (o4 64 63 (.mv (.t 5))),
  (o4 65 63 (.bin .neq (.t 64) (ci 32))),o1 66 (.pick (.t 63) (.c (.b true)) (.t 65)),
  (mt 67 66),
  (o4 68 67 (.mv (.t 7))),
  (o4 69 67 (.bin .neq (.t 68) (ci 2))),o1 70 (.pick (.t 67) (.c (.b true)) (.t 69)),
  (mt 71 70),
  (o4 72 71 (.mv (.t 9))),
  (o4 73 71 (.bin .neq (.t 72) (ci 196))),o1 74 (.pick (.t 71) (.c (.b true)) (.t 73)),
  (mt 75 74),
  (o4 76 75 (.ld 2 true (.t 11))),
  (o4 77 75 (.bd [.n .i64 0,.n .i64 0] [(0,1,(ci 196)),(1,1,(ci 128))])),
  (o4 78 75 (.eq true (.st [(0,1,.n),(1,1,.n)]) (.t 76) (.t 77))),o1 79 (.pick (.t 75) (.c (.b true)) (.t 78))]
abbrev VS:List AO:=
 [o1 0 (.mv (.c (.b false)))]
abbrev VQ:List AO:=
 [o1 80 (.bd [.n .i64 0,.n .i64 0] [(0,1,(ci 5)),(1,1,(ci 7))]),o1 13 (.al 34 [.n .i64 0,.n .i64 0]),
  (o3 (.st 2 (.t 13) (.t 80)))]
abbrev VP:List AO:=
 [o1 81 (.ld 2 true (.t 13)),o1 82 (.bd [.n .i64 0,.n .i64 0] [(0,1,(ci 1)),(1,1,(ci 2))]),
  (o2 83 11 [.t 81,.t 82]),o1 84 (.bd [.n .i64 0,.n .i64 0] [(0,1,(ci 6)),(1,1,(ci 9))]),o1 85 (.eq false (.st [(0,1,.n),(1,1,.n)]) (.t 83) (.t 84)),
  (mt 86 85),
  (o5 87 86 (.ld 2 true (.t 13))),
  (o5 88 86 (.bd [.n .i64 0,.n .i64 0] [(0,1,(ci 5)),(1,1,(ci 8))])),⟨some 89,some (86,true),.cl (.c (.f 13 [] [])) [.t 87,.t 88]⟩,o1 90 (.pick (.t 86) (.t 89) (.c (.b false))),
  (mt 91 90),
  (o5 92 91 (.ld 2 true (.t 13))),
  (o5 93 91 (.bd [.n .i64 0,.n .i64 0] [(0,1,(ci 4)),(1,1,(ci 100))])),⟨some 94,some (91,true),.cl (.c (.f 13 [] [])) [.t 92,.t 93]⟩,
  (o5 95 91 (.un .not (.t 94))),o1 96 (.pick (.t 91) (.t 95) (.c (.b false))),
  (mt 0 96)]
abbrev x1F:AF:=⟨97,(.seq (.reg Zm) (.seq (.reg Zl) (.seq (.reg Zk) (.seq (.seq (.reg Zj) (.cond (.t 28) (.seq (.reg Zi) .ret) .skip)) (.seq (.reg Zh) (.seq (.reg Zg) (.seq (.reg Zf) (.seq (.reg Ze) (.seq (.reg Zd) (.seq (.seq (.reg VT) (.cond (.t 79) (.seq (.reg VS) .ret) .skip)) (.seq (.reg VQ) (.seq (.reg VP) .ret)))))))))))),[.mv (.t 0)]⟩
theorem Zn:av Tryz.prog (aa Tryz.prog 8) 8=some x1F:=by kernel_rfl
/-! compactorlaw21.example-/
abbrev Zb:List AO:=
 [o1 0 (.al 25 [.sl0,.n .i64 0,.sl0])]
abbrev Za:List AO:=
 [o1 1 (.bd [.n .i64 0,.n .u32 0] [(0,1,(ci 0)),(1,1,(.c (.n .u32 10)))]),o1 2 (.bd [.n .i64 0,.n .u32 0] [(0,1,(ci 29))]),o1 3 (.bd [.n .i64 0,.n .u32 0] [(0,1,(ci 1))]),o1 4 (.bd [.n .i64 0,.n .u32 0] [(0,1,(ci 6))]),o1 5 (.bd [.n .i64 0,.n .u32 0] [(0,1,(ci 31))]),o1 6 (.bs 82 2 5 [.n .i64 0,.n .u32 0,.n .i64 0,.n .u32 0,.n .i64 0,.n .u32 0,.n .i64 0,.n .u32 0,.n .i64 0,.n .u32 0] [(0,2,(.t 1)),(2,2,(.t 2)),(4,2,(.t 3)),(6,2,(.t 4)),(8,2,(.t 5))]),o1 7 (.bd [.sl0,.n .i64 0,.sl0] [(1,1,(ci 1)),(2,1,(.t 6))]),
  (o3 (.st 3 (.t 0) (.t 7)))]
abbrev x2F:AF:=⟨8,(.seq (.reg Zb) (.seq (.reg Za) .ret)),[.ld 3 true (.t 0)]⟩
theorem Zc:av Tryz.prog (aa Tryz.prog 21) 21=some x2F:=by kernel_rfl
/-! verifier.Verify-/
abbrev Y8:List AO:=
 [o1 1 (.bx 25 0 (.t 0)),o1 2 (.al 44 [.n .i64 0,.n .i64 0,.n .i64 0,.sl0]),o1 3 (.mv (ci 0)),o1 4 (.mv (ci 0))]
abbrev Y7:List AO:=
 [o1 11 (.ld 3 true (.t 1)),
  (o2 12 40 [.t 11]),
  (mt 10 12),o1 13 (.ext 0 (.t 10)),o1 14 (.ext 1 (.t 10)),
  (mt 5 13),
  (mt 6 14)]
abbrev Y6:List AO:=
 [(mt 15 6),o1 16 (.bin .neq (.t 15) (ci 0))]
abbrev Y5:List AO:=
 [o1 17 (.bd [.n .i64 0,.n .i64 0,.n .i64 0,.sl0] []),
  (mt 18 5),
  (mt 19 6),
  (o3 (.st 4 (.t 2) (.t 17))),
  (mt 3 18),
  (mt 4 19)]
abbrev Y4:List AO:=
 [o1 7 (.al 44 [.n .i64 0,.n .i64 0,.n .i64 0,.sl0])]
abbrev Y3:List AO:=
 [o1 21 (.mf 42 [] [.t 1,.t 7]),
  (o2 22 41 [.t 21]),
  (mt 20 22),o1 23 (.ext 0 (.t 20)),o1 24 (.ext 1 (.t 20)),
  (mt 8 23),
  (mt 9 24)]
abbrev Y2:List AO:=
 [(mt 25 9),o1 26 (.bin .neq (.t 25) (ci 0))]
abbrev Y1:List AO:=
 [o1 27 (.bd [.n .i64 0,.n .i64 0,.n .i64 0,.sl0] []),
  (mt 28 8),
  (mt 29 9),
  (o3 (.st 4 (.t 2) (.t 27))),
  (mt 3 28),
  (mt 4 29)]
abbrev Y0:List AO:=
 [o1 30 (.ld 4 true (.t 7)),
  (o3 (.st 4 (.t 2) (.t 30))),o1 3 (.mv (ci 0)),o1 4 (.mv (ci 0))]
abbrev x3F:AF:=⟨31,(.seq (.reg Y8) (.seq (.seq (.reg Y7) (.seq (.reg Y6) (.cond (.t 16) (.seq (.reg Y5) .ret) .skip))) (.seq (.reg Y4) (.seq (.reg Y3) (.seq (.seq (.reg Y2) (.cond (.t 26) (.seq (.reg Y1) .ret) .skip)) (.seq (.reg Y0) .ret)))))),[.ld 4 true (.t 2),.mv (.t 3),.mv (.t 4)]⟩
theorem Y9:av Tryz.prog (aa Tryz.prog 22) 22=some x3F:=by kernel_rfl
/-! verifier.Check-/
abbrev YZ:List AO:=
 [o1 1 (.bx 25 0 (.t 0)),o1 2 (.mv (ci 0)),o1 3 (.mv (ci 0))]
abbrev YY:List AO:=
 [o1 12 (.ld 3 true (.t 1)),
  (o2 13 24 [.t 12]),
  (mt 11 13),o1 14 (.ext 0 (.t 11)),o1 15 (.ext 1 (.t 11)),
  (mt 4 14),
  (mt 5 15)]
abbrev YX:List AO:=
 [(mt 16 5),o1 17 (.bin .neq (.t 16) (ci 0))]
abbrev YW:List AO:=
 [(mt 18 5),o1 2 (.mv (ci 0)),
  (mt 3 18)]
abbrev YV:List AO:=
 [o1 20 (.fa 2 (.t 1)),o1 21 (.ld 1 false (.t 20)),
  (o2 22 53 [.t 21]),
  (mt 19 22),o1 23 (.ext 0 (.t 19)),o1 24 (.ext 1 (.t 19)),o1 25 (.ext 2 (.t 19)),
  (mt 6 23),
  (mt 7 24),
  (mt 8 25)]
abbrev YU:List AO:=
 [(mt 26 8),o1 27 (.bin .neq (.t 26) (ci 0))]
abbrev YT:List AO:=
 [(mt 28 7),
  (mt 29 8),
  (mt 2 28),
  (mt 3 29)]
abbrev YS:List AO:=
 [o1 30 (.fa 2 (.t 1)),o1 31 (.ld 1 false (.t 30)),o1 32 (.len (.t 31)),o1 33 (.mv (ci 0))]
abbrev YR:List AO:=
 [o1 34 (.bin .lss (.t 33) (.t 32))]
abbrev YQ:List AO:=
 [(mt 35 33),o1 36 (.ia 2 (.t 31) (.t 33)),o1 37 (.ld 2 true (.t 36)),o1 10 (.al 82 [.n .i64 0,.n .u32 0]),
  (mt 9 35),
  (o3 (.st 2 (.t 10) (.t 37)))]
abbrev R6:List AO:=
 [o1 38 (.fa 0 (.t 10)),o1 39 (.ld 1 false (.t 38))]
abbrev R5:List AO:=
 [o1 41 (.bin .eql (.t 39) (ci 1)),
  (mt 40 41)]
abbrev R4:List AO:=
 [o1 42 (.bin .eql (.t 39) (ci 2)),
  (mt 40 42)]
abbrev R3:List AO:=
 [o1 43 (.fa 1 (.t 10)),o1 44 (.ld 1 false (.t 43)),o1 45 (.cvi .i64 (.t 44)),o1 46 (.fa 1 (.t 1)),o1 47 (.ld 1 false (.t 46)),o1 48 (.bin .geq (.t 45) (.t 47))]
abbrev R2:List AO:=
 [(mt 49 9),
  (mt 2 49),o1 3 (.mv (ci 2))]
abbrev R1:List AO:=
 [o1 51 (.bin .eql (.t 39) (ci 3)),
  (mt 50 51)]
abbrev R0:List AO:=
 [o1 52 (.bin .eql (.t 39) (ci 4)),
  (mt 50 52)]
abbrev RZ:List AO:=
 [o1 53 (.fa 1 (.t 10)),o1 54 (.ld 1 false (.t 53)),o1 55 (.cvi .i64 (.t 54)),o1 56 (.fa 0 (.t 1)),o1 57 (.ld 1 false (.t 56)),o1 58 (.len (.t 57)),o1 59 (.bin .geq (.t 55) (.t 58))]
abbrev RY:List AO:=
 [(mt 60 9),
  (mt 2 60),o1 3 (.mv (ci 2))]
abbrev Sa:AC:=
 (.seq (.seq (.reg R5) (.cond (.t 40) .skip (.reg R4))) (.cond (.t 40) (.seq (.reg R3) (.cond (.t 48) (.seq (.reg R2) .ret) .skip)) (.seq (.seq (.reg R1) (.cond (.t 50) .skip (.reg R0))) (.cond (.t 50) (.seq (.reg RZ) (.cond (.t 59) (.seq (.reg RY) .ret) .skip)) .skip))))
abbrev R9:AC:=
 (.seq (.reg YQ) (.seq (.reg R6) (.block 2 Sa)))
abbrev RX:List AO:=
 [o1 61 (.bin .add (.t 33) (ci 1)),
  (mt 33 61)]
abbrev Sb:AC:=
 (.seq (.reg YR) (.seq (.cond (.t 34) .skip (.exit 0)) (.seq (.block 1 R9) (.reg RX))))
abbrev R8:AC:=
 (.loop Sb)
abbrev RV:List AO:=
 [o1 2 (.mv (ci 0)),o1 3 (.mv (ci 0))]
abbrev x4F:AF:=⟨62,(.seq (.reg YZ) (.seq (.seq (.reg YY) (.seq (.reg YX) (.cond (.t 17) (.seq (.reg YW) .ret) .skip))) (.seq (.seq (.reg YV) (.seq (.reg YU) (.cond (.t 27) (.seq (.reg YT) .ret) .skip))) (.seq (.seq (.reg YS) (.block 0 R8)) (.seq (.reg RV) .ret))))),[.mv (.t 2),.mv (.t 3)]⟩
theorem R7:av Tryz.prog (aa Tryz.prog 40) 40=some x4F:=by kernel_rfl
/-! instruction.Encode-/
abbrev YN:List AO:=
 [o1 1 (.bx 25 0 (.t 0)),o1 2 (.mv (.c .sl0)),o1 3 (.mv (ci 0))]
abbrev YM:List AO:=
 [o1 12 (.ld 3 true (.t 1)),
  (o2 13 47 [.t 12]),
  (mt 4 13)]
abbrev YL:List AO:=
 [(mt 14 4),o1 15 (.bin .neq (.t 14) (ci 0))]
abbrev YK:List AO:=
 [(mt 16 4),o1 2 (.mv (.c .sl0)),
  (mt 3 16)]
abbrev YJ:List AO:=
 [o1 17 (.fa 0 (.t 1)),o1 18 (.ld 1 false (.t 17)),o1 19 (.len (.t 18)),
  (o2 20 48 [(.c .sl0),.t 19]),
  (mt 5 20)]
abbrev YI:List AO:=
 [o1 21 (.fa 0 (.t 1)),o1 22 (.ld 1 false (.t 21)),o1 23 (.len (.t 22)),o1 24 (.mv (ci 0))]
abbrev YH:List AO:=
 [o1 25 (.bin .lss (.t 24) (.t 23))]
abbrev YG:List AO:=
 [o1 26 (.ia 2 (.t 22) (.t 24)),o1 27 (.ld 2 true (.t 26)),o1 7 (.al 50 [.b false,.n .i64 0]),
  (o3 (.st 2 (.t 7) (.t 27)))]
abbrev YO:List (Nat×AO):=
 [(2,(mt 28 5)),(2,(o1 29 (.fa 1 (.t 7)))),(2,(o1 32 (.fa 0 (.t 7)))),(1,(o1 30 (.ld 1 false (.t 29)))),(2,(o1 31 (.bin .mul (ci 2) (.t 30)))),(1,(o1 33 (.ld 1 false (.t 32)))),
  (0,(o2 34 49 [.t 33])),(2,(o1 35 (.cvi .i64 (.t 34)))),(2,(o1 36 (.bin .add (.t 31) (.t 35)))),
  (3,(o2 37 48 [.t 28,.t 36])),
  (2,(mt 5 37))]
abbrev YP:AC:=
 (.seq (.reg YG) (.mix YO))
abbrev Qy:List AO:=
 [o1 38 (.bin .add (.t 24) (ci 1)),
  (mt 24 38)]
abbrev QE:AC:=
 (.seq (.reg YH) (.seq (.cond (.t 25) .skip (.exit 0)) (.seq (.block 1 YP) (.reg Qy))))
abbrev QC:AC:=
 (.loop QE)
abbrev Qz:List (Nat×AO):=
 [(2,(mt 39 5)),(2,(o1 40 (.fa 1 (.t 1)))),(2,(o1 43 (.fa 2 (.t 1)))),(1,(o1 41 (.ld 1 false (.t 40)))),(1,(o1 44 (.ld 1 false (.t 43)))),(2,(o1 45 (.len (.t 44)))),
  (0,(o2 42 48 [.t 39,.t 41])),
  (3,(o2 46 48 [.t 42,.t 45])),
  (2,(mt 5 46))]
abbrev Qx:List AO:=
 [o1 47 (.fa 2 (.t 1)),o1 48 (.ld 1 false (.t 47)),o1 49 (.len (.t 48)),o1 50 (.mv (ci 0))]
abbrev Qw:List AO:=
 [o1 51 (.bin .lss (.t 50) (.t 49))]
abbrev Qv:List AO:=
 [o1 52 (.ia 2 (.t 48) (.t 50)),o1 53 (.ld 2 true (.t 52)),o1 9 (.al 82 [.n .i64 0,.n .u32 0]),
  (o3 (.st 2 (.t 9) (.t 53)))]
abbrev Qu:List AO:=
 [(mt 54 5),o1 55 (.fa 0 (.t 9)),o1 56 (.ld 1 false (.t 55)),o1 57 (.cvi .u8 (.t 56)),o1 58 (.bs 5 1 1 [.n .u8 0] [(0,1,(.t 57))]),o1 59 (.app 5 1 1 (.t 54) (.t 58)),
  (mt 5 59)]
abbrev Qt:List AO:=
 [o1 61 (.fa 0 (.t 9)),o1 62 (.ld 1 false (.t 61)),
  (o2 63 50 [.t 62]),
  (mt 60 63),o1 64 (.ext 0 (.t 60)),o1 65 (.ext 1 (.t 60)),o1 10 (.al 96 [.s ⟨#[]⟩,.s ⟨#[]⟩,.s ⟨#[]⟩,.n .u64 0,.b false]),
  (o3 (.st 5 (.t 10) (.t 64))),
  (mt 11 65)]
abbrev Qs:List AO:=
 [o1 66 (.fa 4 (.t 10)),o1 67 (.ld 1 false (.t 66))]
abbrev Qr:List AO:=
 [(mt 68 5),o1 69 (.fa 1 (.t 9)),o1 70 (.ld 1 false (.t 69)),o1 71 (.cvi .i64 (.t 70)),
  (o2 72 48 [.t 68,.t 71]),
  (mt 5 72)]
abbrev QB:AC:=
 (.seq (.reg Qv) (.seq (.reg Qu) (.seq (.reg Qt) (.seq (.reg Qs) (.cond (.t 67) (.reg Qr) .skip)))))
abbrev Qq:List AO:=
 [o1 73 (.bin .add (.t 50) (ci 1)),
  (mt 50 73)]
abbrev QD:AC:=
 (.seq (.reg Qw) (.seq (.cond (.t 51) .skip (.exit 2)) (.seq (.block 3 QB) (.reg Qq))))
abbrev QA:AC:=
 (.loop QD)
abbrev Qp:List AO:=
 [(mt 74 5),
  (mt 2 74),o1 3 (.mv (ci 0))]
abbrev x5F:AF:=⟨75,(.seq (.reg YN) (.seq (.seq (.reg YM) (.seq (.reg YL) (.cond (.t 15) (.seq (.reg YK) .ret) .skip))) (.seq (.reg YJ) (.seq (.seq (.reg YI) (.block 0 QC)) (.seq (.mix Qz) (.seq (.seq (.reg Qx) (.block 2 QA)) (.seq (.reg Qp) .ret))))))),[.mv (.t 2),.mv (.t 3)]⟩
theorem Cy:av Tryz.prog (aa Tryz.prog 24) 24=some x5F:=by kernel_rfl
/-! instruction.form-/
abbrev YE:List AO:=
 [o1 1 (.bx 25 0 (.t 0)),o1 2 (.mv (ci 0))]
abbrev YD:List AO:=
 [o1 7 (.fa 0 (.t 1)),o1 8 (.ld 1 false (.t 7)),
  (o2 9 75 [.t 8]),
  (mt 3 9)]
abbrev YC:List AO:=
 [(mt 10 3),o1 11 (.bin .neq (.t 10) (ci 0))]
abbrev YB:List AO:=
 [(mt 12 3),
  (mt 2 12)]
abbrev YA:List AO:=
 [o1 14 (.fa 1 (.t 1)),o1 15 (.ld 1 false (.t 14)),o1 16 (.bin .lss (.t 15) (ci 0)),
  (mt 17 16),
  (o4 18 17 (.fa 1 (.t 1))),
  (o4 19 17 (.ld 1 false (.t 18))),
  (o4 20 17 (.bin .gtr (.t 19) (ci 16))),o1 21 (.pick (.t 17) (.c (.b true)) (.t 20)),
  (mt 13 21)]
abbrev Yz:List AO:=
 [o1 2 (.mv (ci 2))]
abbrev Yy:List AO:=
 [o1 23 (.fa 2 (.t 1)),o1 24 (.ld 1 false (.t 23)),o1 25 (.len (.t 24)),o1 26 (.bin .gtr (.t 25) (ci 1024)),
  (mt 22 26)]
abbrev Yx:List AO:=
 [o1 2 (.mv (ci 6))]
abbrev YF:AC:=
 (.seq (.reg YA) (.cond (.t 13) (.seq (.reg Yz) .ret) (.seq (.reg Yy) (.cond (.t 22) (.seq (.reg Yx) .ret) .skip))))
abbrev Yw:List AO:=
 [o1 27 (.fa 2 (.t 1)),o1 28 (.ld 1 false (.t 27)),o1 29 (.len (.t 28)),o1 30 (.mv (ci 0))]
abbrev O8:List AO:=
 [o1 31 (.bin .lss (.t 30) (.t 29))]
abbrev O7:List AO:=
 [o1 32 (.ia 2 (.t 28) (.t 30)),o1 33 (.ld 2 true (.t 32)),o1 5 (.al 82 [.n .i64 0,.n .u32 0]),
  (o3 (.st 2 (.t 5) (.t 33)))]
abbrev O6:List AO:=
 [o1 34 (.ld 2 true (.t 5)),
  (o2 35 76 [.t 34]),
  (mt 6 35)]
abbrev O5:List AO:=
 [(mt 36 6),o1 37 (.bin .neq (.t 36) (ci 0))]
abbrev O4:List AO:=
 [(mt 38 6),
  (mt 2 38)]
abbrev Pb:AC:=
 (.seq (.reg O7) (.seq (.reg O6) (.seq (.reg O5) (.cond (.t 37) (.seq (.reg O4) .ret) .skip))))
abbrev O3:List AO:=
 [o1 39 (.bin .add (.t 30) (ci 1)),
  (mt 30 39)]
abbrev Pc:AC:=
 (.seq (.reg O8) (.seq (.cond (.t 31) .skip (.exit 1)) (.seq (.block 2 Pb) (.reg O3))))
abbrev Pa:AC:=
 (.loop Pc)
abbrev O2:List AO:=
 [o1 2 (.mv (ci 0))]
abbrev x6F:AF:=⟨40,(.seq (.reg YE) (.seq (.seq (.reg YD) (.seq (.reg YC) (.cond (.t 11) (.seq (.reg YB) .ret) .skip))) (.seq (.block 0 YF) (.seq (.seq (.reg Yw) (.block 1 Pa)) (.seq (.reg O2) .ret))))),[.mv (.t 2)]⟩
theorem O9:av Tryz.prog (aa Tryz.prog 47) 47=some x6F:=by kernel_rfl
/-! instruction.arrays-/
abbrev Yv:List AO:=
 [o1 2 (.mv (ci 0))]
abbrev Yu:List AO:=
 [(mt 6 0),o1 7 (.len (.t 6)),o1 8 (.bin .gtr (.t 7) (ci 8))]
abbrev Yt:List AO:=
 [o1 2 (.mv (ci 6))]
abbrev Ys:List AO:=
 [o1 3 (.mv (ci 65536))]
abbrev Yr:List AO:=
 [(mt 9 0),o1 10 (.len (.t 9)),o1 11 (.mv (ci 0))]
abbrev Yq:List AO:=
 [o1 12 (.bin .lss (.t 11) (.t 10))]
abbrev Yp:List AO:=
 [o1 13 (.ia 2 (.t 9) (.t 11)),o1 14 (.ld 2 true (.t 13)),o1 5 (.al 50 [.b false,.n .i64 0]),
  (o3 (.st 2 (.t 5) (.t 14)))]
abbrev Yo:List AO:=
 [o1 15 (.fa 1 (.t 5)),o1 16 (.ld 1 false (.t 15)),o1 17 (.bin .lss (.t 16) (ci 1)),
  (mt 18 17),
  (o4 19 18 (.fa 1 (.t 5))),
  (o4 20 18 (.ld 1 false (.t 19))),
  (o4 21 18 (.mv (.t 3))),
  (o4 22 18 (.bin .gtr (.t 20) (.t 21))),o1 23 (.pick (.t 18) (.c (.b true)) (.t 22))]
abbrev Yn:List AO:=
 [o1 2 (.mv (ci 2))]
abbrev Ym:List AO:=
 [(mt 24 3),o1 25 (.fa 1 (.t 5)),o1 26 (.ld 1 false (.t 25)),o1 27 (.bin .sub (.t 24) (.t 26)),
  (mt 3 27)]
abbrev Nv:AC:=
 (.seq (.reg Yp) (.seq (.seq (.reg Yo) (.cond (.t 23) (.seq (.reg Yn) .ret) .skip)) (.reg Ym)))
abbrev Ns:List AO:=
 [o1 28 (.bin .add (.t 11) (ci 1)),
  (mt 11 28)]
abbrev Nw:AC:=
 (.seq (.reg Yq) (.seq (.cond (.t 12) .skip (.exit 0)) (.seq (.block 1 Nv) (.reg Ns))))
abbrev Nu:AC:=
 (.loop Nw)
abbrev Nr:List AO:=
 [o1 2 (.mv (ci 0))]
abbrev x7F:AF:=⟨29,(.seq (.reg Yv) (.seq (.seq (.reg Yu) (.cond (.t 8) (.seq (.reg Yt) .ret) .skip)) (.seq (.reg Ys) (.seq (.seq (.reg Yr) (.block 0 Nu)) (.seq (.reg Nr) .ret))))),[.mv (.t 2)]⟩
theorem Nt:av Tryz.prog (aa Tryz.prog 75) 75=some x7F:=by kernel_rfl
/-! instruction.Check-/
abbrev Yk:List AO:=
 [o1 1 (.bx 82 0 (.t 0)),o1 2 (.mv (ci 0))]
abbrev Yj:List AO:=
 [o1 6 (.fa 0 (.t 1)),o1 7 (.ld 1 false (.t 6)),
  (o2 8 50 [.t 7]),
  (mt 5 8),o1 9 (.ext 0 (.t 5)),o1 10 (.ext 1 (.t 5)),o1 3 (.al 96 [.s ⟨#[]⟩,.s ⟨#[]⟩,.s ⟨#[]⟩,.n .u64 0,.b false]),
  (o3 (.st 5 (.t 3) (.t 9))),
  (mt 4 10)]
abbrev Yi:List AO:=
 [(mt 12 4),o1 13 (.un .not (.t 12)),
  (mt 11 13)]
abbrev Yh:List AO:=
 [o1 2 (.mv (ci 1))]
abbrev Yg:List AO:=
 [o1 15 (.fa 1 (.t 1)),o1 16 (.ld 1 false (.t 15)),o1 17 (.cvi .u64 (.t 16)),o1 18 (.fa 3 (.t 3)),o1 19 (.ld 1 false (.t 18)),o1 20 (.bin .geq (.t 17) (.t 19)),
  (mt 14 20)]
abbrev Yf:List AO:=
 [o1 2 (.mv (ci 2))]
abbrev Yl:AC:=
 (.seq (.reg Yi) (.cond (.t 11) (.seq (.reg Yh) .ret) (.seq (.reg Yg) (.cond (.t 14) (.seq (.reg Yf) .ret) .skip))))
abbrev Ye:List AO:=
 [o1 2 (.mv (ci 0))]
abbrev x8F:AF:=⟨21,(.seq (.reg Yk) (.seq (.reg Yj) (.seq (.block 0 Yl) (.seq (.reg Ye) .ret)))),[.mv (.t 2)]⟩
theorem L7:av Tryz.prog (aa Tryz.prog 76) 76=some x8F:=by kernel_rfl
/-! instruction.known-/
abbrev Yd:List AO:=
 [o1 2 (.al 96 [.s ⟨#[]⟩,.s ⟨#[]⟩,.s ⟨#[]⟩,.n .u64 0,.b false]),o1 3 (.mv (.c (.b false)))]
abbrev Yc:List AO:=
 [(mt 4 0),o1 5 (.bin .lss (.t 4) (ci 0)),
  (mt 6 5),
  (o4 7 6 (.mv (.t 0))),
  (o4 8 6 (.bin .geq (.t 7) (ci 36))),o1 9 (.pick (.t 6) (.c (.b true)) (.t 8))]
abbrev Yb:List AO:=
 [o1 10 (.bd [.s ⟨#[]⟩,.s ⟨#[]⟩,.s ⟨#[]⟩,.n .u64 0,.b false] []),
  (o3 (.st 5 (.t 2) (.t 10))),o1 3 (.mv (.c (.b false)))]
abbrev Ya:List AO:=
 [(o2 11 79 []),
  (mt 12 0),o1 13 (.ix 36 5 true (.t 11) (.t 12)),
  (o3 (.st 5 (.t 2) (.t 13))),o1 3 (.mv (.c (.b true)))]
abbrev x9F:AF:=⟨14,(.seq (.reg Yd) (.seq (.seq (.reg Yc) (.cond (.t 9) (.seq (.reg Yb) .ret) .skip)) (.seq (.reg Ya) .ret))),[.ld 5 true (.t 2),.mv (.t 3)]⟩
theorem z6:av Tryz.prog (aa Tryz.prog 50) 50=some x9F:=by kernel_rfl
/-! instruction.operations-/
abbrev WU:List AO:=
 [o1 0 (.al 138 [.s ⟨#[]⟩,.s ⟨#[]⟩,.s ⟨#[]⟩,.n .u64 0,.b false,.s ⟨#[]⟩,.s ⟨#[]⟩,.s ⟨#[]⟩,.n .u64 0,.b false,.s ⟨#[]⟩,.s ⟨#[]⟩,.s ⟨#[]⟩,.n .u64 0,.b false,.s ⟨#[]⟩,.s ⟨#[]⟩,.s ⟨#[]⟩,.n .u64 0,.b false,.s ⟨#[]⟩,.s ⟨#[]⟩,.s ⟨#[]⟩,.n .u64 0,.b false,.s ⟨#[]⟩,.s ⟨#[]⟩,.s ⟨#[]⟩,.n .u64 0,.b false,.s ⟨#[]⟩,.s ⟨#[]⟩,.s ⟨#[]⟩,.n .u64 0,.b false,.s ⟨#[]⟩,.s ⟨#[]⟩,.s ⟨#[]⟩,.n .u64 0,.b false,.s ⟨#[]⟩,.s ⟨#[]⟩,.s ⟨#[]⟩,.n .u64 0,.b false,.s ⟨#[]⟩,.s ⟨#[]⟩,.s ⟨#[]⟩,.n .u64 0,.b false,.s ⟨#[]⟩,.s ⟨#[]⟩,.s ⟨#[]⟩,.n .u64 0,.b false,.s ⟨#[]⟩,.s ⟨#[]⟩,.s ⟨#[]⟩,.n .u64 0,.b false,.s ⟨#[]⟩,.s ⟨#[]⟩,.s ⟨#[]⟩,.n .u64 0,.b false,.s ⟨#[]⟩,.s ⟨#[]⟩,.s ⟨#[]⟩,.n .u64 0,.b false,.s ⟨#[]⟩,.s ⟨#[]⟩,.s ⟨#[]⟩,.n .u64 0,.b false,.s ⟨#[]⟩,.s ⟨#[]⟩,.s ⟨#[]⟩,.n .u64 0,.b false,.s ⟨#[]⟩,.s ⟨#[]⟩,.s ⟨#[]⟩,.n .u64 0,.b false,.s ⟨#[]⟩,.s ⟨#[]⟩,.s ⟨#[]⟩,.n .u64 0,.b false,.s ⟨#[]⟩,.s ⟨#[]⟩,.s ⟨#[]⟩,.n .u64 0,.b false,.s ⟨#[]⟩,.s ⟨#[]⟩,.s ⟨#[]⟩,.n .u64 0,.b false,.s ⟨#[]⟩,.s ⟨#[]⟩,.s ⟨#[]⟩,.n .u64 0,.b false,.s ⟨#[]⟩,.s ⟨#[]⟩,.s ⟨#[]⟩,.n .u64 0,.b false,.s ⟨#[]⟩,.s ⟨#[]⟩,.s ⟨#[]⟩,.n .u64 0,.b false,.s ⟨#[]⟩,.s ⟨#[]⟩,.s ⟨#[]⟩,.n .u64 0,.b false,.s ⟨#[]⟩,.s ⟨#[]⟩,.s ⟨#[]⟩,.n .u64 0,.b false,.s ⟨#[]⟩,.s ⟨#[]⟩,.s ⟨#[]⟩,.n .u64 0,.b false,.s ⟨#[]⟩,.s ⟨#[]⟩,.s ⟨#[]⟩,.n .u64 0,.b false,.s ⟨#[]⟩,.s ⟨#[]⟩,.s ⟨#[]⟩,.n .u64 0,.b false,.s ⟨#[]⟩,.s ⟨#[]⟩,.s ⟨#[]⟩,.n .u64 0,.b false,.s ⟨#[]⟩,.s ⟨#[]⟩,.s ⟨#[]⟩,.n .u64 0,.b false,.s ⟨#[]⟩,.s ⟨#[]⟩,.s ⟨#[]⟩,.n .u64 0,.b false,.s ⟨#[]⟩,.s ⟨#[]⟩,.s ⟨#[]⟩,.n .u64 0,.b false,.s ⟨#[]⟩,.s ⟨#[]⟩,.s ⟨#[]⟩,.n .u64 0,.b false,.s ⟨#[]⟩,.s ⟨#[]⟩,.s ⟨#[]⟩,.n .u64 0,.b false,.s ⟨#[]⟩,.s ⟨#[]⟩,.s ⟨#[]⟩,.n .u64 0,.b false,.s ⟨#[]⟩,.s ⟨#[]⟩,.s ⟨#[]⟩,.n .u64 0,.b false])]
abbrev WT:List AO:=
 [o1 1 (.mv (.c (.f 95 [] [])))]
abbrev WS:List AO:=
 [o1 2 (.mv (.c (.f 96 [] [])))]
abbrev WR:List AO:=
 [o1 3 (.bd [.s ⟨#[]⟩,.s ⟨#[]⟩,.s ⟨#[]⟩,.n .u64 0,.b false] [(0,1,(.c (.s ⟨#[112,117,115,104]⟩))),(1,1,(.c (.s ⟨#[]⟩))),(2,1,(.c (.s ⟨#[110]⟩))),(3,1,(.c (.n .u64 4294967296))),(4,1,(.c (.b true)))]),o1 4 (.bd [.s ⟨#[]⟩,.s ⟨#[]⟩,.s ⟨#[]⟩,.n .u64 0,.b false] [(0,1,(.c (.s ⟨#[108,111,97,100]⟩))),(1,1,(.c (.s ⟨#[]⟩))),(2,1,(.c (.s ⟨#[110]⟩))),(3,1,(.c (.n .u64 16))),(4,1,(.c (.b true)))]),o1 5 (.bd [.s ⟨#[]⟩,.s ⟨#[]⟩,.s ⟨#[]⟩,.n .u64 0,.b false] [(0,1,(.c (.s ⟨#[115,116,111,114,101]⟩))),(1,1,(.c (.s ⟨#[110]⟩))),(2,1,(.c (.s ⟨#[]⟩))),(3,1,(.c (.n .u64 16))),(4,1,(.c (.b true)))]),o1 6 (.bd [.s ⟨#[]⟩,.s ⟨#[]⟩,.s ⟨#[]⟩,.n .u64 0,.b false] [(0,1,(.c (.s ⟨#[103,101,116]⟩))),(1,1,(.c (.s ⟨#[110]⟩))),(2,1,(.c (.s ⟨#[110]⟩))),(3,1,(.c (.n .u64 8))),(4,1,(.c (.b true)))]),o1 7 (.bd [.s ⟨#[]⟩,.s ⟨#[]⟩,.s ⟨#[]⟩,.n .u64 0,.b false] [(0,1,(.c (.s ⟨#[112,117,116]⟩))),(1,1,(.c (.s ⟨#[110,110]⟩))),(2,1,(.c (.s ⟨#[]⟩))),(3,1,(.c (.n .u64 8))),(4,1,(.c (.b true)))]),
  (mt 8 2),⟨some 9,none,.cl (.t 8) [(.c (.s ⟨#[100,117,112]⟩)),(.c (.s ⟨#[97]⟩)),(.c (.s ⟨#[97,97]⟩))]⟩,
  (mt 10 2),⟨some 11,none,.cl (.t 10) [(.c (.s ⟨#[100,114,111,112]⟩)),(.c (.s ⟨#[97]⟩)),(.c (.s ⟨#[]⟩))]⟩,
  (mt 12 2),⟨some 13,none,.cl (.t 12) [(.c (.s ⟨#[115,119,97,112]⟩)),(.c (.s ⟨#[97,98]⟩)),(.c (.s ⟨#[98,97]⟩))]⟩,
  (mt 14 1),⟨some 15,none,.cl (.t 14) [(.c (.s ⟨#[97,100,100]⟩))]⟩,
  (mt 16 1),⟨some 17,none,.cl (.t 16) [(.c (.s ⟨#[115,117,98]⟩))]⟩,
  (mt 18 1),⟨some 19,none,.cl (.t 18) [(.c (.s ⟨#[109,117,108]⟩))]⟩,
  (mt 20 1),⟨some 21,none,.cl (.t 20) [(.c (.s ⟨#[100,105,118]⟩))]⟩,
  (mt 22 1),⟨some 23,none,.cl (.t 22) [(.c (.s ⟨#[109,111,100]⟩))]⟩,
  (mt 24 1),⟨some 25,none,.cl (.t 24) [(.c (.s ⟨#[97,110,100]⟩))]⟩,
  (mt 26 1),⟨some 27,none,.cl (.t 26) [(.c (.s ⟨#[111,114]⟩))]⟩,
  (mt 28 1),⟨some 29,none,.cl (.t 28) [(.c (.s ⟨#[120,111,114]⟩))]⟩,
  (mt 30 1),⟨some 31,none,.cl (.t 30) [(.c (.s ⟨#[115,104,108]⟩))]⟩,
  (mt 32 1),⟨some 33,none,.cl (.t 32) [(.c (.s ⟨#[115,104,114]⟩))]⟩,
  (mt 34 1),⟨some 35,none,.cl (.t 34) [(.c (.s ⟨#[109,105,110]⟩))]⟩,
  (mt 36 1),⟨some 37,none,.cl (.t 36) [(.c (.s ⟨#[109,97,120]⟩))]⟩,
  (mt 38 1),⟨some 39,none,.cl (.t 38) [(.c (.s ⟨#[104,97,115,104]⟩))]⟩,
  (mt 40 2),⟨some 41,none,.cl (.t 40) [(.c (.s ⟨#[101,113]⟩)),(.c (.s ⟨#[110,110]⟩)),(.c (.s ⟨#[116]⟩))]⟩,
  (mt 42 2),⟨some 43,none,.cl (.t 42) [(.c (.s ⟨#[108,101,115,115]⟩)),(.c (.s ⟨#[110,110]⟩)),(.c (.s ⟨#[116]⟩))]⟩,
  (mt 44 2),⟨some 45,none,.cl (.t 44) [(.c (.s ⟨#[110,111,116]⟩)),(.c (.s ⟨#[116]⟩)),(.c (.s ⟨#[116]⟩))]⟩,
  (mt 46 2),⟨some 47,none,.cl (.t 46) [(.c (.s ⟨#[98,111,116,104]⟩)),(.c (.s ⟨#[116,116]⟩)),(.c (.s ⟨#[116]⟩))]⟩,
  (mt 48 2),⟨some 49,none,.cl (.t 48) [(.c (.s ⟨#[101,105,116,104,101,114]⟩)),(.c (.s ⟨#[116,116]⟩)),(.c (.s ⟨#[116]⟩))]⟩,
  (mt 50 2),⟨some 51,none,.cl (.t 50) [(.c (.s ⟨#[105,110,116]⟩)),(.c (.s ⟨#[116]⟩)),(.c (.s ⟨#[110]⟩))]⟩,
  (mt 52 2),⟨some 53,none,.cl (.t 52) [(.c (.s ⟨#[105,102]⟩)),(.c (.s ⟨#[116]⟩)),(.c (.s ⟨#[]⟩))]⟩,
  (mt 54 2),⟨some 55,none,.cl (.t 54) [(.c (.s ⟨#[101,108,115,101]⟩)),(.c (.s ⟨#[]⟩)),(.c (.s ⟨#[]⟩))]⟩,
  (mt 56 2),⟨some 57,none,.cl (.t 56) [(.c (.s ⟨#[108,111,111,112]⟩)),(.c (.s ⟨#[110]⟩)),(.c (.s ⟨#[]⟩))]⟩,
  (mt 58 2),⟨some 59,none,.cl (.t 58) [(.c (.s ⟨#[108,101,97,118,101]⟩)),(.c (.s ⟨#[116]⟩)),(.c (.s ⟨#[]⟩))]⟩,
  (mt 60 2),⟨some 61,none,.cl (.t 60) [(.c (.s ⟨#[101,110,100]⟩)),(.c (.s ⟨#[]⟩)),(.c (.s ⟨#[]⟩))]⟩,
  (mt 62 2),⟨some 63,none,.cl (.t 62) [(.c (.s ⟨#[105,110,112,117,116]⟩)),(.c (.s ⟨#[]⟩)),(.c (.s ⟨#[110]⟩))]⟩,
  (mt 64 2),⟨some 65,none,.cl (.t 64) [(.c (.s ⟨#[101,110,100,101,100]⟩)),(.c (.s ⟨#[]⟩)),(.c (.s ⟨#[116]⟩))]⟩,
  (mt 66 2),⟨some 67,none,.cl (.t 66) [(.c (.s ⟨#[101,109,105,116]⟩)),(.c (.s ⟨#[110]⟩)),(.c (.s ⟨#[]⟩))]⟩,o1 68 (.bd [.s ⟨#[]⟩,.s ⟨#[]⟩,.s ⟨#[]⟩,.n .u64 0,.b false] [(0,1,(.c (.s ⟨#[99,111,110,116,101,120,116]⟩))),(1,1,(.c (.s ⟨#[110]⟩))),(2,1,(.c (.s ⟨#[]⟩))),(3,1,(.c (.n .u64 16))),(4,1,(.c (.b true)))]),o1 69 (.bd [.s ⟨#[]⟩,.s ⟨#[]⟩,.s ⟨#[]⟩,.n .u64 0,.b false,.s ⟨#[]⟩,.s ⟨#[]⟩,.s ⟨#[]⟩,.n .u64 0,.b false,.s ⟨#[]⟩,.s ⟨#[]⟩,.s ⟨#[]⟩,.n .u64 0,.b false,.s ⟨#[]⟩,.s ⟨#[]⟩,.s ⟨#[]⟩,.n .u64 0,.b false,.s ⟨#[]⟩,.s ⟨#[]⟩,.s ⟨#[]⟩,.n .u64 0,.b false,.s ⟨#[]⟩,.s ⟨#[]⟩,.s ⟨#[]⟩,.n .u64 0,.b false,.s ⟨#[]⟩,.s ⟨#[]⟩,.s ⟨#[]⟩,.n .u64 0,.b false,.s ⟨#[]⟩,.s ⟨#[]⟩,.s ⟨#[]⟩,.n .u64 0,.b false,.s ⟨#[]⟩,.s ⟨#[]⟩,.s ⟨#[]⟩,.n .u64 0,.b false,.s ⟨#[]⟩,.s ⟨#[]⟩,.s ⟨#[]⟩,.n .u64 0,.b false,.s ⟨#[]⟩,.s ⟨#[]⟩,.s ⟨#[]⟩,.n .u64 0,.b false,.s ⟨#[]⟩,.s ⟨#[]⟩,.s ⟨#[]⟩,.n .u64 0,.b false,.s ⟨#[]⟩,.s ⟨#[]⟩,.s ⟨#[]⟩,.n .u64 0,.b false,.s ⟨#[]⟩,.s ⟨#[]⟩,.s ⟨#[]⟩,.n .u64 0,.b false,.s ⟨#[]⟩,.s ⟨#[]⟩,.s ⟨#[]⟩,.n .u64 0,.b false,.s ⟨#[]⟩,.s ⟨#[]⟩,.s ⟨#[]⟩,.n .u64 0,.b false,.s ⟨#[]⟩,.s ⟨#[]⟩,.s ⟨#[]⟩,.n .u64 0,.b false,.s ⟨#[]⟩,.s ⟨#[]⟩,.s ⟨#[]⟩,.n .u64 0,.b false,.s ⟨#[]⟩,.s ⟨#[]⟩,.s ⟨#[]⟩,.n .u64 0,.b false,.s ⟨#[]⟩,.s ⟨#[]⟩,.s ⟨#[]⟩,.n .u64 0,.b false,.s ⟨#[]⟩,.s ⟨#[]⟩,.s ⟨#[]⟩,.n .u64 0,.b false,.s ⟨#[]⟩,.s ⟨#[]⟩,.s ⟨#[]⟩,.n .u64 0,.b false,.s ⟨#[]⟩,.s ⟨#[]⟩,.s ⟨#[]⟩,.n .u64 0,.b false,.s ⟨#[]⟩,.s ⟨#[]⟩,.s ⟨#[]⟩,.n .u64 0,.b false,.s ⟨#[]⟩,.s ⟨#[]⟩,.s ⟨#[]⟩,.n .u64 0,.b false,.s ⟨#[]⟩,.s ⟨#[]⟩,.s ⟨#[]⟩,.n .u64 0,.b false,.s ⟨#[]⟩,.s ⟨#[]⟩,.s ⟨#[]⟩,.n .u64 0,.b false,.s ⟨#[]⟩,.s ⟨#[]⟩,.s ⟨#[]⟩,.n .u64 0,.b false,.s ⟨#[]⟩,.s ⟨#[]⟩,.s ⟨#[]⟩,.n .u64 0,.b false,.s ⟨#[]⟩,.s ⟨#[]⟩,.s ⟨#[]⟩,.n .u64 0,.b false,.s ⟨#[]⟩,.s ⟨#[]⟩,.s ⟨#[]⟩,.n .u64 0,.b false,.s ⟨#[]⟩,.s ⟨#[]⟩,.s ⟨#[]⟩,.n .u64 0,.b false,.s ⟨#[]⟩,.s ⟨#[]⟩,.s ⟨#[]⟩,.n .u64 0,.b false,.s ⟨#[]⟩,.s ⟨#[]⟩,.s ⟨#[]⟩,.n .u64 0,.b false,.s ⟨#[]⟩,.s ⟨#[]⟩,.s ⟨#[]⟩,.n .u64 0,.b false,.s ⟨#[]⟩,.s ⟨#[]⟩,.s ⟨#[]⟩,.n .u64 0,.b false] [(0,5,(.t 3)),(5,5,(.t 4)),(10,5,(.t 5)),(15,5,(.t 6)),(20,5,(.t 7)),(25,5,(.t 9)),(30,5,(.t 11)),(35,5,(.t 13)),(40,5,(.t 15)),(45,5,(.t 17)),(50,5,(.t 19)),(55,5,(.t 21)),(60,5,(.t 23)),(65,5,(.t 25)),(70,5,(.t 27)),(75,5,(.t 29)),(80,5,(.t 31)),(85,5,(.t 33)),(90,5,(.t 35)),(95,5,(.t 37)),(100,5,(.t 39)),(105,5,(.t 41)),(110,5,(.t 43)),(115,5,(.t 45)),(120,5,(.t 47)),(125,5,(.t 49)),(130,5,(.t 51)),(135,5,(.t 53)),(140,5,(.t 55)),(145,5,(.t 57)),(150,5,(.t 59)),(155,5,(.t 61)),(160,5,(.t 63)),(165,5,(.t 65)),(170,5,(.t 67)),(175,5,(.t 68))]),
  (o3 (.st 180 (.t 0) (.t 69)))]
abbrev WW:AF:=⟨70,(.seq (.reg WU) (.seq (.reg WT) (.seq (.reg WS) (.seq (.reg WR) .ret)))),[.ld 180 true (.t 0)]⟩
theorem WV:av Tryz.prog (aa Tryz.prog 79) 79=some WW:=by kernel_rfl
/-! wire.PutInt-/
abbrev WP:List AO:=
 [o1 4 (.mv (.c .sl0))]
abbrev WO:List AO:=
 [(mt 5 0),
  (o2 6 78 [.t 5]),
  (mt 7 1),
  (o2 8 77 [.t 6,.t 7]),
  (mt 4 8)]
abbrev WQ:AF:=⟨9,(.seq (.reg WP) (.seq (.reg WO) .ret)),[.mv (.t 4)]⟩
theorem zo:av Tryz.prog (aa Tryz.prog 48) 48=some WQ:=by kernel_rfl
/-! slices.Clone[[]byte,byte]-/
abbrev WM:List AO:=
 [o1 2 (.mv (.c .sl0))]
abbrev WL:List AO:=
 [(mt 3 0),⟨some 4,none,.sn false (.t 3)⟩]
abbrev WK:List AO:=
 [o1 2 (.mv (.c .sl0))]
abbrev WJ:List AO:=
 [o1 5 (.bs 5 1 0 [] []),
  (mt 6 0),o1 7 (.app 5 1 1 (.t 5) (.t 6)),
  (mt 2 7)]
abbrev WN:AF:=⟨8,(.seq (.reg WM) (.seq (.seq (.reg WL) (.cond (.t 4) (.seq (.reg WK) .ret) .skip)) (.seq (.reg WJ) .ret))),[.mv (.t 2)]⟩
theorem zd:av Tryz.prog (aa Tryz.prog 78) 78=some WN:=by kernel_rfl
/-! wire.put-/
abbrev WG:List AO:=
 [o1 4 (.mv (.c .sl0))]
abbrev WF:List AO:=
 [(mt 8 1),
  (o2 9 93 [.t 8]),
  (mt 1 9)]
abbrev WE:List AO:=
 [(mt 10 1),
  (o2 11 94 [.t 10]),
  (mt 5 11)]
abbrev WD:List AO:=
 [(mt 12 5),o1 13 (.bin .sub (ci 8) (.t 12)),o1 14 (.bin .shl (.c (.n .u8 255)) (.t 13)),
  (mt 6 14)]
abbrev WC:List AO:=
 [(mt 15 0),
  (mt 16 6),
  (mt 17 1),
  (mt 18 5),o1 19 (.bin .mul (ci 8) (.t 18)),o1 20 (.bin .shr (.t 17) (.t 19)),o1 21 (.cvi .u8 (.t 20)),o1 22 (.bin .or (.t 16) (.t 21)),o1 23 (.bs 5 1 1 [.n .u8 0] [(0,1,(.t 22))]),o1 24 (.app 5 1 1 (.t 15) (.t 23)),
  (mt 0 24)]
abbrev WB:List AO:=
 [(mt 25 5),o1 26 (.bin .sub (.t 25) (ci 1)),
  (mt 7 26)]
abbrev WA:List AO:=
 [(mt 27 7),o1 28 (.bin .geq (.t 27) (ci 0))]
abbrev Wz:List AO:=
 [(mt 31 0),
  (mt 32 1),
  (mt 33 7),o1 34 (.bin .mul (ci 8) (.t 33)),o1 35 (.bin .shr (.t 32) (.t 34)),o1 36 (.cvi .u8 (.t 35)),o1 37 (.bs 5 1 1 [.n .u8 0] [(0,1,(.t 36))]),o1 38 (.app 5 1 1 (.t 31) (.t 37)),
  (mt 0 38)]
abbrev WH:AC:=
 (.reg Wz)
abbrev Wy:List AO:=
 [(mt 29 7),o1 30 (.bin .sub (.t 29) (ci 1)),
  (mt 7 30)]
abbrev E5:AC:=
 (.seq (.seq (.reg WA) (.cond (.t 28) .skip (.exit 0))) (.seq (.block 1 WH) (.reg Wy)))
abbrev E4:AC:=
 (.loop E5)
abbrev E3:List AO:=
 [(mt 39 0),
  (mt 4 39)]
abbrev WI:AF:=⟨40,(.seq (.reg WG) (.seq (.reg WF) (.seq (.reg WE) (.seq (.reg WD) (.seq (.reg WC) (.seq (.seq (.reg WB) (.block 0 E4)) (.seq (.reg E3) .ret))))))),[.mv (.t 4)]⟩
theorem yV:av Tryz.prog (aa Tryz.prog 77) 77=some WI:=by kernel_rfl
/-! wire.number-/
abbrev Ww:List AO:=
 [o1 2 (.mv (ci 0))]
abbrev Wu:List AO:=
 [(mt 3 0),o1 4 (.bin .lss (.t 3) (ci 0)),
  (mt 5 4),
  (o4 6 5 (.mv (.t 0))),
  (o4 7 5 (.bin .gtr (.t 6) (ci 9007199254740991))),o1 8 (.pick (.t 5) (.c (.b true)) (.t 7))]
abbrev Wt:List AO:=
 [o1 2 (.mv (ci 0))]
abbrev Ws:List AO:=
 [(mt 9 0),
  (mt 2 9)]
abbrev Wx:AF:=⟨10,(.seq (.reg Ww) (.seq (.seq (.reg Wu) (.cond (.t 8) (.seq (.reg Wt) .ret) .skip)) (.seq (.reg Ws) .ret))),[.mv (.t 2)]⟩
theorem yK:av Tryz.prog (aa Tryz.prog 93) 93=some Wx:=by kernel_rfl
/-! wire.further-/
abbrev Wq:List AO:=
 [o1 2 (.mv (ci 0))]
abbrev Wp:List AO:=
 [(mt 3 0),o1 4 (.cvi .u64 (.t 3)),
  (o2 5 114 [.t 4]),o1 6 (.bin .sub (.t 5) (ci 1)),⟨some 7,none,.mo (.mx (ci 0) (.t 6))⟩,o1 8 (.bin .quo (.t 7) (ci 7)),
  (mt 2 8)]
abbrev Wr:AF:=⟨9,(.seq (.reg Wq) (.seq (.reg Wp) .ret)),[.mv (.t 2)]⟩
theorem yE:av Tryz.prog (aa Tryz.prog 94) 94=some Wr:=by kernel_rfl
/-! math/bits.Len-/
abbrev Wn:List AO:=
 [o1 2 (.mv (ci 0))]
abbrev Wm:List AO:=
 [(mt 3 0),o1 4 (.cvi .u32 (.t 3)),
  (o2 5 122 [.t 4]),
  (mt 2 5)]
abbrev Wl:List AO:=
 [(mt 6 0),
  (o2 7 123 [.t 6]),
  (mt 2 7)]
abbrev Wo:AF:=⟨8,(.seq (.reg Wn) (.seq (.cond (.c (.b false)) (.seq (.reg Wm) .ret) .skip) (.seq (.reg Wl) .ret))),[.mv (.t 2)]⟩
theorem yD:av Tryz.prog (aa Tryz.prog 114) 114=some Wo:=by kernel_rfl
/-! math/bits.Len32-/
abbrev Wh:List AO:=
 [o1 2 (.mv (ci 0))]
abbrev Wg:List AO:=
 [(mt 3 0),o1 4 (.bin .geq (.t 3) (.c (.n .u32 65536)))]
abbrev Wf:List AO:=
 [(mt 5 0),o1 6 (.bin .shr (.t 5) (.c (.n .u64 16))),
  (mt 0 6)]
abbrev We:List AO:=
 [o1 2 (.mv (ci 16))]
abbrev Wd:List AO:=
 [(mt 7 0),o1 8 (.bin .geq (.t 7) (.c (.n .u32 256)))]
abbrev Wc:List AO:=
 [(mt 9 0),o1 10 (.bin .shr (.t 9) (.c (.n .u64 8))),
  (mt 0 10)]
abbrev Wb:List AO:=
 [(mt 11 2),o1 12 (.bin .add (.t 11) (ci 8)),
  (mt 2 12)]
abbrev Wa:List AO:=
 [(mt 13 2),
  (mt 14 0),o1 15 (.cvi .u8 (.t 14)),o1 16 (.sx (.c (.s ⟨#[0,1,2,2,3,3,3,3,4,4,4,4,4,4,4,4,5,5,5,5,5,5,5,5,5,5,5,5,5,5,5,5,6,6,6,6,6,6,6,6,6,6,6,6,6,6,6,6,6,6,6,6,6,6,6,6,6,6,6,6,6,6,6,6,7,7,7,7,7,7,7,7,7,7,7,7,7,7,7,7,7,7,7,7,7,7,7,7,7,7,7,7,7,7,7,7,7,7,7,7,7,7,7,7,7,7,7,7,7,7,7,7,7,7,7,7,7,7,7,7,7,7,7,7,7,7,7,7,8,8,8,8,8,8,8,8,8,8,8,8,8,8,8,8,8,8,8,8,8,8,8,8,8,8,8,8,8,8,8,8,8,8,8,8,8,8,8,8,8,8,8,8,8,8,8,8,8,8,8,8,8,8,8,8,8,8,8,8,8,8,8,8,8,8,8,8,8,8,8,8,8,8,8,8,8,8,8,8,8,8,8,8,8,8,8,8,8,8,8,8,8,8,8,8,8,8,8,8,8,8,8,8,8,8,8,8,8,8,8,8,8,8,8,8,8,8,8,8,8,8,8,8,8,8,8,8]⟩)) (.t 15)),o1 17 (.cvi .i64 (.t 16)),o1 18 (.bin .add (.t 13) (.t 17)),
  (mt 2 18)]
abbrev Wj:AF:=⟨19,(.seq (.reg Wh) (.seq (.seq (.reg Wg) (.cond (.t 4) (.seq (.reg Wf) (.reg We)) .skip)) (.seq (.seq (.reg Wd) (.cond (.t 8) (.seq (.reg Wc) (.reg Wb)) .skip)) (.seq (.reg Wa) .ret)))),[.mv (.t 2)]⟩
theorem Wi:av Tryz.prog (aa Tryz.prog 122) 122=some Wj:=by kernel_rfl
/-! math/bits.Len64-/
abbrev V8:List AO:=
 [o1 2 (.mv (ci 0))]
abbrev V7:List AO:=
 [(mt 3 0),o1 4 (.bin .geq (.t 3) (.c (.n .u64 4294967296)))]
abbrev V6:List AO:=
 [(mt 5 0),o1 6 (.bin .shr (.t 5) (.c (.n .u64 32))),
  (mt 0 6)]
abbrev V5:List AO:=
 [o1 2 (.mv (ci 32))]
abbrev V4:List AO:=
 [(mt 7 0),o1 8 (.bin .geq (.t 7) (.c (.n .u64 65536)))]
abbrev V3:List AO:=
 [(mt 9 0),o1 10 (.bin .shr (.t 9) (.c (.n .u64 16))),
  (mt 0 10)]
abbrev V2:List AO:=
 [(mt 11 2),o1 12 (.bin .add (.t 11) (ci 16)),
  (mt 2 12)]
abbrev V1:List AO:=
 [(mt 13 0),o1 14 (.bin .geq (.t 13) (.c (.n .u64 256)))]
abbrev V0:List AO:=
 [(mt 15 0),o1 16 (.bin .shr (.t 15) (.c (.n .u64 8))),
  (mt 0 16)]
abbrev VZ:List AO:=
 [(mt 17 2),o1 18 (.bin .add (.t 17) (ci 8)),
  (mt 2 18)]
abbrev qO:List AO:=
 [(mt 19 2),
  (mt 20 0),o1 21 (.cvi .u8 (.t 20)),o1 22 (.sx (.c (.s ⟨#[0,1,2,2,3,3,3,3,4,4,4,4,4,4,4,4,5,5,5,5,5,5,5,5,5,5,5,5,5,5,5,5,6,6,6,6,6,6,6,6,6,6,6,6,6,6,6,6,6,6,6,6,6,6,6,6,6,6,6,6,6,6,6,6,7,7,7,7,7,7,7,7,7,7,7,7,7,7,7,7,7,7,7,7,7,7,7,7,7,7,7,7,7,7,7,7,7,7,7,7,7,7,7,7,7,7,7,7,7,7,7,7,7,7,7,7,7,7,7,7,7,7,7,7,7,7,7,7,8,8,8,8,8,8,8,8,8,8,8,8,8,8,8,8,8,8,8,8,8,8,8,8,8,8,8,8,8,8,8,8,8,8,8,8,8,8,8,8,8,8,8,8,8,8,8,8,8,8,8,8,8,8,8,8,8,8,8,8,8,8,8,8,8,8,8,8,8,8,8,8,8,8,8,8,8,8,8,8,8,8,8,8,8,8,8,8,8,8,8,8,8,8,8,8,8,8,8,8,8,8,8,8,8,8,8,8,8,8,8,8,8,8,8,8,8,8,8,8,8,8,8,8,8,8,8,8]⟩)) (.t 21)),o1 23 (.cvi .i64 (.t 22)),o1 24 (.bin .add (.t 19) (.t 23)),
  (mt 2 24)]
abbrev V9:AF:=⟨25,(.seq (.reg V8) (.seq (.seq (.reg V7) (.cond (.t 4) (.seq (.reg V6) (.reg V5)) .skip)) (.seq (.seq (.reg V4) (.cond (.t 8) (.seq (.reg V3) (.reg V2)) .skip)) (.seq (.seq (.reg V1) (.cond (.t 14) (.seq (.reg V0) (.reg VZ)) .skip)) (.seq (.reg qO) .ret))))),[.mv (.t 2)]⟩
theorem yC:av Tryz.prog (aa Tryz.prog 123) 123=some V9:=by kernel_rfl
/-! instruction.flag-/
abbrev VX:List AO:=
 [o1 2 (.mv (.c (.n .u32 0)))]
abbrev VW:List AO:=
 [(mt 3 0)]
abbrev VV:List AO:=
 [o1 2 (.mv (.c (.n .u32 1)))]
abbrev VU:List AO:=
 [o1 2 (.mv (.c (.n .u32 0)))]
abbrev VY:AF:=⟨4,(.seq (.reg VX) (.seq (.seq (.reg VW) (.cond (.t 3) (.seq (.reg VV) .ret) .skip)) (.seq (.reg VU) .ret))),[.mv (.t 2)]⟩
theorem yB:av Tryz.prog (aa Tryz.prog 49) 49=some VY:=by kernel_rfl
/-! flow.Parse-/
abbrev VM:List AO:=
 [o1 2 (.mv (.c .sl0)),o1 3 (.al 3 [.n .i64 0]),o1 4 (.al 28 [.n .i64 0])]
abbrev VL:List AO:=
 []
abbrev VK:List AO:=
 [(mt 5 0),
  (o2 6 81 [.t 5]),
  (o2 7 82 [.t 6]),
  (mt 2 7),
  (o3 (.st 1 (.t 3) (ci 0))),
  (o3 (.st 1 (.t 4) (ci 0)))]
abbrev VO:AF:=⟨8,(.seq (.reg VM) (.seq (.dfr VL (.c (.f 80 [] [])) [.t 3,.t 4]) (.seq (.reg VK) .ret))),[.mv (.t 2),.ld 1 false (.t 3),.ld 1 false (.t 4)]⟩
theorem VN:av Tryz.prog (aa Tryz.prog 53) 53=some VO:=by kernel_rfl
/-! flow.begin-/
abbrev VI:List AO:=
 [o1 2 (.mv (.c .p0))]
abbrev VH:List AO:=
 [(mt 3 0),o1 4 (.len (.t 3)),o1 5 (.bin .leq (.t 4) (ci 1024)),
  (o2 6 97 [.t 5,(ci 0),(ci 6)])]
abbrev VG:List AO:=
 [(mt 7 0),o1 8 (.bs 3 1 1 [.n .i64 0] [(0,1,(.c (.n .i64 (-1))))]),
  (mt 9 0),o1 10 (.len (.t 9)),
  (o2 11 98 [.t 8,.t 10]),o1 12 (.bd [.sl0,.n .i64 0,.sl0] [(0,1,(.t 7)),(2,1,(.t 11))]),o1 13 (.bx 150 0 (.t 12)),
  (mt 2 13)]
abbrev VJ:AF:=⟨14,(.seq (.reg VI) (.seq (.reg VH) (.seq (.reg VG) .ret))),[.mv (.t 2)]⟩
theorem yA:av Tryz.prog (aa Tryz.prog 81) 81=some VJ:=by kernel_rfl
/-! flow.demand-/
abbrev VE:List AO:=
 [(mt 6 0),o1 7 (.un .not (.t 6))]
abbrev VF:AF:=⟨12,(.seq (.reg VE) (.cond (.t 7) .die .skip)),[]⟩
theorem yz:av Tryz.prog (aa Tryz.prog 97) 97=some VF:=by kernel_rfl
/-! slices.Repeat[[]int,int]-/
abbrev VA:List AO:=
 [o1 4 (.mv (.c .sl0))]
abbrev Vz:List AO:=
 [(mt 9 1),o1 10 (.bin .lss (.t 9) (ci 0))]
abbrev Vy:List AO:=
 [(mt 13 0),o1 14 (.len (.t 13)),o1 15 (.cvi .u64 (.t 14)),
  (mt 16 1),o1 17 (.cvi .u64 (.t 16)),
  (o2 18 85 [.t 15,.t 17]),
  (mt 12 18),o1 19 (.ext 0 (.t 12)),o1 20 (.ext 1 (.t 12)),
  (mt 5 19),
  (mt 6 20)]
abbrev Vx:List AO:=
 [(mt 21 5),o1 22 (.bin .gtr (.t 21) (.c (.n .u64 0))),
  (mt 23 22),
  (o4 24 23 (.mv (.t 6))),
  (o4 25 23 (.bin .gtr (.t 24) (.c (.n .u64 9223372036854775807)))),o1 26 (.pick (.t 23) (.c (.b true)) (.t 25))]
abbrev Vv:List AO:=
 [(mt 28 6),o1 29 (.cvi .i64 (.t 28)),o1 30 (.ms 3 1 8 [.n .i64 0] (.t 29) (.t 29)),
  (mt 7 30)]
abbrev Vu:List AO:=
 [(mt 31 7),
  (mt 32 0),⟨some 33,none,.mo (.cp 1 (.t 31) (.t 32))⟩,
  (mt 8 33)]
abbrev Vt:List AO:=
 [(mt 34 8),
  (mt 35 7),o1 36 (.len (.t 35)),o1 37 (.bin .lss (.t 34) (.t 36))]
abbrev VB:List (Nat×AO):=
 [(2,(mt 38 8)),
  (2,(mt 39 7)),
  (2,(mt 40 8)),(2,(o1 41 (.sl 1 (.t 39) (some (.t 40)) none))),
  (2,(mt 42 7)),
  (2,(mt 43 8)),(2,(o1 44 (.sl 1 (.t 42) none (some (.t 43))))),(3,⟨some 45,none,.mo (.cp 1 (.t 41) (.t 44))⟩),(2,(o1 46 (.bin .add (.t 38) (.t 45)))),
  (2,(mt 8 46))]
abbrev VC:AC:=
 (.mix VB)
abbrev yx:AC:=
 (.seq (.seq (.reg Vt) (.cond (.t 37) .skip (.exit 0))) (.block 1 VC))
abbrev Ee:AC:=
 (.loop yx)
abbrev Ed:List AO:=
 [(mt 47 7),
  (mt 4 47)]
abbrev VD:AF:=⟨48,(.seq (.reg VA) (.seq (.seq (.reg Vz) (.cond (.t 10) .die .skip)) (.seq (.reg Vy) (.seq (.seq (.reg Vx) (.cond (.t 26) .die .skip)) (.seq (.reg Vv) (.seq (.reg Vu) (.seq (.block 0 Ee) (.seq (.reg Ed) .ret)))))))),[.mv (.t 4)]⟩
theorem yw:av Tryz.prog (aa Tryz.prog 98) 98=some VD:=by kernel_rfl
/-! math/bits.Mul-/
abbrev Vr:List AO:=
 [o1 4 (.mv (.c (.n .u64 0))),o1 5 (.mv (.c (.n .u64 0)))]
abbrev Vq:List AO:=
 [(mt 11 0),o1 12 (.cvi .u32 (.t 11)),
  (mt 13 1),o1 14 (.cvi .u32 (.t 13)),
  (o2 15 102 [.t 12,.t 14]),
  (mt 10 15),o1 16 (.ext 0 (.t 10)),o1 17 (.ext 1 (.t 10)),
  (mt 6 16),
  (mt 7 17)]
abbrev Vp:List AO:=
 [(mt 18 6),o1 19 (.cvi .u64 (.t 18)),
  (mt 20 7),o1 21 (.cvi .u64 (.t 20)),
  (mt 4 19),
  (mt 5 21)]
abbrev Vo:List AO:=
 [(mt 23 0),
  (mt 24 1),
  (o2 25 103 [.t 23,.t 24]),
  (mt 22 25),o1 26 (.ext 0 (.t 22)),o1 27 (.ext 1 (.t 22)),
  (mt 8 26),
  (mt 9 27)]
abbrev Vn:List AO:=
 [(mt 28 8),
  (mt 29 9),
  (mt 4 28),
  (mt 5 29)]
abbrev Vs:AF:=⟨30,(.seq (.reg Vr) (.seq (.cond (.c (.b false)) (.seq (.reg Vq) (.seq (.reg Vp) .ret)) .skip) (.seq (.reg Vo) (.seq (.reg Vn) .ret)))),[.mv (.t 4),.mv (.t 5)]⟩
theorem yu:av Tryz.prog (aa Tryz.prog 85) 85=some Vs:=by kernel_rfl
/-! math/bits.Mul32-/
abbrev Vk:List AO:=
 [o1 4 (.mv (.c (.n .u32 0))),o1 5 (.mv (.c (.n .u32 0)))]
abbrev Vj:List AO:=
 [(mt 7 0),o1 8 (.cvi .u64 (.t 7)),
  (mt 9 1),o1 10 (.cvi .u64 (.t 9)),o1 11 (.bin .mul (.t 8) (.t 10)),
  (mt 6 11)]
abbrev Vi:List AO:=
 [(mt 12 6),o1 13 (.bin .shr (.t 12) (.c (.n .u64 32))),o1 14 (.cvi .u32 (.t 13)),
  (mt 15 6),o1 16 (.cvi .u32 (.t 15)),
  (mt 4 14),
  (mt 5 16)]
abbrev Vm:AF:=⟨17,(.seq (.reg Vk) (.seq (.reg Vj) (.seq (.reg Vi) .ret))),[.mv (.t 4),.mv (.t 5)]⟩
theorem Vl:av Tryz.prog (aa Tryz.prog 102) 102=some Vm:=by kernel_rfl
/-! math/bits.Mul64-/
abbrev Vg:List AO:=
 [o1 4 (.mv (.c (.n .u64 0))),o1 5 (.mv (.c (.n .u64 0)))]
abbrev Vf:List AO:=
 [(mt 14 0),o1 15 (.bin .and (.t 14) (.c (.n .u64 4294967295))),
  (mt 6 15)]
abbrev Ve:List AO:=
 [(mt 16 0),o1 17 (.bin .shr (.t 16) (.c (.n .u64 32))),
  (mt 7 17)]
abbrev Vd:List AO:=
 [(mt 18 1),o1 19 (.bin .and (.t 18) (.c (.n .u64 4294967295))),
  (mt 8 19)]
abbrev Vc:List AO:=
 [(mt 20 1),o1 21 (.bin .shr (.t 20) (.c (.n .u64 32))),
  (mt 9 21)]
abbrev Vb:List AO:=
 [(mt 22 6),
  (mt 23 8),o1 24 (.bin .mul (.t 22) (.t 23)),
  (mt 10 24)]
abbrev Va:List AO:=
 [(mt 25 7),
  (mt 26 8),o1 27 (.bin .mul (.t 25) (.t 26)),
  (mt 28 10),o1 29 (.bin .shr (.t 28) (.c (.n .u64 32))),o1 30 (.bin .add (.t 27) (.t 29)),
  (mt 11 30)]
abbrev U9:List AO:=
 [(mt 31 11),o1 32 (.bin .and (.t 31) (.c (.n .u64 4294967295))),
  (mt 12 32)]
abbrev U8:List AO:=
 [(mt 33 11),o1 34 (.bin .shr (.t 33) (.c (.n .u64 32))),
  (mt 13 34)]
abbrev U7:List AO:=
 [(mt 35 12),
  (mt 36 6),
  (mt 37 9),o1 38 (.bin .mul (.t 36) (.t 37)),o1 39 (.bin .add (.t 35) (.t 38)),
  (mt 12 39)]
abbrev Ec:List AO:=
 [(mt 40 7),
  (mt 41 9),o1 42 (.bin .mul (.t 40) (.t 41)),
  (mt 43 13),o1 44 (.bin .add (.t 42) (.t 43)),
  (mt 45 12),o1 46 (.bin .shr (.t 45) (.c (.n .u64 32))),o1 47 (.bin .add (.t 44) (.t 46)),
  (mt 4 47)]
abbrev Eb:List AO:=
 [(mt 48 0),
  (mt 49 1),o1 50 (.bin .mul (.t 48) (.t 49)),
  (mt 5 50)]
abbrev Vh:AF:=⟨51,(.seq (.reg Vg) (.seq (.reg Vf) (.seq (.reg Ve) (.seq (.reg Vd) (.seq (.reg Vc) (.seq (.reg Vb) (.seq (.reg Va) (.seq (.reg U9) (.seq (.reg U8) (.seq (.reg U7) (.seq (.reg Ec) (.seq (.reg Eb) .ret)))))))))))),[.mv (.t 4),.mv (.t 5)]⟩
theorem yr:av Tryz.prog (aa Tryz.prog 103) 103=some Vh:=by kernel_rfl
/-! flow.reader.whole-/
abbrev U4:List AO:=
 [o1 2 (.mv (.c .sl0))]
abbrev U3:List AO:=
 [(mt 4 0),
  (o2 5 99 [.t 4,(ci 0),(.c .p0)]),
  (mt 3 5)]
abbrev U5:List (Nat×AO):=
 [(2,(mt 6 0)),(2,(o1 7 (.nc (.t 6)))),(2,(o1 8 (.fa 1 (.t 7)))),
  (2,(mt 10 0)),(2,(o1 11 (.nc (.t 10)))),(2,(o1 12 (.fa 0 (.t 11)))),
  (2,(mt 16 0)),(2,(o1 17 (.nc (.t 16)))),(2,(o1 18 (.fa 1 (.t 17)))),(1,(o1 9 (.ld 1 false (.t 8)))),(1,(o1 13 (.ld 1 false (.t 12)))),(2,(o1 14 (.len (.t 13)))),(2,(o1 15 (.bin .eql (.t 9) (.t 14)))),(1,(o1 19 (.ld 1 false (.t 18)))),
  (3,(o2 20 97 [.t 15,.t 19,(ci 15)]))]
abbrev U2:List AO:=
 [(mt 21 3),
  (mt 2 21)]
abbrev U6:AF:=⟨22,(.seq (.reg U4) (.seq (.reg U3) (.seq (.mix U5) (.seq (.reg U2) .ret)))),[.mv (.t 2)]⟩
theorem yq:av Tryz.prog (aa Tryz.prog 82) 82=some U6:=by kernel_rfl
/-! flow.reader.list-/
abbrev UY:List AO:=
 [o1 6 (.mv (.c .sl0))]
abbrev UX:List AO:=
 [o1 7 (.mv (.c .sl0))]
abbrev U0:List (Nat×AO):=
 [(2,(mt 10 0)),(2,(o1 11 (.nc (.t 10)))),(2,(o1 12 (.fa 1 (.t 11)))),
  (2,(mt 14 0)),(2,(o1 15 (.nc (.t 14)))),(2,(o1 16 (.fa 0 (.t 15)))),(1,(o1 13 (.ld 1 false (.t 12)))),(1,(o1 17 (.ld 1 false (.t 16)))),(2,(o1 18 (.len (.t 17)))),(2,(o1 19 (.bin .lss (.t 13) (.t 18))))]
abbrev UZ:List (Nat×AO):=
 [(2,(mt 20 0)),(2,(o1 21 (.nc (.t 20)))),(2,(o1 22 (.fa 0 (.t 21)))),
  (2,(mt 24 0)),(2,(o1 25 (.nc (.t 24)))),(2,(o1 26 (.fa 1 (.t 25)))),(1,(o1 23 (.ld 1 false (.t 22)))),(1,(o1 27 (.ld 1 false (.t 26)))),(2,(o1 28 (.ia 2 (.t 23) (.t 27)))),(2,(o1 29 (.fa 0 (.t 28)))),(1,(o1 30 (.ld 1 false (.t 29)))),
  (2,(mt 8 30))]
abbrev UW:List AO:=
 [(mt 32 8),o1 33 (.bin .eql (.t 32) (ci 28)),
  (mt 34 33),
  (o4 35 34 (.mv (.t 8))),
  (o4 36 34 (.bin .eql (.t 35) (ci 31))),o1 37 (.pick (.t 34) (.c (.b true)) (.t 36)),
  (mt 31 37)]
abbrev UV:List AO:=
 [(mt 38 7),
  (mt 6 38)]
abbrev UU:List AO:=
 [(mt 40 8),
  (o2 41 115 [.t 40]),
  (mt 39 41)]
abbrev UT:List AO:=
 [(mt 42 7),
  (mt 43 0),
  (mt 44 1),o1 45 (.bin .add (.t 44) (ci 1)),
  (mt 46 2),
  (o2 47 116 [.t 43,.t 45,.t 46]),o1 48 (.bs 106 5 1 [.n .i64 0,.n .i64 0,.n .i64 0,.sl0,.sl0] [(0,5,(.t 47))]),o1 49 (.app 106 5 72 (.t 42) (.t 48)),
  (mt 7 49)]
abbrev US:List AO:=
 [(mt 51 8),o1 52 (.bin .eql (.t 51) (ci 30)),
  (mt 50 52)]
abbrev UR:List AO:=
 [(mt 53 2),o1 54 (.eq true .p (.t 53) (.c .p0)),
  (mt 55 0),o1 56 (.nc (.t 55)),o1 57 (.fa 1 (.t 56)),o1 58 (.ld 1 false (.t 57)),
  (o2 59 97 [.t 54,.t 58,(ci 15)])]
abbrev D6:List (Nat×AO):=
 [(2,(mt 60 2)),
  (2,(mt 61 2)),(2,(o1 62 (.nc (.t 61)))),
  (2,(mt 64 0)),(2,(o1 65 (.nc (.t 64)))),(2,(o1 66 (.fa 1 (.t 65)))),(1,(o1 63 (.ld 1 false (.t 62)))),(1,(o1 67 (.ld 1 false (.t 66)))),(0,(o1 68 (.bs 3 1 1 [.n .i64 0] [(0,1,(.t 67))]))),(3,(o1 69 (.app 3 1 8 (.t 63) (.t 68)))),(2,(o1 70 (.nc (.t 60)))),
  (3,(o3 (.st 1 (.t 70) (.t 69))))]
abbrev D9:AC:=
 (.seq (.reg UW) (.cond (.t 31) (.seq (.reg UV) .ret) (.seq (.reg UU) (.cond (.t 39) (.seq (.reg UT) (.exit 1)) (.seq (.reg US) (.cond (.t 50) (.seq (.reg UR) (.mix D6)) .skip))))))
abbrev D4:List AO:=
 [(mt 71 7),o1 72 (.len (.t 71)),
  (mt 9 72)]
abbrev D3:List AO:=
 [(mt 73 9),o1 74 (.bin .gtr (.t 73) (ci 0)),
  (mt 75 74),
  (o5 76 75 (.mv (.t 7))),
  (o5 77 75 (.mv (.t 9))),
  (o5 78 75 (.bin .sub (.t 77) (ci 1))),
  (o5 79 75 (.ia 5 (.t 76) (.t 78))),
  (o5 80 75 (.fa 0 (.t 79))),
  (o5 81 75 (.ld 1 false (.t 80))),
  (o5 82 75 (.bin .eql (.t 81) (.c (.n .i64 (-1))))),o1 83 (.pick (.t 75) (.t 82) (.c (.b false)))]
abbrev D2:List AO:=
 [(mt 84 7),
  (mt 85 9),o1 86 (.bin .sub (.t 85) (ci 1)),o1 87 (.ia 5 (.t 84) (.t 86)),o1 88 (.fa 2 (.t 87)),o1 89 (.ld 1 false (.t 88)),o1 90 (.bin .add (.t 89) (ci 1)),o1 91 (.ia 5 (.t 84) (.t 86)),o1 92 (.fa 2 (.t 91)),
  (o3 (.st 1 (.t 92) (.t 90)))]
abbrev D5:List (Nat×AO):=
 [(2,(mt 93 7)),
  (2,(mt 94 0)),(2,(o1 95 (.nc (.t 94)))),(2,(o1 96 (.fa 1 (.t 95)))),
  (2,(mt 98 0)),(2,(o1 99 (.nc (.t 98)))),(2,(o1 100 (.fa 1 (.t 99)))),(1,(o1 97 (.ld 1 false (.t 96)))),(1,(o1 101 (.ld 1 false (.t 100)))),(2,(o1 102 (.bin .add (.t 101) (ci 1)))),(2,(o1 103 (.bd [.n .i64 0,.n .i64 0,.n .i64 0,.sl0,.sl0] [(0,1,(.c (.n .i64 (-1)))),(1,1,(.t 97)),(2,1,(.t 102))]))),(3,(o1 104 (.bs 106 5 1 [.n .i64 0,.n .i64 0,.n .i64 0,.sl0,.sl0] [(0,5,(.t 103))]))),(3,(o1 105 (.app 106 5 72 (.t 93) (.t 104)))),
  (2,(mt 7 105))]
abbrev D1:List AO:=
 [(mt 106 0),o1 107 (.nc (.t 106)),o1 108 (.fa 1 (.t 107)),o1 109 (.ld 1 false (.t 108)),o1 110 (.bin .add (.t 109) (ci 1)),o1 111 (.nc (.t 106)),o1 112 (.fa 1 (.t 111)),
  (o3 (.st 1 (.t 112) (.t 110)))]
abbrev D8:AC:=
 (.seq (.mix UZ) (.seq (.block 2 D9) (.seq (.seq (.reg D4) (.seq (.reg D3) (.cond (.t 83) (.reg D2) (.mix D5)))) (.reg D1))))
abbrev Ea:AC:=
 (.seq (.seq (.mix U0) (.cond (.t 19) .skip (.exit 0))) (.block 1 D8))
abbrev D7:AC:=
 (.loop Ea)
abbrev D0:List AO:=
 [(mt 113 7),
  (mt 6 113)]
abbrev U1:AF:=⟨114,(.seq (.reg UY) (.seq (.reg UX) (.seq (.block 0 D7) (.seq (.reg D0) .ret)))),[.mv (.t 6)]⟩
theorem qN:av Tryz.prog (aa Tryz.prog 99) 99=some U1:=by kernel_rfl
/-! flow.opens-/
abbrev UP:List AO:=
 [o1 2 (.mv (.c (.b false)))]
abbrev UO:List AO:=
 [(mt 3 0),o1 4 (.bin .eql (.t 3) (ci 27)),
  (mt 5 4),
  (o4 6 5 (.mv (.t 0))),
  (o4 7 5 (.bin .eql (.t 6) (ci 29))),o1 8 (.pick (.t 5) (.c (.b true)) (.t 7)),
  (mt 2 8)]
abbrev UQ:AF:=⟨9,(.seq (.reg UP) (.seq (.reg UO) .ret)),[.mv (.t 2)]⟩
theorem yp:av Tryz.prog (aa Tryz.prog 115) 115=some UQ:=by kernel_rfl
/-! flow.reader.block-/
abbrev UK:List AO:=
 [o1 6 (.al 106 [.n .i64 0,.n .i64 0,.n .i64 0,.sl0,.sl0])]
abbrev UJ:List AO:=
 [(mt 12 1),o1 13 (.bin .leq (.t 12) (ci 8)),
  (mt 14 0),o1 15 (.nc (.t 14)),o1 16 (.fa 1 (.t 15)),o1 17 (.ld 1 false (.t 16)),
  (o2 18 97 [.t 13,.t 17,(ci 15)])]
abbrev UM:List (Nat×AO):=
 [(2,(mt 19 0)),(2,(o1 20 (.nc (.t 19)))),(2,(o1 21 (.fa 0 (.t 20)))),
  (2,(mt 23 0)),(2,(o1 24 (.nc (.t 23)))),(2,(o1 25 (.fa 1 (.t 24)))),
  (2,(mt 30 0)),(2,(o1 31 (.nc (.t 30)))),(2,(o1 32 (.fa 1 (.t 31)))),(1,(o1 22 (.ld 1 false (.t 21)))),(1,(o1 26 (.ld 1 false (.t 25)))),(2,(o1 27 (.ia 2 (.t 22) (.t 26)))),(2,(o1 28 (.fa 0 (.t 27)))),(1,(o1 29 (.ld 1 false (.t 28)))),(1,(o1 33 (.ld 1 false (.t 32)))),(2,(o1 34 (.bd [.n .i64 0,.n .i64 0,.n .i64 0,.sl0,.sl0] [(0,1,(.t 29)),(1,1,(.t 33))]))),(0,(o1 7 (.al 106 [.n .i64 0,.n .i64 0,.n .i64 0,.sl0,.sl0]))),
  (3,(o3 (.st 5 (.t 7) (.t 34))))]
abbrev UI:List AO:=
 [o1 8 (.al 100 [.sl0])]
abbrev UH:List AO:=
 [o1 35 (.fa 0 (.t 7)),o1 36 (.ld 1 false (.t 35)),o1 37 (.bin .eql (.t 36) (ci 29))]
abbrev UG:List AO:=
 [(mt 2 8)]
abbrev UF:List AO:=
 [(mt 38 0),o1 39 (.nc (.t 38)),o1 40 (.fa 1 (.t 39)),o1 41 (.ld 1 false (.t 40)),o1 42 (.bin .add (.t 41) (ci 1)),o1 43 (.nc (.t 38)),o1 44 (.fa 1 (.t 43)),
  (o3 (.st 1 (.t 44) (.t 42)))]
abbrev UE:List AO:=
 [(mt 45 0),
  (mt 46 1),
  (mt 47 2),
  (o2 48 99 [.t 45,.t 46,.t 47]),o1 49 (.fa 3 (.t 7)),
  (o3 (.st 1 (.t 49) (.t 48)))]
abbrev UD:List AO:=
 [o1 50 (.fa 1 (.t 7)),o1 51 (.ld 1 false (.t 50)),
  (mt 9 51)]
abbrev UL:List (Nat×AO):=
 [(2,(o1 52 (.fa 0 (.t 7)))),(1,(o1 53 (.ld 1 false (.t 52)))),(2,(o1 54 (.bin .eql (.t 53) (ci 27)))),
  (2,(mt 55 54)),
  (2,(o5 56 55 (.mv (.t 0)))),
  (2,(o5 57 55 (.nc (.t 56)))),
  (2,(o5 58 55 (.fa 1 (.t 57)))),
  (2,(o5 60 55 (.mv (.t 0)))),
  (2,(o5 61 55 (.nc (.t 60)))),
  (2,(o5 62 55 (.fa 0 (.t 61)))),
  (1,(o5 59 55 (.ld 1 false (.t 58)))),
  (1,(o5 63 55 (.ld 1 false (.t 62)))),
  (2,(o5 64 55 (.len (.t 63)))),
  (2,(o5 65 55 (.bin .lss (.t 59) (.t 64)))),(2,(o1 66 (.pick (.t 55) (.t 65) (.c (.b false))))),
  (2,(mt 67 66)),
  (2,(o5 68 67 (.mv (.t 0)))),
  (2,(o5 69 67 (.nc (.t 68)))),
  (2,(o5 70 67 (.fa 0 (.t 69)))),
  (2,(o5 72 67 (.mv (.t 0)))),
  (2,(o5 73 67 (.nc (.t 72)))),
  (2,(o5 74 67 (.fa 1 (.t 73)))),
  (1,(o5 71 67 (.ld 1 false (.t 70)))),
  (1,(o5 75 67 (.ld 1 false (.t 74)))),
  (2,(o5 76 67 (.ia 2 (.t 71) (.t 75)))),
  (2,(o5 77 67 (.fa 0 (.t 76)))),
  (1,(o5 78 67 (.ld 1 false (.t 77)))),
  (2,(o5 79 67 (.bin .eql (.t 78) (ci 28)))),(2,(o1 80 (.pick (.t 67) (.t 79) (.c (.b false)))))]
abbrev DW:List (Nat×AO):=
 [(2,(mt 81 0)),(2,(o1 82 (.nc (.t 81)))),(2,(o1 83 (.fa 2 (.t 82)))),
  (2,(mt 85 9)),
  (2,(mt 86 0)),(2,(o1 87 (.nc (.t 86)))),(2,(o1 88 (.fa 1 (.t 87)))),(1,(o1 84 (.ld 1 false (.t 83)))),(1,(o1 89 (.ld 1 false (.t 88)))),(2,(o1 90 (.ia 1 (.t 84) (.t 85)))),
  (3,(o3 (.st 1 (.t 90) (.t 89))))]
abbrev DS:List AO:=
 [(mt 91 0),o1 92 (.nc (.t 91)),o1 93 (.fa 1 (.t 92)),o1 94 (.ld 1 false (.t 93)),
  (mt 9 94)]
abbrev DR:List AO:=
 [(mt 95 0),o1 96 (.nc (.t 95)),o1 97 (.fa 1 (.t 96)),o1 98 (.ld 1 false (.t 97)),o1 99 (.bin .add (.t 98) (ci 1)),o1 100 (.nc (.t 95)),o1 101 (.fa 1 (.t 100)),
  (o3 (.st 1 (.t 101) (.t 99)))]
abbrev DQ:List AO:=
 [(mt 102 0),
  (mt 103 1),
  (mt 104 2),
  (o2 105 99 [.t 102,.t 103,.t 104]),o1 106 (.fa 4 (.t 7)),
  (o3 (.st 1 (.t 106) (.t 105)))]
abbrev DV:List (Nat×AO):=
 [(2,(mt 107 0)),(2,(o1 108 (.nc (.t 107)))),(2,(o1 109 (.fa 1 (.t 108)))),
  (2,(mt 111 0)),(2,(o1 112 (.nc (.t 111)))),(2,(o1 113 (.fa 0 (.t 112)))),
  (2,(mt 131 0)),(2,(o1 132 (.nc (.t 131)))),(2,(o1 133 (.fa 1 (.t 132)))),(1,(o1 110 (.ld 1 false (.t 109)))),(1,(o1 114 (.ld 1 false (.t 113)))),(2,(o1 115 (.len (.t 114)))),(2,(o1 116 (.bin .lss (.t 110) (.t 115)))),
  (2,(mt 117 116)),
  (2,(o5 118 117 (.mv (.t 0)))),
  (2,(o5 119 117 (.nc (.t 118)))),
  (2,(o5 120 117 (.fa 0 (.t 119)))),
  (2,(o5 122 117 (.mv (.t 0)))),
  (2,(o5 123 117 (.nc (.t 122)))),
  (2,(o5 124 117 (.fa 1 (.t 123)))),
  (1,(o5 121 117 (.ld 1 false (.t 120)))),
  (1,(o5 125 117 (.ld 1 false (.t 124)))),
  (2,(o5 126 117 (.ia 2 (.t 121) (.t 125)))),
  (2,(o5 127 117 (.fa 0 (.t 126)))),
  (1,(o5 128 117 (.ld 1 false (.t 127)))),
  (2,(o5 129 117 (.bin .eql (.t 128) (ci 31)))),(2,(o1 130 (.pick (.t 117) (.t 129) (.c (.b false))))),(1,(o1 134 (.ld 1 false (.t 133)))),
  (3,(o2 135 97 [.t 130,.t 134,(ci 15)]))]
abbrev DU:List (Nat×AO):=
 [(2,(mt 136 0)),(2,(o1 137 (.nc (.t 136)))),(2,(o1 138 (.fa 2 (.t 137)))),
  (2,(mt 140 9)),
  (2,(mt 141 0)),(2,(o1 142 (.nc (.t 141)))),(2,(o1 143 (.fa 2 (.t 142)))),
  (2,(mt 145 0)),(2,(o1 146 (.nc (.t 145)))),(2,(o1 147 (.fa 1 (.t 146)))),
  (2,(mt 149 0)),(2,(o1 150 (.nc (.t 149)))),(2,(o1 151 (.fa 1 (.t 150)))),(2,(o1 153 (.fa 1 (.t 7)))),(1,(o1 139 (.ld 1 false (.t 138)))),(1,(o1 144 (.ld 1 false (.t 143)))),(1,(o1 148 (.ld 1 false (.t 147)))),(1,(o1 152 (.ld 1 false (.t 151)))),(2,(o1 155 (.ia 1 (.t 139) (.t 140)))),(1,(o1 154 (.ld 1 false (.t 153)))),
  (0,(o3 (.st 1 (.t 155) (.t 152)))),(2,(o1 156 (.ia 1 (.t 144) (.t 148)))),
  (3,(o3 (.st 1 (.t 156) (.t 154))))]
abbrev DP:List AO:=
 [o1 157 (.ld 1 false (.t 8)),o1 158 (.len (.t 157)),o1 159 (.mv (ci 0))]
abbrev DN:List AO:=
 [o1 160 (.bin .lss (.t 159) (.t 158))]
abbrev DM:List AO:=
 [o1 161 (.ia 1 (.t 157) (.t 159)),o1 162 (.ld 1 false (.t 161)),
  (mt 11 162)]
abbrev DT:List (Nat×AO):=
 [(2,(mt 163 0)),(2,(o1 164 (.nc (.t 163)))),(2,(o1 165 (.fa 2 (.t 164)))),
  (2,(mt 167 11)),
  (2,(mt 168 0)),(2,(o1 169 (.nc (.t 168)))),(2,(o1 170 (.fa 1 (.t 169)))),(1,(o1 166 (.ld 1 false (.t 165)))),(1,(o1 171 (.ld 1 false (.t 170)))),(2,(o1 172 (.ia 1 (.t 166) (.t 167)))),
  (3,(o3 (.st 1 (.t 172) (.t 171))))]
abbrev DY:AC:=
 (.seq (.reg DM) (.mix DT))
abbrev DL:List AO:=
 [o1 173 (.bin .add (.t 159) (ci 1)),
  (mt 159 173)]
abbrev DZ:AC:=
 (.seq (.reg DN) (.seq (.cond (.t 160) .skip (.exit 0)) (.seq (.block 1 DY) (.reg DL))))
abbrev DX:AC:=
 (.loop DZ)
abbrev DK:List AO:=
 [(mt 174 0),o1 175 (.nc (.t 174)),o1 176 (.fa 1 (.t 175)),o1 177 (.ld 1 false (.t 176)),o1 178 (.bin .add (.t 177) (ci 1)),o1 179 (.nc (.t 174)),o1 180 (.fa 1 (.t 179)),
  (o3 (.st 1 (.t 180) (.t 178)))]
abbrev DJ:List AO:=
 [(mt 181 0),o1 182 (.nc (.t 181)),o1 183 (.fa 1 (.t 182)),o1 184 (.ld 1 false (.t 183)),o1 185 (.fa 2 (.t 7)),
  (o3 (.st 1 (.t 185) (.t 184)))]
abbrev DI:List AO:=
 [o1 186 (.ld 5 true (.t 7)),
  (o3 (.st 5 (.t 6) (.t 186)))]
abbrev UN:AF:=⟨187,(.seq (.reg UK) (.seq (.reg UJ) (.seq (.mix UM) (.seq (.reg UI) (.seq (.seq (.reg UH) (.cond (.t 37) (.reg UG) .skip)) (.seq (.reg UF) (.seq (.reg UE) (.seq (.reg UD) (.seq (.seq (.mix UL) (.cond (.t 80) (.seq (.mix DW) (.seq (.reg DS) (.seq (.reg DR) (.reg DQ)))) .skip)) (.seq (.mix DV) (.seq (.mix DU) (.seq (.seq (.reg DP) (.block 0 DX)) (.seq (.reg DK) (.seq (.reg DJ) (.seq (.reg DI) .ret))))))))))))))),[.ld 5 true (.t 6)]⟩
theorem qM:av Tryz.prog (aa Tryz.prog 116) 116=some UN:=by kernel_rfl
/-! verifier.Verify$1-/
abbrev UB:List (Nat×AO):=
 [(1,(o1 2 (.ld 3 true (.t 0)))),(1,(o1 3 (.ld 3 true (.t 0)))),
  (0,(o2 4 44 [.t 3])),
  (3,(o2 5 43 [.t 2,.t 4])),
  (3,(o3 (.st 4 (.t 1) (.t 5))))]
abbrev Uz:List AO:=
 [o1 6 (.fa 0 (.t 1)),o1 7 (.ld 1 false (.t 6)),o1 8 (.bin .leq (.t 7) (ci 281474976710656)),
  (o2 9 45 [.t 8,(ci 0),(ci 18)])]
abbrev UC:AF:=⟨10,(.seq (.mix UB) (.reg Uz)),[]⟩
theorem UA:av Tryz.prog (aa Tryz.prog 42) 42=some UC:=by kernel_rfl
/-! verifier.widening-/
abbrev Uw:List AO:=
 [o1 1 (.bx 25 0 (.t 0)),o1 2 (.al 88 [.f0,.f0])]
abbrev Uv:List AO:=
 [o1 3 (.mf 68 [] [.t 1]),o1 4 (.bd [.f0,.f0] [(0,1,(.c (.f 67 [] []))),(1,1,(.t 3))]),
  (o3 (.st 2 (.t 2) (.t 4)))]
abbrev Uy:AF:=⟨5,(.seq (.reg Uw) (.seq (.reg Uv) .ret)),[.ld 2 true (.t 2)]⟩
theorem Ux:av Tryz.prog (aa Tryz.prog 44) 44=some Uy:=by kernel_rfl
/-! verifier.widening$2-/
abbrev Ur:List AO:=
 [o1 11 (.mv (.c .sl0))]
abbrev Uq:List AO:=
 [(mt 15 3),
  (o2 16 69 [.t 15]),
  (mt 12 16)]
abbrev Up:List AO:=
 [(mt 17 12),o1 18 (.len (.t 17)),o1 19 (.mv (ci 0))]
abbrev Uo:List AO:=
 [o1 20 (.bin .lss (.t 19) (.t 18))]
abbrev Un:List AO:=
 [(mt 21 19),
  (mt 13 21)]
abbrev Um:List AO:=
 [o1 22 (.fa 2 (.t 5)),o1 23 (.ld 1 false (.t 22)),
  (mt 24 0),
  (mt 25 1),o1 26 (.sl 2 (.t 23) (some (.t 24)) (some (.t 25))),
  (mt 27 13),o1 28 (.cvi .u32 (.t 27)),o1 29 (.bd [.n .i64 0,.n .u32 0] [(0,1,(ci 2)),(1,1,(.t 28))]),
  (o2 30 70 [.t 26,.t 29]),
  (mt 14 30)]
abbrev Ul:List AO:=
 [(mt 32 2),o1 33 (.bin .lss (.t 32) (ci 3)),
  (mt 31 33)]
abbrev Ut:List (Nat×AO):=
 [(2,(mt 34 12)),
  (2,(mt 35 13)),
  (2,(mt 36 3)),
  (2,(mt 37 13)),(2,(o1 38 (.ia 2 (.t 36) (.t 37)))),
  (2,(mt 40 3)),
  (2,(mt 41 13)),(2,(o1 42 (.ia 2 (.t 40) (.t 41)))),
  (2,(mt 44 4)),
  (2,(mt 45 13)),(2,(o1 46 (.ia 2 (.t 44) (.t 45)))),(1,(o1 39 (.ld 2 true (.t 38)))),(1,(o1 43 (.ld 2 true (.t 42)))),(1,(o1 47 (.ld 2 true (.t 46)))),
  (0,(o2 48 72 [.t 43,.t 47])),
  (3,(o2 49 71 [.t 39,.t 48])),(2,(o1 50 (.ia 2 (.t 34) (.t 35)))),
  (3,(o3 (.st 2 (.t 50) (.t 49))))]
abbrev Uk:List AO:=
 [(mt 52 14),
  (mt 51 52)]
abbrev Uj:List AO:=
 [(mt 53 12),
  (mt 54 13),
  (o2 55 73 []),o1 56 (.ia 2 (.t 53) (.t 54)),
  (o3 (.st 2 (.t 56) (.t 55)))]
abbrev DG:AC:=
 (.seq (.reg Ul) (.cond (.t 31) (.mix Ut) (.seq (.reg Uk) (.cond (.t 51) (.reg Uj) .skip))))
abbrev DF:AC:=
 (.seq (.reg Un) (.seq (.reg Um) (.block 2 DG)))
abbrev DD:List AO:=
 [o1 57 (.bin .add (.t 19) (ci 1)),
  (mt 19 57)]
abbrev DH:AC:=
 (.seq (.reg Uo) (.seq (.cond (.t 20) .skip (.exit 0)) (.seq (.block 1 DF) (.reg DD))))
abbrev DE:AC:=
 (.loop DH)
abbrev DC:List AO:=
 [(mt 58 12),
  (mt 11 58)]
abbrev Uu:AF:=⟨59,(.seq (.reg Ur) (.seq (.reg Uq) (.seq (.seq (.reg Up) (.block 0 DE)) (.seq (.reg DC) .ret)))),[.mv (.t 11)]⟩
theorem Us:av Tryz.prog (aa Tryz.prog 68) 68=some Uu:=by kernel_rfl
/-! slices.Clone[[]api.Interval,api.Interval]-/
abbrev Uh:List AO:=
 [o1 2 (.mv (.c .sl0))]
abbrev Ug:List AO:=
 [(mt 3 0),⟨some 4,none,.sn false (.t 3)⟩]
abbrev Uf:List AO:=
 [o1 2 (.mv (.c .sl0))]
abbrev Ue:List AO:=
 [o1 5 (.bs 123 2 0 [] []),
  (mt 6 0),o1 7 (.app 123 2 16 (.t 5) (.t 6)),
  (mt 2 7)]
abbrev Ui:AF:=⟨8,(.seq (.reg Uh) (.seq (.seq (.reg Ug) (.cond (.t 4) (.seq (.reg Uf) .ret) .skip)) (.seq (.reg Ue) .ret))),[.mv (.t 2)]⟩
theorem yo:av Tryz.prog (aa Tryz.prog 69) 69=some Ui:=by kernel_rfl
/-! slices.Contains[[]api.Instr,api.Instr]-/
abbrev Ub:List AO:=
 [o1 3 (.bx 82 0 (.t 1)),o1 4 (.mv (.c (.b false)))]
abbrev Ua:List AO:=
 [(mt 5 0),o1 6 (.ld 2 true (.t 3)),
  (o2 7 91 [.t 5,.t 6]),o1 8 (.bin .geq (.t 7) (ci 0)),
  (mt 4 8)]
abbrev Ud:AF:=⟨9,(.seq (.reg Ub) (.seq (.reg Ua) .ret)),[.mv (.t 4)]⟩
theorem Uc:av Tryz.prog (aa Tryz.prog 70) 70=some Ud:=by kernel_rfl
/-! slices.Index[[]api.Instr,api.Instr]-/
abbrev T3:List AO:=
 [o1 3 (.bx 82 0 (.t 1)),o1 4 (.mv (ci 0))]
abbrev T2:List AO:=
 [(mt 6 0),o1 7 (.len (.t 6)),o1 8 (.mv (ci 0))]
abbrev T1:List AO:=
 [o1 9 (.bin .lss (.t 8) (.t 7))]
abbrev TZ:List AO:=
 [(mt 10 8),
  (mt 5 10)]
abbrev T5:List (Nat×AO):=
 [(2,(mt 12 0)),
  (2,(mt 13 5)),(2,(o1 14 (.ia 2 (.t 12) (.t 13)))),(1,(o1 11 (.ld 2 true (.t 3)))),(1,(o1 15 (.ld 2 true (.t 14)))),(2,(o1 16 (.eq false (.st [(0,1,.n),(1,1,.n)]) (.t 11) (.t 15))))]
abbrev TY:List AO:=
 [(mt 17 5),
  (mt 4 17)]
abbrev T7:AC:=
 (.seq (.reg TZ) (.seq (.mix T5) (.cond (.t 16) (.seq (.reg TY) .ret) .skip)))
abbrev TX:List AO:=
 [o1 18 (.bin .add (.t 8) (ci 1)),
  (mt 8 18)]
abbrev T8:AC:=
 (.seq (.reg T1) (.seq (.cond (.t 9) .skip (.exit 0)) (.seq (.block 1 T7) (.reg TX))))
abbrev T6:AC:=
 (.loop T8)
abbrev DB:List AO:=
 [o1 4 (.mv (.c (.n .i64 (-1))))]
abbrev T9:AF:=⟨19,(.seq (.reg T3) (.seq (.seq (.reg T2) (.block 0 T6)) (.seq (.reg DB) .ret))),[.mv (.t 4)]⟩
theorem T4:av Tryz.prog (aa Tryz.prog 91) 91=some T9:=by kernel_rfl
/-! interval.Join-/
abbrev TU:List AO:=
 [o1 2 (.bx 123 0 (.t 0)),o1 3 (.bx 123 0 (.t 1)),o1 4 (.al 123 [.n .i64 0,.n .i64 0])]
abbrev TT:List AO:=
 [o1 5 (.ld 2 true (.t 2)),o1 6 (.ld 2 true (.t 3)),
  (o2 7 92 [.t 5,.t 6]),o1 8 (.un .not (.t 7))]
abbrev TS:List AO:=
 [o1 9 (.bd [.n .i64 0,.n .i64 0] []),
  (o3 (.st 2 (.t 4) (.t 9)))]
abbrev TR:List AO:=
 [o1 10 (.fa 0 (.t 2)),o1 11 (.ld 1 false (.t 10)),o1 12 (.fa 0 (.t 3)),o1 13 (.ld 1 false (.t 12)),⟨some 14,none,.mo (.mi (.t 11) (.t 13))⟩,o1 15 (.fa 1 (.t 2)),o1 16 (.ld 1 false (.t 15)),o1 17 (.fa 1 (.t 3)),o1 18 (.ld 1 false (.t 17)),⟨some 19,none,.mo (.mx (.t 16) (.t 18))⟩,o1 20 (.bd [.n .i64 0,.n .i64 0] [(0,1,(.t 14)),(1,1,(.t 19))]),
  (o3 (.st 2 (.t 4) (.t 20)))]
abbrev TW:AF:=⟨21,(.seq (.reg TU) (.seq (.seq (.reg TT) (.cond (.t 8) (.seq (.reg TS) .ret) .skip)) (.seq (.reg TR) .ret))),[.ld 2 true (.t 4)]⟩
theorem TV:av Tryz.prog (aa Tryz.prog 72) 72=some TW:=by kernel_rfl
/-! interval.ordered-/
abbrev TN:List AO:=
 [o1 2 (.bx 123 0 (.t 0)),o1 3 (.bx 123 0 (.t 1)),o1 4 (.mv (.c (.b false)))]
abbrev TM:List AO:=
 [o1 5 (.ld 2 true (.t 2)),
  (o2 6 113 [.t 5]),o1 7 (.bin .eql (.t 6) (ci 0)),
  (mt 8 7),
  (o5 9 8 (.ld 2 true (.t 3))),⟨some 10,some (8,true),.cl (.c (.f 113 [] [])) [.t 9]⟩,
  (o5 11 8 (.bin .eql (.t 10) (ci 0))),o1 12 (.pick (.t 8) (.t 11) (.c (.b false))),
  (mt 4 12)]
abbrev TQ:AF:=⟨13,(.seq (.reg TN) (.seq (.reg TM) .ret)),[.mv (.t 4)]⟩
theorem TP:av Tryz.prog (aa Tryz.prog 92) 92=some TQ:=by kernel_rfl
/-! interval.Check-/
abbrev TI:List AO:=
 [o1 1 (.bx 123 0 (.t 0)),o1 2 (.mv (ci 0))]
abbrev TH:List AO:=
 [o1 4 (.fa 0 (.t 1)),o1 5 (.ld 1 false (.t 4)),o1 6 (.bin .lss (.t 5) (ci 0)),
  (mt 7 6),
  (o4 8 7 (.fa 0 (.t 1))),
  (o4 9 7 (.ld 1 false (.t 8))),
  (o4 10 7 (.bin .gtr (.t 9) (ci 4294967295))),o1 11 (.pick (.t 7) (.c (.b true)) (.t 10)),
  (mt 12 11),
  (o4 13 12 (.fa 1 (.t 1))),
  (o4 14 12 (.ld 1 false (.t 13))),
  (o4 15 12 (.bin .lss (.t 14) (ci 0))),o1 16 (.pick (.t 12) (.c (.b true)) (.t 15)),
  (mt 17 16),
  (o4 18 17 (.fa 1 (.t 1))),
  (o4 19 17 (.ld 1 false (.t 18))),
  (o4 20 17 (.bin .gtr (.t 19) (ci 4294967295))),o1 21 (.pick (.t 17) (.c (.b true)) (.t 20)),
  (mt 3 21)]
abbrev TG:List AO:=
 [o1 2 (.mv (ci 2))]
abbrev TF:List AO:=
 [o1 23 (.fa 0 (.t 1)),o1 24 (.ld 1 false (.t 23)),o1 25 (.fa 1 (.t 1)),o1 26 (.ld 1 false (.t 25)),o1 27 (.bin .gtr (.t 24) (.t 26)),
  (mt 22 27)]
abbrev TE:List AO:=
 [o1 2 (.mv (ci 29))]
abbrev TK:AC:=
 (.seq (.reg TH) (.cond (.t 3) (.seq (.reg TG) .ret) (.seq (.reg TF) (.cond (.t 22) (.seq (.reg TE) .ret) .skip))))
abbrev TD:List AO:=
 [o1 2 (.mv (ci 0))]
abbrev TL:AF:=⟨28,(.seq (.reg TI) (.seq (.block 0 TK) (.seq (.reg TD) .ret))),[.mv (.t 2)]⟩
theorem TJ:av Tryz.prog (aa Tryz.prog 113) 113=some TL:=by kernel_rfl
/-! interval.Widen-/
abbrev TA:List AO:=
 [o1 2 (.bx 123 0 (.t 0)),o1 3 (.bx 123 0 (.t 1)),o1 4 (.al 123 [.n .i64 0,.n .i64 0])]
abbrev Tz:List AO:=
 [o1 7 (.ld 2 true (.t 2)),o1 8 (.ld 2 true (.t 3)),
  (o2 9 92 [.t 7,.t 8]),o1 10 (.un .not (.t 9))]
abbrev Ty:List AO:=
 [o1 11 (.bd [.n .i64 0,.n .i64 0] []),
  (o3 (.st 2 (.t 4) (.t 11)))]
abbrev Tx:List AO:=
 [o1 12 (.fa 0 (.t 3)),o1 13 (.ld 1 false (.t 12)),o1 14 (.fa 0 (.t 2)),o1 15 (.ld 1 false (.t 14)),o1 16 (.bin .lss (.t 13) (.t 15))]
abbrev Tw:List AO:=
 [o1 17 (.fa 0 (.t 2)),
  (o3 (.st 1 (.t 17) (ci 0)))]
abbrev Tv:List AO:=
 [o1 18 (.fa 1 (.t 3)),o1 19 (.ld 1 false (.t 18)),o1 20 (.fa 1 (.t 2)),o1 21 (.ld 1 false (.t 20)),o1 22 (.bin .gtr (.t 19) (.t 21))]
abbrev Tu:List AO:=
 [o1 23 (.bd [.n .i64 0,.n .i64 0,.n .i64 0] [(0,1,(ci 255)),(1,1,(ci 65535)),(2,1,(ci 4294967295))]),o1 24 (.mv (ci 0))]
abbrev Tt:List AO:=
 [o1 25 (.bin .lss (.t 24) (ci 3))]
abbrev Ts:List AO:=
 [o1 26 (.ix 3 1 false (.t 23) (.t 24)),
  (mt 6 26)]
abbrev Tq:List AO:=
 [(mt 27 6),o1 28 (.fa 1 (.t 3)),o1 29 (.ld 1 false (.t 28)),o1 30 (.bin .geq (.t 27) (.t 29))]
abbrev Dx:List AO:=
 [(mt 31 6),o1 32 (.fa 1 (.t 2)),
  (o3 (.st 1 (.t 32) (.t 31)))]
abbrev Dz:AC:=
 (.seq (.reg Ts) (.seq (.reg Tq) (.cond (.t 30) (.seq (.reg Dx) (.exit 0)) .skip)))
abbrev Dw:List AO:=
 [o1 33 (.bin .add (.t 24) (ci 1)),
  (mt 24 33)]
abbrev DA:AC:=
 (.seq (.reg Tt) (.seq (.cond (.t 25) .skip (.exit 0)) (.seq (.block 1 Dz) (.reg Dw))))
abbrev Dy:AC:=
 (.loop DA)
abbrev Dv:List AO:=
 [o1 34 (.ld 2 true (.t 2)),
  (o3 (.st 2 (.t 4) (.t 34)))]
abbrev TC:AF:=⟨35,(.seq (.reg TA) (.seq (.seq (.reg Tz) (.cond (.t 10) (.seq (.reg Ty) .ret) .skip)) (.seq (.seq (.reg Tx) (.cond (.t 16) (.reg Tw) .skip)) (.seq (.seq (.reg Tv) (.cond (.t 22) (.seq (.reg Tu) (.block 0 Dy)) .skip)) (.seq (.reg Dv) .ret))))),[.ld 2 true (.t 4)]⟩
theorem TB:av Tryz.prog (aa Tryz.prog 71) 71=some TC:=by kernel_rfl
/-! interval.Full-/
abbrev Tm:List AO:=
 [o1 0 (.al 123 [.n .i64 0,.n .i64 0])]
abbrev Tl:List AO:=
 [o1 1 (.bd [.n .i64 0,.n .i64 0] [(1,1,(ci 4294967295))]),
  (o3 (.st 2 (.t 0) (.t 1)))]
abbrev Tp:AF:=⟨2,(.seq (.reg Tm) (.seq (.reg Tl) .ret)),[.ld 2 true (.t 0)]⟩
theorem Tn:av Tryz.prog (aa Tryz.prog 73) 73=some Tp:=by kernel_rfl
/-! verifier.analyse-/
abbrev Tg:List AO:=
 [o1 2 (.bx 25 0 (.t 0)),o1 3 (.bx 88 0 (.t 1)),o1 4 (.al 44 [.n .i64 0,.n .i64 0,.n .i64 0,.sl0])]
abbrev Tf:List AO:=
 [o1 14 (.fa 2 (.t 2)),o1 15 (.ld 1 false (.t 14)),
  (o2 16 62 [.t 15]),
  (mt 13 16),o1 17 (.ext 0 (.t 13)),o1 18 (.ext 1 (.t 13)),
  (mt 5 17),
  (mt 6 18)]
abbrev Te:List AO:=
 [(mt 19 6),o1 20 (.bin .eql (.t 19) (ci 0)),
  (mt 21 6),
  (o2 22 45 [.t 20,(ci 0),.t 21])]
abbrev Td:List AO:=
 [o1 23 (.ld 3 true (.t 2)),
  (mt 24 5),o1 25 (.ld 2 true (.t 3)),⟨some 26,none,.mo (.mm)⟩,o1 27 (.bd [.sl0,.n .i64 0,.sl0,.sl0,.f0,.f0,.sl0,.sl0,.n .i64 0,.sl0,.cv (.map none)] [(0,3,(.t 23)),(3,1,(.t 24)),(4,2,(.t 25)),(10,1,(.t 26))]),o1 28 (.bx 120 0 (.t 27)),
  (mt 7 28)]
abbrev Tj:List (Nat×AO):=
 [(2,(mt 29 7)),(2,(o1 32 (.fa 1 (.t 2)))),(1,(o1 33 (.ld 1 false (.t 32)))),
  (0,(o2 30 64 [(.c (.n .u32 0))])),(0,(o1 31 (.bs 123 2 1 [.n .i64 0,.n .i64 0] [(0,2,(.t 30))]))),
  (3,(o2 34 63 [.t 31,.t 33])),(2,(o1 35 (.nc (.t 29)))),(2,(o1 36 (.fa 6 (.t 35)))),
  (3,(o3 (.st 1 (.t 36) (.t 34))))]
abbrev Tc:List AO:=
 [(mt 37 7),o1 38 (.fa 2 (.t 2)),o1 39 (.ld 1 false (.t 38)),o1 40 (.len (.t 39)),
  (o2 41 65 [.t 37,(ci 0),.t 40,(ci 0),(ci 0)]),o1 8 (.al 126 [.n .i64 0,.n .i64 0]),
  (o3 (.st 2 (.t 8) (.t 41)))]
abbrev Tb:List AO:=
 [(mt 42 7),o1 43 (.fa 2 (.t 2)),o1 44 (.ld 1 false (.t 43)),o1 45 (.len (.t 44)),
  (o2 46 66 [.t 42,.t 45,(ci 0)])]
abbrev Ti:List (Nat×AO):=
 [(2,(o1 47 (.fa 0 (.t 8)))),(2,(o1 49 (.fa 1 (.t 8)))),
  (2,(mt 51 7)),(2,(o1 52 (.nc (.t 51)))),(2,(o1 53 (.fa 8 (.t 52)))),(1,(o1 48 (.ld 1 false (.t 47)))),(1,(o1 50 (.ld 1 false (.t 49)))),(1,(o1 54 (.ld 1 false (.t 53)))),(2,(o1 55 (.bd [.n .i64 0,.n .i64 0,.n .i64 0,.sl0] [(0,1,(.t 48)),(1,1,(.t 50)),(2,1,(.t 54))]))),(0,(o1 9 (.al 44 [.n .i64 0,.n .i64 0,.n .i64 0,.sl0]))),
  (3,(o3 (.st 4 (.t 9) (.t 55))))]
abbrev Ta:List AO:=
 [o1 56 (.fa 2 (.t 2)),o1 57 (.ld 1 false (.t 56)),o1 58 (.len (.t 57)),o1 59 (.mv (ci 0))]
abbrev S9:List AO:=
 [o1 60 (.bin .lss (.t 59) (.t 58))]
abbrev Dr:List AO:=
 [(mt 61 59),
  (mt 10 61)]
abbrev Dq:List AO:=
 [(mt 63 7),o1 64 (.nc (.t 63)),o1 65 (.fa 10 (.t 64)),o1 66 (.ld 1 false (.t 65)),
  (mt 67 10),⟨some 68,none,.mo (.lz (.agg [.n .i64 0,.n .i64 0,.sl0]) true (.t 66) (.t 67))⟩,
  (mt 62 68),o1 69 (.ext 0 (.t 62)),o1 70 (.ext 1 (.t 62)),o1 11 (.al 56 [.n .i64 0,.n .i64 0,.sl0]),
  (o3 (.st 3 (.t 11) (.t 69))),
  (mt 12 70)]
abbrev Dp:List AO:=
 [(mt 71 12)]
abbrev Dn:List AO:=
 [o1 72 (.fa 3 (.t 9)),o1 73 (.ld 1 false (.t 72)),o1 74 (.ld 3 true (.t 11)),o1 75 (.bs 56 3 1 [.n .i64 0,.n .i64 0,.sl0] [(0,3,(.t 74))]),o1 76 (.app 56 3 40 (.t 73) (.t 75)),o1 77 (.fa 3 (.t 9)),
  (o3 (.st 1 (.t 77) (.t 76)))]
abbrev Dt:AC:=
 (.seq (.reg Dr) (.seq (.reg Dq) (.seq (.reg Dp) (.cond (.t 71) (.reg Dn) .skip))))
abbrev Dm:List AO:=
 [o1 78 (.bin .add (.t 59) (ci 1)),
  (mt 59 78)]
abbrev Du:AC:=
 (.seq (.reg S9) (.seq (.cond (.t 60) .skip (.exit 0)) (.seq (.block 1 Dt) (.reg Dm))))
abbrev Ds:AC:=
 (.loop Du)
abbrev Dl:List AO:=
 [o1 79 (.ld 4 true (.t 9)),
  (o3 (.st 4 (.t 4) (.t 79)))]
abbrev Tk:AF:=⟨80,(.seq (.reg Tg) (.seq (.reg Tf) (.seq (.reg Te) (.seq (.reg Td) (.seq (.mix Tj) (.seq (.reg Tc) (.seq (.reg Tb) (.seq (.mix Ti) (.seq (.seq (.reg Ta) (.block 0 Ds)) (.seq (.reg Dl) .ret)))))))))),[.ld 4 true (.t 4)]⟩
theorem Th:av Tryz.prog (aa Tryz.prog 43) 43=some Tk:=by kernel_rfl
/-! flow.Partners-/
abbrev S6:List AO:=
 [o1 2 (.mv (.c .sl0)),o1 3 (.al 28 [.n .i64 0])]
abbrev S5:List AO:=
 [o1 4 (.al 3 [.n .i64 0]),
  (o3 (.st 1 (.t 4) (ci 0)))]
abbrev S4:List AO:=
 []
abbrev S3:List AO:=
 [(mt 6 0),
  (o2 7 81 [.t 6]),
  (mt 5 7)]
abbrev S2:List AO:=
 [(mt 8 5),
  (o2 9 82 [.t 8])]
abbrev S1:List AO:=
 [(mt 10 5),o1 11 (.nc (.t 10)),o1 12 (.fa 2 (.t 11)),o1 13 (.ld 1 false (.t 12)),
  (mt 2 13),
  (o3 (.st 1 (.t 3) (ci 0)))]
abbrev S8:AF:=⟨14,(.seq (.reg S6) (.seq (.reg S5) (.seq (.dfr S4 (.c (.f 80 [] [])) [.t 4,.t 3]) (.seq (.reg S3) (.seq (.reg S2) (.seq (.reg S1) .ret)))))),[.mv (.t 2),.ld 1 false (.t 3)]⟩
theorem S7:av Tryz.prog (aa Tryz.prog 62) 62=some S8:=by kernel_rfl
/-! verifier.demand-/
abbrev SY:List AO:=
 [(mt 6 0),o1 7 (.un .not (.t 6))]
abbrev SX:List AO:=
 [(mt 8 1),
  (mt 9 2),
  (o2 10 74 [.t 8,.t 9])]
abbrev S0:AF:=⟨11,(.seq (.reg SY) (.cond (.t 7) (.reg SX) .skip)),[]⟩
theorem SZ:av Tryz.prog (aa Tryz.prog 45) 45=some S0:=by kernel_rfl
/-! verifier.fail-/
abbrev SV:AF:=⟨8,.die,[]⟩
theorem SU:av Tryz.prog (aa Tryz.prog 74) 74=some SV:=by kernel_rfl
/-! interval.Exact-/
abbrev SQ:List AO:=
 [o1 2 (.al 123 [.n .i64 0,.n .i64 0])]
abbrev SP:List AO:=
 [(mt 3 0),o1 4 (.cvi .i64 (.t 3)),
  (mt 5 0),o1 6 (.cvi .i64 (.t 5)),o1 7 (.bd [.n .i64 0,.n .i64 0] [(0,1,(.t 4)),(1,1,(.t 6))]),
  (o3 (.st 2 (.t 2) (.t 7)))]
abbrev SS:AF:=⟨8,(.seq (.reg SQ) (.seq (.reg SP) .ret)),[.ld 2 true (.t 2)]⟩
theorem SR:av Tryz.prog (aa Tryz.prog 64) 64=some SS:=by kernel_rfl
/-! slices.Repeat[[]api.Interval,api.Interval]-/
abbrev SJ:List AO:=
 [o1 4 (.mv (.c .sl0))]
abbrev SI:List AO:=
 [(mt 9 1),o1 10 (.bin .lss (.t 9) (ci 0))]
abbrev SG:List AO:=
 [(mt 13 0),o1 14 (.len (.t 13)),o1 15 (.cvi .u64 (.t 14)),
  (mt 16 1),o1 17 (.cvi .u64 (.t 16)),
  (o2 18 85 [.t 15,.t 17]),
  (mt 12 18),o1 19 (.ext 0 (.t 12)),o1 20 (.ext 1 (.t 12)),
  (mt 5 19),
  (mt 6 20)]
abbrev SF:List AO:=
 [(mt 21 5),o1 22 (.bin .gtr (.t 21) (.c (.n .u64 0))),
  (mt 23 22),
  (o4 24 23 (.mv (.t 6))),
  (o4 25 23 (.bin .gtr (.t 24) (.c (.n .u64 9223372036854775807)))),o1 26 (.pick (.t 23) (.c (.b true)) (.t 25))]
abbrev SE:List AO:=
 [(mt 28 6),o1 29 (.cvi .i64 (.t 28)),o1 30 (.ms 123 2 16 [.n .i64 0,.n .i64 0] (.t 29) (.t 29)),
  (mt 7 30)]
abbrev SD:List AO:=
 [(mt 31 7),
  (mt 32 0),⟨some 33,none,.mo (.cp 2 (.t 31) (.t 32))⟩,
  (mt 8 33)]
abbrev SC:List AO:=
 [(mt 34 8),
  (mt 35 7),o1 36 (.len (.t 35)),o1 37 (.bin .lss (.t 34) (.t 36))]
abbrev SL:List (Nat×AO):=
 [(2,(mt 38 8)),
  (2,(mt 39 7)),
  (2,(mt 40 8)),(2,(o1 41 (.sl 2 (.t 39) (some (.t 40)) none))),
  (2,(mt 42 7)),
  (2,(mt 43 8)),(2,(o1 44 (.sl 2 (.t 42) none (some (.t 43))))),(3,⟨some 45,none,.mo (.cp 2 (.t 41) (.t 44))⟩),(2,(o1 46 (.bin .add (.t 38) (.t 45)))),
  (2,(mt 8 46))]
abbrev SM:AC:=
 (.mix SL)
abbrev SN:AC:=
 (.seq (.seq (.reg SC) (.cond (.t 37) .skip (.exit 0))) (.block 1 SM))
abbrev Dk:AC:=
 (.loop SN)
abbrev Dj:List AO:=
 [(mt 47 7),
  (mt 4 47)]
abbrev SO:AF:=⟨48,(.seq (.reg SJ) (.seq (.seq (.reg SI) (.cond (.t 10) .die .skip)) (.seq (.reg SG) (.seq (.seq (.reg SF) (.cond (.t 26) .die .skip)) (.seq (.reg SE) (.seq (.reg SD) (.seq (.block 0 Dk) (.seq (.reg Dj) .ret)))))))),[.mv (.t 4)]⟩
theorem SK:av Tryz.prog (aa Tryz.prog 63) 63=some SO:=by kernel_rfl
/-! verifier.walker.code-/
abbrev Sz:List AO:=
 [o1 10 (.al 126 [.n .i64 0,.n .i64 0])]
abbrev Sy:List AO:=
 [o1 11 (.al 126 [.n .i64 0,.n .i64 0])]
abbrev Sx:List AO:=
 [(mt 14 1),
  (mt 12 14)]
abbrev Sw:List AO:=
 [(mt 15 12),
  (mt 16 2),o1 17 (.bin .lss (.t 15) (.t 16))]
abbrev Sv:List AO:=
 [o1 13 (.al 126 [.n .i64 0,.n .i64 0])]
abbrev Su:List AO:=
 [(mt 20 0),o1 21 (.nc (.t 20)),o1 22 (.fa 0 (.t 21)),o1 23 (.fa 2 (.t 22)),o1 24 (.ld 1 false (.t 23)),
  (mt 25 12),o1 26 (.ia 2 (.t 24) (.t 25)),o1 27 (.fa 0 (.t 26)),o1 28 (.ld 1 false (.t 27))]
abbrev Ss:List AO:=
 [o1 34 (.bin .eql (.t 28) (ci 27)),
  (mt 33 34)]
abbrev Sr:List AO:=
 [(mt 36 0),
  (mt 37 12),
  (mt 38 3),
  (mt 39 4),
  (o2 40 86 [.t 36,.t 37,.t 38,.t 39]),
  (mt 35 40),o1 41 (.ext 0 (.t 35)),o1 42 (.ext 1 (.t 35)),
  (o3 (.st 2 (.t 13) (.t 41))),
  (mt 12 42)]
abbrev Sq:List AO:=
 [o1 44 (.bin .eql (.t 28) (ci 29)),
  (mt 43 44)]
abbrev Sp:List AO:=
 [(mt 46 0),
  (mt 47 12),
  (mt 48 3),
  (o2 49 87 [.t 46,.t 47,.t 48]),
  (mt 45 49),o1 50 (.ext 0 (.t 45)),o1 51 (.ext 1 (.t 45)),
  (o3 (.st 2 (.t 13) (.t 50))),
  (mt 12 51)]
abbrev Dd:List AO:=
 [o1 53 (.bin .eql (.t 28) (ci 30)),
  (mt 52 53)]
abbrev Dc:List AO:=
 [(mt 54 0),
  (mt 55 12),
  (mt 56 3),
  (o2 57 88 [.t 54,.t 55,.t 56,(.c (.s ⟨#[116]⟩))])]
abbrev Db:List AO:=
 [(mt 58 0),
  (mt 59 12),
  (mt 60 4),
  (o2 61 66 [.t 58,.t 59,.t 60])]
abbrev De:List (Nat×AO):=
 [(2,(mt 62 0)),
  (2,(mt 63 0)),(2,(o1 64 (.nc (.t 63)))),(2,(o1 65 (.fa 9 (.t 64)))),
  (2,(mt 67 0)),(2,(o1 68 (.nc (.t 67)))),(2,(o1 69 (.fa 6 (.t 68)))),(1,(o1 66 (.ld 1 false (.t 65)))),(1,(o1 70 (.ld 1 false (.t 69)))),(0,(o1 71 (.bs 54 1 1 [.sl0] [(0,1,(.t 70))]))),(3,(o1 72 (.app 54 1 24 (.t 66) (.t 71)))),(2,(o1 73 (.nc (.t 62)))),(2,(o1 74 (.fa 9 (.t 73)))),
  (3,(o3 (.st 1 (.t 74) (.t 72))))]
abbrev Da:List AO:=
 [o1 75 (.bd [.n .i64 0,.n .i64 0] [(0,1,(ci 1))]),
  (o3 (.st 2 (.t 13) (.t 75)))]
abbrev C9:List AO:=
 [(mt 29 0),
  (mt 30 12),
  (mt 31 3),
  (o2 32 89 [.t 29,.t 30,.t 31]),
  (o3 (.st 2 (.t 13) (.t 32)))]
abbrev Dh:AC:=
 (.seq (.reg Ss) (.cond (.t 33) (.reg Sr) (.seq (.reg Sq) (.cond (.t 43) (.reg Sp) (.seq (.reg Dd) (.cond (.t 52) (.seq (.reg Dc) (.seq (.reg Db) (.seq (.mix De) (.reg Da)))) (.reg C9)))))))
abbrev C8:List AO:=
 [o1 76 (.ld 2 true (.t 11)),o1 77 (.ld 2 true (.t 13)),
  (o2 78 90 [.t 76,.t 77]),
  (o3 (.st 2 (.t 11) (.t 78)))]
abbrev Dg:AC:=
 (.seq (.reg Sv) (.seq (.seq (.reg Su) (.block 2 Dh)) (.reg C8)))
abbrev C7:List AO:=
 [(mt 18 12),o1 19 (.bin .add (.t 18) (ci 1)),
  (mt 12 19)]
abbrev Di:AC:=
 (.seq (.seq (.reg Sw) (.cond (.t 17) .skip (.exit 0))) (.seq (.block 1 Dg) (.reg C7)))
abbrev Df:AC:=
 (.loop Di)
abbrev C6:List AO:=
 [o1 79 (.ld 2 true (.t 11)),
  (o3 (.st 2 (.t 10) (.t 79)))]
abbrev SB:AF:=⟨80,(.seq (.reg Sz) (.seq (.reg Sy) (.seq (.seq (.reg Sx) (.block 0 Df)) (.seq (.reg C6) .ret)))),[.ld 2 true (.t 10)]⟩
theorem SA:av Tryz.prog (aa Tryz.prog 65) 65=some SB:=by kernel_rfl
/-! verifier.walker.choice-/
abbrev Sl:List AO:=
 [o1 8 (.al 126 [.n .i64 0,.n .i64 0]),o1 9 (.mv (ci 0))]
abbrev Sk:List AO:=
 [(mt 18 0),
  (mt 19 1),
  (mt 20 2),
  (o2 21 88 [.t 18,.t 19,.t 20,(.c (.s ⟨#[116]⟩))])]
abbrev Sj:List AO:=
 [(mt 22 0),o1 23 (.nc (.t 22)),o1 24 (.fa 3 (.t 23)),o1 25 (.ld 1 false (.t 24)),
  (mt 26 1),o1 27 (.ia 1 (.t 25) (.t 26)),o1 28 (.ld 1 false (.t 27)),
  (mt 10 28)]
abbrev Si:List AO:=
 [(mt 29 10),
  (mt 11 29)]
abbrev Sn:List (Nat×AO):=
 [(2,(mt 30 0)),(2,(o1 31 (.nc (.t 30)))),(2,(o1 32 (.fa 6 (.t 31)))),
  (2,(mt 34 0)),(2,(o1 35 (.nc (.t 34)))),(2,(o1 36 (.fa 7 (.t 35)))),(1,(o1 33 (.ld 1 false (.t 32)))),
  (2,(mt 12 33)),(1,(o1 37 (.ld 1 false (.t 36)))),(2,(o1 38 (.len (.t 37)))),
  (2,(mt 13 38))]
abbrev Sh:List AO:=
 [(mt 39 0),
  (mt 40 1),o1 41 (.bin .add (.t 40) (ci 1)),
  (mt 42 10),
  (mt 43 13),
  (mt 44 3),
  (o2 45 65 [.t 39,.t 41,.t 42,.t 43,.t 44]),o1 46 (.bd [.n .i64 0,.n .i64 0] []),o1 14 (.al 126 [.n .i64 0,.n .i64 0]),o1 15 (.al 126 [.n .i64 0,.n .i64 0]),
  (o3 (.st 2 (.t 14) (.t 45))),
  (o3 (.st 2 (.t 15) (.t 46)))]
abbrev Sf:List AO:=
 [(mt 47 0),
  (mt 48 10),
  (mt 49 13),
  (o2 50 66 [.t 47,.t 48,.t 49])]
abbrev Se:List AO:=
 [(mt 51 0),o1 52 (.nc (.t 51)),o1 53 (.fa 6 (.t 52)),o1 54 (.ld 1 false (.t 53)),
  (mt 16 54)]
abbrev Sd:List AO:=
 [(mt 55 0),
  (mt 56 12),o1 57 (.nc (.t 55)),o1 58 (.fa 6 (.t 57)),
  (o3 (.st 1 (.t 58) (.t 56)))]
abbrev Sc:List AO:=
 [(mt 59 0),o1 60 (.nc (.t 59)),o1 61 (.fa 0 (.t 60)),o1 62 (.fa 2 (.t 61)),o1 63 (.ld 1 false (.t 62)),
  (mt 64 10),o1 65 (.ia 2 (.t 63) (.t 64)),o1 66 (.fa 0 (.t 65)),o1 67 (.ld 1 false (.t 66)),o1 68 (.bin .eql (.t 67) (ci 28))]
abbrev C5:List AO:=
 [(mt 69 0),o1 70 (.nc (.t 69)),o1 71 (.fa 3 (.t 70)),o1 72 (.ld 1 false (.t 71)),
  (mt 73 10),o1 74 (.ia 1 (.t 72) (.t 73)),o1 75 (.ld 1 false (.t 74)),
  (mt 11 75)]
abbrev C4:List AO:=
 [(mt 76 0),
  (mt 77 10),o1 78 (.bin .add (.t 77) (ci 1)),
  (mt 79 11),
  (mt 80 13),
  (mt 81 3),
  (o2 82 65 [.t 76,.t 78,.t 79,.t 80,.t 81]),
  (o3 (.st 2 (.t 15) (.t 82)))]
abbrev C3:List AO:=
 [(mt 83 0),
  (mt 84 11),
  (mt 85 13),
  (o2 86 66 [.t 83,.t 84,.t 85])]
abbrev C2:List AO:=
 [(mt 87 0),
  (mt 88 16),
  (mt 89 0),o1 90 (.nc (.t 89)),o1 91 (.fa 6 (.t 90)),o1 92 (.ld 1 false (.t 91)),
  (o2 93 104 [.t 88,.t 92]),o1 94 (.nc (.t 87)),o1 95 (.fa 6 (.t 94)),
  (o3 (.st 1 (.t 95) (.t 93)))]
abbrev C1:List AO:=
 [o1 96 (.fa 0 (.t 14)),o1 97 (.ld 1 false (.t 96)),o1 98 (.fa 0 (.t 15)),o1 99 (.ld 1 false (.t 98)),⟨some 100,none,.mo (.mx (.t 97) (.t 99))⟩,o1 101 (.fa 1 (.t 14)),o1 102 (.ld 1 false (.t 101)),o1 103 (.fa 1 (.t 15)),o1 104 (.ld 1 false (.t 103)),⟨some 105,none,.mo (.mx (.t 102) (.t 104))⟩,o1 106 (.bd [.n .i64 0,.n .i64 0] [(0,1,(.t 100)),(1,1,(.t 105))]),o1 17 (.al 126 [.n .i64 0,.n .i64 0]),
  (o3 (.st 2 (.t 17) (.t 106)))]
abbrev C0:List AO:=
 [o1 107 (.ld 2 true (.t 17)),o1 108 (.bd [.n .i64 0,.n .i64 0] [(0,1,(ci 1))]),
  (o2 109 90 [.t 107,.t 108]),
  (mt 110 11),
  (o3 (.st 2 (.t 8) (.t 109))),
  (mt 9 110)]
abbrev So:AF:=⟨111,(.seq (.reg Sl) (.seq (.reg Sk) (.seq (.reg Sj) (.seq (.reg Si) (.seq (.mix Sn) (.seq (.reg Sh) (.seq (.reg Sf) (.seq (.reg Se) (.seq (.reg Sd) (.seq (.seq (.reg Sc) (.cond (.t 68) (.seq (.reg C5) (.seq (.reg C4) (.reg C3))) .skip)) (.seq (.reg C2) (.seq (.reg C1) (.seq (.reg C0) .ret))))))))))))),[.ld 2 true (.t 8),.mv (.t 9)]⟩
theorem Sm:av Tryz.prog (aa Tryz.prog 86) 86=some So:=by kernel_rfl
/-! verifier.walker.pop-/
abbrev RO:List AO:=
 [o1 8 (.mv (.c .sl0))]
abbrev RN:List AO:=
 [(mt 13 0),o1 14 (.nc (.t 13)),o1 15 (.fa 7 (.t 14)),o1 16 (.ld 1 false (.t 15)),o1 17 (.len (.t 16)),
  (mt 18 3),o1 19 (.lns (.t 18)),o1 20 (.bin .sub (.t 17) (.t 19)),
  (mt 9 20)]
abbrev RM:List AO:=
 [(mt 21 9),
  (mt 22 2),o1 23 (.bin .geq (.t 21) (.t 22)),
  (mt 24 1),
  (o2 25 45 [.t 23,.t 24,(ci 14)])]
abbrev RL:List AO:=
 [(mt 26 0),o1 27 (.nc (.t 26)),o1 28 (.fa 7 (.t 27)),o1 29 (.ld 1 false (.t 28)),
  (mt 30 9),o1 31 (.sl 3 (.t 29) (some (.t 30)) none),
  (o2 32 107 [.t 31]),
  (mt 10 32)]
abbrev RK:List AO:=
 [(mt 33 10),o1 34 (.len (.t 33)),o1 35 (.mv (ci 0))]
abbrev RJ:List AO:=
 [o1 36 (.bin .lss (.t 35) (.t 34))]
abbrev RI:List AO:=
 [(mt 37 35),o1 38 (.ia 3 (.t 33) (.t 35)),o1 39 (.ld 3 true (.t 38)),o1 12 (.al 178 [.b false,.n .i64 0,.n .i64 0]),
  (mt 11 37),
  (o3 (.st 3 (.t 12) (.t 39)))]
abbrev RQ:List (Nat×AO):=
 [(2,(mt 40 3)),
  (2,(mt 41 11)),(2,(o1 42 (.sx (.t 40) (.t 41)))),(2,(o1 43 (.bin .neq (.t 42) (.c (.n .u8 110))))),
  (2,(mt 44 43)),
  (2,(o5 45 44 (.mv (.t 3)))),
  (2,(o5 46 44 (.mv (.t 11)))),
  (2,(o5 47 44 (.sx (.t 45) (.t 46)))),
  (2,(o5 48 44 (.bin .neq (.t 47) (.c (.n .u8 116))))),(2,(o1 49 (.pick (.t 44) (.t 48) (.c (.b false))))),
  (2,(mt 50 49)),
  (2,(o4 51 50 (.mv (.t 3)))),
  (2,(o4 52 50 (.mv (.t 11)))),
  (2,(o4 53 50 (.sx (.t 51) (.t 52)))),
  (2,(o4 54 50 (.bin .eql (.t 53) (.c (.n .u8 116))))),
  (2,(o4 55 50 (.fa 0 (.t 12)))),
  (2,(mt 59 1)),
  (1,(o4 56 50 (.ld 1 false (.t 55)))),
  (2,(o4 57 50 (.eq false .b (.t 54) (.t 56)))),(2,(o1 58 (.pick (.t 50) (.c (.b true)) (.t 57)))),
  (3,(o2 60 45 [.t 58,.t 59,(ci 13)]))]
abbrev RR:AC:=
 (.seq (.reg RI) (.mix RQ))
abbrev RH:List AO:=
 [o1 61 (.bin .add (.t 35) (ci 1)),
  (mt 35 61)]
abbrev CZ:AC:=
 (.seq (.reg RJ) (.seq (.cond (.t 36) .skip (.exit 0)) (.seq (.block 1 RR) (.reg RH))))
abbrev CY:AC:=
 (.loop CZ)
abbrev CX:List AO:=
 [(mt 62 0),
  (mt 63 0),o1 64 (.nc (.t 63)),o1 65 (.fa 7 (.t 64)),o1 66 (.ld 1 false (.t 65)),
  (mt 67 9),o1 68 (.sl 3 (.t 66) none (some (.t 67))),o1 69 (.nc (.t 62)),o1 70 (.fa 7 (.t 69)),
  (o3 (.st 1 (.t 70) (.t 68)))]
abbrev CW:List AO:=
 [(mt 71 10),
  (mt 8 71)]
abbrev RU:AF:=⟨72,(.seq (.reg RO) (.seq (.reg RN) (.seq (.reg RM) (.seq (.reg RL) (.seq (.seq (.reg RK) (.block 0 CY)) (.seq (.reg CX) (.seq (.reg CW) .ret))))))),[.mv (.t 8)]⟩
theorem RP:av Tryz.prog (aa Tryz.prog 88) 88=some RU:=by kernel_rfl
/-! slices.Clone[[]verifier.value,verifier.value]-/
abbrev RF:List AO:=
 [o1 2 (.mv (.c .sl0))]
abbrev RE:List AO:=
 [(mt 3 0),⟨some 4,none,.sn false (.t 3)⟩]
abbrev RD:List AO:=
 [o1 2 (.mv (.c .sl0))]
abbrev RC:List AO:=
 [o1 5 (.bs 178 3 0 [] []),
  (mt 6 0),o1 7 (.app 178 3 24 (.t 5) (.t 6)),
  (mt 2 7)]
abbrev RG:AF:=⟨8,(.seq (.reg RF) (.seq (.seq (.reg RE) (.cond (.t 4) (.seq (.reg RD) .ret) .skip)) (.seq (.reg RC) .ret))),[.mv (.t 2)]⟩
theorem yn:av Tryz.prog (aa Tryz.prog 107) 107=some RG:=by kernel_rfl
/-! verifier.guarded-/
abbrev Pg:List AO:=
 [o1 2 (.al 3 [.n .i64 0]),o1 3 (.al 28 [.n .i64 0])]
abbrev Pf:List AO:=
 [o1 4 (.mf 61 [] [.t 2,.t 3])]
abbrev Pe:List AO:=
 [(mt 5 0),⟨some 6,none,.cl (.t 5) []⟩]
abbrev Pd:List AO:=
 [(o3 (.st 1 (.t 2) (ci 0))),
  (o3 (.st 1 (.t 3) (ci 0)))]
abbrev Pj:AF:=⟨7,(.seq (.reg Pg) (.seq (.dfr Pf (.t 4) []) (.seq (.reg Pe) (.seq (.reg Pd) .ret)))),[.ld 1 false (.t 2),.ld 1 false (.t 3)]⟩
theorem Ph:av Tryz.prog (aa Tryz.prog 41) 41=some Pj:=by kernel_rfl
/-! cost.Steps-/
abbrev O0:List AO:=
 [o1 2 (.bx 25 0 (.t 0)),o1 3 (.bx 44 0 (.t 1)),o1 4 (.mv (ci 0)),o1 5 (.mv (ci 0))]
abbrev OZ:List AO:=
 [o1 10 (.ld 3 true (.t 2)),o1 11 (.ld 4 true (.t 3)),
  (o2 12 31 [.t 10,.t 11]),
  (mt 9 12),o1 13 (.ext 0 (.t 9)),o1 14 (.ext 1 (.t 9)),o1 15 (.ext 2 (.t 9)),o1 6 (.al 69 [.sl0,.cv (.map none)]),
  (o3 (.st 2 (.t 6) (.t 13))),
  (mt 7 14),
  (mt 8 15)]
abbrev OY:List AO:=
 [(mt 16 8),o1 17 (.bin .neq (.t 16) (ci 0))]
abbrev OX:List AO:=
 [(mt 18 8),o1 4 (.mv (ci 0)),
  (mt 5 18)]
abbrev OW:List AO:=
 [o1 19 (.ld 2 true (.t 6)),
  (mt 20 7),o1 21 (.ld 2 true (.t 6)),o1 22 (.mf 34 [.t 21] []),
  (o2 23 33 [.t 19,.t 20,.t 22,(ci 1)]),
  (o2 24 32 [.t 23]),o1 25 (.ext 0 (.t 24)),o1 26 (.ext 1 (.t 24)),
  (mt 4 25),
  (mt 5 26)]
abbrev O1:AF:=⟨27,(.seq (.reg O0) (.seq (.reg OZ) (.seq (.seq (.reg OY) (.cond (.t 17) (.seq (.reg OX) .ret) .skip)) (.seq (.reg OW) .ret)))),[.mv (.t 4),.mv (.t 5)]⟩
theorem ym:av Tryz.prog (aa Tryz.prog 16) 16=some O1:=by kernel_rfl
/-! cost.open-/
abbrev OU:List AO:=
 [o1 2 (.bx 25 0 (.t 0)),o1 3 (.bx 44 0 (.t 1)),o1 4 (.al 69 [.sl0,.cv (.map none)]),o1 5 (.mv (.c .sl0)),o1 6 (.mv (ci 0))]
abbrev OT:List AO:=
 [o1 19 (.ld 3 true (.t 2)),
  (o2 20 40 [.t 19]),
  (mt 18 20),o1 21 (.ext 0 (.t 18)),o1 22 (.ext 1 (.t 18)),
  (mt 7 21),
  (mt 8 22)]
abbrev OS:List AO:=
 [(mt 23 8),o1 24 (.bin .neq (.t 23) (ci 0))]
abbrev OQ:List AO:=
 [o1 25 (.bd [.sl0,.cv (.map none)] []),
  (mt 26 8),
  (o3 (.st 2 (.t 4) (.t 25))),o1 5 (.mv (.c .sl0)),
  (mt 6 26)]
abbrev OP:List AO:=
 [o1 28 (.fa 2 (.t 2)),o1 29 (.ld 1 false (.t 28)),
  (o2 30 52 [.t 29]),
  (mt 27 30),o1 31 (.ext 0 (.t 27)),o1 32 (.ext 1 (.t 27)),
  (mt 9 31),
  (mt 10 32)]
abbrev OO:List AO:=
 [(mt 33 10),o1 34 (.bin .neq (.t 33) (ci 0))]
abbrev OL:List AO:=
 [o1 35 (.bd [.sl0,.cv (.map none)] []),
  (mt 36 10),
  (o3 (.st 2 (.t 4) (.t 35))),o1 5 (.mv (.c .sl0)),
  (mt 6 36)]
abbrev OK:List AO:=
 [(mt 37 9),o1 38 (.len (.t 37)),o1 39 (.fa 3 (.t 3)),o1 40 (.ld 1 false (.t 39)),o1 41 (.len (.t 40)),o1 42 (.bin .neq (.t 38) (.t 41))]
abbrev OJ:List AO:=
 [o1 43 (.bd [.sl0,.cv (.map none)] []),
  (o3 (.st 2 (.t 4) (.t 43))),o1 5 (.mv (.c .sl0)),o1 6 (.mv (ci 23))]
abbrev OI:List AO:=
 [o1 44 (.fa 2 (.t 2)),o1 45 (.ld 1 false (.t 44)),⟨some 46,none,.mo (.mm)⟩,o1 47 (.bd [.sl0,.cv (.map none)] [(0,1,(.t 45)),(1,1,(.t 46))]),o1 11 (.al 69 [.sl0,.cv (.map none)]),
  (o3 (.st 2 (.t 11) (.t 47)))]
abbrev BH:List AO:=
 [o1 12 (.mv (.c (.b false)))]
abbrev BG:List AO:=
 [(mt 48 9),o1 49 (.len (.t 48)),o1 50 (.mv (ci 0))]
abbrev BF:List AO:=
 [o1 51 (.bin .lss (.t 50) (.t 49))]
abbrev BE:List AO:=
 [(mt 52 50),o1 53 (.ia 1 (.t 48) (.t 50)),o1 54 (.ld 1 false (.t 53)),
  (mt 13 52),
  (mt 14 54)]
abbrev BD:List AO:=
 [o1 55 (.fa 3 (.t 3)),o1 56 (.ld 1 false (.t 55)),
  (mt 57 13),o1 58 (.ia 3 (.t 56) (.t 57)),o1 59 (.ld 3 true (.t 58)),o1 15 (.al 56 [.n .i64 0,.n .i64 0,.sl0]),
  (o3 (.st 3 (.t 15) (.t 59)))]
abbrev BC:List AO:=
 [o1 60 (.fa 0 (.t 15)),o1 61 (.ld 1 false (.t 60)),
  (mt 62 14),o1 63 (.bin .neq (.t 61) (.t 62))]
abbrev BB:List AO:=
 [o1 64 (.bd [.sl0,.cv (.map none)] []),
  (o3 (.st 2 (.t 4) (.t 64))),o1 5 (.mv (.c .sl0)),o1 6 (.mv (ci 23))]
abbrev BA:List AO:=
 [(mt 65 12),
  (mt 66 65),
  (o4 67 66 (.fa 1 (.t 15))),
  (o4 68 66 (.ld 1 false (.t 67))),
  (o4 69 66 (.bin .lss (.t 68) (ci 0))),o1 70 (.pick (.t 66) (.c (.b true)) (.t 69)),
  (mt 71 70),
  (o4 72 71 (.fa 1 (.t 15))),
  (o4 73 71 (.ld 1 false (.t 72))),
  (o4 74 71 (.bin .gtr (.t 73) (ci 65536))),o1 75 (.pick (.t 71) (.c (.b true)) (.t 74)),
  (mt 12 75)]
abbrev Bz:List AO:=
 [o1 76 (.fa 1 (.t 11)),o1 77 (.ld 1 false (.t 76)),
  (mt 78 14),o1 79 (.fa 1 (.t 15)),o1 80 (.ld 1 false (.t 79)),⟨none,none,.mo (.mu (.t 77) (.t 78) (.t 80))⟩]
abbrev BJ:AC:=
 (.seq (.reg BE) (.seq (.reg BD) (.seq (.seq (.reg BC) (.cond (.t 63) (.seq (.reg BB) .ret) .skip)) (.seq (.reg BA) (.reg Bz)))))
abbrev Bx:List AO:=
 [o1 81 (.bin .add (.t 50) (ci 1)),
  (mt 50 81)]
abbrev BK:AC:=
 (.seq (.reg BF) (.seq (.cond (.t 51) .skip (.exit 0)) (.seq (.block 1 BJ) (.reg Bx))))
abbrev BI:AC:=
 (.loop BK)
abbrev Bw:List AO:=
 [(mt 82 12)]
abbrev Bt:List AO:=
 [o1 83 (.bd [.sl0,.cv (.map none)] []),
  (o3 (.st 2 (.t 4) (.t 83))),o1 5 (.mv (.c .sl0)),o1 6 (.mv (ci 2))]
abbrev Bs:List AO:=
 [o1 85 (.fa 2 (.t 2)),o1 86 (.ld 1 false (.t 85)),
  (o2 87 53 [.t 86]),
  (mt 84 87),o1 88 (.ext 0 (.t 84)),o1 89 (.ext 1 (.t 84)),o1 90 (.ext 2 (.t 84)),
  (mt 16 88),
  (mt 17 89),
  (mt 10 90)]
abbrev Br:List AO:=
 [o1 91 (.ld 2 true (.t 11)),
  (mt 92 16),
  (mt 93 10),
  (o3 (.st 2 (.t 4) (.t 91))),
  (mt 5 92),
  (mt 6 93)]
abbrev OV:AF:=⟨94,(.seq (.reg OU) (.seq (.seq (.reg OT) (.seq (.reg OS) (.cond (.t 24) (.seq (.reg OQ) .ret) .skip))) (.seq (.reg OP) (.seq (.seq (.reg OO) (.cond (.t 34) (.seq (.reg OL) .ret) .skip)) (.seq (.seq (.reg OK) (.cond (.t 42) (.seq (.reg OJ) .ret) .skip)) (.seq (.reg OI) (.seq (.reg BH) (.seq (.seq (.reg BG) (.block 0 BI)) (.seq (.seq (.reg Bw) (.cond (.t 82) (.seq (.reg Bt) .ret) .skip)) (.seq (.reg Bs) (.seq (.reg Br) .ret))))))))))),[.ld 2 true (.t 4),.mv (.t 5),.mv (.t 6)]⟩
theorem yl:av Tryz.prog (aa Tryz.prog 31) 31=some OV:=by kernel_rfl
/-! flow.Loops-/
abbrev OG:List AO:=
 [o1 2 (.mv (.c .sl0)),o1 3 (.mv (ci 0))]
abbrev OE:List AO:=
 [(mt 11 0),
  (o2 12 53 [.t 11]),
  (mt 10 12),o1 13 (.ext 0 (.t 10)),o1 14 (.ext 1 (.t 10)),o1 15 (.ext 2 (.t 10)),
  (mt 4 13),
  (mt 5 14),
  (mt 6 15)]
abbrev OD:List AO:=
 [(mt 16 6),o1 17 (.bin .neq (.t 16) (ci 0))]
abbrev OC:List AO:=
 [(mt 18 6),o1 2 (.mv (.c .sl0)),
  (mt 3 18)]
abbrev OA:List AO:=
 [o1 7 (.mv (.c .sl0))]
abbrev Oz:List AO:=
 [(mt 19 0),o1 20 (.len (.t 19)),o1 21 (.mv (ci 0))]
abbrev Oy:List AO:=
 [o1 22 (.bin .lss (.t 21) (.t 20))]
abbrev Ox:List AO:=
 [(mt 23 21),o1 24 (.ia 2 (.t 19) (.t 21)),o1 25 (.ld 2 true (.t 24)),o1 9 (.al 82 [.n .i64 0,.n .u32 0]),
  (mt 8 23),
  (o3 (.st 2 (.t 9) (.t 25)))]
abbrev Ow:List AO:=
 [o1 26 (.fa 0 (.t 9)),o1 27 (.ld 1 false (.t 26)),o1 28 (.bin .eql (.t 27) (ci 29))]
abbrev Ov:List AO:=
 [(mt 29 7),
  (mt 30 8),o1 31 (.bs 3 1 1 [.n .i64 0] [(0,1,(.t 30))]),o1 32 (.app 3 1 8 (.t 29) (.t 31)),
  (mt 7 32)]
abbrev Bp:AC:=
 (.seq (.reg Ox) (.seq (.reg Ow) (.cond (.t 28) (.reg Ov) .skip)))
abbrev Bn:List AO:=
 [o1 33 (.bin .add (.t 21) (ci 1)),
  (mt 21 33)]
abbrev Bq:AC:=
 (.seq (.reg Oy) (.seq (.cond (.t 22) .skip (.exit 0)) (.seq (.block 1 Bp) (.reg Bn))))
abbrev Bo:AC:=
 (.loop Bq)
abbrev Bm:List AO:=
 [(mt 34 7),
  (mt 2 34),o1 3 (.mv (ci 0))]
abbrev OH:AF:=⟨35,(.seq (.reg OG) (.seq (.reg OE) (.seq (.seq (.reg OD) (.cond (.t 17) (.seq (.reg OC) .ret) .skip)) (.seq (.reg OA) (.seq (.seq (.reg Oz) (.block 0 Bo)) (.seq (.reg Bm) .ret)))))),[.mv (.t 2),.mv (.t 3)]⟩
theorem yk:av Tryz.prog (aa Tryz.prog 52) 52=some OH:=by kernel_rfl
/-! cost.bounds.steps-/
abbrev Ot:List AO:=
 [o1 3 (.bx 69 0 (.t 0)),o1 6 (.mv (ci 0))]
abbrev Oq:List AO:=
 [(mt 7 2),
  (mt 8 1),o1 9 (.bin .sub (.t 7) (.t 8)),
  (mt 6 9)]
abbrev Ou:AF:=⟨10,(.seq (.reg Ot) (.seq (.reg Oq) .ret)),[.mv (.t 6)]⟩
theorem yj:av Tryz.prog (aa Tryz.prog 34) 34=some Ou:=by kernel_rfl
/-! cost.bounds.walk-/
abbrev Ol:List AO:=
 [o1 4 (.bx 69 0 (.t 0)),o1 8 (.mv (ci 0))]
abbrev Ok:List AO:=
 [o1 9 (.mv (ci 0))]
abbrev Oj:List AO:=
 [(mt 13 1),o1 14 (.len (.t 13)),o1 15 (.mv (ci 0))]
abbrev Oi:List AO:=
 [o1 16 (.bin .lss (.t 15) (.t 14))]
abbrev Oh:List AO:=
 [o1 17 (.ia 5 (.t 13) (.t 15)),o1 18 (.ld 5 true (.t 17)),o1 11 (.al 106 [.n .i64 0,.n .i64 0,.n .i64 0,.sl0,.sl0]),
  (o3 (.st 5 (.t 11) (.t 18)))]
abbrev Og:List AO:=
 [o1 12 (.mv (ci 0))]
abbrev Oe:List AO:=
 [o1 19 (.fa 0 (.t 11)),o1 20 (.ld 1 false (.t 19))]
abbrev Od:List AO:=
 [o1 28 (.bin .eql (.t 20) (ci 27)),
  (mt 27 28)]
abbrev Om:List (Nat×AO):=
 [(2,(mt 29 3)),(2,(o1 31 (.fa 3 (.t 11)))),
  (2,(mt 33 2)),
  (2,(mt 34 3)),(2,(o1 37 (.fa 4 (.t 11)))),
  (2,(mt 39 2)),
  (2,(mt 40 3)),(1,(o1 30 (.ld 2 true (.t 4)))),(1,(o1 32 (.ld 1 false (.t 31)))),(1,(o1 36 (.ld 2 true (.t 4)))),(1,(o1 38 (.ld 1 false (.t 37)))),
  (0,(o2 35 33 [.t 30,.t 32,.t 33,.t 34])),
  (3,(o2 41 33 [.t 36,.t 38,.t 39,.t 40])),(3,⟨some 42,none,.mo (.mx (.t 35) (.t 41))⟩),
  (3,(o2 43 54 [.t 29,.t 42])),
  (2,(mt 12 43))]
abbrev Oc:List AO:=
 [o1 45 (.bin .eql (.t 20) (ci 29)),
  (mt 44 45)]
abbrev Bh:List (Nat×AO):=
 [(2,(mt 46 3)),
  (2,(mt 47 3)),(2,(o1 49 (.fa 3 (.t 11)))),
  (2,(mt 51 2)),
  (2,(mt 52 3)),(2,(o1 55 (.fa 1 (.t 4)))),(2,(o1 57 (.fa 1 (.t 11)))),(1,(o1 48 (.ld 2 true (.t 4)))),(1,(o1 50 (.ld 1 false (.t 49)))),(1,(o1 56 (.ld 1 false (.t 55)))),(1,(o1 58 (.ld 1 false (.t 57)))),(4,⟨some 59,none,.mo (.lk (.n .i64 0) false (.t 56) (.t 58))⟩),
  (0,(o2 53 33 [.t 48,.t 50,.t 51,.t 52])),
  (0,(o2 54 54 [.t 47,.t 53])),
  (3,(o2 60 46 [.t 54,.t 59])),
  (3,(o2 61 54 [.t 46,.t 60])),
  (2,(mt 12 61))]
abbrev Bg:List AO:=
 [(mt 21 2),o1 22 (.fa 1 (.t 11)),o1 23 (.ld 1 false (.t 22)),o1 24 (.fa 2 (.t 11)),o1 25 (.ld 1 false (.t 24)),⟨some 26,none,.cl (.t 21) [.t 23,.t 25]⟩,
  (mt 12 26)]
abbrev Bk:AC:=
 (.seq (.reg Od) (.cond (.t 27) (.mix Om) (.seq (.reg Oc) (.cond (.t 44) (.mxl Bh) (.reg Bg)))))
abbrev Bf:List AO:=
 [(mt 62 9),
  (mt 63 12),
  (o2 64 54 [.t 62,.t 63]),
  (mt 9 64)]
abbrev Bj:AC:=
 (.seq (.reg Oh) (.seq (.reg Og) (.seq (.seq (.reg Oe) (.block 2 Bk)) (.reg Bf))))
abbrev Be:List AO:=
 [o1 65 (.bin .add (.t 15) (ci 1)),
  (mt 15 65)]
abbrev Bl:AC:=
 (.seq (.reg Oi) (.seq (.cond (.t 16) .skip (.exit 0)) (.seq (.block 1 Bj) (.reg Be))))
abbrev Bi:AC:=
 (.loop Bl)
abbrev Bd:List AO:=
 [(mt 66 9),
  (mt 8 66)]
abbrev Oo:AF:=⟨67,(.seq (.reg Ol) (.seq (.reg Ok) (.seq (.seq (.reg Oj) (.block 0 Bi)) (.seq (.reg Bd) .ret)))),[.mv (.t 8)]⟩
theorem yi:av Tryz.prog (aa Tryz.prog 33) 33=some Oo:=by kernel_rfl
/-! cost.plus[int]-/
abbrev Oa:List AO:=
 [o1 4 (.mv (ci 0))]
abbrev N9:List AO:=
 [(mt 5 0),
  (mt 6 1),o1 7 (.bin .add (.t 5) (.t 6)),⟨some 8,none,.mo (.mi (.t 7) (ci 281474976710657))⟩,
  (mt 4 8)]
abbrev Ob:AF:=⟨9,(.seq (.reg Oa) (.seq (.reg N9) .ret)),[.mv (.t 4)]⟩
theorem yh:av Tryz.prog (aa Tryz.prog 54) 54=some Ob:=by kernel_rfl
/-! cost.times[int]-/
abbrev N7:List AO:=
 [o1 4 (.mv (ci 0))]
abbrev N6:List AO:=
 [(mt 5 1),o1 6 (.bin .gtr (.t 5) (ci 0)),
  (mt 7 6),
  (o5 8 7 (.mv (.t 0))),
  (o5 9 7 (.mv (.t 1))),
  (o5 10 7 (.bin .quo (ci 281474976710657) (.t 9))),
  (o5 11 7 (.bin .gtr (.t 8) (.t 10))),o1 12 (.pick (.t 7) (.t 11) (.c (.b false)))]
abbrev N5:List AO:=
 [o1 4 (.mv (ci 281474976710657))]
abbrev N4:List AO:=
 [(mt 13 0),
  (mt 14 1),o1 15 (.bin .mul (.t 13) (.t 14)),⟨some 16,none,.mo (.mi (.t 15) (ci 281474976710657))⟩,
  (mt 4 16)]
abbrev N8:AF:=⟨17,(.seq (.reg N7) (.seq (.seq (.reg N6) (.cond (.t 12) (.seq (.reg N5) .ret) .skip)) (.seq (.reg N4) .ret))),[.mv (.t 4)]⟩
theorem yg:av Tryz.prog (aa Tryz.prog 46) 46=some N8:=by kernel_rfl
/-! cost.bounded-/
abbrev N1:List AO:=
 [o1 2 (.mv (ci 0)),o1 3 (.mv (ci 0))]
abbrev N0:List AO:=
 [(mt 4 0),o1 5 (.bin .geq (.t 4) (ci 281474976710657))]
abbrev NZ:List AO:=
 [o1 2 (.mv (ci 0)),o1 3 (.mv (ci 18))]
abbrev NY:List AO:=
 [(mt 6 0),
  (mt 2 6),o1 3 (.mv (ci 0))]
abbrev N3:AF:=⟨7,(.seq (.reg N1) (.seq (.seq (.reg N0) (.cond (.t 5) (.seq (.reg NZ) .ret) .skip)) (.seq (.reg NY) .ret))),[.mv (.t 2),.mv (.t 3)]⟩
theorem yf:av Tryz.prog (aa Tryz.prog 32) 32=some N3:=by kernel_rfl
/-! cost.Memory-/
abbrev NV:List AO:=
 [o1 1 (.bx 25 0 (.t 0)),o1 2 (.mv (ci 0)),o1 3 (.mv (ci 0))]
abbrev NU:List AO:=
 [o1 11 (.ld 3 true (.t 1)),
  (o2 12 24 [.t 11]),
  (mt 10 12),o1 13 (.ext 0 (.t 10)),o1 14 (.ext 1 (.t 10)),
  (mt 4 13),
  (mt 5 14)]
abbrev NT:List AO:=
 [(mt 15 5),o1 16 (.bin .neq (.t 15) (ci 0))]
abbrev NS:List AO:=
 [(mt 17 5),o1 2 (.mv (ci 0)),
  (mt 3 17)]
abbrev NQ:List AO:=
 [o1 18 (.fa 1 (.t 1)),o1 19 (.ld 1 false (.t 18)),o1 20 (.bin .add (.t 19) (ci 32)),o1 21 (.bin .add (.t 20) (ci 16)),o1 22 (.bin .mul (ci 4) (.t 21)),
  (mt 6 22)]
abbrev NP:List AO:=
 [o1 23 (.fa 0 (.t 1)),o1 24 (.ld 1 false (.t 23)),o1 25 (.len (.t 24)),o1 26 (.mv (ci 0))]
abbrev NN:List AO:=
 [o1 27 (.bin .lss (.t 26) (.t 25))]
abbrev NM:List AO:=
 [o1 28 (.ia 2 (.t 24) (.t 26)),o1 29 (.ld 2 true (.t 28)),o1 8 (.al 50 [.b false,.n .i64 0]),
  (o3 (.st 2 (.t 8) (.t 29)))]
abbrev NL:List AO:=
 [o1 30 (.fa 1 (.t 8)),o1 31 (.ld 1 false (.t 30)),
  (mt 9 31)]
abbrev NK:List AO:=
 [o1 32 (.fa 0 (.t 8)),o1 33 (.ld 1 false (.t 32))]
abbrev A9:List AO:=
 [(mt 34 9),o1 35 (.bin .mul (.t 34) (ci 4)),
  (mt 9 35)]
abbrev A8:List AO:=
 [(mt 36 6),
  (mt 37 9),o1 38 (.bin .add (.t 36) (.t 37)),
  (mt 6 38)]
abbrev Bb:AC:=
 (.seq (.reg NM) (.seq (.reg NL) (.seq (.seq (.reg NK) (.cond (.t 33) (.reg A9) .skip)) (.reg A8))))
abbrev A7:List AO:=
 [o1 39 (.bin .add (.t 26) (ci 1)),
  (mt 26 39)]
abbrev Bc:AC:=
 (.seq (.reg NN) (.seq (.cond (.t 27) .skip (.exit 0)) (.seq (.block 1 Bb) (.reg A7))))
abbrev Ba:AC:=
 (.loop Bc)
abbrev A6:List AO:=
 [(mt 40 6),
  (mt 2 40),o1 3 (.mv (ci 0))]
abbrev NX:AF:=⟨41,(.seq (.reg NV) (.seq (.seq (.reg NU) (.seq (.reg NT) (.cond (.t 16) (.seq (.reg NS) .ret) .skip))) (.seq (.reg NQ) (.seq (.seq (.reg NP) (.block 0 Ba)) (.seq (.reg A6) .ret))))),[.mv (.t 2),.mv (.t 3)]⟩
theorem NW:av Tryz.prog (aa Tryz.prog 9) 9=some NX:=by kernel_rfl
/-! cost.Limit-/
abbrev NG:List AO:=
 [o1 2 (.bx 25 0 (.t 0)),o1 4 (.al 34 [.n .i64 0,.n .i64 0]),o1 5 (.mv (ci 0))]
abbrev NF:List AO:=
 [o1 12 (.ld 3 true (.t 2)),
  (o2 13 22 [.t 12]),
  (mt 11 13),o1 14 (.ext 0 (.t 11)),o1 15 (.ext 1 (.t 11)),o1 16 (.ext 2 (.t 11)),o1 6 (.al 44 [.n .i64 0,.n .i64 0,.n .i64 0,.sl0]),
  (o3 (.st 4 (.t 6) (.t 14))),
  (mt 7 15),
  (mt 8 16)]
abbrev ND:List AO:=
 [(mt 18 8),o1 19 (.bin .neq (.t 18) (ci 0)),
  (mt 17 19)]
abbrev NC:List AO:=
 [o1 20 (.bd [.n .i64 0,.n .i64 0] []),
  (mt 21 8),
  (o3 (.st 2 (.t 4) (.t 20))),
  (mt 5 21)]
abbrev NB:List AO:=
 [(mt 23 1),o1 24 (.bin .lss (.t 23) (ci 0)),
  (mt 25 24),
  (o4 26 25 (.mv (.t 1))),
  (o4 27 25 (.bin .gtr (.t 26) (ci 65536))),o1 28 (.pick (.t 25) (.c (.b true)) (.t 27)),
  (mt 22 28)]
abbrev NA:List AO:=
 [o1 29 (.bd [.n .i64 0,.n .i64 0] []),
  (o3 (.st 2 (.t 4) (.t 29))),o1 5 (.mv (ci 2))]
abbrev NI:AC:=
 (.seq (.reg ND) (.cond (.t 17) (.seq (.reg NC) .ret) (.seq (.reg NB) (.cond (.t 22) (.seq (.reg NA) .ret) .skip))))
abbrev Nz:List AO:=
 [o1 31 (.ld 3 true (.t 2)),
  (o2 32 9 [.t 31]),
  (mt 30 32),o1 33 (.ext 0 (.t 30)),o1 34 (.ext 1 (.t 30)),
  (mt 9 33),
  (mt 8 34)]
abbrev Ny:List AO:=
 [(mt 35 8),o1 36 (.bin .neq (.t 35) (ci 0))]
abbrev Nx:List AO:=
 [o1 37 (.bd [.n .i64 0,.n .i64 0] []),
  (mt 38 8),
  (o3 (.st 2 (.t 4) (.t 37))),
  (mt 5 38)]
abbrev A5:List AO:=
 [o1 40 (.fa 0 (.t 6)),o1 41 (.ld 1 false (.t 40)),
  (mt 42 1),o1 43 (.bin .add (.t 42) (ci 1)),
  (o2 44 46 [.t 41,.t 43]),
  (o2 45 32 [.t 44]),
  (mt 39 45),o1 46 (.ext 0 (.t 39)),o1 47 (.ext 1 (.t 39)),
  (mt 10 46),
  (mt 8 47)]
abbrev A4:List AO:=
 [(mt 48 8),o1 49 (.bin .neq (.t 48) (ci 0))]
abbrev A3:List AO:=
 [o1 50 (.bd [.n .i64 0,.n .i64 0] []),
  (mt 51 8),
  (o3 (.st 2 (.t 4) (.t 50))),
  (mt 5 51)]
abbrev A2:List AO:=
 [(mt 52 9),
  (mt 53 10),o1 54 (.bd [.n .i64 0,.n .i64 0] [(0,1,(.t 52)),(1,1,(.t 53))]),
  (o3 (.st 2 (.t 4) (.t 54))),o1 5 (.mv (ci 0))]
abbrev NJ:AF:=⟨55,(.seq (.reg NG) (.seq (.reg NF) (.seq (.block 0 NI) (.seq (.reg Nz) (.seq (.seq (.reg Ny) (.cond (.t 36) (.seq (.reg Nx) .ret) .skip)) (.seq (.reg A5) (.seq (.seq (.reg A4) (.cond (.t 49) (.seq (.reg A3) .ret) .skip)) (.seq (.reg A2) .ret)))))))),[.ld 2 true (.t 4),.mv (.t 5)]⟩
theorem NH:av Tryz.prog (aa Tryz.prog 23) 23=some NJ:=by kernel_rfl
/-! cost.Add-/
abbrev Nm:List AO:=
 [o1 2 (.bx 34 0 (.t 0)),o1 3 (.bx 34 0 (.t 1)),o1 4 (.al 34 [.n .i64 0,.n .i64 0])]
abbrev Np:List (Nat×AO):=
 [(2,(o1 5 (.fa 0 (.t 2)))),(2,(o1 7 (.fa 0 (.t 3)))),(2,(o1 10 (.fa 1 (.t 2)))),(2,(o1 12 (.fa 1 (.t 3)))),(1,(o1 6 (.ld 1 false (.t 5)))),(1,(o1 8 (.ld 1 false (.t 7)))),(1,(o1 11 (.ld 1 false (.t 10)))),(1,(o1 13 (.ld 1 false (.t 12)))),
  (0,(o2 9 26 [.t 6,.t 8])),
  (3,(o2 14 26 [.t 11,.t 13])),(2,(o1 15 (.bd [.n .i64 0,.n .i64 0] [(0,1,(.t 9)),(1,1,(.t 14))]))),
  (3,(o3 (.st 2 (.t 4) (.t 15))))]
abbrev Nq:AF:=⟨16,(.seq (.reg Nm) (.seq (.mix Np) .ret)),[.ld 2 true (.t 4)]⟩
theorem Nn:av Tryz.prog (aa Tryz.prog 11) 11=some Nq:=by kernel_rfl
/-! cost.sum-/
abbrev Nj:List AO:=
 [o1 4 (.mv (ci 0))]
abbrev Ni:List AO:=
 [(mt 5 0),
  (o2 6 28 [.t 5]),o1 7 (.un .not (.t 6)),
  (mt 8 7),
  (o4 9 8 (.mv (.t 1))),⟨some 10,some (8,false),.cl (.c (.f 28 [] [])) [.t 9]⟩,
  (o4 11 8 (.un .not (.t 10))),o1 12 (.pick (.t 8) (.c (.b true)) (.t 11)),
  (mt 13 12),
  (o4 14 13 (.mv (.t 0))),
  (o4 15 13 (.mv (.t 1))),
  (o4 16 13 (.bin .add (.t 14) (.t 15))),⟨some 17,some (13,false),.cl (.c (.f 28 [] [])) [.t 16]⟩,
  (o4 18 13 (.un .not (.t 17))),o1 19 (.pick (.t 13) (.c (.b true)) (.t 18))]
abbrev Nh:List AO:=
 [o1 4 (.mv (ci 281474976710656))]
abbrev Ng:List AO:=
 [(mt 20 0),
  (mt 21 1),o1 22 (.bin .add (.t 20) (.t 21)),
  (mt 4 22)]
abbrev Nl:AF:=⟨23,(.seq (.reg Nj) (.seq (.seq (.reg Ni) (.cond (.t 19) (.seq (.reg Nh) .ret) .skip)) (.seq (.reg Ng) .ret))),[.mv (.t 4)]⟩
theorem Nk:av Tryz.prog (aa Tryz.prog 26) 26=some Nl:=by kernel_rfl
/-! cost.known-/
abbrev Nc:List AO:=
 [o1 2 (.mv (.c (.b false)))]
abbrev Nb:List AO:=
 [(mt 3 0),o1 4 (.bin .geq (.t 3) (ci 0)),
  (mt 5 4),
  (o5 6 5 (.mv (.t 0))),
  (o5 7 5 (.bin .leq (.t 6) (ci 281474976710656))),o1 8 (.pick (.t 5) (.t 7) (.c (.b false))),
  (mt 2 8)]
abbrev Nf:AF:=⟨9,(.seq (.reg Nc) (.seq (.reg Nb) .ret)),[.mv (.t 2)]⟩
theorem Nd:av Tryz.prog (aa Tryz.prog 28) 28=some Nf:=by kernel_rfl
/-! cost.Fits-/
abbrev M8:List AO:=
 [o1 2 (.bx 34 0 (.t 0)),o1 3 (.bx 34 0 (.t 1)),o1 4 (.mv (.c (.b false)))]
abbrev M7:List AO:=
 [o1 5 (.fa 0 (.t 2)),o1 6 (.ld 1 false (.t 5)),
  (o2 7 28 [.t 6]),
  (mt 8 7),
  (o5 9 8 (.fa 1 (.t 2))),
  (o5 10 8 (.ld 1 false (.t 9))),⟨some 11,some (8,true),.cl (.c (.f 28 [] [])) [.t 10]⟩,o1 12 (.pick (.t 8) (.t 11) (.c (.b false))),
  (mt 13 12),
  (o5 14 13 (.fa 0 (.t 3))),
  (o5 15 13 (.ld 1 false (.t 14))),⟨some 16,some (13,true),.cl (.c (.f 28 [] [])) [.t 15]⟩,o1 17 (.pick (.t 13) (.t 16) (.c (.b false))),
  (mt 18 17),
  (o5 19 18 (.fa 1 (.t 3))),
  (o5 20 18 (.ld 1 false (.t 19))),⟨some 21,some (18,true),.cl (.c (.f 28 [] [])) [.t 20]⟩,o1 22 (.pick (.t 18) (.t 21) (.c (.b false))),
  (mt 23 22),
  (o5 24 23 (.fa 0 (.t 2))),
  (o5 25 23 (.ld 1 false (.t 24))),
  (o5 26 23 (.fa 0 (.t 3))),
  (o5 27 23 (.ld 1 false (.t 26))),
  (o5 28 23 (.bin .leq (.t 25) (.t 27))),o1 29 (.pick (.t 23) (.t 28) (.c (.b false))),
  (mt 30 29),
  (o5 31 30 (.fa 1 (.t 2))),
  (o5 32 30 (.ld 1 false (.t 31))),
  (o5 33 30 (.fa 1 (.t 3))),
  (o5 34 30 (.ld 1 false (.t 33))),
  (o5 35 30 (.bin .leq (.t 32) (.t 34))),o1 36 (.pick (.t 30) (.t 35) (.c (.b false))),
  (mt 4 36)]
abbrev Na:AF:=⟨37,(.seq (.reg M8) (.seq (.reg M7) .ret)),[.mv (.t 4)]⟩
theorem M9:av Tryz.prog (aa Tryz.prog 13) 13=some Na:=by kernel_rfl
end Go.Proofs.YthehakngpbjgjaaGreat