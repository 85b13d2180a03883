/- A part of the proof of CostReports: AcCsA AcCsB AcCsC AcCsE AcVrC. No condition. -/
import Derived.Test.YtdpkgnmmikebdaaGreatGe14
import Derived.Test.YtdpkgnmmikebdaaGreatProg
set_option linter.unusedSimpArgs false
set_option linter.unusedVariables false
set_option linter.constructorNameAsVariable false
set_option maxRecDepth 100000
set_option maxHeartbeats 4000000
namespace Go.Proofs.YtdpkgnmmikebdaaGreat
open Go.RowKit
/-! compactorlaw21.awake-/
abbrev adt:List AO:=
 [o1 0 (.mv (.c (.b false)))]
abbrev ads:List AO:=
 [(o2 14 20 []),o1 1 (.al 25 [.sl0,.n .i64 0,.sl0]),
  (o3 (.st 3 (.t 1) (.t 14)))]
abbrev adr:List AO:=
 [o1 16 (.ld 3 true (.t 1)),
  (o2 17 12 [.t 16]),
  (mt 15 17),o1 18 (.ext 0 (.t 15)),o1 19 (.ext 1 (.t 15)),o1 20 (.ext 2 (.t 15)),o1 2 (.al 38 [.n .i64 0,.n .i64 0,.n .i64 0,.sl0]),
  (o3 (.st 4 (.t 2) (.t 18))),
  (mt 3 19),
  (mt 4 20)]
abbrev adq:List AO:=
 [(mt 21 4),o1 22 (.bin .neq (.t 21) (ci 0)),
  (mt 23 22),
  (o4 24 23 (.fa 3 (.t 2))),
  (o4 25 23 (.ld 1 false (.t 24))),
  (o4 26 23 (.len (.t 25))),
  (o4 27 23 (.bin .neq (.t 26) (ci 1))),o1 28 (.pick (.t 23) (.c (.b true)) (.t 27))]
abbrev adp:List AO:=
 [o1 0 (.mv (.c (.b false)))]
abbrev ado:List AO:=
 [o1 30 (.ld 3 true (.t 1)),o1 31 (.ld 4 true (.t 2)),
  (o2 32 13 [.t 30,.t 31]),
  (mt 29 32),o1 33 (.ext 0 (.t 29)),o1 34 (.ext 1 (.t 29)),
  (mt 5 33),
  (mt 6 34)]
abbrev adn:List AO:=
 [o1 35 (.fa 3 (.t 2)),o1 36 (.ld 1 false (.t 35)),o1 37 (.ia 3 (.t 36) (ci 0)),o1 38 (.fa 1 (.t 37)),
  (o3 (.st 1 (.t 38) (ci 0)))]
abbrev adm:List AO:=
 [o1 40 (.ld 3 true (.t 1)),o1 41 (.ld 4 true (.t 2)),
  (o2 42 13 [.t 40,.t 41]),
  (mt 39 42),o1 43 (.ext 0 (.t 39)),o1 44 (.ext 1 (.t 39)),
  (mt 7 43),
  (mt 8 44)]
abbrev adl:List AO:=
 [o1 46 (.ld 3 true (.t 1)),
  (o2 47 15 [.t 46]),
  (mt 45 47),o1 48 (.ext 0 (.t 45)),o1 49 (.ext 1 (.t 45)),
  (mt 9 48),
  (mt 10 49)]
abbrev adk:List AO:=
 [o1 51 (.ld 3 true (.t 1)),
  (o2 52 10 [.t 51,(ci 3)]),
  (mt 50 52),o1 53 (.ext 0 (.t 50)),o1 54 (.ext 1 (.t 50)),o1 11 (.al 29 [.n .i64 0,.n .i64 0]),
  (o3 (.st 2 (.t 11) (.t 53))),
  (mt 12 54)]
abbrev ZK:List AO:=
 [(mt 55 6),
  (mt 56 8),o1 57 (.bin .add (.t 55) (.t 56)),
  (mt 58 10),o1 59 (.bin .add (.t 57) (.t 58)),
  (mt 60 12),o1 61 (.bin .add (.t 59) (.t 60)),o1 62 (.bin .neq (.t 61) (ci 0)),
  (mt 63 62),
  (o4 64 63 (.mv (.t 5))),
  (o4 65 63 (.bin .neq (.t 64) (ci 32))),o1 66 (.pick (.t 63) (.c (.b true)) (.t 65)),
  (mt 67 66),
  (o4 68 67 (.mv (.t 7))),
  (o4 69 67 (.bin .neq (.t 68) (ci 2))),o1 70 (.pick (.t 67) (.c (.b true)) (.t 69)),
  (mt 71 70),
  (o4 72 71 (.mv (.t 9))),
  (o4 73 71 (.bin .neq (.t 72) (ci 196))),o1 74 (.pick (.t 71) (.c (.b true)) (.t 73)),
  (mt 75 74),
  (o4 76 75 (.ld 2 true (.t 11))),
  (o4 77 75 (.bd [.n .i64 0,.n .i64 0] [(0,1,(ci 196)),(1,1,(ci 128))])),
  (o4 78 75 (.eq true (.st [(0,1,.n),(1,1,.n)]) (.t 76) (.t 77))),o1 79 (.pick (.t 75) (.c (.b true)) (.t 78))]
abbrev ZJ:List AO:=
 [o1 0 (.mv (.c (.b false)))]
abbrev ZI:List AO:=
 [o1 80 (.bd [.n .i64 0,.n .i64 0] [(0,1,(ci 5)),(1,1,(ci 7))]),o1 13 (.al 29 [.n .i64 0,.n .i64 0]),
  (o3 (.st 2 (.t 13) (.t 80)))]
abbrev ZH:List AO:=
 [o1 81 (.ld 2 true (.t 13)),o1 82 (.bd [.n .i64 0,.n .i64 0] [(0,1,(ci 1)),(1,1,(ci 2))]),
  (o2 83 21 [.t 81,.t 82]),o1 84 (.bd [.n .i64 0,.n .i64 0] [(0,1,(ci 6)),(1,1,(ci 9))]),o1 85 (.eq false (.st [(0,1,.n),(1,1,.n)]) (.t 83) (.t 84)),
  (mt 86 85),
  (o5 87 86 (.ld 2 true (.t 13))),
  (o5 88 86 (.bd [.n .i64 0,.n .i64 0] [(0,1,(ci 5)),(1,1,(ci 8))])),⟨some 89,some (86,true),.cl (.c (.f 22 [] [])) [.t 87,.t 88]⟩,o1 90 (.pick (.t 86) (.t 89) (.c (.b false))),
  (mt 91 90),
  (o5 92 91 (.ld 2 true (.t 13))),
  (o5 93 91 (.bd [.n .i64 0,.n .i64 0] [(0,1,(ci 4)),(1,1,(ci 100))])),⟨some 94,some (91,true),.cl (.c (.f 22 [] [])) [.t 92,.t 93]⟩,
  (o5 95 91 (.un .not (.t 94))),o1 96 (.pick (.t 91) (.t 95) (.c (.b false))),
  (mt 0 96)]
abbrev x1F:AF:=⟨97,(.seq (.reg adt) (.seq (.reg ads) (.seq (.reg adr) (.seq (.seq (.reg adq) (.cond (.t 28) (.seq (.reg adp) .ret) .skip)) (.seq (.reg ado) (.seq (.reg adn) (.seq (.reg adm) (.seq (.reg adl) (.seq (.reg adk) (.seq (.seq (.reg ZK) (.cond (.t 79) (.seq (.reg ZJ) .ret) .skip)) (.seq (.reg ZI) (.seq (.reg ZH) .ret)))))))))))),[.mv (.t 0)]⟩
theorem adu:ax Tryz.prog (af Tryz.prog 9) 9=some x1F:=by kernel_rfl
/-! compactorlaw21.example-/
abbrev adi:List AO:=
 [o1 0 (.al 25 [.sl0,.n .i64 0,.sl0])]
abbrev adh:List AO:=
 [o1 1 (.bd [.n .i64 0,.n .u32 0] [(0,1,(ci 0)),(1,1,(.c (.n .u32 10)))]),o1 2 (.bd [.n .i64 0,.n .u32 0] [(0,1,(ci 29))]),o1 3 (.bd [.n .i64 0,.n .u32 0] [(0,1,(ci 1))]),o1 4 (.bd [.n .i64 0,.n .u32 0] [(0,1,(ci 6))]),o1 5 (.bd [.n .i64 0,.n .u32 0] [(0,1,(ci 31))]),o1 6 (.bs 54 2 5 [.n .i64 0,.n .u32 0,.n .i64 0,.n .u32 0,.n .i64 0,.n .u32 0,.n .i64 0,.n .u32 0,.n .i64 0,.n .u32 0] [(0,2,(.t 1)),(2,2,(.t 2)),(4,2,(.t 3)),(6,2,(.t 4)),(8,2,(.t 5))]),o1 7 (.bd [.sl0,.n .i64 0,.sl0] [(1,1,(ci 1)),(2,1,(.t 6))]),
  (o3 (.st 3 (.t 0) (.t 7)))]
abbrev x2F:AF:=⟨8,(.seq (.reg adi) (.seq (.reg adh) .ret)),[.ld 3 true (.t 0)]⟩
theorem adj:ax Tryz.prog (af Tryz.prog 20) 20=some x2F:=by kernel_rfl
/-! verifier.Verify-/
abbrev adg:List AO:=
 [o1 1 (.bx 25 0 (.t 0)),o1 2 (.al 38 [.n .i64 0,.n .i64 0,.n .i64 0,.sl0]),o1 3 (.mv (ci 0)),o1 4 (.mv (ci 0))]
abbrev adf:List AO:=
 [o1 11 (.ld 3 true (.t 1)),
  (o2 12 28 [.t 11]),
  (mt 10 12),o1 13 (.ext 0 (.t 10)),o1 14 (.ext 1 (.t 10)),
  (mt 5 13),
  (mt 6 14)]
abbrev ade:List AO:=
 [(mt 15 6),o1 16 (.bin .neq (.t 15) (ci 0))]
abbrev adc:List AO:=
 [o1 17 (.bd [.n .i64 0,.n .i64 0,.n .i64 0,.sl0] []),
  (mt 18 5),
  (mt 19 6),
  (o3 (.st 4 (.t 2) (.t 17))),
  (mt 3 18),
  (mt 4 19)]
abbrev adb:List AO:=
 [o1 7 (.al 38 [.n .i64 0,.n .i64 0,.n .i64 0,.sl0])]
abbrev ada:List AO:=
 [o1 21 (.mf 30 [] [.t 1,.t 7]),
  (o2 22 29 [.t 21]),
  (mt 20 22),o1 23 (.ext 0 (.t 20)),o1 24 (.ext 1 (.t 20)),
  (mt 8 23),
  (mt 9 24)]
abbrev ac9:List AO:=
 [(mt 25 9),o1 26 (.bin .neq (.t 25) (ci 0))]
abbrev ac8:List AO:=
 [o1 27 (.bd [.n .i64 0,.n .i64 0,.n .i64 0,.sl0] []),
  (mt 28 8),
  (mt 29 9),
  (o3 (.st 4 (.t 2) (.t 27))),
  (mt 3 28),
  (mt 4 29)]
abbrev ac7:List AO:=
 [o1 30 (.ld 4 true (.t 7)),
  (o3 (.st 4 (.t 2) (.t 30))),o1 3 (.mv (ci 0)),o1 4 (.mv (ci 0))]
abbrev x3F:AF:=⟨31,(.seq (.reg adg) (.seq (.seq (.reg adf) (.seq (.reg ade) (.cond (.t 16) (.seq (.reg adc) .ret) .skip))) (.seq (.reg adb) (.seq (.reg ada) (.seq (.seq (.reg ac9) (.cond (.t 26) (.seq (.reg ac8) .ret) .skip)) (.seq (.reg ac7) .ret)))))),[.ld 4 true (.t 2),.mv (.t 3),.mv (.t 4)]⟩
theorem JP:ax Tryz.prog (af Tryz.prog 12) 12=some x3F:=by kernel_rfl
/-! verifier.Check-/
abbrev ac6:List AO:=
 [o1 1 (.bx 25 0 (.t 0)),o1 2 (.mv (ci 0)),o1 3 (.mv (ci 0))]
abbrev ac5:List AO:=
 [o1 12 (.ld 3 true (.t 1)),
  (o2 13 38 [.t 12]),
  (mt 11 13),o1 14 (.ext 0 (.t 11)),o1 15 (.ext 1 (.t 11)),
  (mt 4 14),
  (mt 5 15)]
abbrev ac4:List AO:=
 [(mt 16 5),o1 17 (.bin .neq (.t 16) (ci 0))]
abbrev ac3:List AO:=
 [(mt 18 5),o1 2 (.mv (ci 0)),
  (mt 3 18)]
abbrev ac2:List AO:=
 [o1 20 (.fa 2 (.t 1)),o1 21 (.ld 1 false (.t 20)),
  (o2 22 50 [.t 21]),
  (mt 19 22),o1 23 (.ext 0 (.t 19)),o1 24 (.ext 1 (.t 19)),o1 25 (.ext 2 (.t 19)),
  (mt 6 23),
  (mt 7 24),
  (mt 8 25)]
abbrev ac1:List AO:=
 [(mt 26 8),o1 27 (.bin .neq (.t 26) (ci 0))]
abbrev acZ:List AO:=
 [(mt 28 7),
  (mt 29 8),
  (mt 2 28),
  (mt 3 29)]
abbrev acY:List AO:=
 [o1 30 (.fa 2 (.t 1)),o1 31 (.ld 1 false (.t 30)),o1 32 (.len (.t 31)),o1 33 (.mv (ci 0))]
abbrev acX:List AO:=
 [o1 34 (.bin .lss (.t 33) (.t 32))]
abbrev acW:List AO:=
 [(mt 35 33),o1 36 (.ia 2 (.t 31) (.t 33)),o1 37 (.ld 2 true (.t 36)),o1 10 (.al 54 [.n .i64 0,.n .u32 0]),
  (mt 9 35),
  (o3 (.st 2 (.t 10) (.t 37)))]
abbrev Wj:List AO:=
 [o1 38 (.fa 0 (.t 10)),o1 39 (.ld 1 false (.t 38))]
abbrev Wi:List AO:=
 [o1 41 (.bin .eql (.t 39) (ci 1)),
  (mt 40 41)]
abbrev Wh:List AO:=
 [o1 42 (.bin .eql (.t 39) (ci 2)),
  (mt 40 42)]
abbrev Wg:List AO:=
 [o1 43 (.fa 1 (.t 10)),o1 44 (.ld 1 false (.t 43)),o1 45 (.cvi .i64 (.t 44)),o1 46 (.fa 1 (.t 1)),o1 47 (.ld 1 false (.t 46)),o1 48 (.bin .geq (.t 45) (.t 47))]
abbrev Wf:List AO:=
 [(mt 49 9),
  (mt 2 49),o1 3 (.mv (ci 2))]
abbrev We:List AO:=
 [o1 51 (.bin .eql (.t 39) (ci 3)),
  (mt 50 51)]
abbrev Wd:List AO:=
 [o1 52 (.bin .eql (.t 39) (ci 4)),
  (mt 50 52)]
abbrev Wc:List AO:=
 [o1 53 (.fa 1 (.t 10)),o1 54 (.ld 1 false (.t 53)),o1 55 (.cvi .i64 (.t 54)),o1 56 (.fa 0 (.t 1)),o1 57 (.ld 1 false (.t 56)),o1 58 (.len (.t 57)),o1 59 (.bin .geq (.t 55) (.t 58))]
abbrev Wb:List AO:=
 [(mt 60 9),
  (mt 2 60),o1 3 (.mv (ci 2))]
abbrev Wo:AC:=
 (.seq (.seq (.reg Wi) (.cond (.t 40) .skip (.reg Wh))) (.cond (.t 40) (.seq (.reg Wg) (.cond (.t 48) (.seq (.reg Wf) .ret) .skip)) (.seq (.seq (.reg We) (.cond (.t 50) .skip (.reg Wd))) (.cond (.t 50) (.seq (.reg Wc) (.cond (.t 59) (.seq (.reg Wb) .ret) .skip)) .skip))))
abbrev Wn:AC:=
 (.seq (.reg acW) (.seq (.reg Wj) (.block 2 Wo)))
abbrev Wa:List AO:=
 [o1 61 (.bin .add (.t 33) (ci 1)),
  (mt 33 61)]
abbrev Wp:AC:=
 (.seq (.reg acX) (.seq (.cond (.t 34) .skip (.exit 0)) (.seq (.block 1 Wn) (.reg Wa))))
abbrev Wm:AC:=
 (.loop Wp)
abbrev V9:List AO:=
 [o1 2 (.mv (ci 0)),o1 3 (.mv (ci 0))]
abbrev x4F:AF:=⟨62,(.seq (.reg ac6) (.seq (.seq (.reg ac5) (.seq (.reg ac4) (.cond (.t 17) (.seq (.reg ac3) .ret) .skip))) (.seq (.seq (.reg ac2) (.seq (.reg ac1) (.cond (.t 27) (.seq (.reg acZ) .ret) .skip))) (.seq (.seq (.reg acY) (.block 0 Wm)) (.seq (.reg V9) .ret))))),[.mv (.t 2),.mv (.t 3)]⟩
theorem Wl:ax Tryz.prog (af Tryz.prog 28) 28=some x4F:=by kernel_rfl
/-! instruction.Encode-/
abbrev acT:List AO:=
 [o1 1 (.bx 25 0 (.t 0)),o1 2 (.mv (.c .sl0)),o1 3 (.mv (ci 0))]
abbrev acS:List AO:=
 [o1 12 (.ld 3 true (.t 1)),
  (o2 13 67 [.t 12]),
  (mt 4 13)]
abbrev acR:List AO:=
 [(mt 14 4),o1 15 (.bin .neq (.t 14) (ci 0))]
abbrev acQ:List AO:=
 [(mt 16 4),o1 2 (.mv (.c .sl0)),
  (mt 3 16)]
abbrev acP:List AO:=
 [o1 17 (.fa 0 (.t 1)),o1 18 (.ld 1 false (.t 17)),o1 19 (.len (.t 18)),
  (o2 20 68 [(.c .sl0),.t 19]),
  (mt 5 20)]
abbrev acO:List AO:=
 [o1 21 (.fa 0 (.t 1)),o1 22 (.ld 1 false (.t 21)),o1 23 (.len (.t 22)),o1 24 (.mv (ci 0))]
abbrev acN:List AO:=
 [o1 25 (.bin .lss (.t 24) (.t 23))]
abbrev acM:List AO:=
 [o1 26 (.ia 2 (.t 22) (.t 24)),o1 27 (.ld 2 true (.t 26)),o1 7 (.al 68 [.b false,.n .i64 0]),
  (o3 (.st 2 (.t 7) (.t 27)))]
abbrev acU:List (Nat×AO):=
 [(2,(mt 28 5)),(2,(o1 29 (.fa 1 (.t 7)))),(2,(o1 32 (.fa 0 (.t 7)))),(1,(o1 30 (.ld 1 false (.t 29)))),(2,(o1 31 (.bin .mul (ci 2) (.t 30)))),(1,(o1 33 (.ld 1 false (.t 32)))),
  (0,(o2 34 69 [.t 33])),(2,(o1 35 (.cvi .i64 (.t 34)))),(2,(o1 36 (.bin .add (.t 31) (.t 35)))),
  (3,(o2 37 68 [.t 28,.t 36])),
  (2,(mt 5 37))]
abbrev acV:AC:=
 (.seq (.reg acM) (.mix acU))
abbrev UV:List AO:=
 [o1 38 (.bin .add (.t 24) (ci 1)),
  (mt 24 38)]
abbrev U1:AC:=
 (.seq (.reg acN) (.seq (.cond (.t 25) .skip (.exit 0)) (.seq (.block 1 acV) (.reg UV))))
abbrev UZ:AC:=
 (.loop U1)
abbrev UW:List (Nat×AO):=
 [(2,(mt 39 5)),(2,(o1 40 (.fa 1 (.t 1)))),(2,(o1 43 (.fa 2 (.t 1)))),(1,(o1 41 (.ld 1 false (.t 40)))),(1,(o1 44 (.ld 1 false (.t 43)))),(2,(o1 45 (.len (.t 44)))),
  (0,(o2 42 68 [.t 39,.t 41])),
  (3,(o2 46 68 [.t 42,.t 45])),
  (2,(mt 5 46))]
abbrev UU:List AO:=
 [o1 47 (.fa 2 (.t 1)),o1 48 (.ld 1 false (.t 47)),o1 49 (.len (.t 48)),o1 50 (.mv (ci 0))]
abbrev UT:List AO:=
 [o1 51 (.bin .lss (.t 50) (.t 49))]
abbrev US:List AO:=
 [o1 52 (.ia 2 (.t 48) (.t 50)),o1 53 (.ld 2 true (.t 52)),o1 9 (.al 54 [.n .i64 0,.n .u32 0]),
  (o3 (.st 2 (.t 9) (.t 53)))]
abbrev UR:List AO:=
 [(mt 54 5),o1 55 (.fa 0 (.t 9)),o1 56 (.ld 1 false (.t 55)),o1 57 (.cvi .u8 (.t 56)),o1 58 (.bs 5 1 1 [.n .u8 0] [(0,1,(.t 57))]),o1 59 (.app 5 1 1 (.t 54) (.t 58)),
  (mt 5 59)]
abbrev UQ:List AO:=
 [o1 61 (.fa 0 (.t 9)),o1 62 (.ld 1 false (.t 61)),
  (o2 63 70 [.t 62]),
  (mt 60 63),o1 64 (.ext 0 (.t 60)),o1 65 (.ext 1 (.t 60)),o1 10 (.al 146 [.s ⟨#[]⟩,.s ⟨#[]⟩,.s ⟨#[]⟩,.n .u64 0,.b false]),
  (o3 (.st 5 (.t 10) (.t 64))),
  (mt 11 65)]
abbrev UP:List AO:=
 [o1 66 (.fa 4 (.t 10)),o1 67 (.ld 1 false (.t 66))]
abbrev UO:List AO:=
 [(mt 68 5),o1 69 (.fa 1 (.t 9)),o1 70 (.ld 1 false (.t 69)),o1 71 (.cvi .i64 (.t 70)),
  (o2 72 68 [.t 68,.t 71]),
  (mt 5 72)]
abbrev UY:AC:=
 (.seq (.reg US) (.seq (.reg UR) (.seq (.reg UQ) (.seq (.reg UP) (.cond (.t 67) (.reg UO) .skip)))))
abbrev UN:List AO:=
 [o1 73 (.bin .add (.t 50) (ci 1)),
  (mt 50 73)]
abbrev U0:AC:=
 (.seq (.reg UT) (.seq (.cond (.t 51) .skip (.exit 2)) (.seq (.block 3 UY) (.reg UN))))
abbrev UX:AC:=
 (.loop U0)
abbrev UM:List AO:=
 [(mt 74 5),
  (mt 2 74),o1 3 (.mv (ci 0))]
abbrev x5F:AF:=⟨75,(.seq (.reg acT) (.seq (.seq (.reg acS) (.seq (.reg acR) (.cond (.t 15) (.seq (.reg acQ) .ret) .skip))) (.seq (.reg acP) (.seq (.seq (.reg acO) (.block 0 UZ)) (.seq (.mix UW) (.seq (.seq (.reg UU) (.block 2 UX)) (.seq (.reg UM) .ret))))))),[.mv (.t 2),.mv (.t 3)]⟩
theorem II:ax Tryz.prog (af Tryz.prog 38) 38=some x5F:=by kernel_rfl
/-! instruction.form-/
abbrev acK:List AO:=
 [o1 1 (.bx 25 0 (.t 0)),o1 2 (.mv (ci 0))]
abbrev acJ:List AO:=
 [o1 7 (.fa 0 (.t 1)),o1 8 (.ld 1 false (.t 7)),
  (o2 9 93 [.t 8]),
  (mt 3 9)]
abbrev acI:List AO:=
 [(mt 10 3),o1 11 (.bin .neq (.t 10) (ci 0))]
abbrev acH:List AO:=
 [(mt 12 3),
  (mt 2 12)]
abbrev acG:List AO:=
 [o1 14 (.fa 1 (.t 1)),o1 15 (.ld 1 false (.t 14)),o1 16 (.bin .lss (.t 15) (ci 0)),
  (mt 17 16),
  (o4 18 17 (.fa 1 (.t 1))),
  (o4 19 17 (.ld 1 false (.t 18))),
  (o4 20 17 (.bin .gtr (.t 19) (ci 16))),o1 21 (.pick (.t 17) (.c (.b true)) (.t 20)),
  (mt 13 21)]
abbrev acF:List AO:=
 [o1 2 (.mv (ci 2))]
abbrev acE:List AO:=
 [o1 23 (.fa 2 (.t 1)),o1 24 (.ld 1 false (.t 23)),o1 25 (.len (.t 24)),o1 26 (.bin .gtr (.t 25) (ci 1024)),
  (mt 22 26)]
abbrev acD:List AO:=
 [o1 2 (.mv (ci 6))]
abbrev acL:AC:=
 (.seq (.reg acG) (.cond (.t 13) (.seq (.reg acF) .ret) (.seq (.reg acE) (.cond (.t 22) (.seq (.reg acD) .ret) .skip))))
abbrev acC:List AO:=
 [o1 27 (.fa 2 (.t 1)),o1 28 (.ld 1 false (.t 27)),o1 29 (.len (.t 28)),o1 30 (.mv (ci 0))]
abbrev TG:List AO:=
 [o1 31 (.bin .lss (.t 30) (.t 29))]
abbrev TF:List AO:=
 [o1 32 (.ia 2 (.t 28) (.t 30)),o1 33 (.ld 2 true (.t 32)),o1 5 (.al 54 [.n .i64 0,.n .u32 0]),
  (o3 (.st 2 (.t 5) (.t 33)))]
abbrev TE:List AO:=
 [o1 34 (.ld 2 true (.t 5)),
  (o2 35 94 [.t 34]),
  (mt 6 35)]
abbrev TD:List AO:=
 [(mt 36 6),o1 37 (.bin .neq (.t 36) (ci 0))]
abbrev TC:List AO:=
 [(mt 38 6),
  (mt 2 38)]
abbrev TJ:AC:=
 (.seq (.reg TF) (.seq (.reg TE) (.seq (.reg TD) (.cond (.t 37) (.seq (.reg TC) .ret) .skip))))
abbrev TB:List AO:=
 [o1 39 (.bin .add (.t 30) (ci 1)),
  (mt 30 39)]
abbrev TK:AC:=
 (.seq (.reg TG) (.seq (.cond (.t 31) .skip (.exit 1)) (.seq (.block 2 TJ) (.reg TB))))
abbrev TI:AC:=
 (.loop TK)
abbrev TA:List AO:=
 [o1 2 (.mv (ci 0))]
abbrev x6F:AF:=⟨40,(.seq (.reg acK) (.seq (.seq (.reg acJ) (.seq (.reg acI) (.cond (.t 11) (.seq (.reg acH) .ret) .skip))) (.seq (.block 0 acL) (.seq (.seq (.reg acC) (.block 1 TI)) (.seq (.reg TA) .ret))))),[.mv (.t 2)]⟩
theorem TH:ax Tryz.prog (af Tryz.prog 67) 67=some x6F:=by kernel_rfl
/-! instruction.arrays-/
abbrev acB:List AO:=
 [o1 2 (.mv (ci 0))]
abbrev acA:List AO:=
 [(mt 6 0),o1 7 (.len (.t 6)),o1 8 (.bin .gtr (.t 7) (ci 8))]
abbrev acz:List AO:=
 [o1 2 (.mv (ci 6))]
abbrev acy:List AO:=
 [o1 3 (.mv (ci 65536))]
abbrev acx:List AO:=
 [(mt 9 0),o1 10 (.len (.t 9)),o1 11 (.mv (ci 0))]
abbrev acw:List AO:=
 [o1 12 (.bin .lss (.t 11) (.t 10))]
abbrev acv:List AO:=
 [o1 13 (.ia 2 (.t 9) (.t 11)),o1 14 (.ld 2 true (.t 13)),o1 5 (.al 68 [.b false,.n .i64 0]),
  (o3 (.st 2 (.t 5) (.t 14)))]
abbrev acu:List AO:=
 [o1 15 (.fa 1 (.t 5)),o1 16 (.ld 1 false (.t 15)),o1 17 (.bin .lss (.t 16) (ci 1)),
  (mt 18 17),
  (o4 19 18 (.fa 1 (.t 5))),
  (o4 20 18 (.ld 1 false (.t 19))),
  (o4 21 18 (.mv (.t 3))),
  (o4 22 18 (.bin .gtr (.t 20) (.t 21))),o1 23 (.pick (.t 18) (.c (.b true)) (.t 22))]
abbrev act:List AO:=
 [o1 2 (.mv (ci 2))]
abbrev acs:List AO:=
 [(mt 24 3),o1 25 (.fa 1 (.t 5)),o1 26 (.ld 1 false (.t 25)),o1 27 (.bin .sub (.t 24) (.t 26)),
  (mt 3 27)]
abbrev R5:AC:=
 (.seq (.reg acv) (.seq (.seq (.reg acu) (.cond (.t 23) (.seq (.reg act) .ret) .skip)) (.reg acs)))
abbrev R2:List AO:=
 [o1 28 (.bin .add (.t 11) (ci 1)),
  (mt 11 28)]
abbrev R6:AC:=
 (.seq (.reg acw) (.seq (.cond (.t 12) .skip (.exit 0)) (.seq (.block 1 R5) (.reg R2))))
abbrev R4:AC:=
 (.loop R6)
abbrev R1:List AO:=
 [o1 2 (.mv (ci 0))]
abbrev x7F:AF:=⟨29,(.seq (.reg acB) (.seq (.seq (.reg acA) (.cond (.t 8) (.seq (.reg acz) .ret) .skip)) (.seq (.reg acy) (.seq (.seq (.reg acx) (.block 0 R4)) (.seq (.reg R1) .ret))))),[.mv (.t 2)]⟩
theorem R3:ax Tryz.prog (af Tryz.prog 93) 93=some x7F:=by kernel_rfl
/-! instruction.Check-/
abbrev acq:List AO:=
 [o1 1 (.bx 54 0 (.t 0)),o1 2 (.mv (ci 0))]
abbrev acp:List AO:=
 [o1 6 (.fa 0 (.t 1)),o1 7 (.ld 1 false (.t 6)),
  (o2 8 70 [.t 7]),
  (mt 5 8),o1 9 (.ext 0 (.t 5)),o1 10 (.ext 1 (.t 5)),o1 3 (.al 146 [.s ⟨#[]⟩,.s ⟨#[]⟩,.s ⟨#[]⟩,.n .u64 0,.b false]),
  (o3 (.st 5 (.t 3) (.t 9))),
  (mt 4 10)]
abbrev aco:List AO:=
 [(mt 12 4),o1 13 (.un .not (.t 12)),
  (mt 11 13)]
abbrev acn:List AO:=
 [o1 2 (.mv (ci 1))]
abbrev acm:List AO:=
 [o1 15 (.fa 1 (.t 1)),o1 16 (.ld 1 false (.t 15)),o1 17 (.cvi .u64 (.t 16)),o1 18 (.fa 3 (.t 3)),o1 19 (.ld 1 false (.t 18)),o1 20 (.bin .geq (.t 17) (.t 19)),
  (mt 14 20)]
abbrev acl:List AO:=
 [o1 2 (.mv (ci 2))]
abbrev acr:AC:=
 (.seq (.reg aco) (.cond (.t 11) (.seq (.reg acn) .ret) (.seq (.reg acm) (.cond (.t 14) (.seq (.reg acl) .ret) .skip))))
abbrev ack:List AO:=
 [o1 2 (.mv (ci 0))]
abbrev x8F:AF:=⟨21,(.seq (.reg acq) (.seq (.reg acp) (.seq (.block 0 acr) (.seq (.reg ack) .ret)))),[.mv (.t 2)]⟩
theorem QC:ax Tryz.prog (af Tryz.prog 94) 94=some x8F:=by kernel_rfl
/-! instruction.known-/
abbrev acj:List AO:=
 [o1 2 (.al 146 [.s ⟨#[]⟩,.s ⟨#[]⟩,.s ⟨#[]⟩,.n .u64 0,.b false]),o1 3 (.mv (.c (.b false)))]
abbrev aci:List AO:=
 [(mt 4 0),o1 5 (.bin .lss (.t 4) (ci 0)),
  (mt 6 5),
  (o4 7 6 (.mv (.t 0))),
  (o4 8 6 (.bin .geq (.t 7) (ci 36))),o1 9 (.pick (.t 6) (.c (.b true)) (.t 8))]
abbrev ach:List AO:=
 [o1 10 (.bd [.s ⟨#[]⟩,.s ⟨#[]⟩,.s ⟨#[]⟩,.n .u64 0,.b false] []),
  (o3 (.st 5 (.t 2) (.t 10))),o1 3 (.mv (.c (.b false)))]
abbrev acg:List AO:=
 [(o2 11 97 []),
  (mt 12 0),o1 13 (.ix 36 5 true (.t 11) (.t 12)),
  (o3 (.st 5 (.t 2) (.t 13))),o1 3 (.mv (.c (.b true)))]
abbrev x9F:AF:=⟨14,(.seq (.reg acj) (.seq (.seq (.reg aci) (.cond (.t 9) (.seq (.reg ach) .ret) .skip)) (.seq (.reg acg) .ret))),[.ld 5 true (.t 2),.mv (.t 3)]⟩
theorem Bc:ax Tryz.prog (af Tryz.prog 70) 70=some x9F:=by kernel_rfl
/-! instruction.operations-/
abbrev aaK:List AO:=
 [o1 0 (.al 189 [.s ⟨#[]⟩,.s ⟨#[]⟩,.s ⟨#[]⟩,.n .u64 0,.b false,.s ⟨#[]⟩,.s ⟨#[]⟩,.s ⟨#[]⟩,.n .u64 0,.b false,.s ⟨#[]⟩,.s ⟨#[]⟩,.s ⟨#[]⟩,.n .u64 0,.b false,.s ⟨#[]⟩,.s ⟨#[]⟩,.s ⟨#[]⟩,.n .u64 0,.b false,.s ⟨#[]⟩,.s ⟨#[]⟩,.s ⟨#[]⟩,.n .u64 0,.b false,.s ⟨#[]⟩,.s ⟨#[]⟩,.s ⟨#[]⟩,.n .u64 0,.b false,.s ⟨#[]⟩,.s ⟨#[]⟩,.s ⟨#[]⟩,.n .u64 0,.b false,.s ⟨#[]⟩,.s ⟨#[]⟩,.s ⟨#[]⟩,.n .u64 0,.b false,.s ⟨#[]⟩,.s ⟨#[]⟩,.s ⟨#[]⟩,.n .u64 0,.b false,.s ⟨#[]⟩,.s ⟨#[]⟩,.s ⟨#[]⟩,.n .u64 0,.b false,.s ⟨#[]⟩,.s ⟨#[]⟩,.s ⟨#[]⟩,.n .u64 0,.b false,.s ⟨#[]⟩,.s ⟨#[]⟩,.s ⟨#[]⟩,.n .u64 0,.b false,.s ⟨#[]⟩,.s ⟨#[]⟩,.s ⟨#[]⟩,.n .u64 0,.b false,.s ⟨#[]⟩,.s ⟨#[]⟩,.s ⟨#[]⟩,.n .u64 0,.b false,.s ⟨#[]⟩,.s ⟨#[]⟩,.s ⟨#[]⟩,.n .u64 0,.b false,.s ⟨#[]⟩,.s ⟨#[]⟩,.s ⟨#[]⟩,.n .u64 0,.b false,.s ⟨#[]⟩,.s ⟨#[]⟩,.s ⟨#[]⟩,.n .u64 0,.b false,.s ⟨#[]⟩,.s ⟨#[]⟩,.s ⟨#[]⟩,.n .u64 0,.b false,.s ⟨#[]⟩,.s ⟨#[]⟩,.s ⟨#[]⟩,.n .u64 0,.b false,.s ⟨#[]⟩,.s ⟨#[]⟩,.s ⟨#[]⟩,.n .u64 0,.b false,.s ⟨#[]⟩,.s ⟨#[]⟩,.s ⟨#[]⟩,.n .u64 0,.b false,.s ⟨#[]⟩,.s ⟨#[]⟩,.s ⟨#[]⟩,.n .u64 0,.b false,.s ⟨#[]⟩,.s ⟨#[]⟩,.s ⟨#[]⟩,.n .u64 0,.b false,.s ⟨#[]⟩,.s ⟨#[]⟩,.s ⟨#[]⟩,.n .u64 0,.b false,.s ⟨#[]⟩,.s ⟨#[]⟩,.s ⟨#[]⟩,.n .u64 0,.b false,.s ⟨#[]⟩,.s ⟨#[]⟩,.s ⟨#[]⟩,.n .u64 0,.b false,.s ⟨#[]⟩,.s ⟨#[]⟩,.s ⟨#[]⟩,.n .u64 0,.b false,.s ⟨#[]⟩,.s ⟨#[]⟩,.s ⟨#[]⟩,.n .u64 0,.b false,.s ⟨#[]⟩,.s ⟨#[]⟩,.s ⟨#[]⟩,.n .u64 0,.b false,.s ⟨#[]⟩,.s ⟨#[]⟩,.s ⟨#[]⟩,.n .u64 0,.b false,.s ⟨#[]⟩,.s ⟨#[]⟩,.s ⟨#[]⟩,.n .u64 0,.b false,.s ⟨#[]⟩,.s ⟨#[]⟩,.s ⟨#[]⟩,.n .u64 0,.b false,.s ⟨#[]⟩,.s ⟨#[]⟩,.s ⟨#[]⟩,.n .u64 0,.b false,.s ⟨#[]⟩,.s ⟨#[]⟩,.s ⟨#[]⟩,.n .u64 0,.b false,.s ⟨#[]⟩,.s ⟨#[]⟩,.s ⟨#[]⟩,.n .u64 0,.b false,.s ⟨#[]⟩,.s ⟨#[]⟩,.s ⟨#[]⟩,.n .u64 0,.b false])]
abbrev aaJ:List AO:=
 [o1 1 (.mv (.c (.f 131 [] [])))]
abbrev aaI:List AO:=
 [o1 2 (.mv (.c (.f 132 [] [])))]
abbrev aaH:List AO:=
 [o1 3 (.bd [.s ⟨#[]⟩,.s ⟨#[]⟩,.s ⟨#[]⟩,.n .u64 0,.b false] [(0,1,(.c (.s ⟨#[112,117,115,104]⟩))),(1,1,(.c (.s ⟨#[]⟩))),(2,1,(.c (.s ⟨#[110]⟩))),(3,1,(.c (.n .u64 4294967296))),(4,1,(.c (.b true)))]),o1 4 (.bd [.s ⟨#[]⟩,.s ⟨#[]⟩,.s ⟨#[]⟩,.n .u64 0,.b false] [(0,1,(.c (.s ⟨#[108,111,97,100]⟩))),(1,1,(.c (.s ⟨#[]⟩))),(2,1,(.c (.s ⟨#[110]⟩))),(3,1,(.c (.n .u64 16))),(4,1,(.c (.b true)))]),o1 5 (.bd [.s ⟨#[]⟩,.s ⟨#[]⟩,.s ⟨#[]⟩,.n .u64 0,.b false] [(0,1,(.c (.s ⟨#[115,116,111,114,101]⟩))),(1,1,(.c (.s ⟨#[110]⟩))),(2,1,(.c (.s ⟨#[]⟩))),(3,1,(.c (.n .u64 16))),(4,1,(.c (.b true)))]),o1 6 (.bd [.s ⟨#[]⟩,.s ⟨#[]⟩,.s ⟨#[]⟩,.n .u64 0,.b false] [(0,1,(.c (.s ⟨#[103,101,116]⟩))),(1,1,(.c (.s ⟨#[110]⟩))),(2,1,(.c (.s ⟨#[110]⟩))),(3,1,(.c (.n .u64 8))),(4,1,(.c (.b true)))]),o1 7 (.bd [.s ⟨#[]⟩,.s ⟨#[]⟩,.s ⟨#[]⟩,.n .u64 0,.b false] [(0,1,(.c (.s ⟨#[112,117,116]⟩))),(1,1,(.c (.s ⟨#[110,110]⟩))),(2,1,(.c (.s ⟨#[]⟩))),(3,1,(.c (.n .u64 8))),(4,1,(.c (.b true)))]),
  (mt 8 2),⟨some 9,none,.cl (.t 8) [(.c (.s ⟨#[100,117,112]⟩)),(.c (.s ⟨#[97]⟩)),(.c (.s ⟨#[97,97]⟩))]⟩,
  (mt 10 2),⟨some 11,none,.cl (.t 10) [(.c (.s ⟨#[100,114,111,112]⟩)),(.c (.s ⟨#[97]⟩)),(.c (.s ⟨#[]⟩))]⟩,
  (mt 12 2),⟨some 13,none,.cl (.t 12) [(.c (.s ⟨#[115,119,97,112]⟩)),(.c (.s ⟨#[97,98]⟩)),(.c (.s ⟨#[98,97]⟩))]⟩,
  (mt 14 1),⟨some 15,none,.cl (.t 14) [(.c (.s ⟨#[97,100,100]⟩))]⟩,
  (mt 16 1),⟨some 17,none,.cl (.t 16) [(.c (.s ⟨#[115,117,98]⟩))]⟩,
  (mt 18 1),⟨some 19,none,.cl (.t 18) [(.c (.s ⟨#[109,117,108]⟩))]⟩,
  (mt 20 1),⟨some 21,none,.cl (.t 20) [(.c (.s ⟨#[100,105,118]⟩))]⟩,
  (mt 22 1),⟨some 23,none,.cl (.t 22) [(.c (.s ⟨#[109,111,100]⟩))]⟩,
  (mt 24 1),⟨some 25,none,.cl (.t 24) [(.c (.s ⟨#[97,110,100]⟩))]⟩,
  (mt 26 1),⟨some 27,none,.cl (.t 26) [(.c (.s ⟨#[111,114]⟩))]⟩,
  (mt 28 1),⟨some 29,none,.cl (.t 28) [(.c (.s ⟨#[120,111,114]⟩))]⟩,
  (mt 30 1),⟨some 31,none,.cl (.t 30) [(.c (.s ⟨#[115,104,108]⟩))]⟩,
  (mt 32 1),⟨some 33,none,.cl (.t 32) [(.c (.s ⟨#[115,104,114]⟩))]⟩,
  (mt 34 1),⟨some 35,none,.cl (.t 34) [(.c (.s ⟨#[109,105,110]⟩))]⟩,
  (mt 36 1),⟨some 37,none,.cl (.t 36) [(.c (.s ⟨#[109,97,120]⟩))]⟩,
  (mt 38 1),⟨some 39,none,.cl (.t 38) [(.c (.s ⟨#[104,97,115,104]⟩))]⟩,
  (mt 40 2),⟨some 41,none,.cl (.t 40) [(.c (.s ⟨#[101,113]⟩)),(.c (.s ⟨#[110,110]⟩)),(.c (.s ⟨#[116]⟩))]⟩,
  (mt 42 2),⟨some 43,none,.cl (.t 42) [(.c (.s ⟨#[108,101,115,115]⟩)),(.c (.s ⟨#[110,110]⟩)),(.c (.s ⟨#[116]⟩))]⟩,
  (mt 44 2),⟨some 45,none,.cl (.t 44) [(.c (.s ⟨#[110,111,116]⟩)),(.c (.s ⟨#[116]⟩)),(.c (.s ⟨#[116]⟩))]⟩,
  (mt 46 2),⟨some 47,none,.cl (.t 46) [(.c (.s ⟨#[98,111,116,104]⟩)),(.c (.s ⟨#[116,116]⟩)),(.c (.s ⟨#[116]⟩))]⟩,
  (mt 48 2),⟨some 49,none,.cl (.t 48) [(.c (.s ⟨#[101,105,116,104,101,114]⟩)),(.c (.s ⟨#[116,116]⟩)),(.c (.s ⟨#[116]⟩))]⟩,
  (mt 50 2),⟨some 51,none,.cl (.t 50) [(.c (.s ⟨#[105,110,116]⟩)),(.c (.s ⟨#[116]⟩)),(.c (.s ⟨#[110]⟩))]⟩,
  (mt 52 2),⟨some 53,none,.cl (.t 52) [(.c (.s ⟨#[105,102]⟩)),(.c (.s ⟨#[116]⟩)),(.c (.s ⟨#[]⟩))]⟩,
  (mt 54 2),⟨some 55,none,.cl (.t 54) [(.c (.s ⟨#[101,108,115,101]⟩)),(.c (.s ⟨#[]⟩)),(.c (.s ⟨#[]⟩))]⟩,
  (mt 56 2),⟨some 57,none,.cl (.t 56) [(.c (.s ⟨#[108,111,111,112]⟩)),(.c (.s ⟨#[110]⟩)),(.c (.s ⟨#[]⟩))]⟩,
  (mt 58 2),⟨some 59,none,.cl (.t 58) [(.c (.s ⟨#[108,101,97,118,101]⟩)),(.c (.s ⟨#[116]⟩)),(.c (.s ⟨#[]⟩))]⟩,
  (mt 60 2),⟨some 61,none,.cl (.t 60) [(.c (.s ⟨#[101,110,100]⟩)),(.c (.s ⟨#[]⟩)),(.c (.s ⟨#[]⟩))]⟩,
  (mt 62 2),⟨some 63,none,.cl (.t 62) [(.c (.s ⟨#[105,110,112,117,116]⟩)),(.c (.s ⟨#[]⟩)),(.c (.s ⟨#[110]⟩))]⟩,
  (mt 64 2),⟨some 65,none,.cl (.t 64) [(.c (.s ⟨#[101,110,100,101,100]⟩)),(.c (.s ⟨#[]⟩)),(.c (.s ⟨#[116]⟩))]⟩,
  (mt 66 2),⟨some 67,none,.cl (.t 66) [(.c (.s ⟨#[101,109,105,116]⟩)),(.c (.s ⟨#[110]⟩)),(.c (.s ⟨#[]⟩))]⟩,o1 68 (.bd [.s ⟨#[]⟩,.s ⟨#[]⟩,.s ⟨#[]⟩,.n .u64 0,.b false] [(0,1,(.c (.s ⟨#[99,111,110,116,101,120,116]⟩))),(1,1,(.c (.s ⟨#[110]⟩))),(2,1,(.c (.s ⟨#[]⟩))),(3,1,(.c (.n .u64 16))),(4,1,(.c (.b true)))]),o1 69 (.bd [.s ⟨#[]⟩,.s ⟨#[]⟩,.s ⟨#[]⟩,.n .u64 0,.b false,.s ⟨#[]⟩,.s ⟨#[]⟩,.s ⟨#[]⟩,.n .u64 0,.b false,.s ⟨#[]⟩,.s ⟨#[]⟩,.s ⟨#[]⟩,.n .u64 0,.b false,.s ⟨#[]⟩,.s ⟨#[]⟩,.s ⟨#[]⟩,.n .u64 0,.b false,.s ⟨#[]⟩,.s ⟨#[]⟩,.s ⟨#[]⟩,.n .u64 0,.b false,.s ⟨#[]⟩,.s ⟨#[]⟩,.s ⟨#[]⟩,.n .u64 0,.b false,.s ⟨#[]⟩,.s ⟨#[]⟩,.s ⟨#[]⟩,.n .u64 0,.b false,.s ⟨#[]⟩,.s ⟨#[]⟩,.s ⟨#[]⟩,.n .u64 0,.b false,.s ⟨#[]⟩,.s ⟨#[]⟩,.s ⟨#[]⟩,.n .u64 0,.b false,.s ⟨#[]⟩,.s ⟨#[]⟩,.s ⟨#[]⟩,.n .u64 0,.b false,.s ⟨#[]⟩,.s ⟨#[]⟩,.s ⟨#[]⟩,.n .u64 0,.b false,.s ⟨#[]⟩,.s ⟨#[]⟩,.s ⟨#[]⟩,.n .u64 0,.b false,.s ⟨#[]⟩,.s ⟨#[]⟩,.s ⟨#[]⟩,.n .u64 0,.b false,.s ⟨#[]⟩,.s ⟨#[]⟩,.s ⟨#[]⟩,.n .u64 0,.b false,.s ⟨#[]⟩,.s ⟨#[]⟩,.s ⟨#[]⟩,.n .u64 0,.b false,.s ⟨#[]⟩,.s ⟨#[]⟩,.s ⟨#[]⟩,.n .u64 0,.b false,.s ⟨#[]⟩,.s ⟨#[]⟩,.s ⟨#[]⟩,.n .u64 0,.b false,.s ⟨#[]⟩,.s ⟨#[]⟩,.s ⟨#[]⟩,.n .u64 0,.b false,.s ⟨#[]⟩,.s ⟨#[]⟩,.s ⟨#[]⟩,.n .u64 0,.b false,.s ⟨#[]⟩,.s ⟨#[]⟩,.s ⟨#[]⟩,.n .u64 0,.b false,.s ⟨#[]⟩,.s ⟨#[]⟩,.s ⟨#[]⟩,.n .u64 0,.b false,.s ⟨#[]⟩,.s ⟨#[]⟩,.s ⟨#[]⟩,.n .u64 0,.b false,.s ⟨#[]⟩,.s ⟨#[]⟩,.s ⟨#[]⟩,.n .u64 0,.b false,.s ⟨#[]⟩,.s ⟨#[]⟩,.s ⟨#[]⟩,.n .u64 0,.b false,.s ⟨#[]⟩,.s ⟨#[]⟩,.s ⟨#[]⟩,.n .u64 0,.b false,.s ⟨#[]⟩,.s ⟨#[]⟩,.s ⟨#[]⟩,.n .u64 0,.b false,.s ⟨#[]⟩,.s ⟨#[]⟩,.s ⟨#[]⟩,.n .u64 0,.b false,.s ⟨#[]⟩,.s ⟨#[]⟩,.s ⟨#[]⟩,.n .u64 0,.b false,.s ⟨#[]⟩,.s ⟨#[]⟩,.s ⟨#[]⟩,.n .u64 0,.b false,.s ⟨#[]⟩,.s ⟨#[]⟩,.s ⟨#[]⟩,.n .u64 0,.b false,.s ⟨#[]⟩,.s ⟨#[]⟩,.s ⟨#[]⟩,.n .u64 0,.b false,.s ⟨#[]⟩,.s ⟨#[]⟩,.s ⟨#[]⟩,.n .u64 0,.b false,.s ⟨#[]⟩,.s ⟨#[]⟩,.s ⟨#[]⟩,.n .u64 0,.b false,.s ⟨#[]⟩,.s ⟨#[]⟩,.s ⟨#[]⟩,.n .u64 0,.b false,.s ⟨#[]⟩,.s ⟨#[]⟩,.s ⟨#[]⟩,.n .u64 0,.b false,.s ⟨#[]⟩,.s ⟨#[]⟩,.s ⟨#[]⟩,.n .u64 0,.b false] [(0,5,(.t 3)),(5,5,(.t 4)),(10,5,(.t 5)),(15,5,(.t 6)),(20,5,(.t 7)),(25,5,(.t 9)),(30,5,(.t 11)),(35,5,(.t 13)),(40,5,(.t 15)),(45,5,(.t 17)),(50,5,(.t 19)),(55,5,(.t 21)),(60,5,(.t 23)),(65,5,(.t 25)),(70,5,(.t 27)),(75,5,(.t 29)),(80,5,(.t 31)),(85,5,(.t 33)),(90,5,(.t 35)),(95,5,(.t 37)),(100,5,(.t 39)),(105,5,(.t 41)),(110,5,(.t 43)),(115,5,(.t 45)),(120,5,(.t 47)),(125,5,(.t 49)),(130,5,(.t 51)),(135,5,(.t 53)),(140,5,(.t 55)),(145,5,(.t 57)),(150,5,(.t 59)),(155,5,(.t 61)),(160,5,(.t 63)),(165,5,(.t 65)),(170,5,(.t 67)),(175,5,(.t 68))]),
  (o3 (.st 180 (.t 0) (.t 69)))]
abbrev aaM:AF:=⟨70,(.seq (.reg aaK) (.seq (.reg aaJ) (.seq (.reg aaI) (.seq (.reg aaH) .ret)))),[.ld 180 true (.t 0)]⟩
theorem aaL:ax Tryz.prog (af Tryz.prog 97) 97=some aaM:=by kernel_rfl
/-! wire.PutInt-/
abbrev aaF:List AO:=
 [o1 4 (.mv (.c .sl0))]
abbrev aaE:List AO:=
 [(mt 5 0),
  (o2 6 96 [.t 5]),
  (mt 7 1),
  (o2 8 95 [.t 6,.t 7]),
  (mt 4 8)]
abbrev aaG:AF:=⟨9,(.seq (.reg aaF) (.seq (.reg aaE) .ret)),[.mv (.t 4)]⟩
theorem Ew:ax Tryz.prog (af Tryz.prog 68) 68=some aaG:=by kernel_rfl
/-! slices.Clone[[]byte,byte]-/
abbrev aaC:List AO:=
 [o1 2 (.mv (.c .sl0))]
abbrev aaB:List AO:=
 [(mt 3 0),⟨some 4,none,.sn false (.t 3)⟩]
abbrev aaA:List AO:=
 [o1 2 (.mv (.c .sl0))]
abbrev aaz:List AO:=
 [o1 5 (.bs 5 1 0 [] []),
  (mt 6 0),o1 7 (.app 5 1 1 (.t 5) (.t 6)),
  (mt 2 7)]
abbrev aaD:AF:=⟨8,(.seq (.reg aaC) (.seq (.seq (.reg aaB) (.cond (.t 4) (.seq (.reg aaA) .ret) .skip)) (.seq (.reg aaz) .ret))),[.mv (.t 2)]⟩
theorem Ej:ax Tryz.prog (af Tryz.prog 96) 96=some aaD:=by kernel_rfl
/-! wire.put-/
abbrev aav:List AO:=
 [o1 4 (.mv (.c .sl0))]
abbrev aau:List AO:=
 [(mt 8 1),
  (o2 9 129 [.t 8]),
  (mt 1 9)]
abbrev aat:List AO:=
 [(mt 10 1),
  (o2 11 130 [.t 10]),
  (mt 5 11)]
abbrev aas:List AO:=
 [(mt 12 5),o1 13 (.bin .sub (ci 8) (.t 12)),o1 14 (.bin .shl (.c (.n .u8 255)) (.t 13)),
  (mt 6 14)]
abbrev aar:List AO:=
 [(mt 15 0),
  (mt 16 6),
  (mt 17 1),
  (mt 18 5),o1 19 (.bin .mul (ci 8) (.t 18)),o1 20 (.bin .shr (.t 17) (.t 19)),o1 21 (.cvi .u8 (.t 20)),o1 22 (.bin .or (.t 16) (.t 21)),o1 23 (.bs 5 1 1 [.n .u8 0] [(0,1,(.t 22))]),o1 24 (.app 5 1 1 (.t 15) (.t 23)),
  (mt 0 24)]
abbrev aaq:List AO:=
 [(mt 25 5),o1 26 (.bin .sub (.t 25) (ci 1)),
  (mt 7 26)]
abbrev aap:List AO:=
 [(mt 27 7),o1 28 (.bin .geq (.t 27) (ci 0))]
abbrev aao:List AO:=
 [(mt 31 0),
  (mt 32 1),
  (mt 33 7),o1 34 (.bin .mul (ci 8) (.t 33)),o1 35 (.bin .shr (.t 32) (.t 34)),o1 36 (.cvi .u8 (.t 35)),o1 37 (.bs 5 1 1 [.n .u8 0] [(0,1,(.t 36))]),o1 38 (.app 5 1 1 (.t 31) (.t 37)),
  (mt 0 38)]
abbrev aaw:AC:=
 (.reg aao)
abbrev aan:List AO:=
 [(mt 29 7),o1 30 (.bin .sub (.t 29) (ci 1)),
  (mt 7 30)]
abbrev Kv:AC:=
 (.seq (.seq (.reg aap) (.cond (.t 28) .skip (.exit 0))) (.seq (.block 1 aaw) (.reg aan)))
abbrev Ku:AC:=
 (.loop Kv)
abbrev Kt:List AO:=
 [(mt 39 0),
  (mt 4 39)]
abbrev aax:AF:=⟨40,(.seq (.reg aav) (.seq (.reg aau) (.seq (.reg aat) (.seq (.reg aas) (.seq (.reg aar) (.seq (.seq (.reg aaq) (.block 0 Ku)) (.seq (.reg Kt) .ret))))))),[.mv (.t 4)]⟩
theorem Eb:ax Tryz.prog (af Tryz.prog 95) 95=some aax:=by kernel_rfl
/-! wire.number-/
abbrev aal:List AO:=
 [o1 2 (.mv (ci 0))]
abbrev aak:List AO:=
 [(mt 3 0),o1 4 (.bin .lss (.t 3) (ci 0)),
  (mt 5 4),
  (o4 6 5 (.mv (.t 0))),
  (o4 7 5 (.bin .gtr (.t 6) (ci 9007199254740991))),o1 8 (.pick (.t 5) (.c (.b true)) (.t 7))]
abbrev aaj:List AO:=
 [o1 2 (.mv (ci 0))]
abbrev aai:List AO:=
 [(mt 9 0),
  (mt 2 9)]
abbrev aam:AF:=⟨10,(.seq (.reg aal) (.seq (.seq (.reg aak) (.cond (.t 8) (.seq (.reg aaj) .ret) .skip)) (.seq (.reg aai) .ret))),[.mv (.t 2)]⟩
theorem Ea:ax Tryz.prog (af Tryz.prog 129) 129=some aam:=by kernel_rfl
/-! wire.further-/
abbrev aag:List AO:=
 [o1 2 (.mv (ci 0))]
abbrev aaf:List AO:=
 [(mt 3 0),o1 4 (.cvi .u64 (.t 3)),
  (o2 5 175 [.t 4]),o1 6 (.bin .sub (.t 5) (ci 1)),⟨some 7,none,.mo (.mx (ci 0) (.t 6))⟩,o1 8 (.bin .quo (.t 7) (ci 7)),
  (mt 2 8)]
abbrev aah:AF:=⟨9,(.seq (.reg aag) (.seq (.reg aaf) .ret)),[.mv (.t 2)]⟩
theorem D9:ax Tryz.prog (af Tryz.prog 130) 130=some aah:=by kernel_rfl
/-! math/bits.Len-/
abbrev aad:List AO:=
 [o1 2 (.mv (ci 0))]
abbrev aac:List AO:=
 [(mt 3 0),o1 4 (.cvi .u32 (.t 3)),
  (o2 5 200 [.t 4]),
  (mt 2 5)]
abbrev aab:List AO:=
 [(mt 6 0),
  (o2 7 201 [.t 6]),
  (mt 2 7)]
abbrev aae:AF:=⟨8,(.seq (.reg aad) (.seq (.cond (.c (.b false)) (.seq (.reg aac) .ret) .skip) (.seq (.reg aab) .ret))),[.mv (.t 2)]⟩
theorem D8:ax Tryz.prog (af Tryz.prog 175) 175=some aae:=by kernel_rfl
/-! math/bits.Len32-/
abbrev Z8:List AO:=
 [o1 2 (.mv (ci 0))]
abbrev Z7:List AO:=
 [(mt 3 0),o1 4 (.bin .geq (.t 3) (.c (.n .u32 65536)))]
abbrev Z6:List AO:=
 [(mt 5 0),o1 6 (.bin .shr (.t 5) (.c (.n .u64 16))),
  (mt 0 6)]
abbrev Z5:List AO:=
 [o1 2 (.mv (ci 16))]
abbrev Z4:List AO:=
 [(mt 7 0),o1 8 (.bin .geq (.t 7) (.c (.n .u32 256)))]
abbrev Z3:List AO:=
 [(mt 9 0),o1 10 (.bin .shr (.t 9) (.c (.n .u64 8))),
  (mt 0 10)]
abbrev Z2:List AO:=
 [(mt 11 2),o1 12 (.bin .add (.t 11) (ci 8)),
  (mt 2 12)]
abbrev Z1:List AO:=
 [(mt 13 2),
  (mt 14 0),o1 15 (.cvi .u8 (.t 14)),o1 16 (.sx (.c (.s ⟨#[0,1,2,2,3,3,3,3,4,4,4,4,4,4,4,4,5,5,5,5,5,5,5,5,5,5,5,5,5,5,5,5,6,6,6,6,6,6,6,6,6,6,6,6,6,6,6,6,6,6,6,6,6,6,6,6,6,6,6,6,6,6,6,6,7,7,7,7,7,7,7,7,7,7,7,7,7,7,7,7,7,7,7,7,7,7,7,7,7,7,7,7,7,7,7,7,7,7,7,7,7,7,7,7,7,7,7,7,7,7,7,7,7,7,7,7,7,7,7,7,7,7,7,7,7,7,7,7,8,8,8,8,8,8,8,8,8,8,8,8,8,8,8,8,8,8,8,8,8,8,8,8,8,8,8,8,8,8,8,8,8,8,8,8,8,8,8,8,8,8,8,8,8,8,8,8,8,8,8,8,8,8,8,8,8,8,8,8,8,8,8,8,8,8,8,8,8,8,8,8,8,8,8,8,8,8,8,8,8,8,8,8,8,8,8,8,8,8,8,8,8,8,8,8,8,8,8,8,8,8,8,8,8,8,8,8,8,8,8,8,8,8,8,8,8,8,8,8,8,8,8,8,8,8,8,8]⟩)) (.t 15)),o1 17 (.cvi .i64 (.t 16)),o1 18 (.bin .add (.t 13) (.t 17)),
  (mt 2 18)]
abbrev aaa:AF:=⟨19,(.seq (.reg Z8) (.seq (.seq (.reg Z7) (.cond (.t 4) (.seq (.reg Z6) (.reg Z5)) .skip)) (.seq (.seq (.reg Z4) (.cond (.t 8) (.seq (.reg Z3) (.reg Z2)) .skip)) (.seq (.reg Z1) .ret)))),[.mv (.t 2)]⟩
theorem Z9:ax Tryz.prog (af Tryz.prog 200) 200=some aaa:=by kernel_rfl
/-! math/bits.Len64-/
abbrev ZZ:List AO:=
 [o1 2 (.mv (ci 0))]
abbrev ZY:List AO:=
 [(mt 3 0),o1 4 (.bin .geq (.t 3) (.c (.n .u64 4294967296)))]
abbrev ZX:List AO:=
 [(mt 5 0),o1 6 (.bin .shr (.t 5) (.c (.n .u64 32))),
  (mt 0 6)]
abbrev ZW:List AO:=
 [o1 2 (.mv (ci 32))]
abbrev ZV:List AO:=
 [(mt 7 0),o1 8 (.bin .geq (.t 7) (.c (.n .u64 65536)))]
abbrev ZU:List AO:=
 [(mt 9 0),o1 10 (.bin .shr (.t 9) (.c (.n .u64 16))),
  (mt 0 10)]
abbrev ZT:List AO:=
 [(mt 11 2),o1 12 (.bin .add (.t 11) (ci 16)),
  (mt 2 12)]
abbrev ZS:List AO:=
 [(mt 13 0),o1 14 (.bin .geq (.t 13) (.c (.n .u64 256)))]
abbrev ZR:List AO:=
 [(mt 15 0),o1 16 (.bin .shr (.t 15) (.c (.n .u64 8))),
  (mt 0 16)]
abbrev ZQ:List AO:=
 [(mt 17 2),o1 18 (.bin .add (.t 17) (ci 8)),
  (mt 2 18)]
abbrev xf:List AO:=
 [(mt 19 2),
  (mt 20 0),o1 21 (.cvi .u8 (.t 20)),o1 22 (.sx (.c (.s ⟨#[0,1,2,2,3,3,3,3,4,4,4,4,4,4,4,4,5,5,5,5,5,5,5,5,5,5,5,5,5,5,5,5,6,6,6,6,6,6,6,6,6,6,6,6,6,6,6,6,6,6,6,6,6,6,6,6,6,6,6,6,6,6,6,6,7,7,7,7,7,7,7,7,7,7,7,7,7,7,7,7,7,7,7,7,7,7,7,7,7,7,7,7,7,7,7,7,7,7,7,7,7,7,7,7,7,7,7,7,7,7,7,7,7,7,7,7,7,7,7,7,7,7,7,7,7,7,7,7,8,8,8,8,8,8,8,8,8,8,8,8,8,8,8,8,8,8,8,8,8,8,8,8,8,8,8,8,8,8,8,8,8,8,8,8,8,8,8,8,8,8,8,8,8,8,8,8,8,8,8,8,8,8,8,8,8,8,8,8,8,8,8,8,8,8,8,8,8,8,8,8,8,8,8,8,8,8,8,8,8,8,8,8,8,8,8,8,8,8,8,8,8,8,8,8,8,8,8,8,8,8,8,8,8,8,8,8,8,8,8,8,8,8,8,8,8,8,8,8,8,8,8,8,8,8,8,8]⟩)) (.t 21)),o1 23 (.cvi .i64 (.t 22)),o1 24 (.bin .add (.t 19) (.t 23)),
  (mt 2 24)]
abbrev Z0:AF:=⟨25,(.seq (.reg ZZ) (.seq (.seq (.reg ZY) (.cond (.t 4) (.seq (.reg ZX) (.reg ZW)) .skip)) (.seq (.seq (.reg ZV) (.cond (.t 8) (.seq (.reg ZU) (.reg ZT)) .skip)) (.seq (.seq (.reg ZS) (.cond (.t 14) (.seq (.reg ZR) (.reg ZQ)) .skip)) (.seq (.reg xf) .ret))))),[.mv (.t 2)]⟩
theorem D7:ax Tryz.prog (af Tryz.prog 201) 201=some Z0:=by kernel_rfl
/-! instruction.flag-/
abbrev ZO:List AO:=
 [o1 2 (.mv (.c (.n .u32 0)))]
abbrev ZN:List AO:=
 [(mt 3 0)]
abbrev ZM:List AO:=
 [o1 2 (.mv (.c (.n .u32 1)))]
abbrev ZL:List AO:=
 [o1 2 (.mv (.c (.n .u32 0)))]
abbrev ZP:AF:=⟨4,(.seq (.reg ZO) (.seq (.seq (.reg ZN) (.cond (.t 3) (.seq (.reg ZM) .ret) .skip)) (.seq (.reg ZL) .ret))),[.mv (.t 2)]⟩
theorem D6:ax Tryz.prog (af Tryz.prog 69) 69=some ZP:=by kernel_rfl
/-! flow.Parse-/
abbrev ZE:List AO:=
 [o1 2 (.mv (.c .sl0)),o1 3 (.al 3 [.n .i64 0]),o1 4 (.al 30 [.n .i64 0])]
abbrev ZD:List AO:=
 []
abbrev ZC:List AO:=
 [(mt 5 0),
  (o2 6 83 [.t 5]),
  (o2 7 84 [.t 6]),
  (mt 2 7),
  (o3 (.st 1 (.t 3) (ci 0))),
  (o3 (.st 1 (.t 4) (ci 0)))]
abbrev ZG:AF:=⟨8,(.seq (.reg ZE) (.seq (.dfr ZD (.c (.f 82 [] [])) [.t 3,.t 4]) (.seq (.reg ZC) .ret))),[.mv (.t 2),.ld 1 false (.t 3),.ld 1 false (.t 4)]⟩
theorem ZF:ax Tryz.prog (af Tryz.prog 50) 50=some ZG:=by kernel_rfl
/-! flow.begin-/
abbrev ZA:List AO:=
 [o1 2 (.mv (.c .p0))]
abbrev Zz:List AO:=
 [(mt 3 0),o1 4 (.len (.t 3)),o1 5 (.bin .leq (.t 4) (ci 1024)),
  (o2 6 115 [.t 5,(ci 0),(ci 6)])]
abbrev Zy:List AO:=
 [(mt 7 0),o1 8 (.bs 3 1 1 [.n .i64 0] [(0,1,(.c (.n .i64 (-1))))]),
  (mt 9 0),o1 10 (.len (.t 9)),
  (o2 11 116 [.t 8,.t 10]),o1 12 (.bd [.sl0,.n .i64 0,.sl0] [(0,1,(.t 7)),(2,1,(.t 11))]),o1 13 (.bx 173 0 (.t 12)),
  (mt 2 13)]
abbrev ZB:AF:=⟨14,(.seq (.reg ZA) (.seq (.reg Zz) (.seq (.reg Zy) .ret))),[.mv (.t 2)]⟩
theorem D5:ax Tryz.prog (af Tryz.prog 83) 83=some ZB:=by kernel_rfl
/-! flow.demand-/
abbrev Zw:List AO:=
 [(mt 6 0),o1 7 (.un .not (.t 6))]
abbrev Zx:AF:=⟨12,(.seq (.reg Zw) (.cond (.t 7) .die .skip)),[]⟩
theorem D4:ax Tryz.prog (af Tryz.prog 115) 115=some Zx:=by kernel_rfl
/-! slices.Repeat[[]int,int]-/
abbrev Zs:List AO:=
 [o1 4 (.mv (.c .sl0))]
abbrev Zr:List AO:=
 [(mt 9 1),o1 10 (.bin .lss (.t 9) (ci 0))]
abbrev Zq:List AO:=
 [(mt 13 0),o1 14 (.len (.t 13)),o1 15 (.cvi .u64 (.t 14)),
  (mt 16 1),o1 17 (.cvi .u64 (.t 16)),
  (o2 18 85 [.t 15,.t 17]),
  (mt 12 18),o1 19 (.ext 0 (.t 12)),o1 20 (.ext 1 (.t 12)),
  (mt 5 19),
  (mt 6 20)]
abbrev Zp:List AO:=
 [(mt 21 5),o1 22 (.bin .gtr (.t 21) (.c (.n .u64 0))),
  (mt 23 22),
  (o4 24 23 (.mv (.t 6))),
  (o4 25 23 (.bin .gtr (.t 24) (.c (.n .u64 9223372036854775807)))),o1 26 (.pick (.t 23) (.c (.b true)) (.t 25))]
abbrev Zo:List AO:=
 [(mt 28 6),o1 29 (.cvi .i64 (.t 28)),o1 30 (.ms 3 1 8 [.n .i64 0] (.t 29) (.t 29)),
  (mt 7 30)]
abbrev Zn:List AO:=
 [(mt 31 7),
  (mt 32 0),⟨some 33,none,.mo (.cp 1 (.t 31) (.t 32))⟩,
  (mt 8 33)]
abbrev Zm:List AO:=
 [(mt 34 8),
  (mt 35 7),o1 36 (.len (.t 35)),o1 37 (.bin .lss (.t 34) (.t 36))]
abbrev Zt:List (Nat×AO):=
 [(2,(mt 38 8)),
  (2,(mt 39 7)),
  (2,(mt 40 8)),(2,(o1 41 (.sl 1 (.t 39) (some (.t 40)) none))),
  (2,(mt 42 7)),
  (2,(mt 43 8)),(2,(o1 44 (.sl 1 (.t 42) none (some (.t 43))))),(3,⟨some 45,none,.mo (.cp 1 (.t 41) (.t 44))⟩),(2,(o1 46 (.bin .add (.t 38) (.t 45)))),
  (2,(mt 8 46))]
abbrev Zu:AC:=
 (.mix Zt)
abbrev D3:AC:=
 (.seq (.seq (.reg Zm) (.cond (.t 37) .skip (.exit 0))) (.block 1 Zu))
abbrev Ks:AC:=
 (.loop D3)
abbrev Kr:List AO:=
 [(mt 47 7),
  (mt 4 47)]
abbrev Zv:AF:=⟨48,(.seq (.reg Zs) (.seq (.seq (.reg Zr) (.cond (.t 10) .die .skip)) (.seq (.reg Zq) (.seq (.seq (.reg Zp) (.cond (.t 26) .die .skip)) (.seq (.reg Zo) (.seq (.reg Zn) (.seq (.block 0 Ks) (.seq (.reg Kr) .ret)))))))),[.mv (.t 4)]⟩
theorem D2:ax Tryz.prog (af Tryz.prog 116) 116=some Zv:=by kernel_rfl
/-! math/bits.Mul-/
abbrev Zk:List AO:=
 [o1 4 (.mv (.c (.n .u64 0))),o1 5 (.mv (.c (.n .u64 0)))]
abbrev Zj:List AO:=
 [(mt 11 0),o1 12 (.cvi .u32 (.t 11)),
  (mt 13 1),o1 14 (.cvi .u32 (.t 13)),
  (o2 15 118 [.t 12,.t 14]),
  (mt 10 15),o1 16 (.ext 0 (.t 10)),o1 17 (.ext 1 (.t 10)),
  (mt 6 16),
  (mt 7 17)]
abbrev Zi:List AO:=
 [(mt 18 6),o1 19 (.cvi .u64 (.t 18)),
  (mt 20 7),o1 21 (.cvi .u64 (.t 20)),
  (mt 4 19),
  (mt 5 21)]
abbrev Zh:List AO:=
 [(mt 23 0),
  (mt 24 1),
  (o2 25 119 [.t 23,.t 24]),
  (mt 22 25),o1 26 (.ext 0 (.t 22)),o1 27 (.ext 1 (.t 22)),
  (mt 8 26),
  (mt 9 27)]
abbrev Zg:List AO:=
 [(mt 28 8),
  (mt 29 9),
  (mt 4 28),
  (mt 5 29)]
abbrev Zl:AF:=⟨30,(.seq (.reg Zk) (.seq (.cond (.c (.b false)) (.seq (.reg Zj) (.seq (.reg Zi) .ret)) .skip) (.seq (.reg Zh) (.seq (.reg Zg) .ret)))),[.mv (.t 4),.mv (.t 5)]⟩
theorem D1:ax Tryz.prog (af Tryz.prog 85) 85=some Zl:=by kernel_rfl
/-! math/bits.Mul32-/
abbrev Zd:List AO:=
 [o1 4 (.mv (.c (.n .u32 0))),o1 5 (.mv (.c (.n .u32 0)))]
abbrev Zc:List AO:=
 [(mt 7 0),o1 8 (.cvi .u64 (.t 7)),
  (mt 9 1),o1 10 (.cvi .u64 (.t 9)),o1 11 (.bin .mul (.t 8) (.t 10)),
  (mt 6 11)]
abbrev Zb:List AO:=
 [(mt 12 6),o1 13 (.bin .shr (.t 12) (.c (.n .u64 32))),o1 14 (.cvi .u32 (.t 13)),
  (mt 15 6),o1 16 (.cvi .u32 (.t 15)),
  (mt 4 14),
  (mt 5 16)]
abbrev Zf:AF:=⟨17,(.seq (.reg Zd) (.seq (.reg Zc) (.seq (.reg Zb) .ret))),[.mv (.t 4),.mv (.t 5)]⟩
theorem Ze:ax Tryz.prog (af Tryz.prog 118) 118=some Zf:=by kernel_rfl
/-! math/bits.Mul64-/
abbrev Y9:List AO:=
 [o1 4 (.mv (.c (.n .u64 0))),o1 5 (.mv (.c (.n .u64 0)))]
abbrev Y8:List AO:=
 [(mt 14 0),o1 15 (.bin .and (.t 14) (.c (.n .u64 4294967295))),
  (mt 6 15)]
abbrev Y7:List AO:=
 [(mt 16 0),o1 17 (.bin .shr (.t 16) (.c (.n .u64 32))),
  (mt 7 17)]
abbrev Y6:List AO:=
 [(mt 18 1),o1 19 (.bin .and (.t 18) (.c (.n .u64 4294967295))),
  (mt 8 19)]
abbrev Y5:List AO:=
 [(mt 20 1),o1 21 (.bin .shr (.t 20) (.c (.n .u64 32))),
  (mt 9 21)]
abbrev Y4:List AO:=
 [(mt 22 6),
  (mt 23 8),o1 24 (.bin .mul (.t 22) (.t 23)),
  (mt 10 24)]
abbrev Y3:List AO:=
 [(mt 25 7),
  (mt 26 8),o1 27 (.bin .mul (.t 25) (.t 26)),
  (mt 28 10),o1 29 (.bin .shr (.t 28) (.c (.n .u64 32))),o1 30 (.bin .add (.t 27) (.t 29)),
  (mt 11 30)]
abbrev Y0:List AO:=
 [(mt 31 11),o1 32 (.bin .and (.t 31) (.c (.n .u64 4294967295))),
  (mt 12 32)]
abbrev YZ:List AO:=
 [(mt 33 11),o1 34 (.bin .shr (.t 33) (.c (.n .u64 32))),
  (mt 13 34)]
abbrev YY:List AO:=
 [(mt 35 12),
  (mt 36 6),
  (mt 37 9),o1 38 (.bin .mul (.t 36) (.t 37)),o1 39 (.bin .add (.t 35) (.t 38)),
  (mt 12 39)]
abbrev Kq:List AO:=
 [(mt 40 7),
  (mt 41 9),o1 42 (.bin .mul (.t 40) (.t 41)),
  (mt 43 13),o1 44 (.bin .add (.t 42) (.t 43)),
  (mt 45 12),o1 46 (.bin .shr (.t 45) (.c (.n .u64 32))),o1 47 (.bin .add (.t 44) (.t 46)),
  (mt 4 47)]
abbrev Kp:List AO:=
 [(mt 48 0),
  (mt 49 1),o1 50 (.bin .mul (.t 48) (.t 49)),
  (mt 5 50)]
abbrev Za:AF:=⟨51,(.seq (.reg Y9) (.seq (.reg Y8) (.seq (.reg Y7) (.seq (.reg Y6) (.seq (.reg Y5) (.seq (.reg Y4) (.seq (.reg Y3) (.seq (.reg Y0) (.seq (.reg YZ) (.seq (.reg YY) (.seq (.reg Kq) (.seq (.reg Kp) .ret)))))))))))),[.mv (.t 4),.mv (.t 5)]⟩
theorem D0:ax Tryz.prog (af Tryz.prog 119) 119=some Za:=by kernel_rfl
/-! flow.reader.whole-/
abbrev YV:List AO:=
 [o1 2 (.mv (.c .sl0))]
abbrev YU:List AO:=
 [(mt 4 0),
  (o2 5 117 [.t 4,(ci 0),(.c .p0)]),
  (mt 3 5)]
abbrev YW:List (Nat×AO):=
 [(2,(mt 6 0)),(2,(o1 7 (.nc (.t 6)))),(2,(o1 8 (.fa 1 (.t 7)))),
  (2,(mt 10 0)),(2,(o1 11 (.nc (.t 10)))),(2,(o1 12 (.fa 0 (.t 11)))),
  (2,(mt 16 0)),(2,(o1 17 (.nc (.t 16)))),(2,(o1 18 (.fa 1 (.t 17)))),(1,(o1 9 (.ld 1 false (.t 8)))),(1,(o1 13 (.ld 1 false (.t 12)))),(2,(o1 14 (.len (.t 13)))),(2,(o1 15 (.bin .eql (.t 9) (.t 14)))),(1,(o1 19 (.ld 1 false (.t 18)))),
  (3,(o2 20 115 [.t 15,.t 19,(ci 15)]))]
abbrev YT:List AO:=
 [(mt 21 3),
  (mt 2 21)]
abbrev YX:AF:=⟨22,(.seq (.reg YV) (.seq (.reg YU) (.seq (.mix YW) (.seq (.reg YT) .ret)))),[.mv (.t 2)]⟩
theorem DZ:ax Tryz.prog (af Tryz.prog 84) 84=some YX:=by kernel_rfl
/-! flow.reader.list-/
abbrev YP:List AO:=
 [o1 6 (.mv (.c .sl0))]
abbrev YO:List AO:=
 [o1 7 (.mv (.c .sl0))]
abbrev YR:List (Nat×AO):=
 [(2,(mt 10 0)),(2,(o1 11 (.nc (.t 10)))),(2,(o1 12 (.fa 1 (.t 11)))),
  (2,(mt 14 0)),(2,(o1 15 (.nc (.t 14)))),(2,(o1 16 (.fa 0 (.t 15)))),(1,(o1 13 (.ld 1 false (.t 12)))),(1,(o1 17 (.ld 1 false (.t 16)))),(2,(o1 18 (.len (.t 17)))),(2,(o1 19 (.bin .lss (.t 13) (.t 18))))]
abbrev YQ:List (Nat×AO):=
 [(2,(mt 20 0)),(2,(o1 21 (.nc (.t 20)))),(2,(o1 22 (.fa 0 (.t 21)))),
  (2,(mt 24 0)),(2,(o1 25 (.nc (.t 24)))),(2,(o1 26 (.fa 1 (.t 25)))),(1,(o1 23 (.ld 1 false (.t 22)))),(1,(o1 27 (.ld 1 false (.t 26)))),(2,(o1 28 (.ia 2 (.t 23) (.t 27)))),(2,(o1 29 (.fa 0 (.t 28)))),(1,(o1 30 (.ld 1 false (.t 29)))),
  (2,(mt 8 30))]
abbrev YN:List AO:=
 [(mt 32 8),o1 33 (.bin .eql (.t 32) (ci 28)),
  (mt 34 33),
  (o4 35 34 (.mv (.t 8))),
  (o4 36 34 (.bin .eql (.t 35) (ci 31))),o1 37 (.pick (.t 34) (.c (.b true)) (.t 36)),
  (mt 31 37)]
abbrev YM:List AO:=
 [(mt 38 7),
  (mt 6 38)]
abbrev YL:List AO:=
 [(mt 40 8),
  (o2 41 169 [.t 40]),
  (mt 39 41)]
abbrev YK:List AO:=
 [(mt 42 7),
  (mt 43 0),
  (mt 44 1),o1 45 (.bin .add (.t 44) (ci 1)),
  (mt 46 2),
  (o2 47 170 [.t 43,.t 45,.t 46]),o1 48 (.bs 140 5 1 [.n .i64 0,.n .i64 0,.n .i64 0,.sl0,.sl0] [(0,5,(.t 47))]),o1 49 (.app 140 5 72 (.t 42) (.t 48)),
  (mt 7 49)]
abbrev YJ:List AO:=
 [(mt 51 8),o1 52 (.bin .eql (.t 51) (ci 30)),
  (mt 50 52)]
abbrev YI:List AO:=
 [(mt 53 2),o1 54 (.eq true .p (.t 53) (.c .p0)),
  (mt 55 0),o1 56 (.nc (.t 55)),o1 57 (.fa 1 (.t 56)),o1 58 (.ld 1 false (.t 57)),
  (o2 59 115 [.t 54,.t 58,(ci 15)])]
abbrev Kk:List (Nat×AO):=
 [(2,(mt 60 2)),
  (2,(mt 61 2)),(2,(o1 62 (.nc (.t 61)))),
  (2,(mt 64 0)),(2,(o1 65 (.nc (.t 64)))),(2,(o1 66 (.fa 1 (.t 65)))),(1,(o1 63 (.ld 1 false (.t 62)))),(1,(o1 67 (.ld 1 false (.t 66)))),(0,(o1 68 (.bs 3 1 1 [.n .i64 0] [(0,1,(.t 67))]))),(3,(o1 69 (.app 3 1 8 (.t 63) (.t 68)))),(2,(o1 70 (.nc (.t 60)))),
  (3,(o3 (.st 1 (.t 70) (.t 69))))]
abbrev Kn:AC:=
 (.seq (.reg YN) (.cond (.t 31) (.seq (.reg YM) .ret) (.seq (.reg YL) (.cond (.t 39) (.seq (.reg YK) (.exit 1)) (.seq (.reg YJ) (.cond (.t 50) (.seq (.reg YI) (.mix Kk)) .skip))))))
abbrev Ki:List AO:=
 [(mt 71 7),o1 72 (.len (.t 71)),
  (mt 9 72)]
abbrev Kh:List AO:=
 [(mt 73 9),o1 74 (.bin .gtr (.t 73) (ci 0)),
  (mt 75 74),
  (o5 76 75 (.mv (.t 7))),
  (o5 77 75 (.mv (.t 9))),
  (o5 78 75 (.bin .sub (.t 77) (ci 1))),
  (o5 79 75 (.ia 5 (.t 76) (.t 78))),
  (o5 80 75 (.fa 0 (.t 79))),
  (o5 81 75 (.ld 1 false (.t 80))),
  (o5 82 75 (.bin .eql (.t 81) (.c (.n .i64 (-1))))),o1 83 (.pick (.t 75) (.t 82) (.c (.b false)))]
abbrev Kg:List AO:=
 [(mt 84 7),
  (mt 85 9),o1 86 (.bin .sub (.t 85) (ci 1)),o1 87 (.ia 5 (.t 84) (.t 86)),o1 88 (.fa 2 (.t 87)),o1 89 (.ld 1 false (.t 88)),o1 90 (.bin .add (.t 89) (ci 1)),o1 91 (.ia 5 (.t 84) (.t 86)),o1 92 (.fa 2 (.t 91)),
  (o3 (.st 1 (.t 92) (.t 90)))]
abbrev Kj:List (Nat×AO):=
 [(2,(mt 93 7)),
  (2,(mt 94 0)),(2,(o1 95 (.nc (.t 94)))),(2,(o1 96 (.fa 1 (.t 95)))),
  (2,(mt 98 0)),(2,(o1 99 (.nc (.t 98)))),(2,(o1 100 (.fa 1 (.t 99)))),(1,(o1 97 (.ld 1 false (.t 96)))),(1,(o1 101 (.ld 1 false (.t 100)))),(2,(o1 102 (.bin .add (.t 101) (ci 1)))),(2,(o1 103 (.bd [.n .i64 0,.n .i64 0,.n .i64 0,.sl0,.sl0] [(0,1,(.c (.n .i64 (-1)))),(1,1,(.t 97)),(2,1,(.t 102))]))),(3,(o1 104 (.bs 140 5 1 [.n .i64 0,.n .i64 0,.n .i64 0,.sl0,.sl0] [(0,5,(.t 103))]))),(3,(o1 105 (.app 140 5 72 (.t 93) (.t 104)))),
  (2,(mt 7 105))]
abbrev Kf:List AO:=
 [(mt 106 0),o1 107 (.nc (.t 106)),o1 108 (.fa 1 (.t 107)),o1 109 (.ld 1 false (.t 108)),o1 110 (.bin .add (.t 109) (ci 1)),o1 111 (.nc (.t 106)),o1 112 (.fa 1 (.t 111)),
  (o3 (.st 1 (.t 112) (.t 110)))]
abbrev Km:AC:=
 (.seq (.mix YQ) (.seq (.block 2 Kn) (.seq (.seq (.reg Ki) (.seq (.reg Kh) (.cond (.t 83) (.reg Kg) (.mix Kj)))) (.reg Kf))))
abbrev Ko:AC:=
 (.seq (.seq (.mix YR) (.cond (.t 19) .skip (.exit 0))) (.block 1 Km))
abbrev Kl:AC:=
 (.loop Ko)
abbrev Ke:List AO:=
 [(mt 113 7),
  (mt 6 113)]
abbrev YS:AF:=⟨114,(.seq (.reg YP) (.seq (.reg YO) (.seq (.block 0 Kl) (.seq (.reg Ke) .ret)))),[.mv (.t 6)]⟩
theorem xe:ax Tryz.prog (af Tryz.prog 117) 117=some YS:=by kernel_rfl
/-! flow.opens-/
abbrev YG:List AO:=
 [o1 2 (.mv (.c (.b false)))]
abbrev YF:List AO:=
 [(mt 3 0),o1 4 (.bin .eql (.t 3) (ci 27)),
  (mt 5 4),
  (o4 6 5 (.mv (.t 0))),
  (o4 7 5 (.bin .eql (.t 6) (ci 29))),o1 8 (.pick (.t 5) (.c (.b true)) (.t 7)),
  (mt 2 8)]
abbrev YH:AF:=⟨9,(.seq (.reg YG) (.seq (.reg YF) .ret)),[.mv (.t 2)]⟩
theorem DY:ax Tryz.prog (af Tryz.prog 169) 169=some YH:=by kernel_rfl
/-! flow.reader.block-/
abbrev YB:List AO:=
 [o1 6 (.al 140 [.n .i64 0,.n .i64 0,.n .i64 0,.sl0,.sl0])]
abbrev YA:List AO:=
 [(mt 12 1),o1 13 (.bin .leq (.t 12) (ci 8)),
  (mt 14 0),o1 15 (.nc (.t 14)),o1 16 (.fa 1 (.t 15)),o1 17 (.ld 1 false (.t 16)),
  (o2 18 115 [.t 13,.t 17,(ci 15)])]
abbrev YD:List (Nat×AO):=
 [(2,(mt 19 0)),(2,(o1 20 (.nc (.t 19)))),(2,(o1 21 (.fa 0 (.t 20)))),
  (2,(mt 23 0)),(2,(o1 24 (.nc (.t 23)))),(2,(o1 25 (.fa 1 (.t 24)))),
  (2,(mt 30 0)),(2,(o1 31 (.nc (.t 30)))),(2,(o1 32 (.fa 1 (.t 31)))),(1,(o1 22 (.ld 1 false (.t 21)))),(1,(o1 26 (.ld 1 false (.t 25)))),(2,(o1 27 (.ia 2 (.t 22) (.t 26)))),(2,(o1 28 (.fa 0 (.t 27)))),(1,(o1 29 (.ld 1 false (.t 28)))),(1,(o1 33 (.ld 1 false (.t 32)))),(2,(o1 34 (.bd [.n .i64 0,.n .i64 0,.n .i64 0,.sl0,.sl0] [(0,1,(.t 29)),(1,1,(.t 33))]))),(0,(o1 7 (.al 140 [.n .i64 0,.n .i64 0,.n .i64 0,.sl0,.sl0]))),
  (3,(o3 (.st 5 (.t 7) (.t 34))))]
abbrev Yz:List AO:=
 [o1 8 (.al 95 [.sl0])]
abbrev Yy:List AO:=
 [o1 35 (.fa 0 (.t 7)),o1 36 (.ld 1 false (.t 35)),o1 37 (.bin .eql (.t 36) (ci 29))]
abbrev Yx:List AO:=
 [(mt 2 8)]
abbrev Yw:List AO:=
 [(mt 38 0),o1 39 (.nc (.t 38)),o1 40 (.fa 1 (.t 39)),o1 41 (.ld 1 false (.t 40)),o1 42 (.bin .add (.t 41) (ci 1)),o1 43 (.nc (.t 38)),o1 44 (.fa 1 (.t 43)),
  (o3 (.st 1 (.t 44) (.t 42)))]
abbrev Yv:List AO:=
 [(mt 45 0),
  (mt 46 1),
  (mt 47 2),
  (o2 48 117 [.t 45,.t 46,.t 47]),o1 49 (.fa 3 (.t 7)),
  (o3 (.st 1 (.t 49) (.t 48)))]
abbrev Yu:List AO:=
 [o1 50 (.fa 1 (.t 7)),o1 51 (.ld 1 false (.t 50)),
  (mt 9 51)]
abbrev YC:List (Nat×AO):=
 [(2,(o1 52 (.fa 0 (.t 7)))),(1,(o1 53 (.ld 1 false (.t 52)))),(2,(o1 54 (.bin .eql (.t 53) (ci 27)))),
  (2,(mt 55 54)),
  (2,(o5 56 55 (.mv (.t 0)))),
  (2,(o5 57 55 (.nc (.t 56)))),
  (2,(o5 58 55 (.fa 1 (.t 57)))),
  (2,(o5 60 55 (.mv (.t 0)))),
  (2,(o5 61 55 (.nc (.t 60)))),
  (2,(o5 62 55 (.fa 0 (.t 61)))),
  (1,(o5 59 55 (.ld 1 false (.t 58)))),
  (1,(o5 63 55 (.ld 1 false (.t 62)))),
  (2,(o5 64 55 (.len (.t 63)))),
  (2,(o5 65 55 (.bin .lss (.t 59) (.t 64)))),(2,(o1 66 (.pick (.t 55) (.t 65) (.c (.b false))))),
  (2,(mt 67 66)),
  (2,(o5 68 67 (.mv (.t 0)))),
  (2,(o5 69 67 (.nc (.t 68)))),
  (2,(o5 70 67 (.fa 0 (.t 69)))),
  (2,(o5 72 67 (.mv (.t 0)))),
  (2,(o5 73 67 (.nc (.t 72)))),
  (2,(o5 74 67 (.fa 1 (.t 73)))),
  (1,(o5 71 67 (.ld 1 false (.t 70)))),
  (1,(o5 75 67 (.ld 1 false (.t 74)))),
  (2,(o5 76 67 (.ia 2 (.t 71) (.t 75)))),
  (2,(o5 77 67 (.fa 0 (.t 76)))),
  (1,(o5 78 67 (.ld 1 false (.t 77)))),
  (2,(o5 79 67 (.bin .eql (.t 78) (ci 28)))),(2,(o1 80 (.pick (.t 67) (.t 79) (.c (.b false)))))]
abbrev Ka:List (Nat×AO):=
 [(2,(mt 81 0)),(2,(o1 82 (.nc (.t 81)))),(2,(o1 83 (.fa 2 (.t 82)))),
  (2,(mt 85 9)),
  (2,(mt 86 0)),(2,(o1 87 (.nc (.t 86)))),(2,(o1 88 (.fa 1 (.t 87)))),(1,(o1 84 (.ld 1 false (.t 83)))),(1,(o1 89 (.ld 1 false (.t 88)))),(2,(o1 90 (.ia 1 (.t 84) (.t 85)))),
  (3,(o3 (.st 1 (.t 90) (.t 89))))]
abbrev J6:List AO:=
 [(mt 91 0),o1 92 (.nc (.t 91)),o1 93 (.fa 1 (.t 92)),o1 94 (.ld 1 false (.t 93)),
  (mt 9 94)]
abbrev J5:List AO:=
 [(mt 95 0),o1 96 (.nc (.t 95)),o1 97 (.fa 1 (.t 96)),o1 98 (.ld 1 false (.t 97)),o1 99 (.bin .add (.t 98) (ci 1)),o1 100 (.nc (.t 95)),o1 101 (.fa 1 (.t 100)),
  (o3 (.st 1 (.t 101) (.t 99)))]
abbrev J4:List AO:=
 [(mt 102 0),
  (mt 103 1),
  (mt 104 2),
  (o2 105 117 [.t 102,.t 103,.t 104]),o1 106 (.fa 4 (.t 7)),
  (o3 (.st 1 (.t 106) (.t 105)))]
abbrev J9:List (Nat×AO):=
 [(2,(mt 107 0)),(2,(o1 108 (.nc (.t 107)))),(2,(o1 109 (.fa 1 (.t 108)))),
  (2,(mt 111 0)),(2,(o1 112 (.nc (.t 111)))),(2,(o1 113 (.fa 0 (.t 112)))),
  (2,(mt 131 0)),(2,(o1 132 (.nc (.t 131)))),(2,(o1 133 (.fa 1 (.t 132)))),(1,(o1 110 (.ld 1 false (.t 109)))),(1,(o1 114 (.ld 1 false (.t 113)))),(2,(o1 115 (.len (.t 114)))),(2,(o1 116 (.bin .lss (.t 110) (.t 115)))),
  (2,(mt 117 116)),
  (2,(o5 118 117 (.mv (.t 0)))),
  (2,(o5 119 117 (.nc (.t 118)))),
  (2,(o5 120 117 (.fa 0 (.t 119)))),
  (2,(o5 122 117 (.mv (.t 0)))),
  (2,(o5 123 117 (.nc (.t 122)))),
  (2,(o5 124 117 (.fa 1 (.t 123)))),
  (1,(o5 121 117 (.ld 1 false (.t 120)))),
  (1,(o5 125 117 (.ld 1 false (.t 124)))),
  (2,(o5 126 117 (.ia 2 (.t 121) (.t 125)))),
  (2,(o5 127 117 (.fa 0 (.t 126)))),
  (1,(o5 128 117 (.ld 1 false (.t 127)))),
  (2,(o5 129 117 (.bin .eql (.t 128) (ci 31)))),(2,(o1 130 (.pick (.t 117) (.t 129) (.c (.b false))))),(1,(o1 134 (.ld 1 false (.t 133)))),
  (3,(o2 135 115 [.t 130,.t 134,(ci 15)]))]
abbrev J8:List (Nat×AO):=
 [(2,(mt 136 0)),(2,(o1 137 (.nc (.t 136)))),(2,(o1 138 (.fa 2 (.t 137)))),
  (2,(mt 140 9)),
  (2,(mt 141 0)),(2,(o1 142 (.nc (.t 141)))),(2,(o1 143 (.fa 2 (.t 142)))),
  (2,(mt 145 0)),(2,(o1 146 (.nc (.t 145)))),(2,(o1 147 (.fa 1 (.t 146)))),
  (2,(mt 149 0)),(2,(o1 150 (.nc (.t 149)))),(2,(o1 151 (.fa 1 (.t 150)))),(2,(o1 153 (.fa 1 (.t 7)))),(1,(o1 139 (.ld 1 false (.t 138)))),(1,(o1 144 (.ld 1 false (.t 143)))),(1,(o1 148 (.ld 1 false (.t 147)))),(1,(o1 152 (.ld 1 false (.t 151)))),(2,(o1 155 (.ia 1 (.t 139) (.t 140)))),(1,(o1 154 (.ld 1 false (.t 153)))),
  (0,(o3 (.st 1 (.t 155) (.t 152)))),(2,(o1 156 (.ia 1 (.t 144) (.t 148)))),
  (3,(o3 (.st 1 (.t 156) (.t 154))))]
abbrev J3:List AO:=
 [o1 157 (.ld 1 false (.t 8)),o1 158 (.len (.t 157)),o1 159 (.mv (ci 0))]
abbrev J2:List AO:=
 [o1 160 (.bin .lss (.t 159) (.t 158))]
abbrev J1:List AO:=
 [o1 161 (.ia 1 (.t 157) (.t 159)),o1 162 (.ld 1 false (.t 161)),
  (mt 11 162)]
abbrev J7:List (Nat×AO):=
 [(2,(mt 163 0)),(2,(o1 164 (.nc (.t 163)))),(2,(o1 165 (.fa 2 (.t 164)))),
  (2,(mt 167 11)),
  (2,(mt 168 0)),(2,(o1 169 (.nc (.t 168)))),(2,(o1 170 (.fa 1 (.t 169)))),(1,(o1 166 (.ld 1 false (.t 165)))),(1,(o1 171 (.ld 1 false (.t 170)))),(2,(o1 172 (.ia 1 (.t 166) (.t 167)))),
  (3,(o3 (.st 1 (.t 172) (.t 171))))]
abbrev Kc:AC:=
 (.seq (.reg J1) (.mix J7))
abbrev J0:List AO:=
 [o1 173 (.bin .add (.t 159) (ci 1)),
  (mt 159 173)]
abbrev Kd:AC:=
 (.seq (.reg J2) (.seq (.cond (.t 160) .skip (.exit 0)) (.seq (.block 1 Kc) (.reg J0))))
abbrev Kb:AC:=
 (.loop Kd)
abbrev JZ:List AO:=
 [(mt 174 0),o1 175 (.nc (.t 174)),o1 176 (.fa 1 (.t 175)),o1 177 (.ld 1 false (.t 176)),o1 178 (.bin .add (.t 177) (ci 1)),o1 179 (.nc (.t 174)),o1 180 (.fa 1 (.t 179)),
  (o3 (.st 1 (.t 180) (.t 178)))]
abbrev JY:List AO:=
 [(mt 181 0),o1 182 (.nc (.t 181)),o1 183 (.fa 1 (.t 182)),o1 184 (.ld 1 false (.t 183)),o1 185 (.fa 2 (.t 7)),
  (o3 (.st 1 (.t 185) (.t 184)))]
abbrev JX:List AO:=
 [o1 186 (.ld 5 true (.t 7)),
  (o3 (.st 5 (.t 6) (.t 186)))]
abbrev YE:AF:=⟨187,(.seq (.reg YB) (.seq (.reg YA) (.seq (.mix YD) (.seq (.reg Yz) (.seq (.seq (.reg Yy) (.cond (.t 37) (.reg Yx) .skip)) (.seq (.reg Yw) (.seq (.reg Yv) (.seq (.reg Yu) (.seq (.seq (.mix YC) (.cond (.t 80) (.seq (.mix Ka) (.seq (.reg J6) (.seq (.reg J5) (.reg J4)))) .skip)) (.seq (.mix J9) (.seq (.mix J8) (.seq (.seq (.reg J3) (.block 0 Kb)) (.seq (.reg JZ) (.seq (.reg JY) (.seq (.reg JX) .ret))))))))))))))),[.ld 5 true (.t 6)]⟩
theorem xd:ax Tryz.prog (af Tryz.prog 170) 170=some YE:=by kernel_rfl
/-! verifier.Verify$1-/
abbrev Ys:List (Nat×AO):=
 [(1,(o1 2 (.ld 3 true (.t 0)))),(1,(o1 3 (.ld 3 true (.t 0)))),
  (0,(o2 4 32 [.t 3])),
  (3,(o2 5 31 [.t 2,.t 4])),
  (3,(o3 (.st 4 (.t 1) (.t 5))))]
abbrev Yr:List AO:=
 [o1 6 (.fa 0 (.t 1)),o1 7 (.ld 1 false (.t 6)),o1 8 (.bin .leq (.t 7) (ci 281474976710656)),
  (o2 9 33 [.t 8,(ci 0),(ci 18)])]
abbrev Yt:AF:=⟨10,(.seq (.mix Ys) (.reg Yr)),[]⟩
theorem xc:ax Tryz.prog (af Tryz.prog 30) 30=some Yt:=by kernel_rfl
/-! verifier.widening-/
abbrev Yp:List AO:=
 [o1 1 (.bx 25 0 (.t 0)),o1 2 (.al 83 [.f0,.f0])]
abbrev Yo:List AO:=
 [o1 3 (.mf 58 [] [.t 1]),o1 4 (.bd [.f0,.f0] [(0,1,(.c (.f 57 [] []))),(1,1,(.t 3))]),
  (o3 (.st 2 (.t 2) (.t 4)))]
abbrev Yq:AF:=⟨5,(.seq (.reg Yp) (.seq (.reg Yo) .ret)),[.ld 2 true (.t 2)]⟩
theorem DX:ax Tryz.prog (af Tryz.prog 32) 32=some Yq:=by kernel_rfl
/-! verifier.widening$2-/
abbrev Yl:List AO:=
 [o1 11 (.mv (.c .sl0))]
abbrev Yk:List AO:=
 [(mt 15 3),
  (o2 16 59 [.t 15]),
  (mt 12 16)]
abbrev Yj:List AO:=
 [(mt 17 12),o1 18 (.len (.t 17)),o1 19 (.mv (ci 0))]
abbrev Yi:List AO:=
 [o1 20 (.bin .lss (.t 19) (.t 18))]
abbrev Yh:List AO:=
 [(mt 21 19),
  (mt 13 21)]
abbrev Yg:List AO:=
 [o1 22 (.fa 2 (.t 5)),o1 23 (.ld 1 false (.t 22)),
  (mt 24 0),
  (mt 25 1),o1 26 (.sl 2 (.t 23) (some (.t 24)) (some (.t 25))),
  (mt 27 13),o1 28 (.cvi .u32 (.t 27)),o1 29 (.bd [.n .i64 0,.n .u32 0] [(0,1,(ci 2)),(1,1,(.t 28))]),
  (o2 30 60 [.t 26,.t 29]),
  (mt 14 30)]
abbrev Yf:List AO:=
 [(mt 32 2),o1 33 (.bin .lss (.t 32) (ci 3)),
  (mt 31 33)]
abbrev Ym:List (Nat×AO):=
 [(2,(mt 34 12)),
  (2,(mt 35 13)),
  (2,(mt 36 3)),
  (2,(mt 37 13)),(2,(o1 38 (.ia 2 (.t 36) (.t 37)))),
  (2,(mt 40 3)),
  (2,(mt 41 13)),(2,(o1 42 (.ia 2 (.t 40) (.t 41)))),
  (2,(mt 44 4)),
  (2,(mt 45 13)),(2,(o1 46 (.ia 2 (.t 44) (.t 45)))),(1,(o1 39 (.ld 2 true (.t 38)))),(1,(o1 43 (.ld 2 true (.t 42)))),(1,(o1 47 (.ld 2 true (.t 46)))),
  (0,(o2 48 62 [.t 43,.t 47])),
  (3,(o2 49 61 [.t 39,.t 48])),(2,(o1 50 (.ia 2 (.t 34) (.t 35)))),
  (3,(o3 (.st 2 (.t 50) (.t 49))))]
abbrev Ye:List AO:=
 [(mt 52 14),
  (mt 51 52)]
abbrev Yd:List AO:=
 [(mt 53 12),
  (mt 54 13),
  (o2 55 63 []),o1 56 (.ia 2 (.t 53) (.t 54)),
  (o3 (.st 2 (.t 56) (.t 55)))]
abbrev JV:AC:=
 (.seq (.reg Yf) (.cond (.t 31) (.mix Ym) (.seq (.reg Ye) (.cond (.t 51) (.reg Yd) .skip))))
abbrev JU:AC:=
 (.seq (.reg Yh) (.seq (.reg Yg) (.block 2 JV)))
abbrev JS:List AO:=
 [o1 57 (.bin .add (.t 19) (ci 1)),
  (mt 19 57)]
abbrev JW:AC:=
 (.seq (.reg Yi) (.seq (.cond (.t 20) .skip (.exit 0)) (.seq (.block 1 JU) (.reg JS))))
abbrev JT:AC:=
 (.loop JW)
abbrev JR:List AO:=
 [(mt 58 12),
  (mt 11 58)]
abbrev Yn:AF:=⟨59,(.seq (.reg Yl) (.seq (.reg Yk) (.seq (.seq (.reg Yj) (.block 0 JT)) (.seq (.reg JR) .ret)))),[.mv (.t 11)]⟩
theorem DW:ax Tryz.prog (af Tryz.prog 58) 58=some Yn:=by kernel_rfl
/-! slices.Clone[[]api.Interval,api.Interval]-/
abbrev Yb:List AO:=
 [o1 2 (.mv (.c .sl0))]
abbrev Ya:List AO:=
 [(mt 3 0),⟨some 4,none,.sn false (.t 3)⟩]
abbrev X9:List AO:=
 [o1 2 (.mv (.c .sl0))]
abbrev X8:List AO:=
 [o1 5 (.bs 127 2 0 [] []),
  (mt 6 0),o1 7 (.app 127 2 16 (.t 5) (.t 6)),
  (mt 2 7)]
abbrev Yc:AF:=⟨8,(.seq (.reg Yb) (.seq (.seq (.reg Ya) (.cond (.t 4) (.seq (.reg X9) .ret) .skip)) (.seq (.reg X8) .ret))),[.mv (.t 2)]⟩
theorem DV:ax Tryz.prog (af Tryz.prog 59) 59=some Yc:=by kernel_rfl
/-! slices.Contains[[]api.Instr,api.Instr]-/
abbrev X6:List AO:=
 [o1 3 (.bx 54 0 (.t 1)),o1 4 (.mv (.c (.b false)))]
abbrev X5:List AO:=
 [(mt 5 0),o1 6 (.ld 2 true (.t 3)),
  (o2 7 91 [.t 5,.t 6]),o1 8 (.bin .geq (.t 7) (ci 0)),
  (mt 4 8)]
abbrev X7:AF:=⟨9,(.seq (.reg X6) (.seq (.reg X5) .ret)),[.mv (.t 4)]⟩
theorem DU:ax Tryz.prog (af Tryz.prog 60) 60=some X7:=by kernel_rfl
/-! slices.Index[[]api.Instr,api.Instr]-/
abbrev XZ:List AO:=
 [o1 3 (.bx 54 0 (.t 1)),o1 4 (.mv (ci 0))]
abbrev XY:List AO:=
 [(mt 6 0),o1 7 (.len (.t 6)),o1 8 (.mv (ci 0))]
abbrev XX:List AO:=
 [o1 9 (.bin .lss (.t 8) (.t 7))]
abbrev XW:List AO:=
 [(mt 10 8),
  (mt 5 10)]
abbrev X0:List (Nat×AO):=
 [(2,(mt 12 0)),
  (2,(mt 13 5)),(2,(o1 14 (.ia 2 (.t 12) (.t 13)))),(1,(o1 11 (.ld 2 true (.t 3)))),(1,(o1 15 (.ld 2 true (.t 14)))),(2,(o1 16 (.eq false (.st [(0,1,.n),(1,1,.n)]) (.t 11) (.t 15))))]
abbrev XV:List AO:=
 [(mt 17 5),
  (mt 4 17)]
abbrev X2:AC:=
 (.seq (.reg XW) (.seq (.mix X0) (.cond (.t 16) (.seq (.reg XV) .ret) .skip)))
abbrev XU:List AO:=
 [o1 18 (.bin .add (.t 8) (ci 1)),
  (mt 8 18)]
abbrev X3:AC:=
 (.seq (.reg XX) (.seq (.cond (.t 9) .skip (.exit 0)) (.seq (.block 1 X2) (.reg XU))))
abbrev X1:AC:=
 (.loop X3)
abbrev JQ:List AO:=
 [o1 4 (.mv (.c (.n .i64 (-1))))]
abbrev X4:AF:=⟨19,(.seq (.reg XZ) (.seq (.seq (.reg XY) (.block 0 X1)) (.seq (.reg JQ) .ret))),[.mv (.t 4)]⟩
theorem DT:ax Tryz.prog (af Tryz.prog 91) 91=some X4:=by kernel_rfl
/-! interval.Join-/
abbrev XS:List AO:=
 [o1 2 (.bx 127 0 (.t 0)),o1 3 (.bx 127 0 (.t 1)),o1 4 (.al 127 [.n .i64 0,.n .i64 0])]
abbrev XR:List AO:=
 [o1 5 (.ld 2 true (.t 2)),o1 6 (.ld 2 true (.t 3)),
  (o2 7 92 [.t 5,.t 6]),o1 8 (.un .not (.t 7))]
abbrev XQ:List AO:=
 [o1 9 (.bd [.n .i64 0,.n .i64 0] []),
  (o3 (.st 2 (.t 4) (.t 9)))]
abbrev XP:List AO:=
 [o1 10 (.fa 0 (.t 2)),o1 11 (.ld 1 false (.t 10)),o1 12 (.fa 0 (.t 3)),o1 13 (.ld 1 false (.t 12)),⟨some 14,none,.mo (.mi (.t 11) (.t 13))⟩,o1 15 (.fa 1 (.t 2)),o1 16 (.ld 1 false (.t 15)),o1 17 (.fa 1 (.t 3)),o1 18 (.ld 1 false (.t 17)),⟨some 19,none,.mo (.mx (.t 16) (.t 18))⟩,o1 20 (.bd [.n .i64 0,.n .i64 0] [(0,1,(.t 14)),(1,1,(.t 19))]),
  (o3 (.st 2 (.t 4) (.t 20)))]
abbrev XT:AF:=⟨21,(.seq (.reg XS) (.seq (.seq (.reg XR) (.cond (.t 8) (.seq (.reg XQ) .ret) .skip)) (.seq (.reg XP) .ret))),[.ld 2 true (.t 4)]⟩
theorem DS:ax Tryz.prog (af Tryz.prog 62) 62=some XT:=by kernel_rfl
/-! interval.ordered-/
abbrev XN:List AO:=
 [o1 2 (.bx 127 0 (.t 0)),o1 3 (.bx 127 0 (.t 1)),o1 4 (.mv (.c (.b false)))]
abbrev XM:List AO:=
 [o1 5 (.ld 2 true (.t 2)),
  (o2 6 128 [.t 5]),o1 7 (.bin .eql (.t 6) (ci 0)),
  (mt 8 7),
  (o5 9 8 (.ld 2 true (.t 3))),⟨some 10,some (8,true),.cl (.c (.f 128 [] [])) [.t 9]⟩,
  (o5 11 8 (.bin .eql (.t 10) (ci 0))),o1 12 (.pick (.t 8) (.t 11) (.c (.b false))),
  (mt 4 12)]
abbrev XO:AF:=⟨13,(.seq (.reg XN) (.seq (.reg XM) .ret)),[.mv (.t 4)]⟩
theorem DR:ax Tryz.prog (af Tryz.prog 92) 92=some XO:=by kernel_rfl
/-! interval.Check-/
abbrev XJ:List AO:=
 [o1 1 (.bx 127 0 (.t 0)),o1 2 (.mv (ci 0))]
abbrev XI:List AO:=
 [o1 4 (.fa 0 (.t 1)),o1 5 (.ld 1 false (.t 4)),o1 6 (.bin .lss (.t 5) (ci 0)),
  (mt 7 6),
  (o4 8 7 (.fa 0 (.t 1))),
  (o4 9 7 (.ld 1 false (.t 8))),
  (o4 10 7 (.bin .gtr (.t 9) (ci 4294967295))),o1 11 (.pick (.t 7) (.c (.b true)) (.t 10)),
  (mt 12 11),
  (o4 13 12 (.fa 1 (.t 1))),
  (o4 14 12 (.ld 1 false (.t 13))),
  (o4 15 12 (.bin .lss (.t 14) (ci 0))),o1 16 (.pick (.t 12) (.c (.b true)) (.t 15)),
  (mt 17 16),
  (o4 18 17 (.fa 1 (.t 1))),
  (o4 19 17 (.ld 1 false (.t 18))),
  (o4 20 17 (.bin .gtr (.t 19) (ci 4294967295))),o1 21 (.pick (.t 17) (.c (.b true)) (.t 20)),
  (mt 3 21)]
abbrev XH:List AO:=
 [o1 2 (.mv (ci 2))]
abbrev XG:List AO:=
 [o1 23 (.fa 0 (.t 1)),o1 24 (.ld 1 false (.t 23)),o1 25 (.fa 1 (.t 1)),o1 26 (.ld 1 false (.t 25)),o1 27 (.bin .gtr (.t 24) (.t 26)),
  (mt 22 27)]
abbrev XF:List AO:=
 [o1 2 (.mv (ci 29))]
abbrev XK:AC:=
 (.seq (.reg XI) (.cond (.t 3) (.seq (.reg XH) .ret) (.seq (.reg XG) (.cond (.t 22) (.seq (.reg XF) .ret) .skip))))
abbrev XE:List AO:=
 [o1 2 (.mv (ci 0))]
abbrev XL:AF:=⟨28,(.seq (.reg XJ) (.seq (.block 0 XK) (.seq (.reg XE) .ret))),[.mv (.t 2)]⟩
theorem DQ:ax Tryz.prog (af Tryz.prog 128) 128=some XL:=by kernel_rfl
/-! interval.Widen-/
abbrev XC:List AO:=
 [o1 2 (.bx 127 0 (.t 0)),o1 3 (.bx 127 0 (.t 1)),o1 4 (.al 127 [.n .i64 0,.n .i64 0])]
abbrev XB:List AO:=
 [o1 7 (.ld 2 true (.t 2)),o1 8 (.ld 2 true (.t 3)),
  (o2 9 92 [.t 7,.t 8]),o1 10 (.un .not (.t 9))]
abbrev XA:List AO:=
 [o1 11 (.bd [.n .i64 0,.n .i64 0] []),
  (o3 (.st 2 (.t 4) (.t 11)))]
abbrev Xz:List AO:=
 [o1 12 (.fa 0 (.t 3)),o1 13 (.ld 1 false (.t 12)),o1 14 (.fa 0 (.t 2)),o1 15 (.ld 1 false (.t 14)),o1 16 (.bin .lss (.t 13) (.t 15))]
abbrev Xy:List AO:=
 [o1 17 (.fa 0 (.t 2)),
  (o3 (.st 1 (.t 17) (ci 0)))]
abbrev Xx:List AO:=
 [o1 18 (.fa 1 (.t 3)),o1 19 (.ld 1 false (.t 18)),o1 20 (.fa 1 (.t 2)),o1 21 (.ld 1 false (.t 20)),o1 22 (.bin .gtr (.t 19) (.t 21))]
abbrev Xw:List AO:=
 [o1 23 (.bd [.n .i64 0,.n .i64 0,.n .i64 0] [(0,1,(ci 255)),(1,1,(ci 65535)),(2,1,(ci 4294967295))]),o1 24 (.mv (ci 0))]
abbrev Xv:List AO:=
 [o1 25 (.bin .lss (.t 24) (ci 3))]
abbrev Xu:List AO:=
 [o1 26 (.ix 3 1 false (.t 23) (.t 24)),
  (mt 6 26)]
abbrev Xt:List AO:=
 [(mt 27 6),o1 28 (.fa 1 (.t 3)),o1 29 (.ld 1 false (.t 28)),o1 30 (.bin .geq (.t 27) (.t 29))]
abbrev JL:List AO:=
 [(mt 31 6),o1 32 (.fa 1 (.t 2)),
  (o3 (.st 1 (.t 32) (.t 31)))]
abbrev JN:AC:=
 (.seq (.reg Xu) (.seq (.reg Xt) (.cond (.t 30) (.seq (.reg JL) (.exit 0)) .skip)))
abbrev JK:List AO:=
 [o1 33 (.bin .add (.t 24) (ci 1)),
  (mt 24 33)]
abbrev JO:AC:=
 (.seq (.reg Xv) (.seq (.cond (.t 25) .skip (.exit 0)) (.seq (.block 1 JN) (.reg JK))))
abbrev JM:AC:=
 (.loop JO)
abbrev JJ:List AO:=
 [o1 34 (.ld 2 true (.t 2)),
  (o3 (.st 2 (.t 4) (.t 34)))]
abbrev XD:AF:=⟨35,(.seq (.reg XC) (.seq (.seq (.reg XB) (.cond (.t 10) (.seq (.reg XA) .ret) .skip)) (.seq (.seq (.reg Xz) (.cond (.t 16) (.reg Xy) .skip)) (.seq (.seq (.reg Xx) (.cond (.t 22) (.seq (.reg Xw) (.block 0 JM)) .skip)) (.seq (.reg JJ) .ret))))),[.ld 2 true (.t 4)]⟩
theorem DP:ax Tryz.prog (af Tryz.prog 61) 61=some XD:=by kernel_rfl
/-! interval.Full-/
abbrev Xr:List AO:=
 [o1 0 (.al 127 [.n .i64 0,.n .i64 0])]
abbrev Xq:List AO:=
 [o1 1 (.bd [.n .i64 0,.n .i64 0] [(1,1,(ci 4294967295))]),
  (o3 (.st 2 (.t 0) (.t 1)))]
abbrev Xs:AF:=⟨2,(.seq (.reg Xr) (.seq (.reg Xq) .ret)),[.ld 2 true (.t 0)]⟩
theorem DN:ax Tryz.prog (af Tryz.prog 63) 63=some Xs:=by kernel_rfl
/-! verifier.analyse-/
abbrev Xm:List AO:=
 [o1 2 (.bx 25 0 (.t 0)),o1 3 (.bx 83 0 (.t 1)),o1 4 (.al 38 [.n .i64 0,.n .i64 0,.n .i64 0,.sl0])]
abbrev Xl:List AO:=
 [o1 14 (.fa 2 (.t 2)),o1 15 (.ld 1 false (.t 14)),
  (o2 16 52 [.t 15]),
  (mt 13 16),o1 17 (.ext 0 (.t 13)),o1 18 (.ext 1 (.t 13)),
  (mt 5 17),
  (mt 6 18)]
abbrev Xk:List AO:=
 [(mt 19 6),o1 20 (.bin .eql (.t 19) (ci 0)),
  (mt 21 6),
  (o2 22 33 [.t 20,(ci 0),.t 21])]
abbrev Xj:List AO:=
 [o1 23 (.ld 3 true (.t 2)),
  (mt 24 5),o1 25 (.ld 2 true (.t 3)),⟨some 26,none,.mo (.mm)⟩,o1 27 (.bd [.sl0,.n .i64 0,.sl0,.sl0,.f0,.f0,.sl0,.sl0,.n .i64 0,.sl0,.cv (.map none)] [(0,3,(.t 23)),(3,1,(.t 24)),(4,2,(.t 25)),(10,1,(.t 26))]),o1 28 (.bx 124 0 (.t 27)),
  (mt 7 28)]
abbrev Xo:List (Nat×AO):=
 [(2,(mt 29 7)),(2,(o1 32 (.fa 1 (.t 2)))),(1,(o1 33 (.ld 1 false (.t 32)))),
  (0,(o2 30 54 [(.c (.n .u32 0))])),(0,(o1 31 (.bs 127 2 1 [.n .i64 0,.n .i64 0] [(0,2,(.t 30))]))),
  (3,(o2 34 53 [.t 31,.t 33])),(2,(o1 35 (.nc (.t 29)))),(2,(o1 36 (.fa 6 (.t 35)))),
  (3,(o3 (.st 1 (.t 36) (.t 34))))]
abbrev Xi:List AO:=
 [(mt 37 7),o1 38 (.fa 2 (.t 2)),o1 39 (.ld 1 false (.t 38)),o1 40 (.len (.t 39)),
  (o2 41 55 [.t 37,(ci 0),.t 40,(ci 0),(ci 0)]),o1 8 (.al 130 [.n .i64 0,.n .i64 0]),
  (o3 (.st 2 (.t 8) (.t 41)))]
abbrev Xh:List AO:=
 [(mt 42 7),o1 43 (.fa 2 (.t 2)),o1 44 (.ld 1 false (.t 43)),o1 45 (.len (.t 44)),
  (o2 46 56 [.t 42,.t 45,(ci 0)])]
abbrev Xn:List (Nat×AO):=
 [(2,(o1 47 (.fa 0 (.t 8)))),(2,(o1 49 (.fa 1 (.t 8)))),
  (2,(mt 51 7)),(2,(o1 52 (.nc (.t 51)))),(2,(o1 53 (.fa 8 (.t 52)))),(1,(o1 48 (.ld 1 false (.t 47)))),(1,(o1 50 (.ld 1 false (.t 49)))),(1,(o1 54 (.ld 1 false (.t 53)))),(2,(o1 55 (.bd [.n .i64 0,.n .i64 0,.n .i64 0,.sl0] [(0,1,(.t 48)),(1,1,(.t 50)),(2,1,(.t 54))]))),(0,(o1 9 (.al 38 [.n .i64 0,.n .i64 0,.n .i64 0,.sl0]))),
  (3,(o3 (.st 4 (.t 9) (.t 55))))]
abbrev Xg:List AO:=
 [o1 56 (.fa 2 (.t 2)),o1 57 (.ld 1 false (.t 56)),o1 58 (.len (.t 57)),o1 59 (.mv (ci 0))]
abbrev Xf:List AO:=
 [o1 60 (.bin .lss (.t 59) (.t 58))]
abbrev JE:List AO:=
 [(mt 61 59),
  (mt 10 61)]
abbrev JD:List AO:=
 [(mt 63 7),o1 64 (.nc (.t 63)),o1 65 (.fa 10 (.t 64)),o1 66 (.ld 1 false (.t 65)),
  (mt 67 10),⟨some 68,none,.mo (.lz (.agg [.n .i64 0,.n .i64 0,.sl0]) true (.t 66) (.t 67))⟩,
  (mt 62 68),o1 69 (.ext 0 (.t 62)),o1 70 (.ext 1 (.t 62)),o1 11 (.al 48 [.n .i64 0,.n .i64 0,.sl0]),
  (o3 (.st 3 (.t 11) (.t 69))),
  (mt 12 70)]
abbrev JC:List AO:=
 [(mt 71 12)]
abbrev JB:List AO:=
 [o1 72 (.fa 3 (.t 9)),o1 73 (.ld 1 false (.t 72)),o1 74 (.ld 3 true (.t 11)),o1 75 (.bs 48 3 1 [.n .i64 0,.n .i64 0,.sl0] [(0,3,(.t 74))]),o1 76 (.app 48 3 40 (.t 73) (.t 75)),o1 77 (.fa 3 (.t 9)),
  (o3 (.st 1 (.t 77) (.t 76)))]
abbrev JG:AC:=
 (.seq (.reg JE) (.seq (.reg JD) (.seq (.reg JC) (.cond (.t 71) (.reg JB) .skip))))
abbrev JA:List AO:=
 [o1 78 (.bin .add (.t 59) (ci 1)),
  (mt 59 78)]
abbrev JH:AC:=
 (.seq (.reg Xf) (.seq (.cond (.t 60) .skip (.exit 0)) (.seq (.block 1 JG) (.reg JA))))
abbrev JF:AC:=
 (.loop JH)
abbrev Jz:List AO:=
 [o1 79 (.ld 4 true (.t 9)),
  (o3 (.st 4 (.t 4) (.t 79)))]
abbrev Xp:AF:=⟨80,(.seq (.reg Xm) (.seq (.reg Xl) (.seq (.reg Xk) (.seq (.reg Xj) (.seq (.mix Xo) (.seq (.reg Xi) (.seq (.reg Xh) (.seq (.mix Xn) (.seq (.seq (.reg Xg) (.block 0 JF)) (.seq (.reg Jz) .ret)))))))))),[.ld 4 true (.t 4)]⟩
theorem DM:ax Tryz.prog (af Tryz.prog 31) 31=some Xp:=by kernel_rfl
/-! flow.Partners-/
abbrev Xc:List AO:=
 [o1 2 (.mv (.c .sl0)),o1 3 (.al 30 [.n .i64 0])]
abbrev Xb:List AO:=
 [o1 4 (.al 3 [.n .i64 0]),
  (o3 (.st 1 (.t 4) (ci 0)))]
abbrev Xa:List AO:=
 []
abbrev W9:List AO:=
 [(mt 6 0),
  (o2 7 83 [.t 6]),
  (mt 5 7)]
abbrev W8:List AO:=
 [(mt 8 5),
  (o2 9 84 [.t 8])]
abbrev W7:List AO:=
 [(mt 10 5),o1 11 (.nc (.t 10)),o1 12 (.fa 2 (.t 11)),o1 13 (.ld 1 false (.t 12)),
  (mt 2 13),
  (o3 (.st 1 (.t 3) (ci 0)))]
abbrev Xe:AF:=⟨14,(.seq (.reg Xc) (.seq (.reg Xb) (.seq (.dfr Xa (.c (.f 82 [] [])) [.t 4,.t 3]) (.seq (.reg W9) (.seq (.reg W8) (.seq (.reg W7) .ret)))))),[.mv (.t 2),.ld 1 false (.t 3)]⟩
theorem Xd:ax Tryz.prog (af Tryz.prog 52) 52=some Xe:=by kernel_rfl
/-! verifier.demand-/
abbrev W5:List AO:=
 [(mt 6 0),o1 7 (.un .not (.t 6))]
abbrev W4:List AO:=
 [(mt 8 1),
  (mt 9 2),
  (o2 10 64 [.t 8,.t 9])]
abbrev W6:AF:=⟨11,(.seq (.reg W5) (.cond (.t 7) (.reg W4) .skip)),[]⟩
theorem xa:ax Tryz.prog (af Tryz.prog 33) 33=some W6:=by kernel_rfl
/-! verifier.fail-/
abbrev W3:AF:=⟨8,.die,[]⟩
theorem W2:ax Tryz.prog (af Tryz.prog 64) 64=some W3:=by kernel_rfl
/-! interval.Exact-/
abbrev W0:List AO:=
 [o1 2 (.al 127 [.n .i64 0,.n .i64 0])]
abbrev WZ:List AO:=
 [(mt 3 0),o1 4 (.cvi .i64 (.t 3)),
  (mt 5 0),o1 6 (.cvi .i64 (.t 5)),o1 7 (.bd [.n .i64 0,.n .i64 0] [(0,1,(.t 4)),(1,1,(.t 6))]),
  (o3 (.st 2 (.t 2) (.t 7)))]
abbrev W1:AF:=⟨8,(.seq (.reg W0) (.seq (.reg WZ) .ret)),[.ld 2 true (.t 2)]⟩
theorem DL:ax Tryz.prog (af Tryz.prog 54) 54=some W1:=by kernel_rfl
/-! slices.Repeat[[]api.Interval,api.Interval]-/
abbrev WV:List AO:=
 [o1 4 (.mv (.c .sl0))]
abbrev WU:List AO:=
 [(mt 9 1),o1 10 (.bin .lss (.t 9) (ci 0))]
abbrev WT:List AO:=
 [(mt 13 0),o1 14 (.len (.t 13)),o1 15 (.cvi .u64 (.t 14)),
  (mt 16 1),o1 17 (.cvi .u64 (.t 16)),
  (o2 18 85 [.t 15,.t 17]),
  (mt 12 18),o1 19 (.ext 0 (.t 12)),o1 20 (.ext 1 (.t 12)),
  (mt 5 19),
  (mt 6 20)]
abbrev WR:List AO:=
 [(mt 21 5),o1 22 (.bin .gtr (.t 21) (.c (.n .u64 0))),
  (mt 23 22),
  (o4 24 23 (.mv (.t 6))),
  (o4 25 23 (.bin .gtr (.t 24) (.c (.n .u64 9223372036854775807)))),o1 26 (.pick (.t 23) (.c (.b true)) (.t 25))]
abbrev WQ:List AO:=
 [(mt 28 6),o1 29 (.cvi .i64 (.t 28)),o1 30 (.ms 127 2 16 [.n .i64 0,.n .i64 0] (.t 29) (.t 29)),
  (mt 7 30)]
abbrev WP:List AO:=
 [(mt 31 7),
  (mt 32 0),⟨some 33,none,.mo (.cp 2 (.t 31) (.t 32))⟩,
  (mt 8 33)]
abbrev WO:List AO:=
 [(mt 34 8),
  (mt 35 7),o1 36 (.len (.t 35)),o1 37 (.bin .lss (.t 34) (.t 36))]
abbrev WW:List (Nat×AO):=
 [(2,(mt 38 8)),
  (2,(mt 39 7)),
  (2,(mt 40 8)),(2,(o1 41 (.sl 2 (.t 39) (some (.t 40)) none))),
  (2,(mt 42 7)),
  (2,(mt 43 8)),(2,(o1 44 (.sl 2 (.t 42) none (some (.t 43))))),(3,⟨some 45,none,.mo (.cp 2 (.t 41) (.t 44))⟩),(2,(o1 46 (.bin .add (.t 38) (.t 45)))),
  (2,(mt 8 46))]
abbrev WX:AC:=
 (.mix WW)
abbrev DK:AC:=
 (.seq (.seq (.reg WO) (.cond (.t 37) .skip (.exit 0))) (.block 1 WX))
abbrev Jy:AC:=
 (.loop DK)
abbrev Jx:List AO:=
 [(mt 47 7),
  (mt 4 47)]
abbrev WY:AF:=⟨48,(.seq (.reg WV) (.seq (.seq (.reg WU) (.cond (.t 10) .die .skip)) (.seq (.reg WT) (.seq (.seq (.reg WR) (.cond (.t 26) .die .skip)) (.seq (.reg WQ) (.seq (.reg WP) (.seq (.block 0 Jy) (.seq (.reg Jx) .ret)))))))),[.mv (.t 4)]⟩
theorem DJ:ax Tryz.prog (af Tryz.prog 53) 53=some WY:=by kernel_rfl
/-! verifier.walker.code-/
abbrev WM:List AO:=
 [o1 10 (.al 130 [.n .i64 0,.n .i64 0])]
abbrev WL:List AO:=
 [o1 11 (.al 130 [.n .i64 0,.n .i64 0])]
abbrev WK:List AO:=
 [(mt 14 1),
  (mt 12 14)]
abbrev WJ:List AO:=
 [(mt 15 12),
  (mt 16 2),o1 17 (.bin .lss (.t 15) (.t 16))]
abbrev WI:List AO:=
 [o1 13 (.al 130 [.n .i64 0,.n .i64 0])]
abbrev WH:List AO:=
 [(mt 20 0),o1 21 (.nc (.t 20)),o1 22 (.fa 0 (.t 21)),o1 23 (.fa 2 (.t 22)),o1 24 (.ld 1 false (.t 23)),
  (mt 25 12),o1 26 (.ia 2 (.t 24) (.t 25)),o1 27 (.fa 0 (.t 26)),o1 28 (.ld 1 false (.t 27))]
abbrev WG:List AO:=
 [o1 34 (.bin .eql (.t 28) (ci 27)),
  (mt 33 34)]
abbrev WE:List AO:=
 [(mt 36 0),
  (mt 37 12),
  (mt 38 3),
  (mt 39 4),
  (o2 40 86 [.t 36,.t 37,.t 38,.t 39]),
  (mt 35 40),o1 41 (.ext 0 (.t 35)),o1 42 (.ext 1 (.t 35)),
  (o3 (.st 2 (.t 13) (.t 41))),
  (mt 12 42)]
abbrev WD:List AO:=
 [o1 44 (.bin .eql (.t 28) (ci 29)),
  (mt 43 44)]
abbrev WC:List AO:=
 [(mt 46 0),
  (mt 47 12),
  (mt 48 3),
  (o2 49 87 [.t 46,.t 47,.t 48]),
  (mt 45 49),o1 50 (.ext 0 (.t 45)),o1 51 (.ext 1 (.t 45)),
  (o3 (.st 2 (.t 13) (.t 50))),
  (mt 12 51)]
abbrev Jr:List AO:=
 [o1 53 (.bin .eql (.t 28) (ci 30)),
  (mt 52 53)]
abbrev Jq:List AO:=
 [(mt 54 0),
  (mt 55 12),
  (mt 56 3),
  (o2 57 88 [.t 54,.t 55,.t 56,(.c (.s ⟨#[116]⟩))])]
abbrev Jp:List AO:=
 [(mt 58 0),
  (mt 59 12),
  (mt 60 4),
  (o2 61 56 [.t 58,.t 59,.t 60])]
abbrev Js:List (Nat×AO):=
 [(2,(mt 62 0)),
  (2,(mt 63 0)),(2,(o1 64 (.nc (.t 63)))),(2,(o1 65 (.fa 9 (.t 64)))),
  (2,(mt 67 0)),(2,(o1 68 (.nc (.t 67)))),(2,(o1 69 (.fa 6 (.t 68)))),(1,(o1 66 (.ld 1 false (.t 65)))),(1,(o1 70 (.ld 1 false (.t 69)))),(0,(o1 71 (.bs 46 1 1 [.sl0] [(0,1,(.t 70))]))),(3,(o1 72 (.app 46 1 24 (.t 66) (.t 71)))),(2,(o1 73 (.nc (.t 62)))),(2,(o1 74 (.fa 9 (.t 73)))),
  (3,(o3 (.st 1 (.t 74) (.t 72))))]
abbrev Jo:List AO:=
 [o1 75 (.bd [.n .i64 0,.n .i64 0] [(0,1,(ci 1))]),
  (o3 (.st 2 (.t 13) (.t 75)))]
abbrev Jn:List AO:=
 [(mt 29 0),
  (mt 30 12),
  (mt 31 3),
  (o2 32 89 [.t 29,.t 30,.t 31]),
  (o3 (.st 2 (.t 13) (.t 32)))]
abbrev Jv:AC:=
 (.seq (.reg WG) (.cond (.t 33) (.reg WE) (.seq (.reg WD) (.cond (.t 43) (.reg WC) (.seq (.reg Jr) (.cond (.t 52) (.seq (.reg Jq) (.seq (.reg Jp) (.seq (.mix Js) (.reg Jo)))) (.reg Jn)))))))
abbrev Jm:List AO:=
 [o1 76 (.ld 2 true (.t 11)),o1 77 (.ld 2 true (.t 13)),
  (o2 78 90 [.t 76,.t 77]),
  (o3 (.st 2 (.t 11) (.t 78)))]
abbrev Ju:AC:=
 (.seq (.reg WI) (.seq (.seq (.reg WH) (.block 2 Jv)) (.reg Jm)))
abbrev Jl:List AO:=
 [(mt 18 12),o1 19 (.bin .add (.t 18) (ci 1)),
  (mt 12 19)]
abbrev Jw:AC:=
 (.seq (.seq (.reg WJ) (.cond (.t 17) .skip (.exit 0))) (.seq (.block 1 Ju) (.reg Jl)))
abbrev Jt:AC:=
 (.loop Jw)
abbrev Jk:List AO:=
 [o1 79 (.ld 2 true (.t 11)),
  (o3 (.st 2 (.t 10) (.t 79)))]
abbrev WN:AF:=⟨80,(.seq (.reg WM) (.seq (.reg WL) (.seq (.seq (.reg WK) (.block 0 Jt)) (.seq (.reg Jk) .ret)))),[.ld 2 true (.t 10)]⟩
theorem DI:ax Tryz.prog (af Tryz.prog 55) 55=some WN:=by kernel_rfl
/-! verifier.walker.choice-/
abbrev Wz:List AO:=
 [o1 8 (.al 130 [.n .i64 0,.n .i64 0]),o1 9 (.mv (ci 0))]
abbrev Wy:List AO:=
 [(mt 18 0),
  (mt 19 1),
  (mt 20 2),
  (o2 21 88 [.t 18,.t 19,.t 20,(.c (.s ⟨#[116]⟩))])]
abbrev Wx:List AO:=
 [(mt 22 0),o1 23 (.nc (.t 22)),o1 24 (.fa 3 (.t 23)),o1 25 (.ld 1 false (.t 24)),
  (mt 26 1),o1 27 (.ia 1 (.t 25) (.t 26)),o1 28 (.ld 1 false (.t 27)),
  (mt 10 28)]
abbrev Ww:List AO:=
 [(mt 29 10),
  (mt 11 29)]
abbrev WA:List (Nat×AO):=
 [(2,(mt 30 0)),(2,(o1 31 (.nc (.t 30)))),(2,(o1 32 (.fa 6 (.t 31)))),
  (2,(mt 34 0)),(2,(o1 35 (.nc (.t 34)))),(2,(o1 36 (.fa 7 (.t 35)))),(1,(o1 33 (.ld 1 false (.t 32)))),
  (2,(mt 12 33)),(1,(o1 37 (.ld 1 false (.t 36)))),(2,(o1 38 (.len (.t 37)))),
  (2,(mt 13 38))]
abbrev Wu:List AO:=
 [(mt 39 0),
  (mt 40 1),o1 41 (.bin .add (.t 40) (ci 1)),
  (mt 42 10),
  (mt 43 13),
  (mt 44 3),
  (o2 45 55 [.t 39,.t 41,.t 42,.t 43,.t 44]),o1 46 (.bd [.n .i64 0,.n .i64 0] []),o1 14 (.al 130 [.n .i64 0,.n .i64 0]),o1 15 (.al 130 [.n .i64 0,.n .i64 0]),
  (o3 (.st 2 (.t 14) (.t 45))),
  (o3 (.st 2 (.t 15) (.t 46)))]
abbrev Wt:List AO:=
 [(mt 47 0),
  (mt 48 10),
  (mt 49 13),
  (o2 50 56 [.t 47,.t 48,.t 49])]
abbrev Ws:List AO:=
 [(mt 51 0),o1 52 (.nc (.t 51)),o1 53 (.fa 6 (.t 52)),o1 54 (.ld 1 false (.t 53)),
  (mt 16 54)]
abbrev Wr:List AO:=
 [(mt 55 0),
  (mt 56 12),o1 57 (.nc (.t 55)),o1 58 (.fa 6 (.t 57)),
  (o3 (.st 1 (.t 58) (.t 56)))]
abbrev Wq:List AO:=
 [(mt 59 0),o1 60 (.nc (.t 59)),o1 61 (.fa 0 (.t 60)),o1 62 (.fa 2 (.t 61)),o1 63 (.ld 1 false (.t 62)),
  (mt 64 10),o1 65 (.ia 2 (.t 63) (.t 64)),o1 66 (.fa 0 (.t 65)),o1 67 (.ld 1 false (.t 66)),o1 68 (.bin .eql (.t 67) (ci 28))]
abbrev Jj:List AO:=
 [(mt 69 0),o1 70 (.nc (.t 69)),o1 71 (.fa 3 (.t 70)),o1 72 (.ld 1 false (.t 71)),
  (mt 73 10),o1 74 (.ia 1 (.t 72) (.t 73)),o1 75 (.ld 1 false (.t 74)),
  (mt 11 75)]
abbrev Ji:List AO:=
 [(mt 76 0),
  (mt 77 10),o1 78 (.bin .add (.t 77) (ci 1)),
  (mt 79 11),
  (mt 80 13),
  (mt 81 3),
  (o2 82 55 [.t 76,.t 78,.t 79,.t 80,.t 81]),
  (o3 (.st 2 (.t 15) (.t 82)))]
abbrev Jh:List AO:=
 [(mt 83 0),
  (mt 84 11),
  (mt 85 13),
  (o2 86 56 [.t 83,.t 84,.t 85])]
abbrev Jg:List AO:=
 [(mt 87 0),
  (mt 88 16),
  (mt 89 0),o1 90 (.nc (.t 89)),o1 91 (.fa 6 (.t 90)),o1 92 (.ld 1 false (.t 91)),
  (o2 93 120 [.t 88,.t 92]),o1 94 (.nc (.t 87)),o1 95 (.fa 6 (.t 94)),
  (o3 (.st 1 (.t 95) (.t 93)))]
abbrev Jf:List AO:=
 [o1 96 (.fa 0 (.t 14)),o1 97 (.ld 1 false (.t 96)),o1 98 (.fa 0 (.t 15)),o1 99 (.ld 1 false (.t 98)),⟨some 100,none,.mo (.mx (.t 97) (.t 99))⟩,o1 101 (.fa 1 (.t 14)),o1 102 (.ld 1 false (.t 101)),o1 103 (.fa 1 (.t 15)),o1 104 (.ld 1 false (.t 103)),⟨some 105,none,.mo (.mx (.t 102) (.t 104))⟩,o1 106 (.bd [.n .i64 0,.n .i64 0] [(0,1,(.t 100)),(1,1,(.t 105))]),o1 17 (.al 130 [.n .i64 0,.n .i64 0]),
  (o3 (.st 2 (.t 17) (.t 106)))]
abbrev Je:List AO:=
 [o1 107 (.ld 2 true (.t 17)),o1 108 (.bd [.n .i64 0,.n .i64 0] [(0,1,(ci 1))]),
  (o2 109 90 [.t 107,.t 108]),
  (mt 110 11),
  (o3 (.st 2 (.t 8) (.t 109))),
  (mt 9 110)]
abbrev WB:AF:=⟨111,(.seq (.reg Wz) (.seq (.reg Wy) (.seq (.reg Wx) (.seq (.reg Ww) (.seq (.mix WA) (.seq (.reg Wu) (.seq (.reg Wt) (.seq (.reg Ws) (.seq (.reg Wr) (.seq (.seq (.reg Wq) (.cond (.t 68) (.seq (.reg Jj) (.seq (.reg Ji) (.reg Jh))) .skip)) (.seq (.reg Jg) (.seq (.reg Jf) (.seq (.reg Je) .ret))))))))))))),[.ld 2 true (.t 8),.mv (.t 9)]⟩
theorem DH:ax Tryz.prog (af Tryz.prog 86) 86=some WB:=by kernel_rfl
/-! verifier.walker.pop-/
abbrev V5:List AO:=
 [o1 8 (.mv (.c .sl0))]
abbrev V4:List AO:=
 [(mt 13 0),o1 14 (.nc (.t 13)),o1 15 (.fa 7 (.t 14)),o1 16 (.ld 1 false (.t 15)),o1 17 (.len (.t 16)),
  (mt 18 3),o1 19 (.lns (.t 18)),o1 20 (.bin .sub (.t 17) (.t 19)),
  (mt 9 20)]
abbrev V3:List AO:=
 [(mt 21 9),
  (mt 22 2),o1 23 (.bin .geq (.t 21) (.t 22)),
  (mt 24 1),
  (o2 25 33 [.t 23,.t 24,(ci 14)])]
abbrev V2:List AO:=
 [(mt 26 0),o1 27 (.nc (.t 26)),o1 28 (.fa 7 (.t 27)),o1 29 (.ld 1 false (.t 28)),
  (mt 30 9),o1 31 (.sl 3 (.t 29) (some (.t 30)) none),
  (o2 32 123 [.t 31]),
  (mt 10 32)]
abbrev V1:List AO:=
 [(mt 33 10),o1 34 (.len (.t 33)),o1 35 (.mv (ci 0))]
abbrev V0:List AO:=
 [o1 36 (.bin .lss (.t 35) (.t 34))]
abbrev VZ:List AO:=
 [(mt 37 35),o1 38 (.ia 3 (.t 33) (.t 35)),o1 39 (.ld 3 true (.t 38)),o1 12 (.al 221 [.b false,.n .i64 0,.n .i64 0]),
  (mt 11 37),
  (o3 (.st 3 (.t 12) (.t 39)))]
abbrev V6:List (Nat×AO):=
 [(2,(mt 40 3)),
  (2,(mt 41 11)),(2,(o1 42 (.sx (.t 40) (.t 41)))),(2,(o1 43 (.bin .neq (.t 42) (.c (.n .u8 110))))),
  (2,(mt 44 43)),
  (2,(o5 45 44 (.mv (.t 3)))),
  (2,(o5 46 44 (.mv (.t 11)))),
  (2,(o5 47 44 (.sx (.t 45) (.t 46)))),
  (2,(o5 48 44 (.bin .neq (.t 47) (.c (.n .u8 116))))),(2,(o1 49 (.pick (.t 44) (.t 48) (.c (.b false))))),
  (2,(mt 50 49)),
  (2,(o4 51 50 (.mv (.t 3)))),
  (2,(o4 52 50 (.mv (.t 11)))),
  (2,(o4 53 50 (.sx (.t 51) (.t 52)))),
  (2,(o4 54 50 (.bin .eql (.t 53) (.c (.n .u8 116))))),
  (2,(o4 55 50 (.fa 0 (.t 12)))),
  (2,(mt 59 1)),
  (1,(o4 56 50 (.ld 1 false (.t 55)))),
  (2,(o4 57 50 (.eq false .b (.t 54) (.t 56)))),(2,(o1 58 (.pick (.t 50) (.c (.b true)) (.t 57)))),
  (3,(o2 60 33 [.t 58,.t 59,(ci 13)]))]
abbrev V7:AC:=
 (.seq (.reg VZ) (.mix V6))
abbrev VY:List AO:=
 [o1 61 (.bin .add (.t 35) (ci 1)),
  (mt 35 61)]
abbrev Jd:AC:=
 (.seq (.reg V0) (.seq (.cond (.t 36) .skip (.exit 0)) (.seq (.block 1 V7) (.reg VY))))
abbrev Jc:AC:=
 (.loop Jd)
abbrev Jb:List AO:=
 [(mt 62 0),
  (mt 63 0),o1 64 (.nc (.t 63)),o1 65 (.fa 7 (.t 64)),o1 66 (.ld 1 false (.t 65)),
  (mt 67 9),o1 68 (.sl 3 (.t 66) none (some (.t 67))),o1 69 (.nc (.t 62)),o1 70 (.fa 7 (.t 69)),
  (o3 (.st 1 (.t 70) (.t 68)))]
abbrev Ja:List AO:=
 [(mt 71 10),
  (mt 8 71)]
abbrev V8:AF:=⟨72,(.seq (.reg V5) (.seq (.reg V4) (.seq (.reg V3) (.seq (.reg V2) (.seq (.seq (.reg V1) (.block 0 Jc)) (.seq (.reg Jb) (.seq (.reg Ja) .ret))))))),[.mv (.t 8)]⟩
theorem DG:ax Tryz.prog (af Tryz.prog 88) 88=some V8:=by kernel_rfl
/-! slices.Clone[[]verifier.value,verifier.value]-/
abbrev VW:List AO:=
 [o1 2 (.mv (.c .sl0))]
abbrev VV:List AO:=
 [(mt 3 0),⟨some 4,none,.sn false (.t 3)⟩]
abbrev VU:List AO:=
 [o1 2 (.mv (.c .sl0))]
abbrev VT:List AO:=
 [o1 5 (.bs 221 3 0 [] []),
  (mt 6 0),o1 7 (.app 221 3 24 (.t 5) (.t 6)),
  (mt 2 7)]
abbrev VX:AF:=⟨8,(.seq (.reg VW) (.seq (.seq (.reg VV) (.cond (.t 4) (.seq (.reg VU) .ret) .skip)) (.seq (.reg VT) .ret))),[.mv (.t 2)]⟩
theorem DF:ax Tryz.prog (af Tryz.prog 123) 123=some VX:=by kernel_rfl
/-! verifier.guarded-/
abbrev TP:List AO:=
 [o1 2 (.al 3 [.n .i64 0]),o1 3 (.al 30 [.n .i64 0])]
abbrev TN:List AO:=
 [o1 4 (.mf 51 [] [.t 2,.t 3])]
abbrev TM:List AO:=
 [(mt 5 0),⟨some 6,none,.cl (.t 5) []⟩]
abbrev TL:List AO:=
 [(o3 (.st 1 (.t 2) (ci 0))),
  (o3 (.st 1 (.t 3) (ci 0)))]
abbrev TR:AF:=⟨7,(.seq (.reg TP) (.seq (.dfr TN (.t 4) []) (.seq (.reg TM) (.seq (.reg TL) .ret)))),[.ld 1 false (.t 2),.ld 1 false (.t 3)]⟩
theorem TQ:ax Tryz.prog (af Tryz.prog 29) 29=some TR:=by kernel_rfl
/-! cost.Steps-/
abbrev Ty:List AO:=
 [o1 2 (.bx 25 0 (.t 0)),o1 3 (.bx 38 0 (.t 1)),o1 4 (.mv (ci 0)),o1 5 (.mv (ci 0))]
abbrev Tx:List AO:=
 [o1 10 (.ld 3 true (.t 2)),o1 11 (.ld 4 true (.t 3)),
  (o2 12 34 [.t 10,.t 11]),
  (mt 9 12),o1 13 (.ext 0 (.t 9)),o1 14 (.ext 1 (.t 9)),o1 15 (.ext 2 (.t 9)),o1 6 (.al 88 [.sl0,.cv (.map none)]),
  (o3 (.st 2 (.t 6) (.t 13))),
  (mt 7 14),
  (mt 8 15)]
abbrev Tw:List AO:=
 [(mt 16 8),o1 17 (.bin .neq (.t 16) (ci 0))]
abbrev Tv:List AO:=
 [(mt 18 8),o1 4 (.mv (ci 0)),
  (mt 5 18)]
abbrev Tu:List AO:=
 [o1 19 (.ld 2 true (.t 6)),
  (mt 20 7),o1 21 (.ld 2 true (.t 6)),o1 22 (.mf 36 [.t 21] []),
  (o2 23 35 [.t 19,.t 20,.t 22,(ci 1)]),
  (o2 24 23 [.t 23]),o1 25 (.ext 0 (.t 24)),o1 26 (.ext 1 (.t 24)),
  (mt 4 25),
  (mt 5 26)]
abbrev Tz:AF:=⟨27,(.seq (.reg Ty) (.seq (.reg Tx) (.seq (.seq (.reg Tw) (.cond (.t 17) (.seq (.reg Tv) .ret) .skip)) (.seq (.reg Tu) .ret)))),[.mv (.t 4),.mv (.t 5)]⟩
theorem Dm:ax Tryz.prog (af Tryz.prog 13) 13=some Tz:=by kernel_rfl
/-! cost.open-/
abbrev Ts:List AO:=
 [o1 2 (.bx 25 0 (.t 0)),o1 3 (.bx 38 0 (.t 1)),o1 4 (.al 88 [.sl0,.cv (.map none)]),o1 5 (.mv (.c .sl0)),o1 6 (.mv (ci 0))]
abbrev Tq:List AO:=
 [o1 19 (.ld 3 true (.t 2)),
  (o2 20 28 [.t 19]),
  (mt 18 20),o1 21 (.ext 0 (.t 18)),o1 22 (.ext 1 (.t 18)),
  (mt 7 21),
  (mt 8 22)]
abbrev Tp:List AO:=
 [(mt 23 8),o1 24 (.bin .neq (.t 23) (ci 0))]
abbrev Tn:List AO:=
 [o1 25 (.bd [.sl0,.cv (.map none)] []),
  (mt 26 8),
  (o3 (.st 2 (.t 4) (.t 25))),o1 5 (.mv (.c .sl0)),
  (mt 6 26)]
abbrev Tm:List AO:=
 [o1 28 (.fa 2 (.t 2)),o1 29 (.ld 1 false (.t 28)),
  (o2 30 65 [.t 29]),
  (mt 27 30),o1 31 (.ext 0 (.t 27)),o1 32 (.ext 1 (.t 27)),
  (mt 9 31),
  (mt 10 32)]
abbrev Tl:List AO:=
 [(mt 33 10),o1 34 (.bin .neq (.t 33) (ci 0))]
abbrev Tk:List AO:=
 [o1 35 (.bd [.sl0,.cv (.map none)] []),
  (mt 36 10),
  (o3 (.st 2 (.t 4) (.t 35))),o1 5 (.mv (.c .sl0)),
  (mt 6 36)]
abbrev Tj:List AO:=
 [(mt 37 9),o1 38 (.len (.t 37)),o1 39 (.fa 3 (.t 3)),o1 40 (.ld 1 false (.t 39)),o1 41 (.len (.t 40)),o1 42 (.bin .neq (.t 38) (.t 41))]
abbrev Ti:List AO:=
 [o1 43 (.bd [.sl0,.cv (.map none)] []),
  (o3 (.st 2 (.t 4) (.t 43))),o1 5 (.mv (.c .sl0)),o1 6 (.mv (ci 23))]
abbrev Th:List AO:=
 [o1 44 (.fa 2 (.t 2)),o1 45 (.ld 1 false (.t 44)),⟨some 46,none,.mo (.mm)⟩,o1 47 (.bd [.sl0,.cv (.map none)] [(0,1,(.t 45)),(1,1,(.t 46))]),o1 11 (.al 88 [.sl0,.cv (.map none)]),
  (o3 (.st 2 (.t 11) (.t 47)))]
abbrev HL:List AO:=
 [o1 12 (.mv (.c (.b false)))]
abbrev HK:List AO:=
 [(mt 48 9),o1 49 (.len (.t 48)),o1 50 (.mv (ci 0))]
abbrev HJ:List AO:=
 [o1 51 (.bin .lss (.t 50) (.t 49))]
abbrev HI:List AO:=
 [(mt 52 50),o1 53 (.ia 1 (.t 48) (.t 50)),o1 54 (.ld 1 false (.t 53)),
  (mt 13 52),
  (mt 14 54)]
abbrev HG:List AO:=
 [o1 55 (.fa 3 (.t 3)),o1 56 (.ld 1 false (.t 55)),
  (mt 57 13),o1 58 (.ia 3 (.t 56) (.t 57)),o1 59 (.ld 3 true (.t 58)),o1 15 (.al 48 [.n .i64 0,.n .i64 0,.sl0]),
  (o3 (.st 3 (.t 15) (.t 59)))]
abbrev HE:List AO:=
 [o1 60 (.fa 0 (.t 15)),o1 61 (.ld 1 false (.t 60)),
  (mt 62 14),o1 63 (.bin .neq (.t 61) (.t 62))]
abbrev HD:List AO:=
 [o1 64 (.bd [.sl0,.cv (.map none)] []),
  (o3 (.st 2 (.t 4) (.t 64))),o1 5 (.mv (.c .sl0)),o1 6 (.mv (ci 23))]
abbrev HB:List AO:=
 [(mt 65 12),
  (mt 66 65),
  (o4 67 66 (.fa 1 (.t 15))),
  (o4 68 66 (.ld 1 false (.t 67))),
  (o4 69 66 (.bin .lss (.t 68) (ci 0))),o1 70 (.pick (.t 66) (.c (.b true)) (.t 69)),
  (mt 71 70),
  (o4 72 71 (.fa 1 (.t 15))),
  (o4 73 71 (.ld 1 false (.t 72))),
  (o4 74 71 (.bin .gtr (.t 73) (ci 65536))),o1 75 (.pick (.t 71) (.c (.b true)) (.t 74)),
  (mt 12 75)]
abbrev HA:List AO:=
 [o1 76 (.fa 1 (.t 11)),o1 77 (.ld 1 false (.t 76)),
  (mt 78 14),o1 79 (.fa 1 (.t 15)),o1 80 (.ld 1 false (.t 79)),⟨none,none,.mo (.mu (.t 77) (.t 78) (.t 80))⟩]
abbrev HN:AC:=
 (.seq (.reg HI) (.seq (.reg HG) (.seq (.seq (.reg HE) (.cond (.t 63) (.seq (.reg HD) .ret) .skip)) (.seq (.reg HB) (.reg HA)))))
abbrev Hz:List AO:=
 [o1 81 (.bin .add (.t 50) (ci 1)),
  (mt 50 81)]
abbrev HO:AC:=
 (.seq (.reg HJ) (.seq (.cond (.t 51) .skip (.exit 0)) (.seq (.block 1 HN) (.reg Hz))))
abbrev HM:AC:=
 (.loop HO)
abbrev Hy:List AO:=
 [(mt 82 12)]
abbrev Hx:List AO:=
 [o1 83 (.bd [.sl0,.cv (.map none)] []),
  (o3 (.st 2 (.t 4) (.t 83))),o1 5 (.mv (.c .sl0)),o1 6 (.mv (ci 2))]
abbrev Hw:List AO:=
 [o1 85 (.fa 2 (.t 2)),o1 86 (.ld 1 false (.t 85)),
  (o2 87 50 [.t 86]),
  (mt 84 87),o1 88 (.ext 0 (.t 84)),o1 89 (.ext 1 (.t 84)),o1 90 (.ext 2 (.t 84)),
  (mt 16 88),
  (mt 17 89),
  (mt 10 90)]
abbrev Hv:List AO:=
 [o1 91 (.ld 2 true (.t 11)),
  (mt 92 16),
  (mt 93 10),
  (o3 (.st 2 (.t 4) (.t 91))),
  (mt 5 92),
  (mt 6 93)]
abbrev Tt:AF:=⟨94,(.seq (.reg Ts) (.seq (.seq (.reg Tq) (.seq (.reg Tp) (.cond (.t 24) (.seq (.reg Tn) .ret) .skip))) (.seq (.reg Tm) (.seq (.seq (.reg Tl) (.cond (.t 34) (.seq (.reg Tk) .ret) .skip)) (.seq (.seq (.reg Tj) (.cond (.t 42) (.seq (.reg Ti) .ret) .skip)) (.seq (.reg Th) (.seq (.reg HL) (.seq (.seq (.reg HK) (.block 0 HM)) (.seq (.seq (.reg Hy) (.cond (.t 82) (.seq (.reg Hx) .ret) .skip)) (.seq (.reg Hw) (.seq (.reg Hv) .ret))))))))))),[.ld 2 true (.t 4),.mv (.t 5),.mv (.t 6)]⟩
theorem Dl:ax Tryz.prog (af Tryz.prog 34) 34=some Tt:=by kernel_rfl
/-! flow.Loops-/
abbrev Tf:List AO:=
 [o1 2 (.mv (.c .sl0)),o1 3 (.mv (ci 0))]
abbrev Te:List AO:=
 [(mt 11 0),
  (o2 12 50 [.t 11]),
  (mt 10 12),o1 13 (.ext 0 (.t 10)),o1 14 (.ext 1 (.t 10)),o1 15 (.ext 2 (.t 10)),
  (mt 4 13),
  (mt 5 14),
  (mt 6 15)]
abbrev Td:List AO:=
 [(mt 16 6),o1 17 (.bin .neq (.t 16) (ci 0))]
abbrev Tc:List AO:=
 [(mt 18 6),o1 2 (.mv (.c .sl0)),
  (mt 3 18)]
abbrev Tb:List AO:=
 [o1 7 (.mv (.c .sl0))]
abbrev Ta:List AO:=
 [(mt 19 0),o1 20 (.len (.t 19)),o1 21 (.mv (ci 0))]
abbrev S9:List AO:=
 [o1 22 (.bin .lss (.t 21) (.t 20))]
abbrev S8:List AO:=
 [(mt 23 21),o1 24 (.ia 2 (.t 19) (.t 21)),o1 25 (.ld 2 true (.t 24)),o1 9 (.al 54 [.n .i64 0,.n .u32 0]),
  (mt 8 23),
  (o3 (.st 2 (.t 9) (.t 25)))]
abbrev S7:List AO:=
 [o1 26 (.fa 0 (.t 9)),o1 27 (.ld 1 false (.t 26)),o1 28 (.bin .eql (.t 27) (ci 29))]
abbrev S6:List AO:=
 [(mt 29 7),
  (mt 30 8),o1 31 (.bs 3 1 1 [.n .i64 0] [(0,1,(.t 30))]),o1 32 (.app 3 1 8 (.t 29) (.t 31)),
  (mt 7 32)]
abbrev Ht:AC:=
 (.seq (.reg S8) (.seq (.reg S7) (.cond (.t 28) (.reg S6) .skip)))
abbrev Hr:List AO:=
 [o1 33 (.bin .add (.t 21) (ci 1)),
  (mt 21 33)]
abbrev Hu:AC:=
 (.seq (.reg S9) (.seq (.cond (.t 22) .skip (.exit 0)) (.seq (.block 1 Ht) (.reg Hr))))
abbrev Hs:AC:=
 (.loop Hu)
abbrev Hq:List AO:=
 [(mt 34 7),
  (mt 2 34),o1 3 (.mv (ci 0))]
abbrev Tg:AF:=⟨35,(.seq (.reg Tf) (.seq (.reg Te) (.seq (.seq (.reg Td) (.cond (.t 17) (.seq (.reg Tc) .ret) .skip)) (.seq (.reg Tb) (.seq (.seq (.reg Ta) (.block 0 Hs)) (.seq (.reg Hq) .ret)))))),[.mv (.t 2),.mv (.t 3)]⟩
theorem Dk:ax Tryz.prog (af Tryz.prog 65) 65=some Tg:=by kernel_rfl
/-! cost.bounds.steps-/
abbrev S3:List AO:=
 [o1 3 (.bx 88 0 (.t 0)),o1 6 (.mv (ci 0))]
abbrev SZ:List AO:=
 [(mt 7 2),
  (mt 8 1),o1 9 (.bin .sub (.t 7) (.t 8)),
  (mt 6 9)]
abbrev S5:AF:=⟨10,(.seq (.reg S3) (.seq (.reg SZ) .ret)),[.mv (.t 6)]⟩
theorem Dj:ax Tryz.prog (af Tryz.prog 36) 36=some S5:=by kernel_rfl
/-! cost.bounds.walk-/
abbrev SV:List AO:=
 [o1 4 (.bx 88 0 (.t 0)),o1 8 (.mv (ci 0))]
abbrev SU:List AO:=
 [o1 9 (.mv (ci 0))]
abbrev SS:List AO:=
 [(mt 13 1),o1 14 (.len (.t 13)),o1 15 (.mv (ci 0))]
abbrev SR:List AO:=
 [o1 16 (.bin .lss (.t 15) (.t 14))]
abbrev SQ:List AO:=
 [o1 17 (.ia 5 (.t 13) (.t 15)),o1 18 (.ld 5 true (.t 17)),o1 11 (.al 140 [.n .i64 0,.n .i64 0,.n .i64 0,.sl0,.sl0]),
  (o3 (.st 5 (.t 11) (.t 18)))]
abbrev SP:List AO:=
 [o1 12 (.mv (ci 0))]
abbrev SO:List AO:=
 [o1 19 (.fa 0 (.t 11)),o1 20 (.ld 1 false (.t 19))]
abbrev SN:List AO:=
 [o1 28 (.bin .eql (.t 20) (ci 27)),
  (mt 27 28)]
abbrev SX:List (Nat×AO):=
 [(2,(mt 29 3)),(2,(o1 31 (.fa 3 (.t 11)))),
  (2,(mt 33 2)),
  (2,(mt 34 3)),(2,(o1 37 (.fa 4 (.t 11)))),
  (2,(mt 39 2)),
  (2,(mt 40 3)),(1,(o1 30 (.ld 2 true (.t 4)))),(1,(o1 32 (.ld 1 false (.t 31)))),(1,(o1 36 (.ld 2 true (.t 4)))),(1,(o1 38 (.ld 1 false (.t 37)))),
  (0,(o2 35 35 [.t 30,.t 32,.t 33,.t 34])),
  (3,(o2 41 35 [.t 36,.t 38,.t 39,.t 40])),(3,⟨some 42,none,.mo (.mx (.t 35) (.t 41))⟩),
  (3,(o2 43 66 [.t 29,.t 42])),
  (2,(mt 12 43))]
abbrev SM:List AO:=
 [o1 45 (.bin .eql (.t 20) (ci 29)),
  (mt 44 45)]
abbrev Hl:List (Nat×AO):=
 [(2,(mt 46 3)),
  (2,(mt 47 3)),(2,(o1 49 (.fa 3 (.t 11)))),
  (2,(mt 51 2)),
  (2,(mt 52 3)),(2,(o1 55 (.fa 1 (.t 4)))),(2,(o1 57 (.fa 1 (.t 11)))),(1,(o1 48 (.ld 2 true (.t 4)))),(1,(o1 50 (.ld 1 false (.t 49)))),(1,(o1 56 (.ld 1 false (.t 55)))),(1,(o1 58 (.ld 1 false (.t 57)))),(4,⟨some 59,none,.mo (.lk (.n .i64 0) false (.t 56) (.t 58))⟩),
  (0,(o2 53 35 [.t 48,.t 50,.t 51,.t 52])),
  (0,(o2 54 66 [.t 47,.t 53])),
  (3,(o2 60 24 [.t 54,.t 59])),
  (3,(o2 61 66 [.t 46,.t 60])),
  (2,(mt 12 61))]
abbrev Hk:List AO:=
 [(mt 21 2),o1 22 (.fa 1 (.t 11)),o1 23 (.ld 1 false (.t 22)),o1 24 (.fa 2 (.t 11)),o1 25 (.ld 1 false (.t 24)),⟨some 26,none,.cl (.t 21) [.t 23,.t 25]⟩,
  (mt 12 26)]
abbrev Ho:AC:=
 (.seq (.reg SN) (.cond (.t 27) (.mix SX) (.seq (.reg SM) (.cond (.t 44) (.mxl Hl) (.reg Hk)))))
abbrev Hj:List AO:=
 [(mt 62 9),
  (mt 63 12),
  (o2 64 66 [.t 62,.t 63]),
  (mt 9 64)]
abbrev Hn:AC:=
 (.seq (.reg SQ) (.seq (.reg SP) (.seq (.seq (.reg SO) (.block 2 Ho)) (.reg Hj))))
abbrev Hi:List AO:=
 [o1 65 (.bin .add (.t 15) (ci 1)),
  (mt 15 65)]
abbrev Hp:AC:=
 (.seq (.reg SR) (.seq (.cond (.t 16) .skip (.exit 0)) (.seq (.block 1 Hn) (.reg Hi))))
abbrev Hm:AC:=
 (.loop Hp)
abbrev Hh:List AO:=
 [(mt 66 9),
  (mt 8 66)]
abbrev SY:AF:=⟨67,(.seq (.reg SV) (.seq (.reg SU) (.seq (.seq (.reg SS) (.block 0 Hm)) (.seq (.reg Hh) .ret)))),[.mv (.t 8)]⟩
theorem Di:ax Tryz.prog (af Tryz.prog 35) 35=some SY:=by kernel_rfl
/-! cost.plus[int]-/
abbrev SK:List AO:=
 [o1 4 (.mv (ci 0))]
abbrev SJ:List AO:=
 [(mt 5 0),
  (mt 6 1),o1 7 (.bin .add (.t 5) (.t 6)),⟨some 8,none,.mo (.mi (.t 7) (ci 281474976710657))⟩,
  (mt 4 8)]
abbrev SL:AF:=⟨9,(.seq (.reg SK) (.seq (.reg SJ) .ret)),[.mv (.t 4)]⟩
theorem Dh:ax Tryz.prog (af Tryz.prog 66) 66=some SL:=by kernel_rfl
/-! cost.times[int]-/
abbrev SG:List AO:=
 [o1 4 (.mv (ci 0))]
abbrev SF:List AO:=
 [(mt 5 1),o1 6 (.bin .gtr (.t 5) (ci 0)),
  (mt 7 6),
  (o5 8 7 (.mv (.t 0))),
  (o5 9 7 (.mv (.t 1))),
  (o5 10 7 (.bin .quo (ci 281474976710657) (.t 9))),
  (o5 11 7 (.bin .gtr (.t 8) (.t 10))),o1 12 (.pick (.t 7) (.t 11) (.c (.b false)))]
abbrev SE:List AO:=
 [o1 4 (.mv (ci 281474976710657))]
abbrev SD:List AO:=
 [(mt 13 0),
  (mt 14 1),o1 15 (.bin .mul (.t 13) (.t 14)),⟨some 16,none,.mo (.mi (.t 15) (ci 281474976710657))⟩,
  (mt 4 16)]
abbrev SI:AF:=⟨17,(.seq (.reg SG) (.seq (.seq (.reg SF) (.cond (.t 12) (.seq (.reg SE) .ret) .skip)) (.seq (.reg SD) .ret))),[.mv (.t 4)]⟩
theorem Dg:ax Tryz.prog (af Tryz.prog 24) 24=some SI:=by kernel_rfl
/-! cost.bounded-/
abbrev SB:List AO:=
 [o1 2 (.mv (ci 0)),o1 3 (.mv (ci 0))]
abbrev SA:List AO:=
 [(mt 4 0),o1 5 (.bin .geq (.t 4) (ci 281474976710657))]
abbrev Sz:List AO:=
 [o1 2 (.mv (ci 0)),o1 3 (.mv (ci 18))]
abbrev Sy:List AO:=
 [(mt 6 0),
  (mt 2 6),o1 3 (.mv (ci 0))]
abbrev SC:AF:=⟨7,(.seq (.reg SB) (.seq (.seq (.reg SA) (.cond (.t 5) (.seq (.reg Sz) .ret) .skip)) (.seq (.reg Sy) .ret))),[.mv (.t 2),.mv (.t 3)]⟩
theorem Df:ax Tryz.prog (af Tryz.prog 23) 23=some SC:=by kernel_rfl
/-! cost.Memory-/
abbrev Sv:List AO:=
 [o1 1 (.bx 25 0 (.t 0)),o1 2 (.mv (ci 0)),o1 3 (.mv (ci 0))]
abbrev Su:List AO:=
 [o1 11 (.ld 3 true (.t 1)),
  (o2 12 38 [.t 11]),
  (mt 10 12),o1 13 (.ext 0 (.t 10)),o1 14 (.ext 1 (.t 10)),
  (mt 4 13),
  (mt 5 14)]
abbrev Ss:List AO:=
 [(mt 15 5),o1 16 (.bin .neq (.t 15) (ci 0))]
abbrev Sr:List AO:=
 [(mt 17 5),o1 2 (.mv (ci 0)),
  (mt 3 17)]
abbrev Sq:List AO:=
 [o1 18 (.fa 1 (.t 1)),o1 19 (.ld 1 false (.t 18)),o1 20 (.bin .add (.t 19) (ci 32)),o1 21 (.bin .add (.t 20) (ci 16)),o1 22 (.bin .mul (ci 4) (.t 21)),
  (mt 6 22)]
abbrev Sp:List AO:=
 [o1 23 (.fa 0 (.t 1)),o1 24 (.ld 1 false (.t 23)),o1 25 (.len (.t 24)),o1 26 (.mv (ci 0))]
abbrev So:List AO:=
 [o1 27 (.bin .lss (.t 26) (.t 25))]
abbrev Sn:List AO:=
 [o1 28 (.ia 2 (.t 24) (.t 26)),o1 29 (.ld 2 true (.t 28)),o1 8 (.al 68 [.b false,.n .i64 0]),
  (o3 (.st 2 (.t 8) (.t 29)))]
abbrev Sl:List AO:=
 [o1 30 (.fa 1 (.t 8)),o1 31 (.ld 1 false (.t 30)),
  (mt 9 31)]
abbrev Sk:List AO:=
 [o1 32 (.fa 0 (.t 8)),o1 33 (.ld 1 false (.t 32))]
abbrev Hd:List AO:=
 [(mt 34 9),o1 35 (.bin .mul (.t 34) (ci 4)),
  (mt 9 35)]
abbrev Hb:List AO:=
 [(mt 36 6),
  (mt 37 9),o1 38 (.bin .add (.t 36) (.t 37)),
  (mt 6 38)]
abbrev Hf:AC:=
 (.seq (.reg Sn) (.seq (.reg Sl) (.seq (.seq (.reg Sk) (.cond (.t 33) (.reg Hd) .skip)) (.reg Hb))))
abbrev G9:List AO:=
 [o1 39 (.bin .add (.t 26) (ci 1)),
  (mt 26 39)]
abbrev Hg:AC:=
 (.seq (.reg So) (.seq (.cond (.t 27) .skip (.exit 0)) (.seq (.block 1 Hf) (.reg G9))))
abbrev He:AC:=
 (.loop Hg)
abbrev G8:List AO:=
 [(mt 40 6),
  (mt 2 40),o1 3 (.mv (ci 0))]
abbrev Sw:AF:=⟨41,(.seq (.reg Sv) (.seq (.seq (.reg Su) (.seq (.reg Ss) (.cond (.t 16) (.seq (.reg Sr) .ret) .skip))) (.seq (.reg Sq) (.seq (.seq (.reg Sp) (.block 0 He)) (.seq (.reg G8) .ret))))),[.mv (.t 2),.mv (.t 3)]⟩
theorem De:ax Tryz.prog (af Tryz.prog 15) 15=some Sw:=by kernel_rfl
/-! cost.Limit-/
abbrev Sf:List AO:=
 [o1 2 (.bx 25 0 (.t 0)),o1 4 (.al 29 [.n .i64 0,.n .i64 0]),o1 5 (.mv (ci 0))]
abbrev Se:List AO:=
 [o1 12 (.ld 3 true (.t 2)),
  (o2 13 12 [.t 12]),
  (mt 11 13),o1 14 (.ext 0 (.t 11)),o1 15 (.ext 1 (.t 11)),o1 16 (.ext 2 (.t 11)),o1 6 (.al 38 [.n .i64 0,.n .i64 0,.n .i64 0,.sl0]),
  (o3 (.st 4 (.t 6) (.t 14))),
  (mt 7 15),
  (mt 8 16)]
abbrev Sd:List AO:=
 [(mt 18 8),o1 19 (.bin .neq (.t 18) (ci 0)),
  (mt 17 19)]
abbrev Sc:List AO:=
 [o1 20 (.bd [.n .i64 0,.n .i64 0] []),
  (mt 21 8),
  (o3 (.st 2 (.t 4) (.t 20))),
  (mt 5 21)]
abbrev Sb:List AO:=
 [(mt 23 1),o1 24 (.bin .lss (.t 23) (ci 0)),
  (mt 25 24),
  (o4 26 25 (.mv (.t 1))),
  (o4 27 25 (.bin .gtr (.t 26) (ci 65536))),o1 28 (.pick (.t 25) (.c (.b true)) (.t 27)),
  (mt 22 28)]
abbrev Sa:List AO:=
 [o1 29 (.bd [.n .i64 0,.n .i64 0] []),
  (o3 (.st 2 (.t 4) (.t 29))),o1 5 (.mv (ci 2))]
abbrev Sh:AC:=
 (.seq (.reg Sd) (.cond (.t 17) (.seq (.reg Sc) .ret) (.seq (.reg Sb) (.cond (.t 22) (.seq (.reg Sa) .ret) .skip))))
abbrev R9:List AO:=
 [o1 31 (.ld 3 true (.t 2)),
  (o2 32 15 [.t 31]),
  (mt 30 32),o1 33 (.ext 0 (.t 30)),o1 34 (.ext 1 (.t 30)),
  (mt 9 33),
  (mt 8 34)]
abbrev R8:List AO:=
 [(mt 35 8),o1 36 (.bin .neq (.t 35) (ci 0))]
abbrev R7:List AO:=
 [o1 37 (.bd [.n .i64 0,.n .i64 0] []),
  (mt 38 8),
  (o3 (.st 2 (.t 4) (.t 37))),
  (mt 5 38)]
abbrev G7:List AO:=
 [o1 40 (.fa 0 (.t 6)),o1 41 (.ld 1 false (.t 40)),
  (mt 42 1),o1 43 (.bin .add (.t 42) (ci 1)),
  (o2 44 24 [.t 41,.t 43]),
  (o2 45 23 [.t 44]),
  (mt 39 45),o1 46 (.ext 0 (.t 39)),o1 47 (.ext 1 (.t 39)),
  (mt 10 46),
  (mt 8 47)]
abbrev G0:List AO:=
 [(mt 48 8),o1 49 (.bin .neq (.t 48) (ci 0))]
abbrev GZ:List AO:=
 [o1 50 (.bd [.n .i64 0,.n .i64 0] []),
  (mt 51 8),
  (o3 (.st 2 (.t 4) (.t 50))),
  (mt 5 51)]
abbrev GY:List AO:=
 [(mt 52 9),
  (mt 53 10),o1 54 (.bd [.n .i64 0,.n .i64 0] [(0,1,(.t 52)),(1,1,(.t 53))]),
  (o3 (.st 2 (.t 4) (.t 54))),o1 5 (.mv (ci 0))]
abbrev Sj:AF:=⟨55,(.seq (.reg Sf) (.seq (.reg Se) (.seq (.block 0 Sh) (.seq (.reg R9) (.seq (.seq (.reg R8) (.cond (.t 36) (.seq (.reg R7) .ret) .skip)) (.seq (.reg G7) (.seq (.seq (.reg G0) (.cond (.t 49) (.seq (.reg GZ) .ret) .skip)) (.seq (.reg GY) .ret)))))))),[.ld 2 true (.t 4),.mv (.t 5)]⟩
theorem Dd:ax Tryz.prog (af Tryz.prog 10) 10=some Sj:=by kernel_rfl
/-! cost.Add-/
abbrev RX:List AO:=
 [o1 2 (.bx 29 0 (.t 0)),o1 3 (.bx 29 0 (.t 1)),o1 4 (.al 29 [.n .i64 0,.n .i64 0])]
abbrev RZ:List (Nat×AO):=
 [(2,(o1 5 (.fa 0 (.t 2)))),(2,(o1 7 (.fa 0 (.t 3)))),(2,(o1 10 (.fa 1 (.t 2)))),(2,(o1 12 (.fa 1 (.t 3)))),(1,(o1 6 (.ld 1 false (.t 5)))),(1,(o1 8 (.ld 1 false (.t 7)))),(1,(o1 11 (.ld 1 false (.t 10)))),(1,(o1 13 (.ld 1 false (.t 12)))),
  (0,(o2 9 43 [.t 6,.t 8])),
  (3,(o2 14 43 [.t 11,.t 13])),(2,(o1 15 (.bd [.n .i64 0,.n .i64 0] [(0,1,(.t 9)),(1,1,(.t 14))]))),
  (3,(o3 (.st 2 (.t 4) (.t 15))))]
abbrev R0:AF:=⟨16,(.seq (.reg RX) (.seq (.mix RZ) .ret)),[.ld 2 true (.t 4)]⟩
theorem RY:ax Tryz.prog (af Tryz.prog 21) 21=some R0:=by kernel_rfl
/-! cost.sum-/
abbrev RR:List AO:=
 [o1 4 (.mv (ci 0))]
abbrev RQ:List AO:=
 [(mt 5 0),
  (o2 6 44 [.t 5]),o1 7 (.un .not (.t 6)),
  (mt 8 7),
  (o4 9 8 (.mv (.t 1))),⟨some 10,some (8,false),.cl (.c (.f 44 [] [])) [.t 9]⟩,
  (o4 11 8 (.un .not (.t 10))),o1 12 (.pick (.t 8) (.c (.b true)) (.t 11)),
  (mt 13 12),
  (o4 14 13 (.mv (.t 0))),
  (o4 15 13 (.mv (.t 1))),
  (o4 16 13 (.bin .add (.t 14) (.t 15))),⟨some 17,some (13,false),.cl (.c (.f 44 [] [])) [.t 16]⟩,
  (o4 18 13 (.un .not (.t 17))),o1 19 (.pick (.t 13) (.c (.b true)) (.t 18))]
abbrev RP:List AO:=
 [o1 4 (.mv (ci 281474976710656))]
abbrev RO:List AO:=
 [(mt 20 0),
  (mt 21 1),o1 22 (.bin .add (.t 20) (.t 21)),
  (mt 4 22)]
abbrev RV:AF:=⟨23,(.seq (.reg RR) (.seq (.seq (.reg RQ) (.cond (.t 19) (.seq (.reg RP) .ret) .skip)) (.seq (.reg RO) .ret))),[.mv (.t 4)]⟩
theorem RU:ax Tryz.prog (af Tryz.prog 43) 43=some RV:=by kernel_rfl
/-! cost.known-/
abbrev RL:List AO:=
 [o1 2 (.mv (.c (.b false)))]
abbrev RK:List AO:=
 [(mt 3 0),o1 4 (.bin .geq (.t 3) (ci 0)),
  (mt 5 4),
  (o5 6 5 (.mv (.t 0))),
  (o5 7 5 (.bin .leq (.t 6) (ci 281474976710656))),o1 8 (.pick (.t 5) (.t 7) (.c (.b false))),
  (mt 2 8)]
abbrev RN:AF:=⟨9,(.seq (.reg RL) (.seq (.reg RK) .ret)),[.mv (.t 2)]⟩
theorem RM:ax Tryz.prog (af Tryz.prog 44) 44=some RN:=by kernel_rfl
/-! cost.Fits-/
abbrev RH:List AO:=
 [o1 2 (.bx 29 0 (.t 0)),o1 3 (.bx 29 0 (.t 1)),o1 4 (.mv (.c (.b false)))]
abbrev RG:List AO:=
 [o1 5 (.fa 0 (.t 2)),o1 6 (.ld 1 false (.t 5)),
  (o2 7 44 [.t 6]),
  (mt 8 7),
  (o5 9 8 (.fa 1 (.t 2))),
  (o5 10 8 (.ld 1 false (.t 9))),⟨some 11,some (8,true),.cl (.c (.f 44 [] [])) [.t 10]⟩,o1 12 (.pick (.t 8) (.t 11) (.c (.b false))),
  (mt 13 12),
  (o5 14 13 (.fa 0 (.t 3))),
  (o5 15 13 (.ld 1 false (.t 14))),⟨some 16,some (13,true),.cl (.c (.f 44 [] [])) [.t 15]⟩,o1 17 (.pick (.t 13) (.t 16) (.c (.b false))),
  (mt 18 17),
  (o5 19 18 (.fa 1 (.t 3))),
  (o5 20 18 (.ld 1 false (.t 19))),⟨some 21,some (18,true),.cl (.c (.f 44 [] [])) [.t 20]⟩,o1 22 (.pick (.t 18) (.t 21) (.c (.b false))),
  (mt 23 22),
  (o5 24 23 (.fa 0 (.t 2))),
  (o5 25 23 (.ld 1 false (.t 24))),
  (o5 26 23 (.fa 0 (.t 3))),
  (o5 27 23 (.ld 1 false (.t 26))),
  (o5 28 23 (.bin .leq (.t 25) (.t 27))),o1 29 (.pick (.t 23) (.t 28) (.c (.b false))),
  (mt 30 29),
  (o5 31 30 (.fa 1 (.t 2))),
  (o5 32 30 (.ld 1 false (.t 31))),
  (o5 33 30 (.fa 1 (.t 3))),
  (o5 34 30 (.ld 1 false (.t 33))),
  (o5 35 30 (.bin .leq (.t 32) (.t 34))),o1 36 (.pick (.t 30) (.t 35) (.c (.b false))),
  (mt 4 36)]
abbrev RJ:AF:=⟨37,(.seq (.reg RH) (.seq (.reg RG) .ret)),[.mv (.t 4)]⟩
theorem RI:ax Tryz.prog (af Tryz.prog 22) 22=some RJ:=by kernel_rfl
/-! compactorlaw21.CostLimits-/
/-! compactorlaw21.CostReports-/
abbrev KF:List AO:=
 [o1 1 (.bx 25 0 (.t 0)),o1 2 (.mv (.c (.b false)))]
abbrev KE:List AO:=
 [o1 16 (.ld 3 true (.t 1)),
  (o2 17 8 [.t 16]),o1 18 (.un .not (.t 17))]
abbrev KD:List AO:=
 [(o2 19 9 []),
  (mt 2 19)]
abbrev KC:List AO:=
 [o1 21 (.ld 3 true (.t 1)),
  (o2 22 12 [.t 21]),
  (mt 20 22),o1 23 (.ext 0 (.t 20)),o1 24 (.ext 1 (.t 20)),o1 25 (.ext 2 (.t 20)),o1 3 (.al 38 [.n .i64 0,.n .i64 0,.n .i64 0,.sl0]),
  (o3 (.st 4 (.t 3) (.t 23))),
  (mt 4 24),
  (mt 5 25)]
abbrev KB:List AO:=
 [(mt 26 5),o1 27 (.bin .neq (.t 26) (ci 0))]
abbrev KA:List AO:=
 [o1 29 (.ld 3 true (.t 1)),
  (o2 30 10 [.t 29,(ci 0)]),
  (mt 28 30),o1 31 (.ext 0 (.t 28)),o1 32 (.ext 1 (.t 28)),o1 6 (.al 29 [.n .i64 0,.n .i64 0]),
  (o3 (.st 2 (.t 6) (.t 31))),
  (mt 7 32)]
abbrev Kz:List AO:=
 [(mt 33 5),
  (mt 34 7),o1 35 (.bin .eql (.t 33) (.t 34)),
  (mt 36 35),⟨some 37,some (36,true),.cl (.c (.f 9 [] [])) []⟩,o1 38 (.pick (.t 36) (.t 37) (.c (.b false))),
  (mt 2 38)]
abbrev Ky:List AO:=
 [o1 40 (.ld 3 true (.t 1)),o1 41 (.ld 4 true (.t 3)),
  (o2 42 13 [.t 40,.t 41]),
  (mt 39 42),o1 43 (.ext 0 (.t 39)),o1 44 (.ext 1 (.t 39)),
  (mt 8 43),
  (mt 9 44)]
abbrev Kx:List AO:=
 [o1 46 (.ld 3 true (.t 1)),o1 47 (.ld 4 true (.t 3)),
  (o2 48 14 [.t 46,.t 47]),
  (mt 45 48),o1 49 (.ext 0 (.t 45)),o1 50 (.ext 1 (.t 45)),
  (mt 10 49),
  (mt 11 50)]
abbrev Kw:List AO:=
 [o1 52 (.ld 3 true (.t 1)),
  (o2 53 10 [.t 52,(ci 0)]),
  (mt 51 53),o1 54 (.ext 0 (.t 51)),o1 55 (.ext 1 (.t 51)),o1 12 (.al 29 [.n .i64 0,.n .i64 0]),
  (o3 (.st 2 (.t 12) (.t 54))),
  (mt 13 55)]
abbrev Bf:List AO:=
 [o1 57 (.ld 3 true (.t 1)),
  (o2 58 15 [.t 57]),
  (mt 56 58),o1 59 (.ext 0 (.t 56)),o1 60 (.ext 1 (.t 56)),
  (mt 14 59),
  (mt 15 60)]
abbrev Be:List AO:=
 [(mt 61 9),
  (mt 62 11),o1 63 (.bin .add (.t 61) (.t 62)),
  (mt 64 13),o1 65 (.bin .add (.t 63) (.t 64)),
  (mt 66 15),o1 67 (.bin .add (.t 65) (.t 66)),o1 68 (.bin .eql (.t 67) (ci 0)),
  (mt 69 68),
  (o5 70 69 (.mv (.t 8))),
  (o5 71 69 (.fa 0 (.t 3))),
  (o5 72 69 (.ld 1 false (.t 71))),
  (o5 73 69 (.bin .eql (.t 70) (.t 72))),o1 74 (.pick (.t 69) (.t 73) (.c (.b false))),
  (mt 75 74),
  (o5 76 75 (.mv (.t 10))),
  (o5 77 75 (.fa 1 (.t 3))),
  (o5 78 75 (.ld 1 false (.t 77))),
  (o5 79 75 (.bin .eql (.t 76) (.t 78))),o1 80 (.pick (.t 75) (.t 79) (.c (.b false))),
  (mt 81 80),
  (o5 82 81 (.ld 2 true (.t 12))),
  (o5 83 81 (.mv (.t 14))),
  (o5 84 81 (.mv (.t 8))),
  (o5 85 81 (.bd [.n .i64 0,.n .i64 0] [(0,1,(.t 83)),(1,1,(.t 84))])),
  (o5 86 81 (.eq false (.st [(0,1,.n),(1,1,.n)]) (.t 82) (.t 85))),o1 87 (.pick (.t 81) (.t 86) (.c (.b false))),
  (mt 88 87),⟨some 89,some (88,true),.cl (.c (.f 9 [] [])) []⟩,o1 90 (.pick (.t 88) (.t 89) (.c (.b false))),
  (mt 2 90)]
abbrev aay:AF:=⟨91,(.seq (.reg KF) (.seq (.seq (.reg KE) (.cond (.t 18) (.seq (.reg KD) .ret) .skip)) (.seq (.reg KC) (.seq (.seq (.reg KB) (.cond (.t 27) (.seq (.reg KA) (.seq (.reg Kz) .ret)) .skip)) (.seq (.reg Ky) (.seq (.reg Kx) (.seq (.reg Kw) (.seq (.reg Bf) (.seq (.reg Be) .ret))))))))),[.mv (.t 2)]⟩
theorem KG:ax Tryz.prog (af Tryz.prog 4) 4=some aay:=by kernel_rfl
/-! compactorlaw21.CostGrows-/
/-! compactorlaw21.CostAdds-/
/-! compactorlaw21.CostCovers-/
/-! compactorref21.Limit-/
/-! slices.Clone[[]api.Invariant,api.Invariant]-/
/-! slices.Clone[[]api.Instr,api.Instr]-/
end Go.Proofs.YtdpkgnmmikebdaaGreat