/- A part of the proof of CostAdds: AcCsE AcCsF AcVrC. No condition. -/
import Derived.Test.YtdpkgnmmikebdaaGreatGg14
import Derived.Test.YtdpkgnmmikebdaaGreatProg
set_option linter.unusedSimpArgs false
set_option linter.unusedVariables false
set_option linter.constructorNameAsVariable false
set_option maxRecDepth 100000
set_option maxHeartbeats 4000000
namespace Go.Proofs.YtdpkgnmmikebdaaGreat
open Go.RowKit
/-! verifier.guarded-/
/-! cost.Steps-/
abbrev Ol:List AO:=
 [o1 2 (.bx 25 0 (.t 0)),o1 3 (.bx 38 0 (.t 1)),o1 4 (.mv (ci 0)),o1 5 (.mv (ci 0))]
abbrev Ok:List AO:=
 [o1 10 (.ld 3 true (.t 2)),o1 11 (.ld 4 true (.t 3)),
  (o2 12 34 [.t 10,.t 11]),
  (mt 9 12),o1 13 (.ext 0 (.t 9)),o1 14 (.ext 1 (.t 9)),o1 15 (.ext 2 (.t 9)),o1 6 (.al 88 [.sl0,.cv (.map none)]),
  (o3 (.st 2 (.t 6) (.t 13))),
  (mt 7 14),
  (mt 8 15)]
abbrev Oj:List AO:=
 [(mt 16 8),o1 17 (.bin .neq (.t 16) (ci 0))]
abbrev Oi:List AO:=
 [(mt 18 8),o1 4 (.mv (ci 0)),
  (mt 5 18)]
abbrev Oh:List AO:=
 [o1 19 (.ld 2 true (.t 6)),
  (mt 20 7),o1 21 (.ld 2 true (.t 6)),o1 22 (.mf 36 [.t 21] []),
  (o2 23 35 [.t 19,.t 20,.t 22,(ci 1)]),
  (o2 24 23 [.t 23]),o1 25 (.ext 0 (.t 24)),o1 26 (.ext 1 (.t 24)),
  (mt 4 25),
  (mt 5 26)]
abbrev X9:AF:=⟨27,(.seq (.reg Ol) (.seq (.reg Ok) (.seq (.seq (.reg Oj) (.cond (.t 17) (.seq (.reg Oi) .ret) .skip)) (.seq (.reg Oh) .ret)))),[.mv (.t 4),.mv (.t 5)]⟩
theorem Om:aI Tryz.prog (af Tryz.prog 13) 13=some X9:=by kernel_rfl
/-! cost.open-/
abbrev Oe:List AO:=
 [o1 2 (.bx 25 0 (.t 0)),o1 3 (.bx 38 0 (.t 1)),o1 4 (.al 88 [.sl0,.cv (.map none)]),o1 5 (.mv (.c .sl0)),o1 6 (.mv (ci 0))]
abbrev Od:List AO:=
 [o1 19 (.ld 3 true (.t 2)),
  (o2 20 28 [.t 19]),
  (mt 18 20),o1 21 (.ext 0 (.t 18)),o1 22 (.ext 1 (.t 18)),
  (mt 7 21),
  (mt 8 22)]
abbrev Oc:List AO:=
 [(mt 23 8),o1 24 (.bin .neq (.t 23) (ci 0))]
abbrev Ob:List AO:=
 [o1 25 (.bd [.sl0,.cv (.map none)] []),
  (mt 26 8),
  (o3 (.st 2 (.t 4) (.t 25))),o1 5 (.mv (.c .sl0)),
  (mt 6 26)]
abbrev Oa:List AO:=
 [o1 28 (.fa 2 (.t 2)),o1 29 (.ld 1 false (.t 28)),
  (o2 30 65 [.t 29]),
  (mt 27 30),o1 31 (.ext 0 (.t 27)),o1 32 (.ext 1 (.t 27)),
  (mt 9 31),
  (mt 10 32)]
abbrev N9:List AO:=
 [(mt 33 10),o1 34 (.bin .neq (.t 33) (ci 0))]
abbrev N8:List AO:=
 [o1 35 (.bd [.sl0,.cv (.map none)] []),
  (mt 36 10),
  (o3 (.st 2 (.t 4) (.t 35))),o1 5 (.mv (.c .sl0)),
  (mt 6 36)]
abbrev N7:List AO:=
 [(mt 37 9),o1 38 (.len (.t 37)),o1 39 (.fa 3 (.t 3)),o1 40 (.ld 1 false (.t 39)),o1 41 (.len (.t 40)),o1 42 (.bin .neq (.t 38) (.t 41))]
abbrev N6:List AO:=
 [o1 43 (.bd [.sl0,.cv (.map none)] []),
  (o3 (.st 2 (.t 4) (.t 43))),o1 5 (.mv (.c .sl0)),o1 6 (.mv (ci 23))]
abbrev N5:List AO:=
 [o1 44 (.fa 2 (.t 2)),o1 45 (.ld 1 false (.t 44)),⟨some 46,none,.mo (.mm)⟩,o1 47 (.bd [.sl0,.cv (.map none)] [(0,1,(.t 45)),(1,1,(.t 46))]),o1 11 (.al 88 [.sl0,.cv (.map none)]),
  (o3 (.st 2 (.t 11) (.t 47)))]
abbrev Eb:List AO:=
 [o1 12 (.mv (.c (.b false)))]
abbrev Ea:List AO:=
 [(mt 48 9),o1 49 (.len (.t 48)),o1 50 (.mv (ci 0))]
abbrev D9:List AO:=
 [o1 51 (.bin .lss (.t 50) (.t 49))]
abbrev D8:List AO:=
 [(mt 52 50),o1 53 (.ia 1 (.t 48) (.t 50)),o1 54 (.ld 1 false (.t 53)),
  (mt 13 52),
  (mt 14 54)]
abbrev D7:List AO:=
 [o1 55 (.fa 3 (.t 3)),o1 56 (.ld 1 false (.t 55)),
  (mt 57 13),o1 58 (.ia 3 (.t 56) (.t 57)),o1 59 (.ld 3 true (.t 58)),o1 15 (.al 48 [.n .i64 0,.n .i64 0,.sl0]),
  (o3 (.st 3 (.t 15) (.t 59)))]
abbrev D6:List AO:=
 [o1 60 (.fa 0 (.t 15)),o1 61 (.ld 1 false (.t 60)),
  (mt 62 14),o1 63 (.bin .neq (.t 61) (.t 62))]
abbrev D5:List AO:=
 [o1 64 (.bd [.sl0,.cv (.map none)] []),
  (o3 (.st 2 (.t 4) (.t 64))),o1 5 (.mv (.c .sl0)),o1 6 (.mv (ci 23))]
abbrev D4:List AO:=
 [(mt 65 12),
  (mt 66 65),
  (o4 67 66 (.fa 1 (.t 15))),
  (o4 68 66 (.ld 1 false (.t 67))),
  (o4 69 66 (.bin .lss (.t 68) (ci 0))),o1 70 (.pick (.t 66) (.c (.b true)) (.t 69)),
  (mt 71 70),
  (o4 72 71 (.fa 1 (.t 15))),
  (o4 73 71 (.ld 1 false (.t 72))),
  (o4 74 71 (.bin .gtr (.t 73) (ci 65536))),o1 75 (.pick (.t 71) (.c (.b true)) (.t 74)),
  (mt 12 75)]
abbrev D3:List AO:=
 [o1 76 (.fa 1 (.t 11)),o1 77 (.ld 1 false (.t 76)),
  (mt 78 14),o1 79 (.fa 1 (.t 15)),o1 80 (.ld 1 false (.t 79)),⟨none,none,.mo (.mu (.t 77) (.t 78) (.t 80))⟩]
abbrev Ed:AC:=
 (.seq (.reg D8) (.seq (.reg D7) (.seq (.seq (.reg D6) (.cond (.t 63) (.seq (.reg D5) .ret) .skip)) (.seq (.reg D4) (.reg D3)))))
abbrev D2:List AO:=
 [o1 81 (.bin .add (.t 50) (ci 1)),
  (mt 50 81)]
abbrev Ee:AC:=
 (.seq (.reg D9) (.seq (.cond (.t 51) .skip (.exit 0)) (.seq (.block 1 Ed) (.reg D2))))
abbrev Ec:AC:=
 (.loop Ee)
abbrev D1:List AO:=
 [(mt 82 12)]
abbrev D0:List AO:=
 [o1 83 (.bd [.sl0,.cv (.map none)] []),
  (o3 (.st 2 (.t 4) (.t 83))),o1 5 (.mv (.c .sl0)),o1 6 (.mv (ci 2))]
abbrev DZ:List AO:=
 [o1 85 (.fa 2 (.t 2)),o1 86 (.ld 1 false (.t 85)),
  (o2 87 50 [.t 86]),
  (mt 84 87),o1 88 (.ext 0 (.t 84)),o1 89 (.ext 1 (.t 84)),o1 90 (.ext 2 (.t 84)),
  (mt 16 88),
  (mt 17 89),
  (mt 10 90)]
abbrev DY:List AO:=
 [o1 91 (.ld 2 true (.t 11)),
  (mt 92 16),
  (mt 93 10),
  (o3 (.st 2 (.t 4) (.t 91))),
  (mt 5 92),
  (mt 6 93)]
abbrev X8:AF:=⟨94,(.seq (.reg Oe) (.seq (.seq (.reg Od) (.seq (.reg Oc) (.cond (.t 24) (.seq (.reg Ob) .ret) .skip))) (.seq (.reg Oa) (.seq (.seq (.reg N9) (.cond (.t 34) (.seq (.reg N8) .ret) .skip)) (.seq (.seq (.reg N7) (.cond (.t 42) (.seq (.reg N6) .ret) .skip)) (.seq (.reg N5) (.seq (.reg Eb) (.seq (.seq (.reg Ea) (.block 0 Ec)) (.seq (.seq (.reg D1) (.cond (.t 82) (.seq (.reg D0) .ret) .skip)) (.seq (.reg DZ) (.seq (.reg DY) .ret))))))))))),[.ld 2 true (.t 4),.mv (.t 5),.mv (.t 6)]⟩
theorem Og:aI Tryz.prog (af Tryz.prog 34) 34=some X8:=by kernel_rfl
/-! flow.Loops-/
abbrev N3:List AO:=
 [o1 2 (.mv (.c .sl0)),o1 3 (.mv (ci 0))]
abbrev N1:List AO:=
 [(mt 11 0),
  (o2 12 50 [.t 11]),
  (mt 10 12),o1 13 (.ext 0 (.t 10)),o1 14 (.ext 1 (.t 10)),o1 15 (.ext 2 (.t 10)),
  (mt 4 13),
  (mt 5 14),
  (mt 6 15)]
abbrev N0:List AO:=
 [(mt 16 6),o1 17 (.bin .neq (.t 16) (ci 0))]
abbrev NZ:List AO:=
 [(mt 18 6),o1 2 (.mv (.c .sl0)),
  (mt 3 18)]
abbrev NY:List AO:=
 [o1 7 (.mv (.c .sl0))]
abbrev NX:List AO:=
 [(mt 19 0),o1 20 (.len (.t 19)),o1 21 (.mv (ci 0))]
abbrev NW:List AO:=
 [o1 22 (.bin .lss (.t 21) (.t 20))]
abbrev NV:List AO:=
 [(mt 23 21),o1 24 (.ia 2 (.t 19) (.t 21)),o1 25 (.ld 2 true (.t 24)),o1 9 (.al 54 [.n .i64 0,.n .u32 0]),
  (mt 8 23),
  (o3 (.st 2 (.t 9) (.t 25)))]
abbrev NU:List AO:=
 [o1 26 (.fa 0 (.t 9)),o1 27 (.ld 1 false (.t 26)),o1 28 (.bin .eql (.t 27) (ci 29))]
abbrev NT:List AO:=
 [(mt 29 7),
  (mt 30 8),o1 31 (.bs 3 1 1 [.n .i64 0] [(0,1,(.t 30))]),o1 32 (.app 3 1 8 (.t 29) (.t 31)),
  (mt 7 32)]
abbrev DW:AC:=
 (.seq (.reg NV) (.seq (.reg NU) (.cond (.t 28) (.reg NT) .skip)))
abbrev DU:List AO:=
 [o1 33 (.bin .add (.t 21) (ci 1)),
  (mt 21 33)]
abbrev DX:AC:=
 (.seq (.reg NW) (.seq (.cond (.t 22) .skip (.exit 0)) (.seq (.block 1 DW) (.reg DU))))
abbrev DV:AC:=
 (.loop DX)
abbrev DT:List AO:=
 [(mt 34 7),
  (mt 2 34),o1 3 (.mv (ci 0))]
abbrev X7:AF:=⟨35,(.seq (.reg N3) (.seq (.reg N1) (.seq (.seq (.reg N0) (.cond (.t 17) (.seq (.reg NZ) .ret) .skip)) (.seq (.reg NY) (.seq (.seq (.reg NX) (.block 0 DV)) (.seq (.reg DT) .ret)))))),[.mv (.t 2),.mv (.t 3)]⟩
theorem N4:aI Tryz.prog (af Tryz.prog 65) 65=some X7:=by kernel_rfl
/-! cost.bounds.steps-/
abbrev NQ:List AO:=
 [o1 3 (.bx 88 0 (.t 0)),o1 6 (.mv (ci 0))]
abbrev NP:List AO:=
 [(mt 7 2),
  (mt 8 1),o1 9 (.bin .sub (.t 7) (.t 8)),
  (mt 6 9)]
abbrev X6:AF:=⟨10,(.seq (.reg NQ) (.seq (.reg NP) .ret)),[.mv (.t 6)]⟩
theorem NS:aI Tryz.prog (af Tryz.prog 36) 36=some X6:=by kernel_rfl
/-! cost.bounds.walk-/
abbrev NL:List AO:=
 [o1 4 (.bx 88 0 (.t 0)),o1 8 (.mv (ci 0))]
abbrev NK:List AO:=
 [o1 9 (.mv (ci 0))]
abbrev NJ:List AO:=
 [(mt 13 1),o1 14 (.len (.t 13)),o1 15 (.mv (ci 0))]
abbrev NI:List AO:=
 [o1 16 (.bin .lss (.t 15) (.t 14))]
abbrev NH:List AO:=
 [o1 17 (.ia 5 (.t 13) (.t 15)),o1 18 (.ld 5 true (.t 17)),o1 11 (.al 140 [.n .i64 0,.n .i64 0,.n .i64 0,.sl0,.sl0]),
  (o3 (.st 5 (.t 11) (.t 18)))]
abbrev NG:List AO:=
 [o1 12 (.mv (ci 0))]
abbrev NF:List AO:=
 [o1 19 (.fa 0 (.t 11)),o1 20 (.ld 1 false (.t 19))]
abbrev ND:List AO:=
 [o1 28 (.bin .eql (.t 20) (ci 27)),
  (mt 27 28)]
abbrev NN:List (Nat×AO):=
 [(2,(mt 29 3)),(2,(o1 31 (.fa 3 (.t 11)))),
  (2,(mt 33 2)),
  (2,(mt 34 3)),(2,(o1 37 (.fa 4 (.t 11)))),
  (2,(mt 39 2)),
  (2,(mt 40 3)),(1,(o1 30 (.ld 2 true (.t 4)))),(1,(o1 32 (.ld 1 false (.t 31)))),(1,(o1 36 (.ld 2 true (.t 4)))),(1,(o1 38 (.ld 1 false (.t 37)))),
  (0,(o2 35 35 [.t 30,.t 32,.t 33,.t 34])),
  (3,(o2 41 35 [.t 36,.t 38,.t 39,.t 40])),(3,⟨some 42,none,.mo (.mx (.t 35) (.t 41))⟩),
  (3,(o2 43 66 [.t 29,.t 42])),
  (2,(mt 12 43))]
abbrev NC:List AO:=
 [o1 45 (.bin .eql (.t 20) (ci 29)),
  (mt 44 45)]
abbrev DN:List (Nat×AO):=
 [(2,(mt 46 3)),
  (2,(mt 47 3)),(2,(o1 49 (.fa 3 (.t 11)))),
  (2,(mt 51 2)),
  (2,(mt 52 3)),(2,(o1 55 (.fa 1 (.t 4)))),(2,(o1 57 (.fa 1 (.t 11)))),(1,(o1 48 (.ld 2 true (.t 4)))),(1,(o1 50 (.ld 1 false (.t 49)))),(1,(o1 56 (.ld 1 false (.t 55)))),(1,(o1 58 (.ld 1 false (.t 57)))),(4,⟨some 59,none,.mo (.lk (.n .i64 0) false (.t 56) (.t 58))⟩),
  (0,(o2 53 35 [.t 48,.t 50,.t 51,.t 52])),
  (0,(o2 54 66 [.t 47,.t 53])),
  (3,(o2 60 24 [.t 54,.t 59])),
  (3,(o2 61 66 [.t 46,.t 60])),
  (2,(mt 12 61))]
abbrev DM:List AO:=
 [(mt 21 2),o1 22 (.fa 1 (.t 11)),o1 23 (.ld 1 false (.t 22)),o1 24 (.fa 2 (.t 11)),o1 25 (.ld 1 false (.t 24)),⟨some 26,none,.cl (.t 21) [.t 23,.t 25]⟩,
  (mt 12 26)]
abbrev DR:AC:=
 (.seq (.reg ND) (.cond (.t 27) (.mix NN) (.seq (.reg NC) (.cond (.t 44) (.mxl DN) (.reg DM)))))
abbrev DL:List AO:=
 [(mt 62 9),
  (mt 63 12),
  (o2 64 66 [.t 62,.t 63]),
  (mt 9 64)]
abbrev DQ:AC:=
 (.seq (.reg NH) (.seq (.reg NG) (.seq (.seq (.reg NF) (.block 2 DR)) (.reg DL))))
abbrev DK:List AO:=
 [o1 65 (.bin .add (.t 15) (ci 1)),
  (mt 15 65)]
abbrev DS:AC:=
 (.seq (.reg NI) (.seq (.cond (.t 16) .skip (.exit 0)) (.seq (.block 1 DQ) (.reg DK))))
abbrev DP:AC:=
 (.loop DS)
abbrev DJ:List AO:=
 [(mt 66 9),
  (mt 8 66)]
abbrev X5:AF:=⟨67,(.seq (.reg NL) (.seq (.reg NK) (.seq (.seq (.reg NJ) (.block 0 DP)) (.seq (.reg DJ) .ret)))),[.mv (.t 8)]⟩
theorem NM:aI Tryz.prog (af Tryz.prog 35) 35=some X5:=by kernel_rfl
/-! cost.plus[int]-/
abbrev NA:List AO:=
 [o1 4 (.mv (ci 0))]
abbrev Nz:List AO:=
 [(mt 5 0),
  (mt 6 1),o1 7 (.bin .add (.t 5) (.t 6)),⟨some 8,none,.mo (.mi (.t 7) (ci 281474976710657))⟩,
  (mt 4 8)]
abbrev X4:AF:=⟨9,(.seq (.reg NA) (.seq (.reg Nz) .ret)),[.mv (.t 4)]⟩
theorem NB:aI Tryz.prog (af Tryz.prog 66) 66=some X4:=by kernel_rfl
/-! cost.times[int]-/
abbrev Nm:List AO:=
 [o1 4 (.mv (ci 0))]
abbrev Nl:List AO:=
 [(mt 5 1),o1 6 (.bin .gtr (.t 5) (ci 0)),
  (mt 7 6),
  (o5 8 7 (.mv (.t 0))),
  (o5 9 7 (.mv (.t 1))),
  (o5 10 7 (.bin .quo (ci 281474976710657) (.t 9))),
  (o5 11 7 (.bin .gtr (.t 8) (.t 10))),o1 12 (.pick (.t 7) (.t 11) (.c (.b false)))]
abbrev Nk:List AO:=
 [o1 4 (.mv (ci 281474976710657))]
abbrev Nj:List AO:=
 [(mt 13 0),
  (mt 14 1),o1 15 (.bin .mul (.t 13) (.t 14)),⟨some 16,none,.mo (.mi (.t 15) (ci 281474976710657))⟩,
  (mt 4 16)]
abbrev XS:AF:=⟨17,(.seq (.reg Nm) (.seq (.seq (.reg Nl) (.cond (.t 12) (.seq (.reg Nk) .ret) .skip)) (.seq (.reg Nj) .ret))),[.mv (.t 4)]⟩
theorem Nn:aI Tryz.prog (af Tryz.prog 24) 24=some XS:=by kernel_rfl
/-! cost.bounded-/
abbrev Nh:List AO:=
 [o1 2 (.mv (ci 0)),o1 3 (.mv (ci 0))]
abbrev Ng:List AO:=
 [(mt 4 0),o1 5 (.bin .geq (.t 4) (ci 281474976710657))]
abbrev Nf:List AO:=
 [o1 2 (.mv (ci 0)),o1 3 (.mv (ci 18))]
abbrev Nd:List AO:=
 [(mt 6 0),
  (mt 2 6),o1 3 (.mv (ci 0))]
abbrev XR:AF:=⟨7,(.seq (.reg Nh) (.seq (.seq (.reg Ng) (.cond (.t 5) (.seq (.reg Nf) .ret) .skip)) (.seq (.reg Nd) .ret))),[.mv (.t 2),.mv (.t 3)]⟩
theorem Ni:aI Tryz.prog (af Tryz.prog 23) 23=some XR:=by kernel_rfl
/-! cost.Memory-/
abbrev Nb:List AO:=
 [o1 1 (.bx 25 0 (.t 0)),o1 2 (.mv (ci 0)),o1 3 (.mv (ci 0))]
abbrev Na:List AO:=
 [o1 11 (.ld 3 true (.t 1)),
  (o2 12 38 [.t 11]),
  (mt 10 12),o1 13 (.ext 0 (.t 10)),o1 14 (.ext 1 (.t 10)),
  (mt 4 13),
  (mt 5 14)]
abbrev M9:List AO:=
 [(mt 15 5),o1 16 (.bin .neq (.t 15) (ci 0))]
abbrev M8:List AO:=
 [(mt 17 5),o1 2 (.mv (ci 0)),
  (mt 3 17)]
abbrev M7:List AO:=
 [o1 18 (.fa 1 (.t 1)),o1 19 (.ld 1 false (.t 18)),o1 20 (.bin .add (.t 19) (ci 32)),o1 21 (.bin .add (.t 20) (ci 16)),o1 22 (.bin .mul (ci 4) (.t 21)),
  (mt 6 22)]
abbrev M6:List AO:=
 [o1 23 (.fa 0 (.t 1)),o1 24 (.ld 1 false (.t 23)),o1 25 (.len (.t 24)),o1 26 (.mv (ci 0))]
abbrev M5:List AO:=
 [o1 27 (.bin .lss (.t 26) (.t 25))]
abbrev M4:List AO:=
 [o1 28 (.ia 2 (.t 24) (.t 26)),o1 29 (.ld 2 true (.t 28)),o1 8 (.al 68 [.b false,.n .i64 0]),
  (o3 (.st 2 (.t 8) (.t 29)))]
abbrev M3:List AO:=
 [o1 30 (.fa 1 (.t 8)),o1 31 (.ld 1 false (.t 30)),
  (mt 9 31)]
abbrev M1:List AO:=
 [o1 32 (.fa 0 (.t 8)),o1 33 (.ld 1 false (.t 32))]
abbrev DF:List AO:=
 [(mt 34 9),o1 35 (.bin .mul (.t 34) (ci 4)),
  (mt 9 35)]
abbrev DE:List AO:=
 [(mt 36 6),
  (mt 37 9),o1 38 (.bin .add (.t 36) (.t 37)),
  (mt 6 38)]
abbrev DH:AC:=
 (.seq (.reg M4) (.seq (.reg M3) (.seq (.seq (.reg M1) (.cond (.t 33) (.reg DF) .skip)) (.reg DE))))
abbrev DD:List AO:=
 [o1 39 (.bin .add (.t 26) (ci 1)),
  (mt 26 39)]
abbrev DI:AC:=
 (.seq (.reg M5) (.seq (.cond (.t 27) .skip (.exit 0)) (.seq (.block 1 DH) (.reg DD))))
abbrev DG:AC:=
 (.loop DI)
abbrev DC:List AO:=
 [(mt 40 6),
  (mt 2 40),o1 3 (.mv (ci 0))]
abbrev XQ:AF:=⟨41,(.seq (.reg Nb) (.seq (.seq (.reg Na) (.seq (.reg M9) (.cond (.t 16) (.seq (.reg M8) .ret) .skip))) (.seq (.reg M7) (.seq (.seq (.reg M6) (.block 0 DG)) (.seq (.reg DC) .ret))))),[.mv (.t 2),.mv (.t 3)]⟩
theorem Nc:aI Tryz.prog (af Tryz.prog 15) 15=some XQ:=by kernel_rfl
/-! cost.Limit-/
abbrev MY:List AO:=
 [o1 2 (.bx 25 0 (.t 0)),o1 4 (.al 29 [.n .i64 0,.n .i64 0]),o1 5 (.mv (ci 0))]
abbrev MX:List AO:=
 [o1 12 (.ld 3 true (.t 2)),
  (o2 13 12 [.t 12]),
  (mt 11 13),o1 14 (.ext 0 (.t 11)),o1 15 (.ext 1 (.t 11)),o1 16 (.ext 2 (.t 11)),o1 6 (.al 38 [.n .i64 0,.n .i64 0,.n .i64 0,.sl0]),
  (o3 (.st 4 (.t 6) (.t 14))),
  (mt 7 15),
  (mt 8 16)]
abbrev MW:List AO:=
 [(mt 18 8),o1 19 (.bin .neq (.t 18) (ci 0)),
  (mt 17 19)]
abbrev MV:List AO:=
 [o1 20 (.bd [.n .i64 0,.n .i64 0] []),
  (mt 21 8),
  (o3 (.st 2 (.t 4) (.t 20))),
  (mt 5 21)]
abbrev MU:List AO:=
 [(mt 23 1),o1 24 (.bin .lss (.t 23) (ci 0)),
  (mt 25 24),
  (o4 26 25 (.mv (.t 1))),
  (o4 27 25 (.bin .gtr (.t 26) (ci 65536))),o1 28 (.pick (.t 25) (.c (.b true)) (.t 27)),
  (mt 22 28)]
abbrev MT:List AO:=
 [o1 29 (.bd [.n .i64 0,.n .i64 0] []),
  (o3 (.st 2 (.t 4) (.t 29))),o1 5 (.mv (ci 2))]
abbrev M0:AC:=
 (.seq (.reg MW) (.cond (.t 17) (.seq (.reg MV) .ret) (.seq (.reg MU) (.cond (.t 22) (.seq (.reg MT) .ret) .skip))))
abbrev MS:List AO:=
 [o1 31 (.ld 3 true (.t 2)),
  (o2 32 15 [.t 31]),
  (mt 30 32),o1 33 (.ext 0 (.t 30)),o1 34 (.ext 1 (.t 30)),
  (mt 9 33),
  (mt 8 34)]
abbrev MR:List AO:=
 [(mt 35 8),o1 36 (.bin .neq (.t 35) (ci 0))]
abbrev MQ:List AO:=
 [o1 37 (.bd [.n .i64 0,.n .i64 0] []),
  (mt 38 8),
  (o3 (.st 2 (.t 4) (.t 37))),
  (mt 5 38)]
abbrev DB:List AO:=
 [o1 40 (.fa 0 (.t 6)),o1 41 (.ld 1 false (.t 40)),
  (mt 42 1),o1 43 (.bin .add (.t 42) (ci 1)),
  (o2 44 24 [.t 41,.t 43]),
  (o2 45 23 [.t 44]),
  (mt 39 45),o1 46 (.ext 0 (.t 39)),o1 47 (.ext 1 (.t 39)),
  (mt 10 46),
  (mt 8 47)]
abbrev DA:List AO:=
 [(mt 48 8),o1 49 (.bin .neq (.t 48) (ci 0))]
abbrev Dz:List AO:=
 [o1 50 (.bd [.n .i64 0,.n .i64 0] []),
  (mt 51 8),
  (o3 (.st 2 (.t 4) (.t 50))),
  (mt 5 51)]
abbrev Dy:List AO:=
 [(mt 52 9),
  (mt 53 10),o1 54 (.bd [.n .i64 0,.n .i64 0] [(0,1,(.t 52)),(1,1,(.t 53))]),
  (o3 (.st 2 (.t 4) (.t 54))),o1 5 (.mv (ci 0))]
abbrev XP:AF:=⟨55,(.seq (.reg MY) (.seq (.reg MX) (.seq (.block 0 M0) (.seq (.reg MS) (.seq (.seq (.reg MR) (.cond (.t 36) (.seq (.reg MQ) .ret) .skip)) (.seq (.reg DB) (.seq (.seq (.reg DA) (.cond (.t 49) (.seq (.reg Dz) .ret) .skip)) (.seq (.reg Dy) .ret)))))))),[.ld 2 true (.t 4),.mv (.t 5)]⟩
theorem MZ:aI Tryz.prog (af Tryz.prog 10) 10=some XP:=by kernel_rfl
/-! cost.Add-/
abbrev MM:List AO:=
 [o1 2 (.bx 29 0 (.t 0)),o1 3 (.bx 29 0 (.t 1)),o1 4 (.al 29 [.n .i64 0,.n .i64 0])]
abbrev MP:List (Nat×AO):=
 [(2,(o1 5 (.fa 0 (.t 2)))),(2,(o1 7 (.fa 0 (.t 3)))),(2,(o1 10 (.fa 1 (.t 2)))),(2,(o1 12 (.fa 1 (.t 3)))),(1,(o1 6 (.ld 1 false (.t 5)))),(1,(o1 8 (.ld 1 false (.t 7)))),(1,(o1 11 (.ld 1 false (.t 10)))),(1,(o1 13 (.ld 1 false (.t 12)))),
  (0,(o2 9 43 [.t 6,.t 8])),
  (3,(o2 14 43 [.t 11,.t 13])),(2,(o1 15 (.bd [.n .i64 0,.n .i64 0] [(0,1,(.t 9)),(1,1,(.t 14))]))),
  (3,(o3 (.st 2 (.t 4) (.t 15))))]
abbrev XO:AF:=⟨16,(.seq (.reg MM) (.seq (.mix MP) .ret)),[.ld 2 true (.t 4)]⟩
theorem MN:aI Tryz.prog (af Tryz.prog 21) 21=some XO:=by kernel_rfl
/-! cost.sum-/
abbrev MJ:List AO:=
 [o1 4 (.mv (ci 0))]
abbrev MI:List AO:=
 [(mt 5 0),
  (o2 6 44 [.t 5]),o1 7 (.un .not (.t 6)),
  (mt 8 7),
  (o4 9 8 (.mv (.t 1))),⟨some 10,some (8,false),.cl (.c (.f 44 [] [])) [.t 9]⟩,
  (o4 11 8 (.un .not (.t 10))),o1 12 (.pick (.t 8) (.c (.b true)) (.t 11)),
  (mt 13 12),
  (o4 14 13 (.mv (.t 0))),
  (o4 15 13 (.mv (.t 1))),
  (o4 16 13 (.bin .add (.t 14) (.t 15))),⟨some 17,some (13,false),.cl (.c (.f 44 [] [])) [.t 16]⟩,
  (o4 18 13 (.un .not (.t 17))),o1 19 (.pick (.t 13) (.c (.b true)) (.t 18))]
abbrev MH:List AO:=
 [o1 4 (.mv (ci 281474976710656))]
abbrev MG:List AO:=
 [(mt 20 0),
  (mt 21 1),o1 22 (.bin .add (.t 20) (.t 21)),
  (mt 4 22)]
abbrev XN:AF:=⟨23,(.seq (.reg MJ) (.seq (.seq (.reg MI) (.cond (.t 19) (.seq (.reg MH) .ret) .skip)) (.seq (.reg MG) .ret))),[.mv (.t 4)]⟩
theorem ML:aI Tryz.prog (af Tryz.prog 43) 43=some XN:=by kernel_rfl
/-! cost.known-/
abbrev ME:List AO:=
 [o1 2 (.mv (.c (.b false)))]
abbrev MC:List AO:=
 [(mt 3 0),o1 4 (.bin .geq (.t 3) (ci 0)),
  (mt 5 4),
  (o5 6 5 (.mv (.t 0))),
  (o5 7 5 (.bin .leq (.t 6) (ci 281474976710656))),o1 8 (.pick (.t 5) (.t 7) (.c (.b false))),
  (mt 2 8)]
abbrev XM:AF:=⟨9,(.seq (.reg ME) (.seq (.reg MC) .ret)),[.mv (.t 2)]⟩
theorem MF:aI Tryz.prog (af Tryz.prog 44) 44=some XM:=by kernel_rfl
/-! cost.Fits-/
abbrev MA:List AO:=
 [o1 2 (.bx 29 0 (.t 0)),o1 3 (.bx 29 0 (.t 1)),o1 4 (.mv (.c (.b false)))]
abbrev Mz:List AO:=
 [o1 5 (.fa 0 (.t 2)),o1 6 (.ld 1 false (.t 5)),
  (o2 7 44 [.t 6]),
  (mt 8 7),
  (o5 9 8 (.fa 1 (.t 2))),
  (o5 10 8 (.ld 1 false (.t 9))),⟨some 11,some (8,true),.cl (.c (.f 44 [] [])) [.t 10]⟩,o1 12 (.pick (.t 8) (.t 11) (.c (.b false))),
  (mt 13 12),
  (o5 14 13 (.fa 0 (.t 3))),
  (o5 15 13 (.ld 1 false (.t 14))),⟨some 16,some (13,true),.cl (.c (.f 44 [] [])) [.t 15]⟩,o1 17 (.pick (.t 13) (.t 16) (.c (.b false))),
  (mt 18 17),
  (o5 19 18 (.fa 1 (.t 3))),
  (o5 20 18 (.ld 1 false (.t 19))),⟨some 21,some (18,true),.cl (.c (.f 44 [] [])) [.t 20]⟩,o1 22 (.pick (.t 18) (.t 21) (.c (.b false))),
  (mt 23 22),
  (o5 24 23 (.fa 0 (.t 2))),
  (o5 25 23 (.ld 1 false (.t 24))),
  (o5 26 23 (.fa 0 (.t 3))),
  (o5 27 23 (.ld 1 false (.t 26))),
  (o5 28 23 (.bin .leq (.t 25) (.t 27))),o1 29 (.pick (.t 23) (.t 28) (.c (.b false))),
  (mt 30 29),
  (o5 31 30 (.fa 1 (.t 2))),
  (o5 32 30 (.ld 1 false (.t 31))),
  (o5 33 30 (.fa 1 (.t 3))),
  (o5 34 30 (.ld 1 false (.t 33))),
  (o5 35 30 (.bin .leq (.t 32) (.t 34))),o1 36 (.pick (.t 30) (.t 35) (.c (.b false))),
  (mt 4 36)]
abbrev XL:AF:=⟨37,(.seq (.reg MA) (.seq (.reg Mz) .ret)),[.mv (.t 4)]⟩
theorem MB:aI Tryz.prog (af Tryz.prog 22) 22=some XL:=by kernel_rfl
/-! compactorlaw21.CostMemory-/
/-! compactorlaw21.CostCompares-/
/-! compactorlaw21.CostOrders-/
/-! compactorlaw21.CostBounds-/
/-! compactorref15.Few-/
abbrev Mv:List AO:=
 [o1 1 (.bx 25 0 (.t 0)),o1 2 (.mv (.c (.b false)))]
abbrev Mu:List AO:=
 [o1 4 (.fa 0 (.t 1)),o1 5 (.ld 1 false (.t 4)),o1 6 (.len (.t 5)),o1 7 (.bin .gtr (.t 6) (ci 20)),
  (mt 8 7),
  (o4 9 8 (.fa 2 (.t 1))),
  (o4 10 8 (.ld 1 false (.t 9))),
  (o4 11 8 (.len (.t 10))),
  (o4 12 8 (.bin .gtr (.t 11) (ci 200))),o1 13 (.pick (.t 8) (.c (.b true)) (.t 12)),
  (mt 14 13),
  (o4 15 14 (.fa 2 (.t 1))),
  (o4 16 14 (.ld 1 false (.t 15))),⟨some 17,some (14,false),.cl (.c (.f 19 [] [])) [.t 16]⟩,
  (o4 18 14 (.un .not (.t 17))),o1 19 (.pick (.t 14) (.c (.b true)) (.t 18))]
abbrev Mt:List AO:=
 [o1 2 (.mv (.c (.b false)))]
abbrev Ms:List AO:=
 [o1 3 (.mv (ci 0))]
abbrev Mr:List AO:=
 [(mt 20 3),o1 21 (.fa 0 (.t 1)),o1 22 (.ld 1 false (.t 21)),o1 23 (.len (.t 22)),o1 24 (.bin .lss (.t 20) (.t 23))]
abbrev Mq:List AO:=
 [o1 27 (.fa 0 (.t 1)),o1 28 (.ld 1 false (.t 27)),
  (mt 29 3),o1 30 (.ia 2 (.t 28) (.t 29)),o1 31 (.fa 1 (.t 30)),o1 32 (.ld 1 false (.t 31)),o1 33 (.bin .gtr (.t 32) (ci 300)),
  (mt 34 33),
  (o5 35 34 (.fa 0 (.t 1))),
  (o5 36 34 (.ld 1 false (.t 35))),
  (o5 37 34 (.mv (.t 3))),
  (o5 38 34 (.ia 2 (.t 36) (.t 37))),
  (o5 39 34 (.fa 1 (.t 38))),
  (o5 40 34 (.ld 1 false (.t 39))),
  (o5 41 34 (.bin .leq (.t 40) (ci 65536))),o1 42 (.pick (.t 34) (.t 41) (.c (.b false)))]
abbrev Mp:List AO:=
 [o1 2 (.mv (.c (.b false)))]
abbrev Mx:AC:=
 (.seq (.reg Mq) (.cond (.t 42) (.seq (.reg Mp) .ret) .skip))
abbrev Mo:List AO:=
 [(mt 25 3),o1 26 (.bin .add (.t 25) (ci 1)),
  (mt 3 26)]
abbrev My:AC:=
 (.seq (.seq (.reg Mr) (.cond (.t 24) .skip (.exit 0))) (.seq (.block 1 Mx) (.reg Mo)))
abbrev Dx:AC:=
 (.loop My)
abbrev Dw:List AO:=
 [o1 2 (.mv (.c (.b true)))]
abbrev XK:AF:=⟨43,(.seq (.reg Mv) (.seq (.seq (.reg Mu) (.cond (.t 19) (.seq (.reg Mt) .ret) .skip)) (.seq (.seq (.reg Ms) (.block 0 Dx)) (.seq (.reg Dw) .ret)))),[.mv (.t 2)]⟩
theorem Mw:aI Tryz.prog (af Tryz.prog 8) 8=some XK:=by kernel_rfl
/-! compactorref21.Memory-/
/-! compactorref21.Add-/
/-! compactorref21.Fits-/
/-! compactorlaw21.few-/
/-! compactorref21.Steps-/
/-! cost.Emits-/
abbrev Mm:List AO:=
 [o1 2 (.bx 25 0 (.t 0)),o1 3 (.bx 38 0 (.t 1)),o1 4 (.mv (ci 0)),o1 5 (.mv (ci 0))]
abbrev Ml:List AO:=
 [o1 10 (.ld 3 true (.t 2)),o1 11 (.ld 4 true (.t 3)),
  (o2 12 34 [.t 10,.t 11]),
  (mt 9 12),o1 13 (.ext 0 (.t 9)),o1 14 (.ext 1 (.t 9)),o1 15 (.ext 2 (.t 9)),o1 6 (.al 88 [.sl0,.cv (.map none)]),
  (o3 (.st 2 (.t 6) (.t 13))),
  (mt 7 14),
  (mt 8 15)]
abbrev Mj:List AO:=
 [(mt 16 8),o1 17 (.bin .neq (.t 16) (ci 0))]
abbrev Mi:List AO:=
 [(mt 18 8),o1 4 (.mv (ci 0)),
  (mt 5 18)]
abbrev Mh:List AO:=
 [o1 19 (.ld 2 true (.t 6)),
  (mt 20 7),o1 21 (.ld 2 true (.t 6)),o1 22 (.mf 37 [.t 21] []),
  (o2 23 35 [.t 19,.t 20,.t 22,(ci 0)]),
  (o2 24 23 [.t 23]),o1 25 (.ext 0 (.t 24)),o1 26 (.ext 1 (.t 24)),
  (mt 4 25),
  (mt 5 26)]
abbrev XJ:AF:=⟨27,(.seq (.reg Mm) (.seq (.reg Ml) (.seq (.seq (.reg Mj) (.cond (.t 17) (.seq (.reg Mi) .ret) .skip)) (.seq (.reg Mh) .ret)))),[.mv (.t 4),.mv (.t 5)]⟩
theorem Mn:aI Tryz.prog (af Tryz.prog 14) 14=some XJ:=by kernel_rfl
/-! compactorref21.Emits-/
/-! compactorref15.Shallow-/
abbrev Ma:List AO:=
 [o1 2 (.mv (.c (.b false)))]
abbrev L9:List AO:=
 [o1 3 (.mv (.c .sl0))]
abbrev L8:List AO:=
 [o1 4 (.mv (ci 0))]
abbrev L7:List AO:=
 [o1 5 (.mv (ci 0))]
abbrev L6:List AO:=
 [(mt 7 5),
  (mt 8 0),o1 9 (.len (.t 8)),o1 10 (.bin .lss (.t 7) (.t 9)),
  (mt 11 10),
  (o5 12 11 (.mv (.t 4))),
  (o5 13 11 (.bin .leq (.t 12) (ci 3))),o1 14 (.pick (.t 11) (.t 13) (.c (.b false)))]
abbrev L5:List AO:=
 [(mt 17 0),
  (mt 18 5),o1 19 (.ia 2 (.t 17) (.t 18)),o1 20 (.fa 0 (.t 19)),o1 21 (.ld 1 false (.t 20))]
abbrev L4:List AO:=
 [o1 23 (.bin .eql (.t 21) (ci 29)),
  (mt 22 23)]
abbrev L3:List AO:=
 [(mt 24 3),o1 25 (.bs 4 1 1 [.b false] [(0,1,(.c (.b true)))]),o1 26 (.app 4 1 1 (.t 24) (.t 25)),
  (mt 27 4),o1 28 (.bin .add (.t 27) (ci 1)),
  (mt 3 26),
  (mt 4 28)]
abbrev L1:List AO:=
 [o1 30 (.bin .eql (.t 21) (ci 27)),
  (mt 29 30)]
abbrev L0:List AO:=
 [(mt 31 3),o1 32 (.bs 4 1 1 [.b false] [(0,1,(.c (.b false)))]),o1 33 (.app 4 1 1 (.t 31) (.t 32)),
  (mt 3 33)]
abbrev Dr:List AO:=
 [o1 35 (.bin .eql (.t 21) (ci 31)),
  (mt 34 35)]
abbrev Dq:List AO:=
 [(mt 36 3),o1 37 (.len (.t 36)),o1 38 (.bin .sub (.t 37) (ci 1)),
  (mt 6 38)]
abbrev Dp:List AO:=
 [(mt 39 6),o1 40 (.bin .geq (.t 39) (ci 0))]
abbrev Dn:List AO:=
 [(mt 41 3),
  (mt 42 6),o1 43 (.ia 1 (.t 41) (.t 42)),o1 44 (.ld 1 false (.t 43))]
abbrev Dm:List AO:=
 [(mt 45 4),o1 46 (.bin .sub (.t 45) (ci 1)),
  (mt 4 46)]
abbrev Dl:List AO:=
 [(mt 47 3),
  (mt 48 6),o1 49 (.sl 1 (.t 47) none (some (.t 48))),
  (mt 3 49)]
abbrev Du:AC:=
 (.seq (.reg L4) (.cond (.t 22) (.reg L3) (.seq (.reg L1) (.cond (.t 29) (.reg L0) (.seq (.reg Dr) (.cond (.t 34) (.seq (.reg Dq) (.seq (.reg Dp) (.cond (.t 40) (.seq (.seq (.reg Dn) (.cond (.t 44) (.reg Dm) .skip)) (.reg Dl)) .skip))) .skip))))))
abbrev Dt:AC:=
 (.seq (.reg L5) (.block 2 Du))
abbrev Dk:List AO:=
 [(mt 15 5),o1 16 (.bin .add (.t 15) (ci 1)),
  (mt 5 16)]
abbrev Dv:AC:=
 (.seq (.seq (.reg L6) (.cond (.t 14) .skip (.exit 0))) (.seq (.block 1 Dt) (.reg Dk)))
abbrev Ds:AC:=
 (.loop Dv)
abbrev Dj:List AO:=
 [(mt 50 4),o1 51 (.bin .leq (.t 50) (ci 3)),
  (mt 2 51)]
abbrev Xx:AF:=⟨52,(.seq (.reg Ma) (.seq (.reg L9) (.seq (.reg L8) (.seq (.seq (.reg L7) (.block 0 Ds)) (.seq (.reg Dj) .ret))))),[.mv (.t 2)]⟩
theorem Mb:aI Tryz.prog (af Tryz.prog 19) 19=some Xx:=by kernel_rfl
/-! compactorref15.Form-/
/-! compactorref21.sum-/
/-! compactorref21.formed-/
/-! compactorref20.Few-/
/-! compactorref21.check-/
/-! compactorref21.bounded-/
/-! compactorref21.steps-/
/-! cost.bounds.emits-/
abbrev LW:List AO:=
 [o1 3 (.bx 88 0 (.t 0)),o1 6 (.mv (ci 0))]
abbrev LU:List AO:=
 [o1 7 (.mv (ci 0))]
abbrev LS:List AO:=
 [o1 10 (.fa 0 (.t 3)),o1 11 (.ld 1 false (.t 10)),
  (mt 12 1),
  (mt 13 2),o1 14 (.sl 2 (.t 11) (some (.t 12)) (some (.t 13))),o1 15 (.len (.t 14)),o1 16 (.mv (ci 0))]
abbrev LQ:List AO:=
 [o1 17 (.bin .lss (.t 16) (.t 15))]
abbrev LP:List AO:=
 [o1 18 (.ia 2 (.t 14) (.t 16)),o1 19 (.ld 2 true (.t 18)),o1 9 (.al 54 [.n .i64 0,.n .u32 0]),
  (o3 (.st 2 (.t 9) (.t 19)))]
abbrev LO:List AO:=
 [o1 20 (.fa 0 (.t 9)),o1 21 (.ld 1 false (.t 20)),o1 22 (.bin .eql (.t 21) (ci 34))]
abbrev LN:List AO:=
 [(mt 23 7),o1 24 (.bin .add (.t 23) (ci 1)),
  (mt 7 24)]
abbrev LY:AC:=
 (.seq (.reg LP) (.seq (.reg LO) (.cond (.t 22) (.reg LN) .skip)))
abbrev LM:List AO:=
 [o1 25 (.bin .add (.t 16) (ci 1)),
  (mt 16 25)]
abbrev LZ:AC:=
 (.seq (.reg LQ) (.seq (.cond (.t 17) .skip (.exit 0)) (.seq (.block 1 LY) (.reg LM))))
abbrev Di:AC:=
 (.loop LZ)
abbrev Dh:List AO:=
 [(mt 26 7),
  (mt 6 26)]
abbrev Xw:AF:=⟨27,(.seq (.reg LW) (.seq (.reg LU) (.seq (.seq (.reg LS) (.block 0 Di)) (.seq (.reg Dh) .ret)))),[.mv (.t 6)]⟩
theorem LX:aI Tryz.prog (af Tryz.prog 37) 37=some Xw:=by kernel_rfl
/-! compactorref21.emits-/
/-! compactorref15.Check-/
/-! compactorref20.Check-/
/-! compactorref18.Loops-/
/-! compactorref18.Parse-/
/-! compactorref21.few-/
/-! compactorref21.times-/
/-! compactorref21.most-/
/-! verifier.widening$1-/
abbrev LJ:List AO:=
 [o1 6 (.mv (.c .sl0)),o1 7 (.mv (ci 0))]
abbrev LI:List AO:=
 [(mt 8 2),
  (mt 9 1),
  (mt 6 8),
  (mt 7 9)]
abbrev Xv:AF:=⟨10,(.seq (.reg LJ) (.seq (.reg LI) .ret)),[.mv (.t 6),.mv (.t 7)]⟩
theorem LK:aI Tryz.prog (af Tryz.prog 57) 57=some Xv:=by kernel_rfl
/-! compactorref18.partners-/
/-! compactorref18.tree-/
/-! instruction.operations$1-/
abbrev LG:List AO:=
 [o1 2 (.al 146 [.s ⟨#[]⟩,.s ⟨#[]⟩,.s ⟨#[]⟩,.n .u64 0,.b false])]
abbrev LF:List AO:=
 [(mt 3 0),o1 4 (.bd [.s ⟨#[]⟩,.s ⟨#[]⟩,.s ⟨#[]⟩,.n .u64 0,.b false] [(0,1,(.t 3)),(1,1,(.c (.s ⟨#[110,110]⟩))),(2,1,(.c (.s ⟨#[110]⟩))),(3,1,(.c (.n .u64 1))),(4,1,(.c (.b false)))]),
  (o3 (.st 5 (.t 2) (.t 4)))]
abbrev Xu:AF:=⟨5,(.seq (.reg LG) (.seq (.reg LF) .ret)),[.ld 5 true (.t 2)]⟩
theorem LH:aI Tryz.prog (af Tryz.prog 131) 131=some Xu:=by kernel_rfl
/-! instruction.operations$2-/
abbrev LC:List AO:=
 [o1 6 (.al 146 [.s ⟨#[]⟩,.s ⟨#[]⟩,.s ⟨#[]⟩,.n .u64 0,.b false])]
abbrev LB:List AO:=
 [(mt 7 0),
  (mt 8 1),
  (mt 9 2),o1 10 (.bd [.s ⟨#[]⟩,.s ⟨#[]⟩,.s ⟨#[]⟩,.n .u64 0,.b false] [(0,1,(.t 7)),(1,1,(.t 8)),(2,1,(.t 9)),(3,1,(.c (.n .u64 1))),(4,1,(.c (.b false)))]),
  (o3 (.st 5 (.t 6) (.t 10)))]
abbrev Xt:AF:=⟨11,(.seq (.reg LC) (.seq (.reg LB) .ret)),[.ld 5 true (.t 6)]⟩
theorem LD:aI Tryz.prog (af Tryz.prog 132) 132=some Xt:=by kernel_rfl
/-! compactorref18.innermost-/
/-! compactorref18.leaves-/
/-! interval.Within-/
abbrev Lz:List AO:=
 [o1 2 (.bx 127 0 (.t 0)),o1 3 (.bx 127 0 (.t 1)),o1 4 (.mv (.c (.b false)))]
abbrev Ly:List AO:=
 [o1 5 (.ld 2 true (.t 2)),o1 6 (.ld 2 true (.t 3)),
  (o2 7 92 [.t 5,.t 6]),
  (mt 8 7),
  (o5 9 8 (.fa 0 (.t 3))),
  (o5 10 8 (.ld 1 false (.t 9))),
  (o5 11 8 (.fa 0 (.t 2))),
  (o5 12 8 (.ld 1 false (.t 11))),
  (o5 13 8 (.bin .leq (.t 10) (.t 12))),o1 14 (.pick (.t 8) (.t 13) (.c (.b false))),
  (mt 15 14),
  (o5 16 15 (.fa 1 (.t 2))),
  (o5 17 15 (.ld 1 false (.t 16))),
  (o5 18 15 (.fa 1 (.t 3))),
  (o5 19 15 (.ld 1 false (.t 18))),
  (o5 20 15 (.bin .leq (.t 17) (.t 19))),o1 21 (.pick (.t 15) (.t 20) (.c (.b false))),
  (mt 4 21)]
abbrev Xs:AF:=⟨22,(.seq (.reg Lz) (.seq (.reg Ly) .ret)),[.mv (.t 4)]⟩
theorem LA:aI Tryz.prog (af Tryz.prog 172) 172=some Xs:=by kernel_rfl
/-! interval.operands.add-/
abbrev Lw:List AO:=
 [o1 1 (.bx 262 0 (.t 0)),o1 2 (.al 127 [.n .i64 0,.n .i64 0])]
abbrev Lv:List AO:=
 [o1 3 (.fa 0 (.t 1)),o1 4 (.ld 1 false (.t 3)),o1 5 (.fa 2 (.t 1)),o1 6 (.ld 1 false (.t 5)),o1 7 (.bin .add (.t 4) (.t 6)),o1 8 (.fa 1 (.t 1)),o1 9 (.ld 1 false (.t 8)),o1 10 (.fa 3 (.t 1)),o1 11 (.ld 1 false (.t 10)),o1 12 (.bin .add (.t 9) (.t 11)),
  (o2 13 227 [.t 7,.t 12]),
  (o3 (.st 2 (.t 2) (.t 13)))]
abbrev Xr:AF:=⟨14,(.seq (.reg Lw) (.seq (.reg Lv) .ret)),[.ld 2 true (.t 2)]⟩
theorem Lx:aI Tryz.prog (af Tryz.prog 187) 187=some Xr:=by kernel_rfl
/-! interval.operands.sub-/
abbrev Ls:List AO:=
 [o1 1 (.bx 262 0 (.t 0)),o1 2 (.al 127 [.n .i64 0,.n .i64 0])]
abbrev Lr:List AO:=
 [o1 3 (.fa 0 (.t 1)),o1 4 (.ld 1 false (.t 3)),o1 5 (.fa 3 (.t 1)),o1 6 (.ld 1 false (.t 5)),o1 7 (.bin .sub (.t 4) (.t 6)),o1 8 (.fa 1 (.t 1)),o1 9 (.ld 1 false (.t 8)),o1 10 (.fa 2 (.t 1)),o1 11 (.ld 1 false (.t 10)),o1 12 (.bin .sub (.t 9) (.t 11)),
  (o2 13 227 [.t 7,.t 12]),
  (o3 (.st 2 (.t 2) (.t 13)))]
abbrev Xq:AF:=⟨14,(.seq (.reg Ls) (.seq (.reg Lr) .ret)),[.ld 2 true (.t 2)]⟩
theorem Lu:aI Tryz.prog (af Tryz.prog 188) 188=some Xq:=by kernel_rfl
/-! interval.operands.mul-/
abbrev Lo:List AO:=
 [o1 1 (.bx 262 0 (.t 0)),o1 2 (.al 127 [.n .i64 0,.n .i64 0])]
abbrev Lq:List (Nat×AO):=
 [(2,(o1 3 (.fa 3 (.t 1)))),(1,(o1 4 (.ld 1 false (.t 3)))),(2,(o1 5 (.bin .gtr (.t 4) (ci 0)))),
  (2,(mt 6 5)),
  (2,(o5 7 6 (.fa 1 (.t 1)))),
  (2,(o5 9 6 (.fa 3 (.t 1)))),
  (1,(o5 8 6 (.ld 1 false (.t 7)))),
  (1,(o5 10 6 (.ld 1 false (.t 9)))),
  (2,(o5 11 6 (.bin .quo (ci 4294967295) (.t 10)))),
  (2,(o5 12 6 (.bin .gtr (.t 8) (.t 11)))),(2,(o1 13 (.pick (.t 6) (.t 12) (.c (.b false)))))]
abbrev Ln:List AO:=
 [(o2 14 63 []),
  (o3 (.st 2 (.t 2) (.t 14)))]
abbrev Lm:List AO:=
 [o1 15 (.fa 0 (.t 1)),o1 16 (.ld 1 false (.t 15)),o1 17 (.fa 2 (.t 1)),o1 18 (.ld 1 false (.t 17)),o1 19 (.bin .mul (.t 16) (.t 18)),o1 20 (.fa 1 (.t 1)),o1 21 (.ld 1 false (.t 20)),o1 22 (.fa 3 (.t 1)),o1 23 (.ld 1 false (.t 22)),o1 24 (.bin .mul (.t 21) (.t 23)),o1 25 (.bd [.n .i64 0,.n .i64 0] [(0,1,(.t 19)),(1,1,(.t 24))]),
  (o3 (.st 2 (.t 2) (.t 25)))]
abbrev Xp:AF:=⟨26,(.seq (.reg Lo) (.seq (.seq (.mix Lq) (.cond (.t 13) (.seq (.reg Ln) .ret) .skip)) (.seq (.reg Lm) .ret))),[.ld 2 true (.t 2)]⟩
theorem Lp:aI Tryz.prog (af Tryz.prog 189) 189=some Xp:=by kernel_rfl
/-! interval.operands.div-/
abbrev Lj:List AO:=
 [o1 1 (.bx 262 0 (.t 0)),o1 2 (.al 127 [.n .i64 0,.n .i64 0])]
abbrev Ll:List (Nat×AO):=
 [(2,(o1 3 (.fa 0 (.t 1)))),(2,(o1 5 (.fa 3 (.t 1)))),(2,(o1 8 (.fa 1 (.t 1)))),(2,(o1 10 (.fa 2 (.t 1)))),(1,(o1 4 (.ld 1 false (.t 3)))),(1,(o1 6 (.ld 1 false (.t 5)))),(2,(o1 7 (.bin .quo (.t 4) (.t 6)))),(1,(o1 9 (.ld 1 false (.t 8)))),(1,(o1 11 (.ld 1 false (.t 10)))),(2,(o1 12 (.bin .quo (.t 9) (.t 11)))),(2,(o1 13 (.bd [.n .i64 0,.n .i64 0] [(0,1,(.t 7)),(1,1,(.t 12))]))),
  (3,(o3 (.st 2 (.t 2) (.t 13))))]
abbrev Xo:AF:=⟨14,(.seq (.reg Lj) (.seq (.mix Ll) .ret)),[.ld 2 true (.t 2)]⟩
theorem Lk:aI Tryz.prog (af Tryz.prog 190) 190=some Xo:=by kernel_rfl
/-! interval.operands.mod-/
abbrev Lh:List AO:=
 [o1 1 (.bx 262 0 (.t 0)),o1 2 (.al 127 [.n .i64 0,.n .i64 0])]
abbrev Lg:List AO:=
 [o1 3 (.fa 1 (.t 1)),o1 4 (.ld 1 false (.t 3)),o1 5 (.fa 2 (.t 1)),o1 6 (.ld 1 false (.t 5)),o1 7 (.bin .lss (.t 4) (.t 6))]
abbrev Lf:List AO:=
 [o1 8 (.fa 0 (.t 1)),o1 9 (.ld 1 false (.t 8)),o1 10 (.fa 1 (.t 1)),o1 11 (.ld 1 false (.t 10)),o1 12 (.bd [.n .i64 0,.n .i64 0] [(0,1,(.t 9)),(1,1,(.t 11))]),
  (o3 (.st 2 (.t 2) (.t 12)))]
abbrev Ld:List AO:=
 [o1 13 (.fa 1 (.t 1)),o1 14 (.ld 1 false (.t 13)),o1 15 (.fa 3 (.t 1)),o1 16 (.ld 1 false (.t 15)),o1 17 (.bin .sub (.t 16) (ci 1)),⟨some 18,none,.mo (.mi (.t 14) (.t 17))⟩,o1 19 (.bd [.n .i64 0,.n .i64 0] [(1,1,(.t 18))]),
  (o3 (.st 2 (.t 2) (.t 19)))]
abbrev Xe:AF:=⟨20,(.seq (.reg Lh) (.seq (.seq (.reg Lg) (.cond (.t 7) (.seq (.reg Lf) .ret) .skip)) (.seq (.reg Ld) .ret))),[.ld 2 true (.t 2)]⟩
theorem Li:aI Tryz.prog (af Tryz.prog 191) 191=some Xe:=by kernel_rfl
/-! interval.operands.and-/
abbrev Lb:List AO:=
 [o1 1 (.bx 262 0 (.t 0)),o1 2 (.al 127 [.n .i64 0,.n .i64 0])]
abbrev La:List AO:=
 [o1 3 (.fa 1 (.t 1)),o1 4 (.ld 1 false (.t 3)),o1 5 (.fa 3 (.t 1)),o1 6 (.ld 1 false (.t 5)),⟨some 7,none,.mo (.mi (.t 4) (.t 6))⟩,o1 8 (.bd [.n .i64 0,.n .i64 0] [(1,1,(.t 7))]),
  (o3 (.st 2 (.t 2) (.t 8)))]
abbrev Xd:AF:=⟨9,(.seq (.reg Lb) (.seq (.reg La) .ret)),[.ld 2 true (.t 2)]⟩
theorem Lc:aI Tryz.prog (af Tryz.prog 192) 192=some Xd:=by kernel_rfl
/-! interval.operands.or-/
abbrev K7:List AO:=
 [o1 1 (.bx 262 0 (.t 0)),o1 2 (.al 127 [.n .i64 0,.n .i64 0])]
abbrev K9:List (Nat×AO):=
 [(2,(o1 3 (.fa 0 (.t 1)))),(1,(o1 4 (.ld 1 false (.t 3)))),(2,(o1 5 (.fa 2 (.t 1)))),(1,(o1 6 (.ld 1 false (.t 5)))),(2,(o1 8 (.fa 1 (.t 1)))),(1,(o1 9 (.ld 1 false (.t 8)))),(2,(o1 10 (.fa 3 (.t 1)))),(1,(o1 11 (.ld 1 false (.t 10))))]
abbrev K6:AT:=
 (.alt ⟨some 7,none,.mo (.mx (.t 4) (.t 6))⟩ (.alt ⟨some 12,none,.mo (.mx (.t 9) (.t 11))⟩ (.alt (o2 13 228 [.t 12]) (.alt (o1 14 (.bd [.n .i64 0,.n .i64 0] [(0,1,(.t 7)),(1,1,(.t 13))])) (.alt (o3 (.st 2 (.t 2) (.t 14))) .fin .none) .none) .none) .none) (.alt ⟨some 12,none,.mo (.mx (.t 9) (.t 11))⟩ (.alt ⟨some 7,none,.mo (.mx (.t 4) (.t 6))⟩ (.alt (o2 13 228 [.t 12]) (.alt (o1 14 (.bd [.n .i64 0,.n .i64 0] [(0,1,(.t 7)),(1,1,(.t 13))])) (.alt (o3 (.st 2 (.t 2) (.t 14))) .fin .none) .none) .none) (.alt (o2 13 228 [.t 12]) (.alt ⟨some 7,none,.mo (.mx (.t 4) (.t 6))⟩ (.alt (o1 14 (.bd [.n .i64 0,.n .i64 0] [(0,1,(.t 7)),(1,1,(.t 13))])) (.alt (o3 (.st 2 (.t 2) (.t 14))) .fin .none) .none) .none) .none)) .none))
abbrev Xc:AF:=⟨15,(.seq (.reg K7) (.seq (.frk K9 K6) .ret)),[.ld 2 true (.t 2)]⟩
theorem K8:aI Tryz.prog (af Tryz.prog 193) 193=some Xc:=by kernel_rfl
/-! interval.operands.xor-/
abbrev K4:List AO:=
 [o1 1 (.bx 262 0 (.t 0)),o1 2 (.al 127 [.n .i64 0,.n .i64 0])]
abbrev K3:List AO:=
 [o1 3 (.fa 1 (.t 1)),o1 4 (.ld 1 false (.t 3)),o1 5 (.fa 3 (.t 1)),o1 6 (.ld 1 false (.t 5)),⟨some 7,none,.mo (.mx (.t 4) (.t 6))⟩,
  (o2 8 228 [.t 7]),o1 9 (.bd [.n .i64 0,.n .i64 0] [(1,1,(.t 8))]),
  (o3 (.st 2 (.t 2) (.t 9)))]
abbrev Xb:AF:=⟨10,(.seq (.reg K4) (.seq (.reg K3) .ret)),[.ld 2 true (.t 2)]⟩
theorem K5:aI Tryz.prog (af Tryz.prog 194) 194=some Xb:=by kernel_rfl
/-! interval.operands.shl-/
abbrev KZ:List AO:=
 [o1 1 (.bx 262 0 (.t 0)),o1 2 (.al 127 [.n .i64 0,.n .i64 0])]
abbrev KY:List AO:=
 [o1 4 (.fa 2 (.t 1)),o1 5 (.ld 1 false (.t 4)),o1 6 (.bin .rem (.t 5) (ci 32)),
  (mt 3 6)]
abbrev K2:List (Nat×AO):=
 [(2,(o1 7 (.fa 2 (.t 1)))),(2,(o1 9 (.fa 3 (.t 1)))),(1,(o1 8 (.ld 1 false (.t 7)))),(1,(o1 10 (.ld 1 false (.t 9)))),(2,(o1 11 (.bin .neq (.t 8) (.t 10)))),
  (2,(mt 12 11)),
  (2,(o4 13 12 (.fa 1 (.t 1)))),
  (2,(o4 15 12 (.mv (.t 3)))),
  (2,(o4 16 12 (.bin .shr (ci 4294967295) (.t 15)))),
  (1,(o4 14 12 (.ld 1 false (.t 13)))),
  (2,(o4 17 12 (.bin .gtr (.t 14) (.t 16)))),(2,(o1 18 (.pick (.t 12) (.c (.b true)) (.t 17))))]
abbrev KX:List AO:=
 [(o2 19 63 []),
  (o3 (.st 2 (.t 2) (.t 19)))]
abbrev K1:List (Nat×AO):=
 [(2,(o1 20 (.fa 0 (.t 1)))),
  (2,(mt 22 3)),(2,(o1 24 (.fa 1 (.t 1)))),
  (2,(mt 26 3)),(1,(o1 21 (.ld 1 false (.t 20)))),(2,(o1 23 (.bin .shl (.t 21) (.t 22)))),(1,(o1 25 (.ld 1 false (.t 24)))),(2,(o1 27 (.bin .shl (.t 25) (.t 26)))),(2,(o1 28 (.bd [.n .i64 0,.n .i64 0] [(0,1,(.t 23)),(1,1,(.t 27))]))),
  (3,(o3 (.st 2 (.t 2) (.t 28))))]
abbrev Xa:AF:=⟨29,(.seq (.reg KZ) (.seq (.reg KY) (.seq (.seq (.mix K2) (.cond (.t 18) (.seq (.reg KX) .ret) .skip)) (.seq (.mix K1) .ret)))),[.ld 2 true (.t 2)]⟩
theorem K0:aI Tryz.prog (af Tryz.prog 195) 195=some Xa:=by kernel_rfl
/-! interval.operands.shr-/
abbrev KS:List AO:=
 [o1 1 (.bx 262 0 (.t 0)),o1 2 (.al 127 [.n .i64 0,.n .i64 0])]
abbrev KR:List AO:=
 [o1 4 (.fa 3 (.t 1)),o1 5 (.ld 1 false (.t 4)),o1 6 (.bin .leq (.t 5) (ci 31)),
  (mt 3 6)]
abbrev KV:List (Nat×AO):=
 [(2,(o1 7 (.fa 0 (.t 1)))),(2,(o1 9 (.fa 3 (.t 1)))),(2,(o1 12 (.fa 1 (.t 1)))),(2,(o1 14 (.fa 2 (.t 1)))),(1,(o1 8 (.ld 1 false (.t 7)))),(1,(o1 10 (.ld 1 false (.t 9)))),(2,(o1 11 (.bin .shr (.t 8) (.t 10)))),(1,(o1 13 (.ld 1 false (.t 12)))),(1,(o1 15 (.ld 1 false (.t 14)))),(2,(o1 16 (.bin .shr (.t 13) (.t 15)))),(2,(o1 17 (.bd [.n .i64 0,.n .i64 0] [(0,1,(.t 11)),(1,1,(.t 16))]))),
  (3,(o3 (.st 2 (.t 2) (.t 17))))]
abbrev KQ:List AO:=
 [o1 19 (.fa 2 (.t 1)),o1 20 (.ld 1 false (.t 19)),o1 21 (.fa 3 (.t 1)),o1 22 (.ld 1 false (.t 21)),o1 23 (.bin .eql (.t 20) (.t 22)),
  (mt 18 23)]
abbrev KU:List (Nat×AO):=
 [(2,(o1 24 (.fa 0 (.t 1)))),(2,(o1 26 (.fa 2 (.t 1)))),(2,(o1 30 (.fa 1 (.t 1)))),(2,(o1 32 (.fa 2 (.t 1)))),(1,(o1 25 (.ld 1 false (.t 24)))),(1,(o1 27 (.ld 1 false (.t 26)))),(2,(o1 28 (.bin .rem (.t 27) (ci 32)))),(2,(o1 29 (.bin .shr (.t 25) (.t 28)))),(1,(o1 31 (.ld 1 false (.t 30)))),(1,(o1 33 (.ld 1 false (.t 32)))),(2,(o1 34 (.bin .rem (.t 33) (ci 32)))),(2,(o1 35 (.bin .shr (.t 31) (.t 34)))),(2,(o1 36 (.bd [.n .i64 0,.n .i64 0] [(0,1,(.t 29)),(1,1,(.t 35))]))),
  (3,(o3 (.st 2 (.t 2) (.t 36))))]
abbrev KW:AC:=
 (.seq (.reg KR) (.cond (.t 3) (.seq (.mix KV) .ret) (.seq (.reg KQ) (.cond (.t 18) (.seq (.mix KU) .ret) .skip))))
abbrev KP:List AO:=
 [o1 37 (.fa 1 (.t 1)),o1 38 (.ld 1 false (.t 37)),o1 39 (.bd [.n .i64 0,.n .i64 0] [(1,1,(.t 38))]),
  (o3 (.st 2 (.t 2) (.t 39)))]
abbrev W9:AF:=⟨40,(.seq (.reg KS) (.seq (.block 0 KW) (.seq (.reg KP) .ret))),[.ld 2 true (.t 2)]⟩
theorem KT:aI Tryz.prog (af Tryz.prog 196) 196=some W9:=by kernel_rfl
/-! interval.operands.least-/
abbrev KN:List AO:=
 [o1 1 (.bx 262 0 (.t 0)),o1 2 (.al 127 [.n .i64 0,.n .i64 0])]
abbrev KM:List AO:=
 [o1 3 (.fa 0 (.t 1)),o1 4 (.ld 1 false (.t 3)),o1 5 (.fa 2 (.t 1)),o1 6 (.ld 1 false (.t 5)),⟨some 7,none,.mo (.mi (.t 4) (.t 6))⟩,o1 8 (.fa 1 (.t 1)),o1 9 (.ld 1 false (.t 8)),o1 10 (.fa 3 (.t 1)),o1 11 (.ld 1 false (.t 10)),⟨some 12,none,.mo (.mi (.t 9) (.t 11))⟩,o1 13 (.bd [.n .i64 0,.n .i64 0] [(0,1,(.t 7)),(1,1,(.t 12))]),
  (o3 (.st 2 (.t 2) (.t 13)))]
abbrev W8:AF:=⟨14,(.seq (.reg KN) (.seq (.reg KM) .ret)),[.ld 2 true (.t 2)]⟩
theorem KO:aI Tryz.prog (af Tryz.prog 197) 197=some W8:=by kernel_rfl
/-! interval.operands.greatest-/
abbrev KK:List AO:=
 [o1 1 (.bx 262 0 (.t 0)),o1 2 (.al 127 [.n .i64 0,.n .i64 0])]
abbrev KJ:List AO:=
 [o1 3 (.fa 0 (.t 1)),o1 4 (.ld 1 false (.t 3)),o1 5 (.fa 2 (.t 1)),o1 6 (.ld 1 false (.t 5)),⟨some 7,none,.mo (.mx (.t 4) (.t 6))⟩,o1 8 (.fa 1 (.t 1)),o1 9 (.ld 1 false (.t 8)),o1 10 (.fa 3 (.t 1)),o1 11 (.ld 1 false (.t 10)),⟨some 12,none,.mo (.mx (.t 9) (.t 11))⟩,o1 13 (.bd [.n .i64 0,.n .i64 0] [(0,1,(.t 7)),(1,1,(.t 12))]),
  (o3 (.st 2 (.t 2) (.t 13)))]
abbrev W7:AF:=⟨14,(.seq (.reg KK) (.seq (.reg KJ) .ret)),[.ld 2 true (.t 2)]⟩
theorem KL:aI Tryz.prog (af Tryz.prog 198) 198=some W7:=by kernel_rfl
/-! interval.operands.hash-/
abbrev KH:List AO:=
 [o1 1 (.bx 262 0 (.t 0)),o1 2 (.al 127 [.n .i64 0,.n .i64 0])]
abbrev KG:List AO:=
 [(o2 3 63 []),
  (o3 (.st 2 (.t 2) (.t 3)))]
abbrev W6:AF:=⟨4,(.seq (.reg KH) (.seq (.reg KG) .ret)),[.ld 2 true (.t 2)]⟩
theorem KI:aI Tryz.prog (af Tryz.prog 199) 199=some W6:=by kernel_rfl
/-! interval.shifted-/
abbrev KD:List AO:=
 [o1 4 (.al 127 [.n .i64 0,.n .i64 0])]
abbrev KC:List AO:=
 [(mt 6 0),o1 7 (.bin .geq (.t 6) (ci 0)),
  (mt 8 7),
  (o5 9 8 (.mv (.t 1))),
  (o5 10 8 (.bin .leq (.t 9) (ci 4294967295))),o1 11 (.pick (.t 8) (.t 10) (.c (.b false))),
  (mt 5 11)]
abbrev KB:List AO:=
 [(mt 12 0),
  (mt 13 1),o1 14 (.bd [.n .i64 0,.n .i64 0] [(0,1,(.t 12)),(1,1,(.t 13))]),
  (o3 (.st 2 (.t 4) (.t 14)))]
abbrev KA:List AO:=
 [(mt 16 0),o1 17 (.bin .gtr (.t 16) (ci 4294967295)),
  (mt 15 17)]
abbrev Kz:List AO:=
 [(mt 18 0),o1 19 (.bin .sub (.t 18) (ci 4294967295)),o1 20 (.bin .sub (.t 19) (ci 1)),
  (mt 21 1),o1 22 (.bin .sub (.t 21) (ci 4294967295)),o1 23 (.bin .sub (.t 22) (ci 1)),o1 24 (.bd [.n .i64 0,.n .i64 0] [(0,1,(.t 20)),(1,1,(.t 23))]),
  (o3 (.st 2 (.t 4) (.t 24)))]
abbrev Ky:List AO:=
 [(mt 26 1),o1 27 (.bin .lss (.t 26) (ci 0)),
  (mt 25 27)]
abbrev Kx:List AO:=
 [(mt 28 0),o1 29 (.bin .add (.t 28) (ci 4294967295)),o1 30 (.bin .add (.t 29) (ci 1)),
  (mt 31 1),o1 32 (.bin .add (.t 31) (ci 4294967295)),o1 33 (.bin .add (.t 32) (ci 1)),o1 34 (.bd [.n .i64 0,.n .i64 0] [(0,1,(.t 30)),(1,1,(.t 33))]),
  (o3 (.st 2 (.t 4) (.t 34)))]
abbrev KF:AC:=
 (.seq (.reg KC) (.cond (.t 5) (.seq (.reg KB) .ret) (.seq (.reg KA) (.cond (.t 15) (.seq (.reg Kz) .ret) (.seq (.reg Ky) (.cond (.t 25) (.seq (.reg Kx) .ret) .skip))))))
abbrev Kw:List AO:=
 [(o2 35 63 []),
  (o3 (.st 2 (.t 4) (.t 35)))]
abbrev W5:AF:=⟨36,(.seq (.reg KD) (.seq (.block 0 KF) (.seq (.reg Kw) .ret))),[.ld 2 true (.t 4)]⟩
theorem KE:aI Tryz.prog (af Tryz.prog 227) 227=some W5:=by kernel_rfl
/-! interval.ones-/
abbrev H8:List AO:=
 [o1 2 (.mv (ci 0))]
abbrev H7:List AO:=
 [(mt 3 0),o1 4 (.cvi .u64 (.t 3)),
  (o2 5 175 [.t 4]),o1 6 (.bin .shl (ci 1) (.t 5)),o1 7 (.bin .sub (.t 6) (ci 1)),
  (mt 2 7)]
abbrev Vq:AF:=⟨8,(.seq (.reg H8) (.seq (.reg H7) .ret)),[.mv (.t 2)]⟩
theorem H9:aI Tryz.prog (af Tryz.prog 228) 228=some Vq:=by kernel_rfl
/-! instruction.combinations$1-/
abbrev H5:List AO:=
 [o1 4 (.mv (.c (.n .u32 0)))]
abbrev HZ:List AO:=
 [(mt 5 0),
  (mt 6 1),o1 7 (.bin .add (.t 5) (.t 6)),
  (mt 4 7)]
abbrev Vp:AF:=⟨8,(.seq (.reg H5) (.seq (.reg HZ) .ret)),[.mv (.t 4)]⟩
theorem H6:aI Tryz.prog (af Tryz.prog 202) 202=some Vp:=by kernel_rfl
/-! instruction.combinations$2-/
abbrev HX:List AO:=
 [o1 4 (.mv (.c (.n .u32 0)))]
abbrev HW:List AO:=
 [(mt 5 0),
  (mt 6 1),o1 7 (.bin .sub (.t 5) (.t 6)),
  (mt 4 7)]
abbrev Vo:AF:=⟨8,(.seq (.reg HX) (.seq (.reg HW) .ret)),[.mv (.t 4)]⟩
theorem HY:aI Tryz.prog (af Tryz.prog 203) 203=some Vo:=by kernel_rfl
/-! instruction.combinations$3-/
abbrev HT:List AO:=
 [o1 4 (.mv (.c (.n .u32 0)))]
abbrev HS:List AO:=
 [(mt 5 0),
  (mt 6 1),o1 7 (.bin .mul (.t 5) (.t 6)),
  (mt 4 7)]
abbrev Vn:AF:=⟨8,(.seq (.reg HT) (.seq (.reg HS) .ret)),[.mv (.t 4)]⟩
theorem HV:aI Tryz.prog (af Tryz.prog 204) 204=some Vn:=by kernel_rfl
/-! instruction.combinations$4-/
abbrev HP:List AO:=
 [o1 4 (.mv (.c (.n .u32 0)))]
abbrev HO:List AO:=
 [(mt 5 0),
  (mt 6 1),o1 7 (.bin .quo (.t 5) (.t 6)),
  (mt 4 7)]
abbrev Vm:AF:=⟨8,(.seq (.reg HP) (.seq (.reg HO) .ret)),[.mv (.t 4)]⟩
theorem HQ:aI Tryz.prog (af Tryz.prog 205) 205=some Vm:=by kernel_rfl
/-! instruction.combinations$5-/
abbrev HM:List AO:=
 [o1 4 (.mv (.c (.n .u32 0)))]
abbrev HL:List AO:=
 [(mt 5 0),
  (mt 6 1),o1 7 (.bin .rem (.t 5) (.t 6)),
  (mt 4 7)]
abbrev Vk:AF:=⟨8,(.seq (.reg HM) (.seq (.reg HL) .ret)),[.mv (.t 4)]⟩
theorem HN:aI Tryz.prog (af Tryz.prog 206) 206=some Vk:=by kernel_rfl
/-! instruction.combinations$6-/
abbrev HJ:List AO:=
 [o1 4 (.mv (.c (.n .u32 0)))]
abbrev HI:List AO:=
 [(mt 5 0),
  (mt 6 1),o1 7 (.bin .and (.t 5) (.t 6)),
  (mt 4 7)]
abbrev Vj:AF:=⟨8,(.seq (.reg HJ) (.seq (.reg HI) .ret)),[.mv (.t 4)]⟩
theorem HK:aI Tryz.prog (af Tryz.prog 207) 207=some Vj:=by kernel_rfl
/-! instruction.combinations$7-/
abbrev HE:List AO:=
 [o1 4 (.mv (.c (.n .u32 0)))]
abbrev HD:List AO:=
 [(mt 5 0),
  (mt 6 1),o1 7 (.bin .or (.t 5) (.t 6)),
  (mt 4 7)]
abbrev Vi:AF:=⟨8,(.seq (.reg HE) (.seq (.reg HD) .ret)),[.mv (.t 4)]⟩
theorem HG:aI Tryz.prog (af Tryz.prog 208) 208=some Vi:=by kernel_rfl
/-! instruction.combinations$8-/
abbrev HA:List AO:=
 [o1 4 (.mv (.c (.n .u32 0)))]
abbrev Hz:List AO:=
 [(mt 5 0),
  (mt 6 1),o1 7 (.bin .xor (.t 5) (.t 6)),
  (mt 4 7)]
abbrev Vh:AF:=⟨8,(.seq (.reg HA) (.seq (.reg Hz) .ret)),[.mv (.t 4)]⟩
theorem HB:aI Tryz.prog (af Tryz.prog 209) 209=some Vh:=by kernel_rfl
/-! instruction.combinations$9-/
abbrev Hx:List AO:=
 [o1 4 (.mv (.c (.n .u32 0)))]
abbrev Hw:List AO:=
 [(mt 5 0),
  (mt 6 1),o1 7 (.bin .rem (.t 6) (.c (.n .u32 32))),o1 8 (.bin .shl (.t 5) (.t 7)),
  (mt 4 8)]
abbrev Vg:AF:=⟨9,(.seq (.reg Hx) (.seq (.reg Hw) .ret)),[.mv (.t 4)]⟩
theorem Hy:aI Tryz.prog (af Tryz.prog 210) 210=some Vg:=by kernel_rfl
/-! instruction.combinations$10-/
abbrev Hu:List AO:=
 [o1 4 (.mv (.c (.n .u32 0)))]
abbrev Ht:List AO:=
 [(mt 5 0),
  (mt 6 1),o1 7 (.bin .rem (.t 6) (.c (.n .u32 32))),o1 8 (.bin .shr (.t 5) (.t 7)),
  (mt 4 8)]
abbrev Va:AF:=⟨9,(.seq (.reg Hu) (.seq (.reg Ht) .ret)),[.mv (.t 4)]⟩
theorem Hv:aI Tryz.prog (af Tryz.prog 211) 211=some Va:=by kernel_rfl
/-! instruction.combinations$11-/
abbrev Hr:List AO:=
 [o1 4 (.mv (.c (.n .u32 0)))]
abbrev Hq:List AO:=
 [(mt 5 0),
  (mt 6 1),⟨some 7,none,.mo (.mi (.t 5) (.t 6))⟩,
  (mt 4 7)]
abbrev U9:AF:=⟨8,(.seq (.reg Hr) (.seq (.reg Hq) .ret)),[.mv (.t 4)]⟩
theorem Hs:aI Tryz.prog (af Tryz.prog 212) 212=some U9:=by kernel_rfl
/-! instruction.combinations$12-/
abbrev Ho:List AO:=
 [o1 4 (.mv (.c (.n .u32 0)))]
abbrev Hn:List AO:=
 [(mt 5 0),
  (mt 6 1),⟨some 7,none,.mo (.mx (.t 5) (.t 6))⟩,
  (mt 4 7)]
abbrev U8:AF:=⟨8,(.seq (.reg Ho) (.seq (.reg Hn) .ret)),[.mv (.t 4)]⟩
theorem Hp:aI Tryz.prog (af Tryz.prog 213) 213=some U8:=by kernel_rfl
/-! instruction.hash-/
abbrev Hl:List AO:=
 [o1 4 (.mv (.c (.n .u32 0)))]
abbrev Hk:List AO:=
 [(mt 6 0),
  (mt 7 1),o1 8 (.bin .mul (.t 7) (.c (.n .u32 2654435761))),o1 9 (.bin .xor (.t 6) (.t 8)),o1 10 (.bin .mul (.t 9) (.c (.n .u32 2246822519))),
  (mt 5 10)]
abbrev Hj:List AO:=
 [(mt 11 5),
  (mt 12 5),o1 13 (.bin .shr (.t 12) (.c (.n .u64 16))),o1 14 (.bin .xor (.t 11) (.t 13)),
  (mt 4 14)]
abbrev U7:AF:=⟨15,(.seq (.reg Hl) (.seq (.reg Hk) (.seq (.reg Hj) .ret))),[.mv (.t 4)]⟩
theorem Hm:aI Tryz.prog (af Tryz.prog 214) 214=some U7:=by kernel_rfl
/-! instruction.combinations$13-/
/-! instruction.combinations$14-/
/-! instruction.combinations$15-/
/-! instruction.combinations$16-/
/-! instruction.combinations$17-/
/-! instruction.combinations$18-/
/-! compactorlaw21.CostLimits-/
/-! compactorlaw21.CostReports-/
/-! compactorlaw21.CostGrows-/
/-! compactorlaw21.CostAdds-/
abbrev Hh:List AO:=
 [o1 2 (.bx 25 0 (.t 0)),o1 4 (.mv (.c (.b false)))]
abbrev Hg:List AO:=
 [o1 20 (.ld 3 true (.t 2)),o1 5 (.al 25 [.sl0,.n .i64 0,.sl0]),
  (o3 (.st 3 (.t 5) (.t 20)))]
abbrev Hf:List AO:=
 [(mt 21 1),o1 22 (.fa 2 (.t 5)),
  (o3 (.st 1 (.t 22) (.t 21)))]
abbrev He:List AO:=
 [o1 23 (.ld 3 true (.t 2)),
  (o2 24 8 [.t 23]),o1 25 (.un .not (.t 24)),
  (mt 26 25),
  (o4 27 26 (.ld 3 true (.t 5))),⟨some 28,some (26,false),.cl (.c (.f 8 [] [])) [.t 27]⟩,
  (o4 29 26 (.un .not (.t 28))),o1 30 (.pick (.t 26) (.c (.b true)) (.t 29))]
abbrev Hd:List AO:=
 [(o2 31 9 []),
  (mt 4 31)]
abbrev Hb:List AO:=
 [o1 33 (.ld 3 true (.t 2)),
  (o2 34 12 [.t 33]),
  (mt 32 34),o1 35 (.ext 0 (.t 32)),o1 36 (.ext 1 (.t 32)),o1 37 (.ext 2 (.t 32)),o1 6 (.al 38 [.n .i64 0,.n .i64 0,.n .i64 0,.sl0]),
  (o3 (.st 4 (.t 6) (.t 35))),
  (mt 7 36),
  (mt 8 37)]
abbrev G9:List AO:=
 [o1 39 (.ld 3 true (.t 5)),
  (o2 40 12 [.t 39]),
  (mt 38 40),o1 41 (.ext 0 (.t 38)),o1 42 (.ext 1 (.t 38)),o1 43 (.ext 2 (.t 38)),o1 9 (.al 38 [.n .i64 0,.n .i64 0,.n .i64 0,.sl0]),
  (o3 (.st 4 (.t 9) (.t 41))),
  (mt 10 42),
  (mt 11 43)]
abbrev G8:List AO:=
 [o1 44 (.ld 3 true (.t 2)),o1 12 (.al 25 [.sl0,.n .i64 0,.sl0]),
  (o3 (.st 3 (.t 12) (.t 44)))]
abbrev G7:List AO:=
 [o1 45 (.fa 2 (.t 2)),o1 46 (.ld 1 false (.t 45)),
  (o2 47 17 [.t 46]),
  (mt 48 1),o1 49 (.app 54 2 16 (.t 47) (.t 48)),o1 50 (.fa 2 (.t 12)),
  (o3 (.st 1 (.t 50) (.t 49)))]
abbrev G0:List AO:=
 [(mt 51 8),o1 52 (.bin .neq (.t 51) (ci 0)),
  (mt 53 52),
  (o4 54 53 (.mv (.t 11))),
  (o4 55 53 (.bin .neq (.t 54) (ci 0))),o1 56 (.pick (.t 53) (.c (.b true)) (.t 55)),
  (mt 57 56),
  (o4 58 57 (.fa 2 (.t 12))),
  (o4 59 57 (.ld 1 false (.t 58))),
  (o4 60 57 (.len (.t 59))),
  (o4 61 57 (.bin .gtr (.t 60) (ci 1024))),o1 62 (.pick (.t 57) (.c (.b true)) (.t 61))]
abbrev A2:List AO:=
 [(o2 63 9 []),
  (mt 4 63)]
abbrev A1:List AO:=
 [o1 64 (.fa 3 (.t 6)),o1 65 (.ld 1 false (.t 64)),
  (o2 66 16 [.t 65]),o1 67 (.bd [.n .i64 0,.n .i64 0,.n .i64 0,.sl0] [(3,1,(.t 66))]),o1 13 (.al 38 [.n .i64 0,.n .i64 0,.n .i64 0,.sl0]),
  (o3 (.st 4 (.t 13) (.t 67)))]
abbrev A0:List AO:=
 [o1 68 (.fa 3 (.t 9)),o1 69 (.ld 1 false (.t 68)),o1 70 (.len (.t 69)),o1 71 (.mv (ci 0))]
abbrev AZ:List AO:=
 [o1 72 (.bin .lss (.t 71) (.t 70))]
abbrev AY:List AO:=
 [o1 73 (.ia 3 (.t 69) (.t 71)),o1 74 (.ld 3 true (.t 73)),o1 15 (.al 48 [.n .i64 0,.n .i64 0,.sl0]),
  (o3 (.st 3 (.t 15) (.t 74)))]
abbrev AW:List AO:=
 [o1 75 (.fa 0 (.t 15)),o1 76 (.ld 1 false (.t 75)),o1 77 (.fa 2 (.t 2)),o1 78 (.ld 1 false (.t 77)),o1 79 (.len (.t 78)),o1 80 (.bin .add (.t 76) (.t 79)),o1 81 (.fa 0 (.t 15)),
  (o3 (.st 1 (.t 81) (.t 80)))]
abbrev AU:List AO:=
 [o1 82 (.fa 3 (.t 13)),o1 83 (.ld 1 false (.t 82)),o1 84 (.ld 3 true (.t 15)),o1 85 (.bs 48 3 1 [.n .i64 0,.n .i64 0,.sl0] [(0,3,(.t 84))]),o1 86 (.app 48 3 40 (.t 83) (.t 85)),o1 87 (.fa 3 (.t 13)),
  (o3 (.st 1 (.t 87) (.t 86)))]
abbrev A4:AC:=
 (.seq (.reg AY) (.seq (.reg AW) (.reg AU)))
abbrev AR:List AO:=
 [o1 88 (.bin .add (.t 71) (ci 1)),
  (mt 71 88)]
abbrev A5:AC:=
 (.seq (.reg AZ) (.seq (.cond (.t 72) .skip (.exit 0)) (.seq (.block 1 A4) (.reg AR))))
abbrev A3:AC:=
 (.loop A5)
abbrev AQ:List AO:=
 [o1 90 (.ld 3 true (.t 12)),o1 91 (.ld 4 true (.t 13)),
  (o2 92 13 [.t 90,.t 91]),
  (mt 89 92),o1 93 (.ext 0 (.t 89)),o1 94 (.ext 1 (.t 89)),
  (mt 16 93),
  (mt 17 94)]
abbrev AN:List AO:=
 [o1 96 (.ld 3 true (.t 12)),o1 97 (.ld 4 true (.t 13)),
  (o2 98 14 [.t 96,.t 97]),
  (mt 95 98),o1 99 (.ext 0 (.t 95)),o1 100 (.ext 1 (.t 95)),
  (mt 18 99),
  (mt 19 100)]
abbrev AM:List AO:=
 [o1 101 (.fa 0 (.t 6)),o1 102 (.ld 1 false (.t 101)),o1 103 (.fa 0 (.t 9)),o1 104 (.ld 1 false (.t 103)),o1 105 (.bin .add (.t 102) (.t 104)),o1 106 (.bin .gtr (.t 105) (ci 281474976710656))]
abbrev AL:List AO:=
 [(mt 107 17),o1 108 (.bin .eql (.t 107) (ci 18)),
  (mt 109 108),⟨some 110,some (109,true),.cl (.c (.f 9 [] [])) []⟩,o1 111 (.pick (.t 109) (.t 110) (.c (.b false))),
  (mt 4 111)]
abbrev AJ:List AO:=
 [(mt 112 17),o1 113 (.bin .eql (.t 112) (ci 0)),
  (mt 114 113),
  (o5 115 114 (.mv (.t 19))),
  (o5 116 114 (.bin .eql (.t 115) (ci 0))),o1 117 (.pick (.t 114) (.t 116) (.c (.b false))),
  (mt 118 117),
  (o5 119 118 (.mv (.t 16))),
  (o5 120 118 (.fa 0 (.t 6))),
  (o5 121 118 (.ld 1 false (.t 120))),
  (o5 122 118 (.fa 0 (.t 9))),
  (o5 123 118 (.ld 1 false (.t 122))),
  (o5 124 118 (.bin .add (.t 121) (.t 123))),
  (o5 125 118 (.bin .eql (.t 119) (.t 124))),o1 126 (.pick (.t 118) (.t 125) (.c (.b false))),
  (mt 127 126),
  (o5 128 127 (.mv (.t 18))),
  (o5 129 127 (.fa 1 (.t 6))),
  (o5 130 127 (.ld 1 false (.t 129))),
  (o5 131 127 (.fa 1 (.t 9))),
  (o5 132 127 (.ld 1 false (.t 131))),
  (o5 133 127 (.bin .add (.t 130) (.t 132))),
  (o5 134 127 (.bin .eql (.t 128) (.t 133))),o1 135 (.pick (.t 127) (.t 134) (.c (.b false))),
  (mt 136 135),⟨some 137,some (136,true),.cl (.c (.f 9 [] [])) []⟩,o1 138 (.pick (.t 136) (.t 137) (.c (.b false))),
  (mt 4 138)]
abbrev U6:AF:=⟨139,(.seq (.reg Hh) (.seq (.reg Hg) (.seq (.reg Hf) (.seq (.seq (.reg He) (.cond (.t 30) (.seq (.reg Hd) .ret) .skip)) (.seq (.reg Hb) (.seq (.reg G9) (.seq (.reg G8) (.seq (.reg G7) (.seq (.seq (.reg G0) (.cond (.t 62) (.seq (.reg A2) .ret) .skip)) (.seq (.reg A1) (.seq (.seq (.reg A0) (.block 0 A3)) (.seq (.reg AQ) (.seq (.reg AN) (.seq (.seq (.reg AM) (.cond (.t 106) (.seq (.reg AL) .ret) .skip)) (.seq (.reg AJ) .ret))))))))))))))),[.mv (.t 4)]⟩
theorem Hi:aI Tryz.prog (af Tryz.prog 6) 6=some U6:=by kernel_rfl
/-! compactorlaw21.CostCovers-/
/-! compactorref21.Limit-/
/-! slices.Clone[[]api.Invariant,api.Invariant]-/
abbrev GY:List AO:=
 [o1 2 (.mv (.c .sl0))]
abbrev GX:List AO:=
 [(mt 3 0),⟨some 4,none,.sn false (.t 3)⟩]
abbrev GV:List AO:=
 [o1 2 (.mv (.c .sl0))]
abbrev GU:List AO:=
 [o1 5 (.bs 48 3 0 [] []),
  (mt 6 0),o1 7 (.app 48 3 40 (.t 5) (.t 6)),
  (mt 2 7)]
abbrev U5:AF:=⟨8,(.seq (.reg GY) (.seq (.seq (.reg GX) (.cond (.t 4) (.seq (.reg GV) .ret) .skip)) (.seq (.reg GU) .ret))),[.mv (.t 2)]⟩
theorem GZ:aI Tryz.prog (af Tryz.prog 16) 16=some U5:=by kernel_rfl
/-! slices.Clone[[]api.Instr,api.Instr]-/
abbrev GQ:List AO:=
 [o1 2 (.mv (.c .sl0))]
abbrev GP:List AO:=
 [(mt 3 0),⟨some 4,none,.sn false (.t 3)⟩]
abbrev GO:List AO:=
 [o1 2 (.mv (.c .sl0))]
abbrev GN:List AO:=
 [o1 5 (.bs 54 2 0 [] []),
  (mt 6 0),o1 7 (.app 54 2 16 (.t 5) (.t 6)),
  (mt 2 7)]
abbrev U4:AF:=⟨8,(.seq (.reg GQ) (.seq (.seq (.reg GP) (.cond (.t 4) (.seq (.reg GO) .ret) .skip)) (.seq (.reg GN) .ret))),[.mv (.t 2)]⟩
theorem GR:aI Tryz.prog (af Tryz.prog 17) 17=some U4:=by kernel_rfl
end Go.Proofs.YtdpkgnmmikebdaaGreat