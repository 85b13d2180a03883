/- A part of the proof of CostGrows: AcCsE AcCsF AcVrC. No condition. -/
import Derived.Test.YtdpkgnmmikebdaaGreatGf14
import Derived.Test.YtdpkgnmmikebdaaGreatProg
set_option linter.unusedSimpArgs false
set_option linter.unusedVariables false
set_option linter.constructorNameAsVariable false
set_option maxRecDepth 100000
set_option maxHeartbeats 4000000
namespace Go.Proofs.YtdpkgnmmikebdaaGreat
open Go.RowKit
/-! verifier.guarded-/
/-! cost.Steps-/
abbrev OC:List AO:=
 [o1 2 (.bx 25 0 (.t 0)),o1 3 (.bx 38 0 (.t 1)),o1 4 (.mv (ci 0)),o1 5 (.mv (ci 0))]
abbrev OA:List AO:=
 [o1 10 (.ld 3 true (.t 2)),o1 11 (.ld 4 true (.t 3)),
  (o2 12 34 [.t 10,.t 11]),
  (mt 9 12),o1 13 (.ext 0 (.t 9)),o1 14 (.ext 1 (.t 9)),o1 15 (.ext 2 (.t 9)),o1 6 (.al 88 [.sl0,.cv (.map none)]),
  (o3 (.st 2 (.t 6) (.t 13))),
  (mt 7 14),
  (mt 8 15)]
abbrev Oz:List AO:=
 [(mt 16 8),o1 17 (.bin .neq (.t 16) (ci 0))]
abbrev Oy:List AO:=
 [(mt 18 8),o1 4 (.mv (ci 0)),
  (mt 5 18)]
abbrev Ox:List AO:=
 [o1 19 (.ld 2 true (.t 6)),
  (mt 20 7),o1 21 (.ld 2 true (.t 6)),o1 22 (.mf 36 [.t 21] []),
  (o2 23 35 [.t 19,.t 20,.t 22,(ci 1)]),
  (o2 24 23 [.t 23]),o1 25 (.ext 0 (.t 24)),o1 26 (.ext 1 (.t 24)),
  (mt 4 25),
  (mt 5 26)]
abbrev Yj:AF:=⟨27,(.seq (.reg OC) (.seq (.reg OA) (.seq (.seq (.reg Oz) (.cond (.t 17) (.seq (.reg Oy) .ret) .skip)) (.seq (.reg Ox) .ret)))),[.mv (.t 4),.mv (.t 5)]⟩
theorem OD:aF Tryz.prog (af Tryz.prog 13) 13=some Yj:=by kernel_rfl
/-! cost.open-/
abbrev Ov:List AO:=
 [o1 2 (.bx 25 0 (.t 0)),o1 3 (.bx 38 0 (.t 1)),o1 4 (.al 88 [.sl0,.cv (.map none)]),o1 5 (.mv (.c .sl0)),o1 6 (.mv (ci 0))]
abbrev Ou:List AO:=
 [o1 19 (.ld 3 true (.t 2)),
  (o2 20 28 [.t 19]),
  (mt 18 20),o1 21 (.ext 0 (.t 18)),o1 22 (.ext 1 (.t 18)),
  (mt 7 21),
  (mt 8 22)]
abbrev Ot:List AO:=
 [(mt 23 8),o1 24 (.bin .neq (.t 23) (ci 0))]
abbrev Oq:List AO:=
 [o1 25 (.bd [.sl0,.cv (.map none)] []),
  (mt 26 8),
  (o3 (.st 2 (.t 4) (.t 25))),o1 5 (.mv (.c .sl0)),
  (mt 6 26)]
abbrev Oo:List AO:=
 [o1 28 (.fa 2 (.t 2)),o1 29 (.ld 1 false (.t 28)),
  (o2 30 65 [.t 29]),
  (mt 27 30),o1 31 (.ext 0 (.t 27)),o1 32 (.ext 1 (.t 27)),
  (mt 9 31),
  (mt 10 32)]
abbrev Om:List AO:=
 [(mt 33 10),o1 34 (.bin .neq (.t 33) (ci 0))]
abbrev Ol:List AO:=
 [o1 35 (.bd [.sl0,.cv (.map none)] []),
  (mt 36 10),
  (o3 (.st 2 (.t 4) (.t 35))),o1 5 (.mv (.c .sl0)),
  (mt 6 36)]
abbrev Ok:List AO:=
 [(mt 37 9),o1 38 (.len (.t 37)),o1 39 (.fa 3 (.t 3)),o1 40 (.ld 1 false (.t 39)),o1 41 (.len (.t 40)),o1 42 (.bin .neq (.t 38) (.t 41))]
abbrev Oj:List AO:=
 [o1 43 (.bd [.sl0,.cv (.map none)] []),
  (o3 (.st 2 (.t 4) (.t 43))),o1 5 (.mv (.c .sl0)),o1 6 (.mv (ci 23))]
abbrev Oi:List AO:=
 [o1 44 (.fa 2 (.t 2)),o1 45 (.ld 1 false (.t 44)),⟨some 46,none,.mo (.mm)⟩,o1 47 (.bd [.sl0,.cv (.map none)] [(0,1,(.t 45)),(1,1,(.t 46))]),o1 11 (.al 88 [.sl0,.cv (.map none)]),
  (o3 (.st 2 (.t 11) (.t 47)))]
abbrev En:List AO:=
 [o1 12 (.mv (.c (.b false)))]
abbrev Em:List AO:=
 [(mt 48 9),o1 49 (.len (.t 48)),o1 50 (.mv (ci 0))]
abbrev El:List AO:=
 [o1 51 (.bin .lss (.t 50) (.t 49))]
abbrev Ek:List AO:=
 [(mt 52 50),o1 53 (.ia 1 (.t 48) (.t 50)),o1 54 (.ld 1 false (.t 53)),
  (mt 13 52),
  (mt 14 54)]
abbrev Ej:List AO:=
 [o1 55 (.fa 3 (.t 3)),o1 56 (.ld 1 false (.t 55)),
  (mt 57 13),o1 58 (.ia 3 (.t 56) (.t 57)),o1 59 (.ld 3 true (.t 58)),o1 15 (.al 48 [.n .i64 0,.n .i64 0,.sl0]),
  (o3 (.st 3 (.t 15) (.t 59)))]
abbrev Ei:List AO:=
 [o1 60 (.fa 0 (.t 15)),o1 61 (.ld 1 false (.t 60)),
  (mt 62 14),o1 63 (.bin .neq (.t 61) (.t 62))]
abbrev Eh:List AO:=
 [o1 64 (.bd [.sl0,.cv (.map none)] []),
  (o3 (.st 2 (.t 4) (.t 64))),o1 5 (.mv (.c .sl0)),o1 6 (.mv (ci 23))]
abbrev Eg:List AO:=
 [(mt 65 12),
  (mt 66 65),
  (o4 67 66 (.fa 1 (.t 15))),
  (o4 68 66 (.ld 1 false (.t 67))),
  (o4 69 66 (.bin .lss (.t 68) (ci 0))),o1 70 (.pick (.t 66) (.c (.b true)) (.t 69)),
  (mt 71 70),
  (o4 72 71 (.fa 1 (.t 15))),
  (o4 73 71 (.ld 1 false (.t 72))),
  (o4 74 71 (.bin .gtr (.t 73) (ci 65536))),o1 75 (.pick (.t 71) (.c (.b true)) (.t 74)),
  (mt 12 75)]
abbrev Ef:List AO:=
 [o1 76 (.fa 1 (.t 11)),o1 77 (.ld 1 false (.t 76)),
  (mt 78 14),o1 79 (.fa 1 (.t 15)),o1 80 (.ld 1 false (.t 79)),⟨none,none,.mo (.mu (.t 77) (.t 78) (.t 80))⟩]
abbrev Ep:AC:=
 (.seq (.reg Ek) (.seq (.reg Ej) (.seq (.seq (.reg Ei) (.cond (.t 63) (.seq (.reg Eh) .ret) .skip)) (.seq (.reg Eg) (.reg Ef)))))
abbrev Ee:List AO:=
 [o1 81 (.bin .add (.t 50) (ci 1)),
  (mt 50 81)]
abbrev Es:AC:=
 (.seq (.reg El) (.seq (.cond (.t 51) .skip (.exit 0)) (.seq (.block 1 Ep) (.reg Ee))))
abbrev Eo:AC:=
 (.loop Es)
abbrev Ed:List AO:=
 [(mt 82 12)]
abbrev Ec:List AO:=
 [o1 83 (.bd [.sl0,.cv (.map none)] []),
  (o3 (.st 2 (.t 4) (.t 83))),o1 5 (.mv (.c .sl0)),o1 6 (.mv (ci 2))]
abbrev Eb:List AO:=
 [o1 85 (.fa 2 (.t 2)),o1 86 (.ld 1 false (.t 85)),
  (o2 87 50 [.t 86]),
  (mt 84 87),o1 88 (.ext 0 (.t 84)),o1 89 (.ext 1 (.t 84)),o1 90 (.ext 2 (.t 84)),
  (mt 16 88),
  (mt 17 89),
  (mt 10 90)]
abbrev Ea:List AO:=
 [o1 91 (.ld 2 true (.t 11)),
  (mt 92 16),
  (mt 93 10),
  (o3 (.st 2 (.t 4) (.t 91))),
  (mt 5 92),
  (mt 6 93)]
abbrev Yi:AF:=⟨94,(.seq (.reg Ov) (.seq (.seq (.reg Ou) (.seq (.reg Ot) (.cond (.t 24) (.seq (.reg Oq) .ret) .skip))) (.seq (.reg Oo) (.seq (.seq (.reg Om) (.cond (.t 34) (.seq (.reg Ol) .ret) .skip)) (.seq (.seq (.reg Ok) (.cond (.t 42) (.seq (.reg Oj) .ret) .skip)) (.seq (.reg Oi) (.seq (.reg En) (.seq (.seq (.reg Em) (.block 0 Eo)) (.seq (.seq (.reg Ed) (.cond (.t 82) (.seq (.reg Ec) .ret) .skip)) (.seq (.reg Eb) (.seq (.reg Ea) .ret))))))))))),[.ld 2 true (.t 4),.mv (.t 5),.mv (.t 6)]⟩
theorem Ow:aF Tryz.prog (af Tryz.prog 34) 34=some Yi:=by kernel_rfl
/-! flow.Loops-/
abbrev Og:List AO:=
 [o1 2 (.mv (.c .sl0)),o1 3 (.mv (ci 0))]
abbrev Oe:List AO:=
 [(mt 11 0),
  (o2 12 50 [.t 11]),
  (mt 10 12),o1 13 (.ext 0 (.t 10)),o1 14 (.ext 1 (.t 10)),o1 15 (.ext 2 (.t 10)),
  (mt 4 13),
  (mt 5 14),
  (mt 6 15)]
abbrev Od:List AO:=
 [(mt 16 6),o1 17 (.bin .neq (.t 16) (ci 0))]
abbrev Oc:List AO:=
 [(mt 18 6),o1 2 (.mv (.c .sl0)),
  (mt 3 18)]
abbrev Ob:List AO:=
 [o1 7 (.mv (.c .sl0))]
abbrev Oa:List AO:=
 [(mt 19 0),o1 20 (.len (.t 19)),o1 21 (.mv (ci 0))]
abbrev N9:List AO:=
 [o1 22 (.bin .lss (.t 21) (.t 20))]
abbrev N8:List AO:=
 [(mt 23 21),o1 24 (.ia 2 (.t 19) (.t 21)),o1 25 (.ld 2 true (.t 24)),o1 9 (.al 54 [.n .i64 0,.n .u32 0]),
  (mt 8 23),
  (o3 (.st 2 (.t 9) (.t 25)))]
abbrev N7:List AO:=
 [o1 26 (.fa 0 (.t 9)),o1 27 (.ld 1 false (.t 26)),o1 28 (.bin .eql (.t 27) (ci 29))]
abbrev N6:List AO:=
 [(mt 29 7),
  (mt 30 8),o1 31 (.bs 3 1 1 [.n .i64 0] [(0,1,(.t 30))]),o1 32 (.app 3 1 8 (.t 29) (.t 31)),
  (mt 7 32)]
abbrev D8:AC:=
 (.seq (.reg N8) (.seq (.reg N7) (.cond (.t 28) (.reg N6) .skip)))
abbrev D6:List AO:=
 [o1 33 (.bin .add (.t 21) (ci 1)),
  (mt 21 33)]
abbrev D9:AC:=
 (.seq (.reg N9) (.seq (.cond (.t 22) .skip (.exit 0)) (.seq (.block 1 D8) (.reg D6))))
abbrev D7:AC:=
 (.loop D9)
abbrev D5:List AO:=
 [(mt 34 7),
  (mt 2 34),o1 3 (.mv (ci 0))]
abbrev Yh:AF:=⟨35,(.seq (.reg Og) (.seq (.reg Oe) (.seq (.seq (.reg Od) (.cond (.t 17) (.seq (.reg Oc) .ret) .skip)) (.seq (.reg Ob) (.seq (.seq (.reg Oa) (.block 0 D7)) (.seq (.reg D5) .ret)))))),[.mv (.t 2),.mv (.t 3)]⟩
theorem Oh:aF Tryz.prog (af Tryz.prog 65) 65=some Yh:=by kernel_rfl
/-! cost.bounds.steps-/
abbrev N4:List AO:=
 [o1 3 (.bx 88 0 (.t 0)),o1 6 (.mv (ci 0))]
abbrev N3:List AO:=
 [(mt 7 2),
  (mt 8 1),o1 9 (.bin .sub (.t 7) (.t 8)),
  (mt 6 9)]
abbrev Yg:AF:=⟨10,(.seq (.reg N4) (.seq (.reg N3) .ret)),[.mv (.t 6)]⟩
theorem N5:aF Tryz.prog (af Tryz.prog 36) 36=some Yg:=by kernel_rfl
/-! cost.bounds.walk-/
abbrev NZ:List AO:=
 [o1 4 (.bx 88 0 (.t 0)),o1 8 (.mv (ci 0))]
abbrev NY:List AO:=
 [o1 9 (.mv (ci 0))]
abbrev NX:List AO:=
 [(mt 13 1),o1 14 (.len (.t 13)),o1 15 (.mv (ci 0))]
abbrev NW:List AO:=
 [o1 16 (.bin .lss (.t 15) (.t 14))]
abbrev NV:List AO:=
 [o1 17 (.ia 5 (.t 13) (.t 15)),o1 18 (.ld 5 true (.t 17)),o1 11 (.al 140 [.n .i64 0,.n .i64 0,.n .i64 0,.sl0,.sl0]),
  (o3 (.st 5 (.t 11) (.t 18)))]
abbrev NU:List AO:=
 [o1 12 (.mv (ci 0))]
abbrev NT:List AO:=
 [o1 19 (.fa 0 (.t 11)),o1 20 (.ld 1 false (.t 19))]
abbrev NS:List AO:=
 [o1 28 (.bin .eql (.t 20) (ci 27)),
  (mt 27 28)]
abbrev N1:List (Nat×AO):=
 [(2,(mt 29 3)),(2,(o1 31 (.fa 3 (.t 11)))),
  (2,(mt 33 2)),
  (2,(mt 34 3)),(2,(o1 37 (.fa 4 (.t 11)))),
  (2,(mt 39 2)),
  (2,(mt 40 3)),(1,(o1 30 (.ld 2 true (.t 4)))),(1,(o1 32 (.ld 1 false (.t 31)))),(1,(o1 36 (.ld 2 true (.t 4)))),(1,(o1 38 (.ld 1 false (.t 37)))),
  (0,(o2 35 35 [.t 30,.t 32,.t 33,.t 34])),
  (3,(o2 41 35 [.t 36,.t 38,.t 39,.t 40])),(3,⟨some 42,none,.mo (.mx (.t 35) (.t 41))⟩),
  (3,(o2 43 66 [.t 29,.t 42])),
  (2,(mt 12 43))]
abbrev NQ:List AO:=
 [o1 45 (.bin .eql (.t 20) (ci 29)),
  (mt 44 45)]
abbrev D0:List (Nat×AO):=
 [(2,(mt 46 3)),
  (2,(mt 47 3)),(2,(o1 49 (.fa 3 (.t 11)))),
  (2,(mt 51 2)),
  (2,(mt 52 3)),(2,(o1 55 (.fa 1 (.t 4)))),(2,(o1 57 (.fa 1 (.t 11)))),(1,(o1 48 (.ld 2 true (.t 4)))),(1,(o1 50 (.ld 1 false (.t 49)))),(1,(o1 56 (.ld 1 false (.t 55)))),(1,(o1 58 (.ld 1 false (.t 57)))),(4,⟨some 59,none,.mo (.lk (.n .i64 0) false (.t 56) (.t 58))⟩),
  (0,(o2 53 35 [.t 48,.t 50,.t 51,.t 52])),
  (0,(o2 54 66 [.t 47,.t 53])),
  (3,(o2 60 24 [.t 54,.t 59])),
  (3,(o2 61 66 [.t 46,.t 60])),
  (2,(mt 12 61))]
abbrev DZ:List AO:=
 [(mt 21 2),o1 22 (.fa 1 (.t 11)),o1 23 (.ld 1 false (.t 22)),o1 24 (.fa 2 (.t 11)),o1 25 (.ld 1 false (.t 24)),⟨some 26,none,.cl (.t 21) [.t 23,.t 25]⟩,
  (mt 12 26)]
abbrev D3:AC:=
 (.seq (.reg NS) (.cond (.t 27) (.mix N1) (.seq (.reg NQ) (.cond (.t 44) (.mxl D0) (.reg DZ)))))
abbrev DY:List AO:=
 [(mt 62 9),
  (mt 63 12),
  (o2 64 66 [.t 62,.t 63]),
  (mt 9 64)]
abbrev D2:AC:=
 (.seq (.reg NV) (.seq (.reg NU) (.seq (.seq (.reg NT) (.block 2 D3)) (.reg DY))))
abbrev DX:List AO:=
 [o1 65 (.bin .add (.t 15) (ci 1)),
  (mt 15 65)]
abbrev D4:AC:=
 (.seq (.reg NW) (.seq (.cond (.t 16) .skip (.exit 0)) (.seq (.block 1 D2) (.reg DX))))
abbrev D1:AC:=
 (.loop D4)
abbrev DW:List AO:=
 [(mt 66 9),
  (mt 8 66)]
abbrev Yf:AF:=⟨67,(.seq (.reg NZ) (.seq (.reg NY) (.seq (.seq (.reg NX) (.block 0 D1)) (.seq (.reg DW) .ret)))),[.mv (.t 8)]⟩
theorem N0:aF Tryz.prog (af Tryz.prog 35) 35=some Yf:=by kernel_rfl
/-! cost.plus[int]-/
abbrev NN:List AO:=
 [o1 4 (.mv (ci 0))]
abbrev NM:List AO:=
 [(mt 5 0),
  (mt 6 1),o1 7 (.bin .add (.t 5) (.t 6)),⟨some 8,none,.mo (.mi (.t 7) (ci 281474976710657))⟩,
  (mt 4 8)]
abbrev Ye:AF:=⟨9,(.seq (.reg NN) (.seq (.reg NM) .ret)),[.mv (.t 4)]⟩
theorem NP:aF Tryz.prog (af Tryz.prog 66) 66=some Ye:=by kernel_rfl
/-! cost.times[int]-/
abbrev Nz:List AO:=
 [o1 4 (.mv (ci 0))]
abbrev Ny:List AO:=
 [(mt 5 1),o1 6 (.bin .gtr (.t 5) (ci 0)),
  (mt 7 6),
  (o5 8 7 (.mv (.t 0))),
  (o5 9 7 (.mv (.t 1))),
  (o5 10 7 (.bin .quo (ci 281474976710657) (.t 9))),
  (o5 11 7 (.bin .gtr (.t 8) (.t 10))),o1 12 (.pick (.t 7) (.t 11) (.c (.b false)))]
abbrev Nx:List AO:=
 [o1 4 (.mv (ci 281474976710657))]
abbrev Nw:List AO:=
 [(mt 13 0),
  (mt 14 1),o1 15 (.bin .mul (.t 13) (.t 14)),⟨some 16,none,.mo (.mi (.t 15) (ci 281474976710657))⟩,
  (mt 4 16)]
abbrev X2:AF:=⟨17,(.seq (.reg Nz) (.seq (.seq (.reg Ny) (.cond (.t 12) (.seq (.reg Nx) .ret) .skip)) (.seq (.reg Nw) .ret))),[.mv (.t 4)]⟩
theorem NA:aF Tryz.prog (af Tryz.prog 24) 24=some X2:=by kernel_rfl
/-! cost.bounded-/
abbrev Nu:List AO:=
 [o1 2 (.mv (ci 0)),o1 3 (.mv (ci 0))]
abbrev Nt:List AO:=
 [(mt 4 0),o1 5 (.bin .geq (.t 4) (ci 281474976710657))]
abbrev Ns:List AO:=
 [o1 2 (.mv (ci 0)),o1 3 (.mv (ci 18))]
abbrev Nr:List AO:=
 [(mt 6 0),
  (mt 2 6),o1 3 (.mv (ci 0))]
abbrev X1:AF:=⟨7,(.seq (.reg Nu) (.seq (.seq (.reg Nt) (.cond (.t 5) (.seq (.reg Ns) .ret) .skip)) (.seq (.reg Nr) .ret))),[.mv (.t 2),.mv (.t 3)]⟩
theorem Nv:aF Tryz.prog (af Tryz.prog 23) 23=some X1:=by kernel_rfl
/-! cost.Memory-/
abbrev Np:List AO:=
 [o1 1 (.bx 25 0 (.t 0)),o1 2 (.mv (ci 0)),o1 3 (.mv (ci 0))]
abbrev Nn:List AO:=
 [o1 11 (.ld 3 true (.t 1)),
  (o2 12 38 [.t 11]),
  (mt 10 12),o1 13 (.ext 0 (.t 10)),o1 14 (.ext 1 (.t 10)),
  (mt 4 13),
  (mt 5 14)]
abbrev Nm:List AO:=
 [(mt 15 5),o1 16 (.bin .neq (.t 15) (ci 0))]
abbrev Nl:List AO:=
 [(mt 17 5),o1 2 (.mv (ci 0)),
  (mt 3 17)]
abbrev Nk:List AO:=
 [o1 18 (.fa 1 (.t 1)),o1 19 (.ld 1 false (.t 18)),o1 20 (.bin .add (.t 19) (ci 32)),o1 21 (.bin .add (.t 20) (ci 16)),o1 22 (.bin .mul (ci 4) (.t 21)),
  (mt 6 22)]
abbrev Nj:List AO:=
 [o1 23 (.fa 0 (.t 1)),o1 24 (.ld 1 false (.t 23)),o1 25 (.len (.t 24)),o1 26 (.mv (ci 0))]
abbrev Ni:List AO:=
 [o1 27 (.bin .lss (.t 26) (.t 25))]
abbrev Nh:List AO:=
 [o1 28 (.ia 2 (.t 24) (.t 26)),o1 29 (.ld 2 true (.t 28)),o1 8 (.al 68 [.b false,.n .i64 0]),
  (o3 (.st 2 (.t 8) (.t 29)))]
abbrev Ng:List AO:=
 [o1 30 (.fa 1 (.t 8)),o1 31 (.ld 1 false (.t 30)),
  (mt 9 31)]
abbrev Nf:List AO:=
 [o1 32 (.fa 0 (.t 8)),o1 33 (.ld 1 false (.t 32))]
abbrev DS:List AO:=
 [(mt 34 9),o1 35 (.bin .mul (.t 34) (ci 4)),
  (mt 9 35)]
abbrev DR:List AO:=
 [(mt 36 6),
  (mt 37 9),o1 38 (.bin .add (.t 36) (.t 37)),
  (mt 6 38)]
abbrev DU:AC:=
 (.seq (.reg Nh) (.seq (.reg Ng) (.seq (.seq (.reg Nf) (.cond (.t 33) (.reg DS) .skip)) (.reg DR))))
abbrev DQ:List AO:=
 [o1 39 (.bin .add (.t 26) (ci 1)),
  (mt 26 39)]
abbrev DV:AC:=
 (.seq (.reg Ni) (.seq (.cond (.t 27) .skip (.exit 0)) (.seq (.block 1 DU) (.reg DQ))))
abbrev DT:AC:=
 (.loop DV)
abbrev DP:List AO:=
 [(mt 40 6),
  (mt 2 40),o1 3 (.mv (ci 0))]
abbrev X0:AF:=⟨41,(.seq (.reg Np) (.seq (.seq (.reg Nn) (.seq (.reg Nm) (.cond (.t 16) (.seq (.reg Nl) .ret) .skip))) (.seq (.reg Nk) (.seq (.seq (.reg Nj) (.block 0 DT)) (.seq (.reg DP) .ret))))),[.mv (.t 2),.mv (.t 3)]⟩
theorem Nq:aF Tryz.prog (af Tryz.prog 15) 15=some X0:=by kernel_rfl
/-! cost.Limit-/
abbrev Nb:List AO:=
 [o1 2 (.bx 25 0 (.t 0)),o1 4 (.al 29 [.n .i64 0,.n .i64 0]),o1 5 (.mv (ci 0))]
abbrev Na:List AO:=
 [o1 12 (.ld 3 true (.t 2)),
  (o2 13 12 [.t 12]),
  (mt 11 13),o1 14 (.ext 0 (.t 11)),o1 15 (.ext 1 (.t 11)),o1 16 (.ext 2 (.t 11)),o1 6 (.al 38 [.n .i64 0,.n .i64 0,.n .i64 0,.sl0]),
  (o3 (.st 4 (.t 6) (.t 14))),
  (mt 7 15),
  (mt 8 16)]
abbrev M9:List AO:=
 [(mt 18 8),o1 19 (.bin .neq (.t 18) (ci 0)),
  (mt 17 19)]
abbrev M8:List AO:=
 [o1 20 (.bd [.n .i64 0,.n .i64 0] []),
  (mt 21 8),
  (o3 (.st 2 (.t 4) (.t 20))),
  (mt 5 21)]
abbrev M7:List AO:=
 [(mt 23 1),o1 24 (.bin .lss (.t 23) (ci 0)),
  (mt 25 24),
  (o4 26 25 (.mv (.t 1))),
  (o4 27 25 (.bin .gtr (.t 26) (ci 65536))),o1 28 (.pick (.t 25) (.c (.b true)) (.t 27)),
  (mt 22 28)]
abbrev M6:List AO:=
 [o1 29 (.bd [.n .i64 0,.n .i64 0] []),
  (o3 (.st 2 (.t 4) (.t 29))),o1 5 (.mv (ci 2))]
abbrev Nd:AC:=
 (.seq (.reg M9) (.cond (.t 17) (.seq (.reg M8) .ret) (.seq (.reg M7) (.cond (.t 22) (.seq (.reg M6) .ret) .skip))))
abbrev M5:List AO:=
 [o1 31 (.ld 3 true (.t 2)),
  (o2 32 15 [.t 31]),
  (mt 30 32),o1 33 (.ext 0 (.t 30)),o1 34 (.ext 1 (.t 30)),
  (mt 9 33),
  (mt 8 34)]
abbrev M4:List AO:=
 [(mt 35 8),o1 36 (.bin .neq (.t 35) (ci 0))]
abbrev M3:List AO:=
 [o1 37 (.bd [.n .i64 0,.n .i64 0] []),
  (mt 38 8),
  (o3 (.st 2 (.t 4) (.t 37))),
  (mt 5 38)]
abbrev DN:List AO:=
 [o1 40 (.fa 0 (.t 6)),o1 41 (.ld 1 false (.t 40)),
  (mt 42 1),o1 43 (.bin .add (.t 42) (ci 1)),
  (o2 44 24 [.t 41,.t 43]),
  (o2 45 23 [.t 44]),
  (mt 39 45),o1 46 (.ext 0 (.t 39)),o1 47 (.ext 1 (.t 39)),
  (mt 10 46),
  (mt 8 47)]
abbrev DM:List AO:=
 [(mt 48 8),o1 49 (.bin .neq (.t 48) (ci 0))]
abbrev DL:List AO:=
 [o1 50 (.bd [.n .i64 0,.n .i64 0] []),
  (mt 51 8),
  (o3 (.st 2 (.t 4) (.t 50))),
  (mt 5 51)]
abbrev DK:List AO:=
 [(mt 52 9),
  (mt 53 10),o1 54 (.bd [.n .i64 0,.n .i64 0] [(0,1,(.t 52)),(1,1,(.t 53))]),
  (o3 (.st 2 (.t 4) (.t 54))),o1 5 (.mv (ci 0))]
abbrev XZ:AF:=⟨55,(.seq (.reg Nb) (.seq (.reg Na) (.seq (.block 0 Nd) (.seq (.reg M5) (.seq (.seq (.reg M4) (.cond (.t 36) (.seq (.reg M3) .ret) .skip)) (.seq (.reg DN) (.seq (.seq (.reg DM) (.cond (.t 49) (.seq (.reg DL) .ret) .skip)) (.seq (.reg DK) .ret)))))))),[.ld 2 true (.t 4),.mv (.t 5)]⟩
theorem Nc:aF Tryz.prog (af Tryz.prog 10) 10=some XZ:=by kernel_rfl
/-! cost.Add-/
abbrev MZ:List AO:=
 [o1 2 (.bx 29 0 (.t 0)),o1 3 (.bx 29 0 (.t 1)),o1 4 (.al 29 [.n .i64 0,.n .i64 0])]
abbrev M1:List (Nat×AO):=
 [(2,(o1 5 (.fa 0 (.t 2)))),(2,(o1 7 (.fa 0 (.t 3)))),(2,(o1 10 (.fa 1 (.t 2)))),(2,(o1 12 (.fa 1 (.t 3)))),(1,(o1 6 (.ld 1 false (.t 5)))),(1,(o1 8 (.ld 1 false (.t 7)))),(1,(o1 11 (.ld 1 false (.t 10)))),(1,(o1 13 (.ld 1 false (.t 12)))),
  (0,(o2 9 43 [.t 6,.t 8])),
  (3,(o2 14 43 [.t 11,.t 13])),(2,(o1 15 (.bd [.n .i64 0,.n .i64 0] [(0,1,(.t 9)),(1,1,(.t 14))]))),
  (3,(o3 (.st 2 (.t 4) (.t 15))))]
abbrev XY:AF:=⟨16,(.seq (.reg MZ) (.seq (.mix M1) .ret)),[.ld 2 true (.t 4)]⟩
theorem M0:aF Tryz.prog (af Tryz.prog 21) 21=some XY:=by kernel_rfl
/-! cost.sum-/
abbrev MX:List AO:=
 [o1 4 (.mv (ci 0))]
abbrev MW:List AO:=
 [(mt 5 0),
  (o2 6 44 [.t 5]),o1 7 (.un .not (.t 6)),
  (mt 8 7),
  (o4 9 8 (.mv (.t 1))),⟨some 10,some (8,false),.cl (.c (.f 44 [] [])) [.t 9]⟩,
  (o4 11 8 (.un .not (.t 10))),o1 12 (.pick (.t 8) (.c (.b true)) (.t 11)),
  (mt 13 12),
  (o4 14 13 (.mv (.t 0))),
  (o4 15 13 (.mv (.t 1))),
  (o4 16 13 (.bin .add (.t 14) (.t 15))),⟨some 17,some (13,false),.cl (.c (.f 44 [] [])) [.t 16]⟩,
  (o4 18 13 (.un .not (.t 17))),o1 19 (.pick (.t 13) (.c (.b true)) (.t 18))]
abbrev MV:List AO:=
 [o1 4 (.mv (ci 281474976710656))]
abbrev MU:List AO:=
 [(mt 20 0),
  (mt 21 1),o1 22 (.bin .add (.t 20) (.t 21)),
  (mt 4 22)]
abbrev XX:AF:=⟨23,(.seq (.reg MX) (.seq (.seq (.reg MW) (.cond (.t 19) (.seq (.reg MV) .ret) .skip)) (.seq (.reg MU) .ret))),[.mv (.t 4)]⟩
theorem MY:aF Tryz.prog (af Tryz.prog 43) 43=some XX:=by kernel_rfl
/-! cost.known-/
abbrev MS:List AO:=
 [o1 2 (.mv (.c (.b false)))]
abbrev MR:List AO:=
 [(mt 3 0),o1 4 (.bin .geq (.t 3) (ci 0)),
  (mt 5 4),
  (o5 6 5 (.mv (.t 0))),
  (o5 7 5 (.bin .leq (.t 6) (ci 281474976710656))),o1 8 (.pick (.t 5) (.t 7) (.c (.b false))),
  (mt 2 8)]
abbrev XW:AF:=⟨9,(.seq (.reg MS) (.seq (.reg MR) .ret)),[.mv (.t 2)]⟩
theorem MT:aF Tryz.prog (af Tryz.prog 44) 44=some XW:=by kernel_rfl
/-! cost.Fits-/
abbrev MP:List AO:=
 [o1 2 (.bx 29 0 (.t 0)),o1 3 (.bx 29 0 (.t 1)),o1 4 (.mv (.c (.b false)))]
abbrev MN:List AO:=
 [o1 5 (.fa 0 (.t 2)),o1 6 (.ld 1 false (.t 5)),
  (o2 7 44 [.t 6]),
  (mt 8 7),
  (o5 9 8 (.fa 1 (.t 2))),
  (o5 10 8 (.ld 1 false (.t 9))),⟨some 11,some (8,true),.cl (.c (.f 44 [] [])) [.t 10]⟩,o1 12 (.pick (.t 8) (.t 11) (.c (.b false))),
  (mt 13 12),
  (o5 14 13 (.fa 0 (.t 3))),
  (o5 15 13 (.ld 1 false (.t 14))),⟨some 16,some (13,true),.cl (.c (.f 44 [] [])) [.t 15]⟩,o1 17 (.pick (.t 13) (.t 16) (.c (.b false))),
  (mt 18 17),
  (o5 19 18 (.fa 1 (.t 3))),
  (o5 20 18 (.ld 1 false (.t 19))),⟨some 21,some (18,true),.cl (.c (.f 44 [] [])) [.t 20]⟩,o1 22 (.pick (.t 18) (.t 21) (.c (.b false))),
  (mt 23 22),
  (o5 24 23 (.fa 0 (.t 2))),
  (o5 25 23 (.ld 1 false (.t 24))),
  (o5 26 23 (.fa 0 (.t 3))),
  (o5 27 23 (.ld 1 false (.t 26))),
  (o5 28 23 (.bin .leq (.t 25) (.t 27))),o1 29 (.pick (.t 23) (.t 28) (.c (.b false))),
  (mt 30 29),
  (o5 31 30 (.fa 1 (.t 2))),
  (o5 32 30 (.ld 1 false (.t 31))),
  (o5 33 30 (.fa 1 (.t 3))),
  (o5 34 30 (.ld 1 false (.t 33))),
  (o5 35 30 (.bin .leq (.t 32) (.t 34))),o1 36 (.pick (.t 30) (.t 35) (.c (.b false))),
  (mt 4 36)]
abbrev XV:AF:=⟨37,(.seq (.reg MP) (.seq (.reg MN) .ret)),[.mv (.t 4)]⟩
theorem MQ:aF Tryz.prog (af Tryz.prog 22) 22=some XV:=by kernel_rfl
/-! compactorlaw21.CostMemory-/
/-! compactorlaw21.CostCompares-/
/-! compactorlaw21.CostOrders-/
/-! compactorlaw21.CostBounds-/
/-! compactorref15.Few-/
abbrev MI:List AO:=
 [o1 1 (.bx 25 0 (.t 0)),o1 2 (.mv (.c (.b false)))]
abbrev MH:List AO:=
 [o1 4 (.fa 0 (.t 1)),o1 5 (.ld 1 false (.t 4)),o1 6 (.len (.t 5)),o1 7 (.bin .gtr (.t 6) (ci 20)),
  (mt 8 7),
  (o4 9 8 (.fa 2 (.t 1))),
  (o4 10 8 (.ld 1 false (.t 9))),
  (o4 11 8 (.len (.t 10))),
  (o4 12 8 (.bin .gtr (.t 11) (ci 200))),o1 13 (.pick (.t 8) (.c (.b true)) (.t 12)),
  (mt 14 13),
  (o4 15 14 (.fa 2 (.t 1))),
  (o4 16 14 (.ld 1 false (.t 15))),⟨some 17,some (14,false),.cl (.c (.f 19 [] [])) [.t 16]⟩,
  (o4 18 14 (.un .not (.t 17))),o1 19 (.pick (.t 14) (.c (.b true)) (.t 18))]
abbrev MG:List AO:=
 [o1 2 (.mv (.c (.b false)))]
abbrev MF:List AO:=
 [o1 3 (.mv (ci 0))]
abbrev ME:List AO:=
 [(mt 20 3),o1 21 (.fa 0 (.t 1)),o1 22 (.ld 1 false (.t 21)),o1 23 (.len (.t 22)),o1 24 (.bin .lss (.t 20) (.t 23))]
abbrev MC:List AO:=
 [o1 27 (.fa 0 (.t 1)),o1 28 (.ld 1 false (.t 27)),
  (mt 29 3),o1 30 (.ia 2 (.t 28) (.t 29)),o1 31 (.fa 1 (.t 30)),o1 32 (.ld 1 false (.t 31)),o1 33 (.bin .gtr (.t 32) (ci 300)),
  (mt 34 33),
  (o5 35 34 (.fa 0 (.t 1))),
  (o5 36 34 (.ld 1 false (.t 35))),
  (o5 37 34 (.mv (.t 3))),
  (o5 38 34 (.ia 2 (.t 36) (.t 37))),
  (o5 39 34 (.fa 1 (.t 38))),
  (o5 40 34 (.ld 1 false (.t 39))),
  (o5 41 34 (.bin .leq (.t 40) (ci 65536))),o1 42 (.pick (.t 34) (.t 41) (.c (.b false)))]
abbrev MB:List AO:=
 [o1 2 (.mv (.c (.b false)))]
abbrev ML:AC:=
 (.seq (.reg MC) (.cond (.t 42) (.seq (.reg MB) .ret) .skip))
abbrev MA:List AO:=
 [(mt 25 3),o1 26 (.bin .add (.t 25) (ci 1)),
  (mt 3 26)]
abbrev MM:AC:=
 (.seq (.seq (.reg ME) (.cond (.t 24) .skip (.exit 0))) (.seq (.block 1 ML) (.reg MA)))
abbrev DJ:AC:=
 (.loop MM)
abbrev DI:List AO:=
 [o1 2 (.mv (.c (.b true)))]
abbrev XU:AF:=⟨43,(.seq (.reg MI) (.seq (.seq (.reg MH) (.cond (.t 19) (.seq (.reg MG) .ret) .skip)) (.seq (.seq (.reg MF) (.block 0 DJ)) (.seq (.reg DI) .ret)))),[.mv (.t 2)]⟩
theorem MJ:aF Tryz.prog (af Tryz.prog 8) 8=some XU:=by kernel_rfl
/-! compactorref21.Memory-/
/-! compactorref21.Add-/
/-! compactorref21.Fits-/
/-! compactorlaw21.few-/
/-! compactorref21.Steps-/
/-! cost.Emits-/
abbrev My:List AO:=
 [o1 2 (.bx 25 0 (.t 0)),o1 3 (.bx 38 0 (.t 1)),o1 4 (.mv (ci 0)),o1 5 (.mv (ci 0))]
abbrev Mx:List AO:=
 [o1 10 (.ld 3 true (.t 2)),o1 11 (.ld 4 true (.t 3)),
  (o2 12 34 [.t 10,.t 11]),
  (mt 9 12),o1 13 (.ext 0 (.t 9)),o1 14 (.ext 1 (.t 9)),o1 15 (.ext 2 (.t 9)),o1 6 (.al 88 [.sl0,.cv (.map none)]),
  (o3 (.st 2 (.t 6) (.t 13))),
  (mt 7 14),
  (mt 8 15)]
abbrev Mw:List AO:=
 [(mt 16 8),o1 17 (.bin .neq (.t 16) (ci 0))]
abbrev Mv:List AO:=
 [(mt 18 8),o1 4 (.mv (ci 0)),
  (mt 5 18)]
abbrev Mu:List AO:=
 [o1 19 (.ld 2 true (.t 6)),
  (mt 20 7),o1 21 (.ld 2 true (.t 6)),o1 22 (.mf 37 [.t 21] []),
  (o2 23 35 [.t 19,.t 20,.t 22,(ci 0)]),
  (o2 24 23 [.t 23]),o1 25 (.ext 0 (.t 24)),o1 26 (.ext 1 (.t 24)),
  (mt 4 25),
  (mt 5 26)]
abbrev XT:AF:=⟨27,(.seq (.reg My) (.seq (.reg Mx) (.seq (.seq (.reg Mw) (.cond (.t 17) (.seq (.reg Mv) .ret) .skip)) (.seq (.reg Mu) .ret)))),[.mv (.t 4),.mv (.t 5)]⟩
theorem Mz:aF Tryz.prog (af Tryz.prog 14) 14=some XT:=by kernel_rfl
/-! compactorref21.Emits-/
/-! compactorref15.Shallow-/
abbrev Mn:List AO:=
 [o1 2 (.mv (.c (.b false)))]
abbrev Mm:List AO:=
 [o1 3 (.mv (.c .sl0))]
abbrev Ml:List AO:=
 [o1 4 (.mv (ci 0))]
abbrev Mj:List AO:=
 [o1 5 (.mv (ci 0))]
abbrev Mi:List AO:=
 [(mt 7 5),
  (mt 8 0),o1 9 (.len (.t 8)),o1 10 (.bin .lss (.t 7) (.t 9)),
  (mt 11 10),
  (o5 12 11 (.mv (.t 4))),
  (o5 13 11 (.bin .leq (.t 12) (ci 3))),o1 14 (.pick (.t 11) (.t 13) (.c (.b false)))]
abbrev Mh:List AO:=
 [(mt 17 0),
  (mt 18 5),o1 19 (.ia 2 (.t 17) (.t 18)),o1 20 (.fa 0 (.t 19)),o1 21 (.ld 1 false (.t 20))]
abbrev Mg:List AO:=
 [o1 23 (.bin .eql (.t 21) (ci 29)),
  (mt 22 23)]
abbrev Mf:List AO:=
 [(mt 24 3),o1 25 (.bs 4 1 1 [.b false] [(0,1,(.c (.b true)))]),o1 26 (.app 4 1 1 (.t 24) (.t 25)),
  (mt 27 4),o1 28 (.bin .add (.t 27) (ci 1)),
  (mt 3 26),
  (mt 4 28)]
abbrev Me:List AO:=
 [o1 30 (.bin .eql (.t 21) (ci 27)),
  (mt 29 30)]
abbrev Md:List AO:=
 [(mt 31 3),o1 32 (.bs 4 1 1 [.b false] [(0,1,(.c (.b false)))]),o1 33 (.app 4 1 1 (.t 31) (.t 32)),
  (mt 3 33)]
abbrev DD:List AO:=
 [o1 35 (.bin .eql (.t 21) (ci 31)),
  (mt 34 35)]
abbrev DC:List AO:=
 [(mt 36 3),o1 37 (.len (.t 36)),o1 38 (.bin .sub (.t 37) (ci 1)),
  (mt 6 38)]
abbrev DB:List AO:=
 [(mt 39 6),o1 40 (.bin .geq (.t 39) (ci 0))]
abbrev DA:List AO:=
 [(mt 41 3),
  (mt 42 6),o1 43 (.ia 1 (.t 41) (.t 42)),o1 44 (.ld 1 false (.t 43))]
abbrev Dz:List AO:=
 [(mt 45 4),o1 46 (.bin .sub (.t 45) (ci 1)),
  (mt 4 46)]
abbrev Dy:List AO:=
 [(mt 47 3),
  (mt 48 6),o1 49 (.sl 1 (.t 47) none (some (.t 48))),
  (mt 3 49)]
abbrev DG:AC:=
 (.seq (.reg Mg) (.cond (.t 22) (.reg Mf) (.seq (.reg Me) (.cond (.t 29) (.reg Md) (.seq (.reg DD) (.cond (.t 34) (.seq (.reg DC) (.seq (.reg DB) (.cond (.t 40) (.seq (.seq (.reg DA) (.cond (.t 44) (.reg Dz) .skip)) (.reg Dy)) .skip))) .skip))))))
abbrev DF:AC:=
 (.seq (.reg Mh) (.block 2 DG))
abbrev Dx:List AO:=
 [(mt 15 5),o1 16 (.bin .add (.t 15) (ci 1)),
  (mt 5 16)]
abbrev DH:AC:=
 (.seq (.seq (.reg Mi) (.cond (.t 14) .skip (.exit 0))) (.seq (.block 1 DF) (.reg Dx)))
abbrev DE:AC:=
 (.loop DH)
abbrev Dw:List AO:=
 [(mt 50 4),o1 51 (.bin .leq (.t 50) (ci 3)),
  (mt 2 51)]
abbrev XH:AF:=⟨52,(.seq (.reg Mn) (.seq (.reg Mm) (.seq (.reg Ml) (.seq (.seq (.reg Mj) (.block 0 DE)) (.seq (.reg Dw) .ret))))),[.mv (.t 2)]⟩
theorem Mo:aF Tryz.prog (af Tryz.prog 19) 19=some XH:=by kernel_rfl
/-! compactorref15.Form-/
/-! compactorref21.sum-/
/-! compactorref21.formed-/
/-! compactorref20.Few-/
/-! compactorref21.check-/
/-! compactorref21.bounded-/
/-! compactorref21.steps-/
/-! cost.bounds.emits-/
abbrev L9:List AO:=
 [o1 3 (.bx 88 0 (.t 0)),o1 6 (.mv (ci 0))]
abbrev L8:List AO:=
 [o1 7 (.mv (ci 0))]
abbrev L7:List AO:=
 [o1 10 (.fa 0 (.t 3)),o1 11 (.ld 1 false (.t 10)),
  (mt 12 1),
  (mt 13 2),o1 14 (.sl 2 (.t 11) (some (.t 12)) (some (.t 13))),o1 15 (.len (.t 14)),o1 16 (.mv (ci 0))]
abbrev L6:List AO:=
 [o1 17 (.bin .lss (.t 16) (.t 15))]
abbrev L5:List AO:=
 [o1 18 (.ia 2 (.t 14) (.t 16)),o1 19 (.ld 2 true (.t 18)),o1 9 (.al 54 [.n .i64 0,.n .u32 0]),
  (o3 (.st 2 (.t 9) (.t 19)))]
abbrev L4:List AO:=
 [o1 20 (.fa 0 (.t 9)),o1 21 (.ld 1 false (.t 20)),o1 22 (.bin .eql (.t 21) (ci 34))]
abbrev L3:List AO:=
 [(mt 23 7),o1 24 (.bin .add (.t 23) (ci 1)),
  (mt 7 24)]
abbrev Mb:AC:=
 (.seq (.reg L5) (.seq (.reg L4) (.cond (.t 22) (.reg L3) .skip)))
abbrev L1:List AO:=
 [o1 25 (.bin .add (.t 16) (ci 1)),
  (mt 16 25)]
abbrev Mc:AC:=
 (.seq (.reg L6) (.seq (.cond (.t 17) .skip (.exit 0)) (.seq (.block 1 Mb) (.reg L1))))
abbrev Dv:AC:=
 (.loop Mc)
abbrev Du:List AO:=
 [(mt 26 7),
  (mt 6 26)]
abbrev XG:AF:=⟨27,(.seq (.reg L9) (.seq (.reg L8) (.seq (.seq (.reg L7) (.block 0 Dv)) (.seq (.reg Du) .ret)))),[.mv (.t 6)]⟩
theorem Ma:aF Tryz.prog (af Tryz.prog 37) 37=some XG:=by kernel_rfl
/-! compactorref21.emits-/
/-! compactorref15.Check-/
/-! compactorref20.Check-/
/-! compactorref18.Loops-/
/-! compactorref18.Parse-/
/-! compactorref21.few-/
/-! compactorref21.times-/
/-! compactorref21.most-/
/-! verifier.widening$1-/
abbrev LZ:List AO:=
 [o1 6 (.mv (.c .sl0)),o1 7 (.mv (ci 0))]
abbrev LY:List AO:=
 [(mt 8 2),
  (mt 9 1),
  (mt 6 8),
  (mt 7 9)]
abbrev XF:AF:=⟨10,(.seq (.reg LZ) (.seq (.reg LY) .ret)),[.mv (.t 6),.mv (.t 7)]⟩
theorem L0:aF Tryz.prog (af Tryz.prog 57) 57=some XF:=by kernel_rfl
/-! compactorref18.partners-/
/-! compactorref18.tree-/
/-! instruction.operations$1-/
abbrev LU:List AO:=
 [o1 2 (.al 146 [.s ⟨#[]⟩,.s ⟨#[]⟩,.s ⟨#[]⟩,.n .u64 0,.b false])]
abbrev LS:List AO:=
 [(mt 3 0),o1 4 (.bd [.s ⟨#[]⟩,.s ⟨#[]⟩,.s ⟨#[]⟩,.n .u64 0,.b false] [(0,1,(.t 3)),(1,1,(.c (.s ⟨#[110,110]⟩))),(2,1,(.c (.s ⟨#[110]⟩))),(3,1,(.c (.n .u64 1))),(4,1,(.c (.b false)))]),
  (o3 (.st 5 (.t 2) (.t 4)))]
abbrev LX:AF:=⟨5,(.seq (.reg LU) (.seq (.reg LS) .ret)),[.ld 5 true (.t 2)]⟩
theorem LW:aF Tryz.prog (af Tryz.prog 131) 131=some LX:=by kernel_rfl
/-! instruction.operations$2-/
abbrev LO:List AO:=
 [o1 6 (.al 146 [.s ⟨#[]⟩,.s ⟨#[]⟩,.s ⟨#[]⟩,.n .u64 0,.b false])]
abbrev LN:List AO:=
 [(mt 7 0),
  (mt 8 1),
  (mt 9 2),o1 10 (.bd [.s ⟨#[]⟩,.s ⟨#[]⟩,.s ⟨#[]⟩,.n .u64 0,.b false] [(0,1,(.t 7)),(1,1,(.t 8)),(2,1,(.t 9)),(3,1,(.c (.n .u64 1))),(4,1,(.c (.b false)))]),
  (o3 (.st 5 (.t 6) (.t 10)))]
abbrev LQ:AF:=⟨11,(.seq (.reg LO) (.seq (.reg LN) .ret)),[.ld 5 true (.t 6)]⟩
theorem LP:aF Tryz.prog (af Tryz.prog 132) 132=some LQ:=by kernel_rfl
/-! compactorref18.innermost-/
/-! compactorref18.leaves-/
/-! interval.Within-/
abbrev LL:List AO:=
 [o1 2 (.bx 127 0 (.t 0)),o1 3 (.bx 127 0 (.t 1)),o1 4 (.mv (.c (.b false)))]
abbrev LK:List AO:=
 [o1 5 (.ld 2 true (.t 2)),o1 6 (.ld 2 true (.t 3)),
  (o2 7 92 [.t 5,.t 6]),
  (mt 8 7),
  (o5 9 8 (.fa 0 (.t 3))),
  (o5 10 8 (.ld 1 false (.t 9))),
  (o5 11 8 (.fa 0 (.t 2))),
  (o5 12 8 (.ld 1 false (.t 11))),
  (o5 13 8 (.bin .leq (.t 10) (.t 12))),o1 14 (.pick (.t 8) (.t 13) (.c (.b false))),
  (mt 15 14),
  (o5 16 15 (.fa 1 (.t 2))),
  (o5 17 15 (.ld 1 false (.t 16))),
  (o5 18 15 (.fa 1 (.t 3))),
  (o5 19 15 (.ld 1 false (.t 18))),
  (o5 20 15 (.bin .leq (.t 17) (.t 19))),o1 21 (.pick (.t 15) (.t 20) (.c (.b false))),
  (mt 4 21)]
abbrev XE:AF:=⟨22,(.seq (.reg LL) (.seq (.reg LK) .ret)),[.mv (.t 4)]⟩
theorem LM:aF Tryz.prog (af Tryz.prog 172) 172=some XE:=by kernel_rfl
/-! interval.operands.add-/
abbrev LI:List AO:=
 [o1 1 (.bx 262 0 (.t 0)),o1 2 (.al 127 [.n .i64 0,.n .i64 0])]
abbrev LH:List AO:=
 [o1 3 (.fa 0 (.t 1)),o1 4 (.ld 1 false (.t 3)),o1 5 (.fa 2 (.t 1)),o1 6 (.ld 1 false (.t 5)),o1 7 (.bin .add (.t 4) (.t 6)),o1 8 (.fa 1 (.t 1)),o1 9 (.ld 1 false (.t 8)),o1 10 (.fa 3 (.t 1)),o1 11 (.ld 1 false (.t 10)),o1 12 (.bin .add (.t 9) (.t 11)),
  (o2 13 227 [.t 7,.t 12]),
  (o3 (.st 2 (.t 2) (.t 13)))]
abbrev XD:AF:=⟨14,(.seq (.reg LI) (.seq (.reg LH) .ret)),[.ld 2 true (.t 2)]⟩
theorem LJ:aF Tryz.prog (af Tryz.prog 187) 187=some XD:=by kernel_rfl
/-! interval.operands.sub-/
abbrev LF:List AO:=
 [o1 1 (.bx 262 0 (.t 0)),o1 2 (.al 127 [.n .i64 0,.n .i64 0])]
abbrev LD:List AO:=
 [o1 3 (.fa 0 (.t 1)),o1 4 (.ld 1 false (.t 3)),o1 5 (.fa 3 (.t 1)),o1 6 (.ld 1 false (.t 5)),o1 7 (.bin .sub (.t 4) (.t 6)),o1 8 (.fa 1 (.t 1)),o1 9 (.ld 1 false (.t 8)),o1 10 (.fa 2 (.t 1)),o1 11 (.ld 1 false (.t 10)),o1 12 (.bin .sub (.t 9) (.t 11)),
  (o2 13 227 [.t 7,.t 12]),
  (o3 (.st 2 (.t 2) (.t 13)))]
abbrev XC:AF:=⟨14,(.seq (.reg LF) (.seq (.reg LD) .ret)),[.ld 2 true (.t 2)]⟩
theorem LG:aF Tryz.prog (af Tryz.prog 188) 188=some XC:=by kernel_rfl
/-! interval.operands.mul-/
abbrev LA:List AO:=
 [o1 1 (.bx 262 0 (.t 0)),o1 2 (.al 127 [.n .i64 0,.n .i64 0])]
abbrev LC:List (Nat×AO):=
 [(2,(o1 3 (.fa 3 (.t 1)))),(1,(o1 4 (.ld 1 false (.t 3)))),(2,(o1 5 (.bin .gtr (.t 4) (ci 0)))),
  (2,(mt 6 5)),
  (2,(o5 7 6 (.fa 1 (.t 1)))),
  (2,(o5 9 6 (.fa 3 (.t 1)))),
  (1,(o5 8 6 (.ld 1 false (.t 7)))),
  (1,(o5 10 6 (.ld 1 false (.t 9)))),
  (2,(o5 11 6 (.bin .quo (ci 4294967295) (.t 10)))),
  (2,(o5 12 6 (.bin .gtr (.t 8) (.t 11)))),(2,(o1 13 (.pick (.t 6) (.t 12) (.c (.b false)))))]
abbrev Lz:List AO:=
 [(o2 14 63 []),
  (o3 (.st 2 (.t 2) (.t 14)))]
abbrev Ly:List AO:=
 [o1 15 (.fa 0 (.t 1)),o1 16 (.ld 1 false (.t 15)),o1 17 (.fa 2 (.t 1)),o1 18 (.ld 1 false (.t 17)),o1 19 (.bin .mul (.t 16) (.t 18)),o1 20 (.fa 1 (.t 1)),o1 21 (.ld 1 false (.t 20)),o1 22 (.fa 3 (.t 1)),o1 23 (.ld 1 false (.t 22)),o1 24 (.bin .mul (.t 21) (.t 23)),o1 25 (.bd [.n .i64 0,.n .i64 0] [(0,1,(.t 19)),(1,1,(.t 24))]),
  (o3 (.st 2 (.t 2) (.t 25)))]
abbrev XB:AF:=⟨26,(.seq (.reg LA) (.seq (.seq (.mix LC) (.cond (.t 13) (.seq (.reg Lz) .ret) .skip)) (.seq (.reg Ly) .ret))),[.ld 2 true (.t 2)]⟩
theorem LB:aF Tryz.prog (af Tryz.prog 189) 189=some XB:=by kernel_rfl
/-! interval.operands.div-/
abbrev Lv:List AO:=
 [o1 1 (.bx 262 0 (.t 0)),o1 2 (.al 127 [.n .i64 0,.n .i64 0])]
abbrev Lx:List (Nat×AO):=
 [(2,(o1 3 (.fa 0 (.t 1)))),(2,(o1 5 (.fa 3 (.t 1)))),(2,(o1 8 (.fa 1 (.t 1)))),(2,(o1 10 (.fa 2 (.t 1)))),(1,(o1 4 (.ld 1 false (.t 3)))),(1,(o1 6 (.ld 1 false (.t 5)))),(2,(o1 7 (.bin .quo (.t 4) (.t 6)))),(1,(o1 9 (.ld 1 false (.t 8)))),(1,(o1 11 (.ld 1 false (.t 10)))),(2,(o1 12 (.bin .quo (.t 9) (.t 11)))),(2,(o1 13 (.bd [.n .i64 0,.n .i64 0] [(0,1,(.t 7)),(1,1,(.t 12))]))),
  (3,(o3 (.st 2 (.t 2) (.t 13))))]
abbrev XA:AF:=⟨14,(.seq (.reg Lv) (.seq (.mix Lx) .ret)),[.ld 2 true (.t 2)]⟩
theorem Lw:aF Tryz.prog (af Tryz.prog 190) 190=some XA:=by kernel_rfl
/-! interval.operands.mod-/
abbrev Ls:List AO:=
 [o1 1 (.bx 262 0 (.t 0)),o1 2 (.al 127 [.n .i64 0,.n .i64 0])]
abbrev Lr:List AO:=
 [o1 3 (.fa 1 (.t 1)),o1 4 (.ld 1 false (.t 3)),o1 5 (.fa 2 (.t 1)),o1 6 (.ld 1 false (.t 5)),o1 7 (.bin .lss (.t 4) (.t 6))]
abbrev Lq:List AO:=
 [o1 8 (.fa 0 (.t 1)),o1 9 (.ld 1 false (.t 8)),o1 10 (.fa 1 (.t 1)),o1 11 (.ld 1 false (.t 10)),o1 12 (.bd [.n .i64 0,.n .i64 0] [(0,1,(.t 9)),(1,1,(.t 11))]),
  (o3 (.st 2 (.t 2) (.t 12)))]
abbrev Lp:List AO:=
 [o1 13 (.fa 1 (.t 1)),o1 14 (.ld 1 false (.t 13)),o1 15 (.fa 3 (.t 1)),o1 16 (.ld 1 false (.t 15)),o1 17 (.bin .sub (.t 16) (ci 1)),⟨some 18,none,.mo (.mi (.t 14) (.t 17))⟩,o1 19 (.bd [.n .i64 0,.n .i64 0] [(1,1,(.t 18))]),
  (o3 (.st 2 (.t 2) (.t 19)))]
abbrev Xq:AF:=⟨20,(.seq (.reg Ls) (.seq (.seq (.reg Lr) (.cond (.t 7) (.seq (.reg Lq) .ret) .skip)) (.seq (.reg Lp) .ret))),[.ld 2 true (.t 2)]⟩
theorem Lu:aF Tryz.prog (af Tryz.prog 191) 191=some Xq:=by kernel_rfl
/-! interval.operands.and-/
abbrev Ln:List AO:=
 [o1 1 (.bx 262 0 (.t 0)),o1 2 (.al 127 [.n .i64 0,.n .i64 0])]
abbrev Lm:List AO:=
 [o1 3 (.fa 1 (.t 1)),o1 4 (.ld 1 false (.t 3)),o1 5 (.fa 3 (.t 1)),o1 6 (.ld 1 false (.t 5)),⟨some 7,none,.mo (.mi (.t 4) (.t 6))⟩,o1 8 (.bd [.n .i64 0,.n .i64 0] [(1,1,(.t 7))]),
  (o3 (.st 2 (.t 2) (.t 8)))]
abbrev Xp:AF:=⟨9,(.seq (.reg Ln) (.seq (.reg Lm) .ret)),[.ld 2 true (.t 2)]⟩
theorem Lo:aF Tryz.prog (af Tryz.prog 192) 192=some Xp:=by kernel_rfl
/-! interval.operands.or-/
abbrev Lj:List AO:=
 [o1 1 (.bx 262 0 (.t 0)),o1 2 (.al 127 [.n .i64 0,.n .i64 0])]
abbrev Ll:List (Nat×AO):=
 [(2,(o1 3 (.fa 0 (.t 1)))),(1,(o1 4 (.ld 1 false (.t 3)))),(2,(o1 5 (.fa 2 (.t 1)))),(1,(o1 6 (.ld 1 false (.t 5)))),(2,(o1 8 (.fa 1 (.t 1)))),(1,(o1 9 (.ld 1 false (.t 8)))),(2,(o1 10 (.fa 3 (.t 1)))),(1,(o1 11 (.ld 1 false (.t 10))))]
abbrev Li:AT:=
 (.alt ⟨some 7,none,.mo (.mx (.t 4) (.t 6))⟩ (.alt ⟨some 12,none,.mo (.mx (.t 9) (.t 11))⟩ (.alt (o2 13 228 [.t 12]) (.alt (o1 14 (.bd [.n .i64 0,.n .i64 0] [(0,1,(.t 7)),(1,1,(.t 13))])) (.alt (o3 (.st 2 (.t 2) (.t 14))) .fin .none) .none) .none) .none) (.alt ⟨some 12,none,.mo (.mx (.t 9) (.t 11))⟩ (.alt ⟨some 7,none,.mo (.mx (.t 4) (.t 6))⟩ (.alt (o2 13 228 [.t 12]) (.alt (o1 14 (.bd [.n .i64 0,.n .i64 0] [(0,1,(.t 7)),(1,1,(.t 13))])) (.alt (o3 (.st 2 (.t 2) (.t 14))) .fin .none) .none) .none) (.alt (o2 13 228 [.t 12]) (.alt ⟨some 7,none,.mo (.mx (.t 4) (.t 6))⟩ (.alt (o1 14 (.bd [.n .i64 0,.n .i64 0] [(0,1,(.t 7)),(1,1,(.t 13))])) (.alt (o3 (.st 2 (.t 2) (.t 14))) .fin .none) .none) .none) .none)) .none))
abbrev Xo:AF:=⟨15,(.seq (.reg Lj) (.seq (.frk Ll Li) .ret)),[.ld 2 true (.t 2)]⟩
theorem Lk:aF Tryz.prog (af Tryz.prog 193) 193=some Xo:=by kernel_rfl
/-! interval.operands.xor-/
abbrev Lg:List AO:=
 [o1 1 (.bx 262 0 (.t 0)),o1 2 (.al 127 [.n .i64 0,.n .i64 0])]
abbrev Lf:List AO:=
 [o1 3 (.fa 1 (.t 1)),o1 4 (.ld 1 false (.t 3)),o1 5 (.fa 3 (.t 1)),o1 6 (.ld 1 false (.t 5)),⟨some 7,none,.mo (.mx (.t 4) (.t 6))⟩,
  (o2 8 228 [.t 7]),o1 9 (.bd [.n .i64 0,.n .i64 0] [(1,1,(.t 8))]),
  (o3 (.st 2 (.t 2) (.t 9)))]
abbrev Xn:AF:=⟨10,(.seq (.reg Lg) (.seq (.reg Lf) .ret)),[.ld 2 true (.t 2)]⟩
theorem Lh:aF Tryz.prog (af Tryz.prog 194) 194=some Xn:=by kernel_rfl
/-! interval.operands.shl-/
abbrev La:List AO:=
 [o1 1 (.bx 262 0 (.t 0)),o1 2 (.al 127 [.n .i64 0,.n .i64 0])]
abbrev K9:List AO:=
 [o1 4 (.fa 2 (.t 1)),o1 5 (.ld 1 false (.t 4)),o1 6 (.bin .rem (.t 5) (ci 32)),
  (mt 3 6)]
abbrev Ld:List (Nat×AO):=
 [(2,(o1 7 (.fa 2 (.t 1)))),(2,(o1 9 (.fa 3 (.t 1)))),(1,(o1 8 (.ld 1 false (.t 7)))),(1,(o1 10 (.ld 1 false (.t 9)))),(2,(o1 11 (.bin .neq (.t 8) (.t 10)))),
  (2,(mt 12 11)),
  (2,(o4 13 12 (.fa 1 (.t 1)))),
  (2,(o4 15 12 (.mv (.t 3)))),
  (2,(o4 16 12 (.bin .shr (ci 4294967295) (.t 15)))),
  (1,(o4 14 12 (.ld 1 false (.t 13)))),
  (2,(o4 17 12 (.bin .gtr (.t 14) (.t 16)))),(2,(o1 18 (.pick (.t 12) (.c (.b true)) (.t 17))))]
abbrev K8:List AO:=
 [(o2 19 63 []),
  (o3 (.st 2 (.t 2) (.t 19)))]
abbrev Lc:List (Nat×AO):=
 [(2,(o1 20 (.fa 0 (.t 1)))),
  (2,(mt 22 3)),(2,(o1 24 (.fa 1 (.t 1)))),
  (2,(mt 26 3)),(1,(o1 21 (.ld 1 false (.t 20)))),(2,(o1 23 (.bin .shl (.t 21) (.t 22)))),(1,(o1 25 (.ld 1 false (.t 24)))),(2,(o1 27 (.bin .shl (.t 25) (.t 26)))),(2,(o1 28 (.bd [.n .i64 0,.n .i64 0] [(0,1,(.t 23)),(1,1,(.t 27))]))),
  (3,(o3 (.st 2 (.t 2) (.t 28))))]
abbrev Xm:AF:=⟨29,(.seq (.reg La) (.seq (.reg K9) (.seq (.seq (.mix Ld) (.cond (.t 18) (.seq (.reg K8) .ret) .skip)) (.seq (.mix Lc) .ret)))),[.ld 2 true (.t 2)]⟩
theorem Lb:aF Tryz.prog (af Tryz.prog 195) 195=some Xm:=by kernel_rfl
/-! interval.operands.shr-/
abbrev K3:List AO:=
 [o1 1 (.bx 262 0 (.t 0)),o1 2 (.al 127 [.n .i64 0,.n .i64 0])]
abbrev K2:List AO:=
 [o1 4 (.fa 3 (.t 1)),o1 5 (.ld 1 false (.t 4)),o1 6 (.bin .leq (.t 5) (ci 31)),
  (mt 3 6)]
abbrev K6:List (Nat×AO):=
 [(2,(o1 7 (.fa 0 (.t 1)))),(2,(o1 9 (.fa 3 (.t 1)))),(2,(o1 12 (.fa 1 (.t 1)))),(2,(o1 14 (.fa 2 (.t 1)))),(1,(o1 8 (.ld 1 false (.t 7)))),(1,(o1 10 (.ld 1 false (.t 9)))),(2,(o1 11 (.bin .shr (.t 8) (.t 10)))),(1,(o1 13 (.ld 1 false (.t 12)))),(1,(o1 15 (.ld 1 false (.t 14)))),(2,(o1 16 (.bin .shr (.t 13) (.t 15)))),(2,(o1 17 (.bd [.n .i64 0,.n .i64 0] [(0,1,(.t 11)),(1,1,(.t 16))]))),
  (3,(o3 (.st 2 (.t 2) (.t 17))))]
abbrev K1:List AO:=
 [o1 19 (.fa 2 (.t 1)),o1 20 (.ld 1 false (.t 19)),o1 21 (.fa 3 (.t 1)),o1 22 (.ld 1 false (.t 21)),o1 23 (.bin .eql (.t 20) (.t 22)),
  (mt 18 23)]
abbrev K5:List (Nat×AO):=
 [(2,(o1 24 (.fa 0 (.t 1)))),(2,(o1 26 (.fa 2 (.t 1)))),(2,(o1 30 (.fa 1 (.t 1)))),(2,(o1 32 (.fa 2 (.t 1)))),(1,(o1 25 (.ld 1 false (.t 24)))),(1,(o1 27 (.ld 1 false (.t 26)))),(2,(o1 28 (.bin .rem (.t 27) (ci 32)))),(2,(o1 29 (.bin .shr (.t 25) (.t 28)))),(1,(o1 31 (.ld 1 false (.t 30)))),(1,(o1 33 (.ld 1 false (.t 32)))),(2,(o1 34 (.bin .rem (.t 33) (ci 32)))),(2,(o1 35 (.bin .shr (.t 31) (.t 34)))),(2,(o1 36 (.bd [.n .i64 0,.n .i64 0] [(0,1,(.t 29)),(1,1,(.t 35))]))),
  (3,(o3 (.st 2 (.t 2) (.t 36))))]
abbrev K7:AC:=
 (.seq (.reg K2) (.cond (.t 3) (.seq (.mix K6) .ret) (.seq (.reg K1) (.cond (.t 18) (.seq (.mix K5) .ret) .skip))))
abbrev K0:List AO:=
 [o1 37 (.fa 1 (.t 1)),o1 38 (.ld 1 false (.t 37)),o1 39 (.bd [.n .i64 0,.n .i64 0] [(1,1,(.t 38))]),
  (o3 (.st 2 (.t 2) (.t 39)))]
abbrev Xl:AF:=⟨40,(.seq (.reg K3) (.seq (.block 0 K7) (.seq (.reg K0) .ret))),[.ld 2 true (.t 2)]⟩
theorem K4:aF Tryz.prog (af Tryz.prog 196) 196=some Xl:=by kernel_rfl
/-! interval.operands.least-/
abbrev KY:List AO:=
 [o1 1 (.bx 262 0 (.t 0)),o1 2 (.al 127 [.n .i64 0,.n .i64 0])]
abbrev KX:List AO:=
 [o1 3 (.fa 0 (.t 1)),o1 4 (.ld 1 false (.t 3)),o1 5 (.fa 2 (.t 1)),o1 6 (.ld 1 false (.t 5)),⟨some 7,none,.mo (.mi (.t 4) (.t 6))⟩,o1 8 (.fa 1 (.t 1)),o1 9 (.ld 1 false (.t 8)),o1 10 (.fa 3 (.t 1)),o1 11 (.ld 1 false (.t 10)),⟨some 12,none,.mo (.mi (.t 9) (.t 11))⟩,o1 13 (.bd [.n .i64 0,.n .i64 0] [(0,1,(.t 7)),(1,1,(.t 12))]),
  (o3 (.st 2 (.t 2) (.t 13)))]
abbrev Xk:AF:=⟨14,(.seq (.reg KY) (.seq (.reg KX) .ret)),[.ld 2 true (.t 2)]⟩
theorem KZ:aF Tryz.prog (af Tryz.prog 197) 197=some Xk:=by kernel_rfl
/-! interval.operands.greatest-/
abbrev KV:List AO:=
 [o1 1 (.bx 262 0 (.t 0)),o1 2 (.al 127 [.n .i64 0,.n .i64 0])]
abbrev KU:List AO:=
 [o1 3 (.fa 0 (.t 1)),o1 4 (.ld 1 false (.t 3)),o1 5 (.fa 2 (.t 1)),o1 6 (.ld 1 false (.t 5)),⟨some 7,none,.mo (.mx (.t 4) (.t 6))⟩,o1 8 (.fa 1 (.t 1)),o1 9 (.ld 1 false (.t 8)),o1 10 (.fa 3 (.t 1)),o1 11 (.ld 1 false (.t 10)),⟨some 12,none,.mo (.mx (.t 9) (.t 11))⟩,o1 13 (.bd [.n .i64 0,.n .i64 0] [(0,1,(.t 7)),(1,1,(.t 12))]),
  (o3 (.st 2 (.t 2) (.t 13)))]
abbrev Xj:AF:=⟨14,(.seq (.reg KV) (.seq (.reg KU) .ret)),[.ld 2 true (.t 2)]⟩
theorem KW:aF Tryz.prog (af Tryz.prog 198) 198=some Xj:=by kernel_rfl
/-! interval.operands.hash-/
abbrev KS:List AO:=
 [o1 1 (.bx 262 0 (.t 0)),o1 2 (.al 127 [.n .i64 0,.n .i64 0])]
abbrev KR:List AO:=
 [(o2 3 63 []),
  (o3 (.st 2 (.t 2) (.t 3)))]
abbrev Xi:AF:=⟨4,(.seq (.reg KS) (.seq (.reg KR) .ret)),[.ld 2 true (.t 2)]⟩
theorem KT:aF Tryz.prog (af Tryz.prog 199) 199=some Xi:=by kernel_rfl
/-! interval.shifted-/
abbrev KO:List AO:=
 [o1 4 (.al 127 [.n .i64 0,.n .i64 0])]
abbrev KN:List AO:=
 [(mt 6 0),o1 7 (.bin .geq (.t 6) (ci 0)),
  (mt 8 7),
  (o5 9 8 (.mv (.t 1))),
  (o5 10 8 (.bin .leq (.t 9) (ci 4294967295))),o1 11 (.pick (.t 8) (.t 10) (.c (.b false))),
  (mt 5 11)]
abbrev KM:List AO:=
 [(mt 12 0),
  (mt 13 1),o1 14 (.bd [.n .i64 0,.n .i64 0] [(0,1,(.t 12)),(1,1,(.t 13))]),
  (o3 (.st 2 (.t 4) (.t 14)))]
abbrev KL:List AO:=
 [(mt 16 0),o1 17 (.bin .gtr (.t 16) (ci 4294967295)),
  (mt 15 17)]
abbrev KK:List AO:=
 [(mt 18 0),o1 19 (.bin .sub (.t 18) (ci 4294967295)),o1 20 (.bin .sub (.t 19) (ci 1)),
  (mt 21 1),o1 22 (.bin .sub (.t 21) (ci 4294967295)),o1 23 (.bin .sub (.t 22) (ci 1)),o1 24 (.bd [.n .i64 0,.n .i64 0] [(0,1,(.t 20)),(1,1,(.t 23))]),
  (o3 (.st 2 (.t 4) (.t 24)))]
abbrev KJ:List AO:=
 [(mt 26 1),o1 27 (.bin .lss (.t 26) (ci 0)),
  (mt 25 27)]
abbrev KI:List AO:=
 [(mt 28 0),o1 29 (.bin .add (.t 28) (ci 4294967295)),o1 30 (.bin .add (.t 29) (ci 1)),
  (mt 31 1),o1 32 (.bin .add (.t 31) (ci 4294967295)),o1 33 (.bin .add (.t 32) (ci 1)),o1 34 (.bd [.n .i64 0,.n .i64 0] [(0,1,(.t 30)),(1,1,(.t 33))]),
  (o3 (.st 2 (.t 4) (.t 34)))]
abbrev KQ:AC:=
 (.seq (.reg KN) (.cond (.t 5) (.seq (.reg KM) .ret) (.seq (.reg KL) (.cond (.t 15) (.seq (.reg KK) .ret) (.seq (.reg KJ) (.cond (.t 25) (.seq (.reg KI) .ret) .skip))))))
abbrev KH:List AO:=
 [(o2 35 63 []),
  (o3 (.st 2 (.t 4) (.t 35)))]
abbrev Xh:AF:=⟨36,(.seq (.reg KO) (.seq (.block 0 KQ) (.seq (.reg KH) .ret))),[.ld 2 true (.t 4)]⟩
theorem KP:aF Tryz.prog (af Tryz.prog 227) 227=some Xh:=by kernel_rfl
/-! interval.ones-/
abbrev Ih:List AO:=
 [o1 2 (.mv (ci 0))]
abbrev Ig:List AO:=
 [(mt 3 0),o1 4 (.cvi .u64 (.t 3)),
  (o2 5 175 [.t 4]),o1 6 (.bin .shl (ci 1) (.t 5)),o1 7 (.bin .sub (.t 6) (ci 1)),
  (mt 2 7)]
abbrev VD:AF:=⟨8,(.seq (.reg Ih) (.seq (.reg Ig) .ret)),[.mv (.t 2)]⟩
theorem Ii:aF Tryz.prog (af Tryz.prog 228) 228=some VD:=by kernel_rfl
/-! instruction.combinations$1-/
abbrev Ic:List AO:=
 [o1 4 (.mv (.c (.n .u32 0)))]
abbrev Ib:List AO:=
 [(mt 5 0),
  (mt 6 1),o1 7 (.bin .add (.t 5) (.t 6)),
  (mt 4 7)]
abbrev VC:AF:=⟨8,(.seq (.reg Ic) (.seq (.reg Ib) .ret)),[.mv (.t 4)]⟩
theorem Ie:aF Tryz.prog (af Tryz.prog 202) 202=some VC:=by kernel_rfl
/-! instruction.combinations$2-/
abbrev H9:List AO:=
 [o1 4 (.mv (.c (.n .u32 0)))]
abbrev H8:List AO:=
 [(mt 5 0),
  (mt 6 1),o1 7 (.bin .sub (.t 5) (.t 6)),
  (mt 4 7)]
abbrev VB:AF:=⟨8,(.seq (.reg H9) (.seq (.reg H8) .ret)),[.mv (.t 4)]⟩
theorem Ia:aF Tryz.prog (af Tryz.prog 203) 203=some VB:=by kernel_rfl
/-! instruction.combinations$3-/
abbrev H6:List AO:=
 [o1 4 (.mv (.c (.n .u32 0)))]
abbrev H5:List AO:=
 [(mt 5 0),
  (mt 6 1),o1 7 (.bin .mul (.t 5) (.t 6)),
  (mt 4 7)]
abbrev VA:AF:=⟨8,(.seq (.reg H6) (.seq (.reg H5) .ret)),[.mv (.t 4)]⟩
theorem H7:aF Tryz.prog (af Tryz.prog 204) 204=some VA:=by kernel_rfl
/-! instruction.combinations$4-/
abbrev HY:List AO:=
 [o1 4 (.mv (.c (.n .u32 0)))]
abbrev HX:List AO:=
 [(mt 5 0),
  (mt 6 1),o1 7 (.bin .quo (.t 5) (.t 6)),
  (mt 4 7)]
abbrev Vz:AF:=⟨8,(.seq (.reg HY) (.seq (.reg HX) .ret)),[.mv (.t 4)]⟩
theorem HZ:aF Tryz.prog (af Tryz.prog 205) 205=some Vz:=by kernel_rfl
/-! instruction.combinations$5-/
abbrev HV:List AO:=
 [o1 4 (.mv (.c (.n .u32 0)))]
abbrev HT:List AO:=
 [(mt 5 0),
  (mt 6 1),o1 7 (.bin .rem (.t 5) (.t 6)),
  (mt 4 7)]
abbrev Vy:AF:=⟨8,(.seq (.reg HV) (.seq (.reg HT) .ret)),[.mv (.t 4)]⟩
theorem HW:aF Tryz.prog (af Tryz.prog 206) 206=some Vy:=by kernel_rfl
/-! instruction.combinations$6-/
abbrev HQ:List AO:=
 [o1 4 (.mv (.c (.n .u32 0)))]
abbrev HP:List AO:=
 [(mt 5 0),
  (mt 6 1),o1 7 (.bin .and (.t 5) (.t 6)),
  (mt 4 7)]
abbrev Vx:AF:=⟨8,(.seq (.reg HQ) (.seq (.reg HP) .ret)),[.mv (.t 4)]⟩
theorem HS:aF Tryz.prog (af Tryz.prog 207) 207=some Vx:=by kernel_rfl
/-! instruction.combinations$7-/
abbrev HN:List AO:=
 [o1 4 (.mv (.c (.n .u32 0)))]
abbrev HM:List AO:=
 [(mt 5 0),
  (mt 6 1),o1 7 (.bin .or (.t 5) (.t 6)),
  (mt 4 7)]
abbrev Vv:AF:=⟨8,(.seq (.reg HN) (.seq (.reg HM) .ret)),[.mv (.t 4)]⟩
theorem HO:aF Tryz.prog (af Tryz.prog 208) 208=some Vv:=by kernel_rfl
/-! instruction.combinations$8-/
abbrev HK:List AO:=
 [o1 4 (.mv (.c (.n .u32 0)))]
abbrev HJ:List AO:=
 [(mt 5 0),
  (mt 6 1),o1 7 (.bin .xor (.t 5) (.t 6)),
  (mt 4 7)]
abbrev Vu:AF:=⟨8,(.seq (.reg HK) (.seq (.reg HJ) .ret)),[.mv (.t 4)]⟩
theorem HL:aF Tryz.prog (af Tryz.prog 209) 209=some Vu:=by kernel_rfl
/-! instruction.combinations$9-/
abbrev HG:List AO:=
 [o1 4 (.mv (.c (.n .u32 0)))]
abbrev HE:List AO:=
 [(mt 5 0),
  (mt 6 1),o1 7 (.bin .rem (.t 6) (.c (.n .u32 32))),o1 8 (.bin .shl (.t 5) (.t 7)),
  (mt 4 8)]
abbrev Vt:AF:=⟨9,(.seq (.reg HG) (.seq (.reg HE) .ret)),[.mv (.t 4)]⟩
theorem HI:aF Tryz.prog (af Tryz.prog 210) 210=some Vt:=by kernel_rfl
/-! instruction.combinations$10-/
abbrev HB:List AO:=
 [o1 4 (.mv (.c (.n .u32 0)))]
abbrev HA:List AO:=
 [(mt 5 0),
  (mt 6 1),o1 7 (.bin .rem (.t 6) (.c (.n .u32 32))),o1 8 (.bin .shr (.t 5) (.t 7)),
  (mt 4 8)]
abbrev Vm:AF:=⟨9,(.seq (.reg HB) (.seq (.reg HA) .ret)),[.mv (.t 4)]⟩
theorem HD:aF Tryz.prog (af Tryz.prog 211) 211=some Vm:=by kernel_rfl
/-! instruction.combinations$11-/
abbrev Hy:List AO:=
 [o1 4 (.mv (.c (.n .u32 0)))]
abbrev Hx:List AO:=
 [(mt 5 0),
  (mt 6 1),⟨some 7,none,.mo (.mi (.t 5) (.t 6))⟩,
  (mt 4 7)]
abbrev Vk:AF:=⟨8,(.seq (.reg Hy) (.seq (.reg Hx) .ret)),[.mv (.t 4)]⟩
theorem Hz:aF Tryz.prog (af Tryz.prog 212) 212=some Vk:=by kernel_rfl
/-! instruction.combinations$12-/
abbrev Hv:List AO:=
 [o1 4 (.mv (.c (.n .u32 0)))]
abbrev Hu:List AO:=
 [(mt 5 0),
  (mt 6 1),⟨some 7,none,.mo (.mx (.t 5) (.t 6))⟩,
  (mt 4 7)]
abbrev Vj:AF:=⟨8,(.seq (.reg Hv) (.seq (.reg Hu) .ret)),[.mv (.t 4)]⟩
theorem Hw:aF Tryz.prog (af Tryz.prog 213) 213=some Vj:=by kernel_rfl
/-! instruction.hash-/
abbrev Hs:List AO:=
 [o1 4 (.mv (.c (.n .u32 0)))]
abbrev Hr:List AO:=
 [(mt 6 0),
  (mt 7 1),o1 8 (.bin .mul (.t 7) (.c (.n .u32 2654435761))),o1 9 (.bin .xor (.t 6) (.t 8)),o1 10 (.bin .mul (.t 9) (.c (.n .u32 2246822519))),
  (mt 5 10)]
abbrev Hq:List AO:=
 [(mt 11 5),
  (mt 12 5),o1 13 (.bin .shr (.t 12) (.c (.n .u64 16))),o1 14 (.bin .xor (.t 11) (.t 13)),
  (mt 4 14)]
abbrev Vi:AF:=⟨15,(.seq (.reg Hs) (.seq (.reg Hr) (.seq (.reg Hq) .ret))),[.mv (.t 4)]⟩
theorem Ht:aF Tryz.prog (af Tryz.prog 214) 214=some Vi:=by kernel_rfl
/-! instruction.combinations$13-/
/-! instruction.combinations$14-/
/-! instruction.combinations$15-/
/-! instruction.combinations$16-/
/-! instruction.combinations$17-/
/-! instruction.combinations$18-/
/-! compactorlaw21.CostLimits-/
/-! compactorlaw21.CostReports-/
/-! compactorlaw21.CostGrows-/
abbrev Ho:List AO:=
 [o1 3 (.bx 25 0 (.t 0)),o1 6 (.mv (.c (.b false)))]
abbrev Hn:List AO:=
 [o1 18 (.ld 3 true (.t 3)),
  (o2 19 8 [.t 18]),o1 20 (.un .not (.t 19)),
  (mt 21 20),
  (o4 22 21 (.mv (.t 1))),
  (o4 23 21 (.len (.t 22))),
  (o4 24 21 (.bin .gtr (.t 23) (ci 60))),o1 25 (.pick (.t 21) (.c (.b true)) (.t 24))]
abbrev Hm:List AO:=
 [(o2 26 9 []),
  (mt 6 26)]
abbrev Hl:List AO:=
 [o1 28 (.ld 3 true (.t 3)),
  (o2 29 12 [.t 28]),
  (mt 27 29),o1 30 (.ext 0 (.t 27)),o1 31 (.ext 1 (.t 27)),o1 32 (.ext 2 (.t 27)),o1 7 (.al 38 [.n .i64 0,.n .i64 0,.n .i64 0,.sl0]),
  (o3 (.st 4 (.t 7) (.t 30))),
  (mt 8 31),
  (mt 9 32)]
abbrev Hk:List AO:=
 [(mt 33 9),o1 34 (.bin .neq (.t 33) (ci 0))]
abbrev Hj:List AO:=
 [(o2 35 9 []),
  (mt 6 35)]
abbrev Hi:List AO:=
 [o1 36 (.ld 4 true (.t 7)),o1 10 (.al 38 [.n .i64 0,.n .i64 0,.n .i64 0,.sl0]),
  (o3 (.st 4 (.t 10) (.t 36)))]
abbrev Hh:List AO:=
 [o1 37 (.fa 3 (.t 7)),o1 38 (.ld 1 false (.t 37)),
  (o2 39 16 [.t 38]),o1 40 (.fa 3 (.t 10)),
  (o3 (.st 1 (.t 40) (.t 39)))]
abbrev Hg:List AO:=
 [o1 41 (.fa 3 (.t 10)),o1 42 (.ld 1 false (.t 41)),o1 43 (.len (.t 42)),o1 44 (.mv (ci 0))]
abbrev Hf:List AO:=
 [o1 45 (.bin .lss (.t 44) (.t 43))]
abbrev A7:List AO:=
 [(mt 46 44),
  (mt 11 46)]
abbrev A6:List AO:=
 [(mt 47 11),
  (mt 48 1),o1 49 (.len (.t 48)),o1 50 (.bin .lss (.t 47) (.t 49))]
abbrev A8:List (Nat×AO):=
 [(2,(o1 51 (.fa 3 (.t 10)))),
  (2,(mt 53 11)),(2,(o1 54 (.fa 3 (.t 10)))),
  (2,(mt 56 11)),
  (2,(mt 60 1)),
  (2,(mt 61 11)),(2,(o1 62 (.ia 1 (.t 60) (.t 61)))),(1,(o1 52 (.ld 1 false (.t 51)))),(1,(o1 55 (.ld 1 false (.t 54)))),(2,(o1 57 (.ia 3 (.t 55) (.t 56)))),(2,(o1 58 (.fa 1 (.t 57)))),(1,(o1 59 (.ld 1 false (.t 58)))),(1,(o1 63 (.ld 1 false (.t 62)))),(2,(o1 64 (.cvi .i64 (.t 63)))),(2,(o1 65 (.bin .add (.t 59) (.t 64)))),(0,⟨some 66,none,.mo (.mi (ci 65536) (.t 65))⟩),(2,(o1 67 (.ia 3 (.t 52) (.t 53)))),(2,(o1 68 (.fa 1 (.t 67)))),
  (3,(o3 (.st 1 (.t 68) (.t 66))))]
abbrev Ba:AC:=
 (.seq (.reg A7) (.seq (.reg A6) (.cond (.t 50) (.mix A8) .skip)))
abbrev A5:List AO:=
 [o1 69 (.bin .add (.t 44) (ci 1)),
  (mt 44 69)]
abbrev Bb:AC:=
 (.seq (.reg Hf) (.seq (.cond (.t 45) .skip (.exit 0)) (.seq (.block 1 Ba) (.reg A5))))
abbrev A9:AC:=
 (.loop Bb)
abbrev A4:List AO:=
 [o1 71 (.ld 3 true (.t 3)),o1 72 (.ld 4 true (.t 10)),
  (o2 73 13 [.t 71,.t 72]),
  (mt 70 73),o1 74 (.ext 0 (.t 70)),o1 75 (.ext 1 (.t 70)),
  (mt 12 74),
  (mt 13 75)]
abbrev A3:List AO:=
 [o1 77 (.ld 3 true (.t 3)),o1 78 (.ld 4 true (.t 10)),
  (o2 79 14 [.t 77,.t 78]),
  (mt 76 79),o1 80 (.ext 0 (.t 76)),o1 81 (.ext 1 (.t 76)),
  (mt 14 80),
  (mt 15 81)]
abbrev A2:List AO:=
 [(mt 82 13),o1 83 (.bin .neq (.t 82) (ci 0)),
  (mt 84 83),
  (o5 85 84 (.mv (.t 13))),
  (o5 86 84 (.bin .neq (.t 85) (ci 18))),o1 87 (.pick (.t 84) (.t 86) (.c (.b false))),
  (mt 88 87),
  (o4 89 88 (.mv (.t 13))),
  (o4 90 88 (.bin .eql (.t 89) (ci 0))),
  (o4 91 88 (.mv (.t 90))),
  (o5 92 91 (.mv (.t 12))),
  (o5 93 91 (.fa 0 (.t 7))),
  (o5 94 91 (.ld 1 false (.t 93))),
  (o5 95 91 (.bin .lss (.t 92) (.t 94))),
  (o4 96 88 (.pick (.t 91) (.t 95) (.c (.b false)))),o1 97 (.pick (.t 88) (.c (.b true)) (.t 96)),
  (mt 98 97),
  (o4 99 98 (.mv (.t 15))),
  (o4 100 98 (.bin .eql (.t 99) (ci 0))),
  (o4 101 98 (.mv (.t 100))),
  (o5 102 101 (.mv (.t 14))),
  (o5 103 101 (.fa 1 (.t 7))),
  (o5 104 101 (.ld 1 false (.t 103))),
  (o5 105 101 (.bin .lss (.t 102) (.t 104))),
  (o4 106 98 (.pick (.t 101) (.t 105) (.c (.b false)))),o1 107 (.pick (.t 98) (.c (.b true)) (.t 106)),
  (mt 108 107),
  (o4 109 108 (.mv (.t 13))),
  (o4 110 108 (.bin .eql (.t 109) (ci 0))),
  (o4 111 108 (.mv (.t 110))),
  (o5 112 111 (.mv (.t 15))),
  (o5 113 111 (.bin .neq (.t 112) (ci 0))),
  (o5 114 111 (.mv (.t 113))),
  (o4 115 114 (.mv (.t 14))),
  (o4 116 114 (.mv (.t 12))),
  (o4 117 114 (.bin .gtr (.t 115) (.t 116))),
  (o5 118 111 (.pick (.t 114) (.c (.b true)) (.t 117))),
  (o4 119 108 (.pick (.t 111) (.t 118) (.c (.b false)))),o1 120 (.pick (.t 108) (.c (.b true)) (.t 119))]
abbrev A1:List AO:=
 [o1 6 (.mv (.c (.b false)))]
abbrev A0:List AO:=
 [o1 122 (.ld 3 true (.t 3)),
  (mt 123 2),o1 124 (.cvi .i64 (.t 123)),
  (o2 125 10 [.t 122,.t 124]),
  (mt 121 125),o1 126 (.ext 0 (.t 121)),o1 127 (.ext 1 (.t 121)),o1 16 (.al 29 [.n .i64 0,.n .i64 0]),
  (o3 (.st 2 (.t 16) (.t 126))),
  (mt 17 127)]
abbrev AZ:List AO:=
 [(mt 128 17),o1 129 (.bin .neq (.t 128) (ci 0))]
abbrev AY:List AO:=
 [(mt 130 17),o1 131 (.bin .eql (.t 130) (ci 18)),
  (mt 132 131),⟨some 133,some (132,true),.cl (.c (.f 9 [] [])) []⟩,o1 134 (.pick (.t 132) (.t 133) (.c (.b false))),
  (mt 6 134)]
abbrev AW:List AO:=
 [o1 135 (.fa 1 (.t 16)),o1 136 (.ld 1 false (.t 135)),o1 137 (.fa 0 (.t 7)),o1 138 (.ld 1 false (.t 137)),
  (mt 139 2),o1 140 (.cvi .i64 (.t 139)),o1 141 (.bin .add (.t 140) (ci 1)),o1 142 (.bin .mul (.t 138) (.t 141)),o1 143 (.bin .eql (.t 136) (.t 142)),
  (mt 144 143),⟨some 145,some (144,true),.cl (.c (.f 9 [] [])) []⟩,o1 146 (.pick (.t 144) (.t 145) (.c (.b false))),
  (mt 6 146)]
abbrev Vh:AF:=⟨147,(.seq (.reg Ho) (.seq (.seq (.reg Hn) (.cond (.t 25) (.seq (.reg Hm) .ret) .skip)) (.seq (.reg Hl) (.seq (.seq (.reg Hk) (.cond (.t 34) (.seq (.reg Hj) .ret) .skip)) (.seq (.reg Hi) (.seq (.reg Hh) (.seq (.seq (.reg Hg) (.block 0 A9)) (.seq (.reg A4) (.seq (.reg A3) (.seq (.seq (.reg A2) (.cond (.t 120) (.seq (.reg A1) .ret) .skip)) (.seq (.reg A0) (.seq (.seq (.reg AZ) (.cond (.t 129) (.seq (.reg AY) .ret) .skip)) (.seq (.reg AW) .ret))))))))))))),[.mv (.t 6)]⟩
theorem Hp:aF Tryz.prog (af Tryz.prog 5) 5=some Vh:=by kernel_rfl
/-! compactorlaw21.CostAdds-/
/-! compactorlaw21.CostCovers-/
/-! compactorref21.Limit-/
/-! slices.Clone[[]api.Invariant,api.Invariant]-/
abbrev Hd:List AO:=
 [o1 2 (.mv (.c .sl0))]
abbrev Hb:List AO:=
 [(mt 3 0),⟨some 4,none,.sn false (.t 3)⟩]
abbrev G9:List AO:=
 [o1 2 (.mv (.c .sl0))]
abbrev G8:List AO:=
 [o1 5 (.bs 48 3 0 [] []),
  (mt 6 0),o1 7 (.app 48 3 40 (.t 5) (.t 6)),
  (mt 2 7)]
abbrev Vg:AF:=⟨8,(.seq (.reg Hd) (.seq (.seq (.reg Hb) (.cond (.t 4) (.seq (.reg G9) .ret) .skip)) (.seq (.reg G8) .ret))),[.mv (.t 2)]⟩
theorem He:aF Tryz.prog (af Tryz.prog 16) 16=some Vg:=by kernel_rfl
/-! slices.Clone[[]api.Instr,api.Instr]-/
end Go.Proofs.YtdpkgnmmikebdaaGreat