/- A part of the proof of OptimizerShares: AcA AcB AcD AcE AcF. No condition. -/
import Derived.Test.YtidhfimbnjaceaaGreatGh09
import Derived.Test.YtidhfimbnjaceaaGreatProg
set_option linter.unusedSimpArgs false
set_option linter.unusedVariables false
set_option linter.constructorNameAsVariable false
set_option maxRecDepth 100000
set_option maxHeartbeats 4000000
namespace Go.Proofs.YtidhfimbnjaceaaGreat
open Go.RowKit
/-! optimizer.numbers-/
abbrev PK:List AO:=
 [o1 4 (.mv (.c .sl0)),o1 5 (.mv (.c (.b false)))]
abbrev PJ:List AO:=
 [o1 6 (.mv (.c .sl0))]
abbrev PH:List AO:=
 [o1 10 (.mv (.t 1)),o1 11 (.len (.t 10)),o1 12 (.mv (.c (.n .i64 0)))]
abbrev PG:List AO:=
 [o1 13 (.bin .lss (.t 12) (.t 11))]
abbrev PF:List AO:=
 [o1 14 (.ia 1 (.t 10) (.t 12)),o1 15 (.ld 1 false (.t 14)),o1 8 (.al 3 [.n .i64 0]),⟨none,none,.ap (.st 1 (.t 8) (.t 15))⟩]
abbrev PE:List AO:=
 [o1 16 (.mv (.t 0)),o1 17 (.mf 112 [] [(.t 8)]),⟨some 18,none,.cl (.c (.f 111 [] [])) [(.t 16),(.t 17)]⟩,o1 9 (.mv (.t 18))]
abbrev PD:List AO:=
 [o1 19 (.mv (.t 9)),o1 20 (.bin .lss (.t 19) (.c (.n .i64 0)))]
abbrev PC:List AO:=
 [o1 4 (.mv (.c .sl0)),o1 5 (.mv (.c (.b false)))]
abbrev PB:List AO:=
 [o1 21 (.mv (.t 6)),o1 22 (.mv (.t 0)),o1 23 (.mv (.t 9)),o1 24 (.ia 2 (.t 22) (.t 23)),o1 25 (.fa 1 (.t 24)),o1 26 (.ld 1 false (.t 25)),o1 27 (.bs 35 1 1 [.n .u32 0] [(0,1,(.t 26))]),o1 28 (.app 35 1 4 (.t 21) (.t 27)),o1 6 (.mv (.t 28))]
abbrev PN:AC:=
 (.seq (.reg PF) (.seq (.reg PE) (.seq (.seq (.reg PD) (.cond (.t 20) (.seq (.reg PC) .ret) .skip)) (.reg PB))))
abbrev KZ:List AO:=
 [o1 29 (.bin .add (.t 12) (.c (.n .i64 1))),o1 12 (.mv (.t 29))]
abbrev K1:AC:=
 (.seq (.reg PG) (.seq (.cond (.t 13) .skip (.exit 0)) (.seq (.block 1 PN) (.reg KZ))))
abbrev K0:AC:=
 (.loop K1)
abbrev KY:List AO:=
 [o1 30 (.mv (.t 6)),o1 4 (.mv (.t 30)),o1 5 (.mv (.c (.b true)))]
abbrev x1F:AF:=⟨31,(.seq (.reg PK) (.seq (.reg PJ) (.seq (.seq (.reg PH) (.block 0 K0)) (.seq (.reg KY) .ret)))),[.mv (.t 4),.mv (.t 5)]⟩
theorem PL:bi Tryz.prog (aj Tryz.prog 91) 91=some x1F:=by kernel_rfl
/-! lower.Uses-/
abbrev Po:List AO:=
 [o1 1 (.bx 37 0 (.t 0)),o1 2 (.mv (.c .sl0)),o1 3 (.mv (.c (.n .i64 0)))]
abbrev Pn:List AO:=
 [o1 6 (.fa 0 (.t 1)),o1 7 (.ld 1 false (.t 6)),⟨some 8,none,.cl (.c (.f 110 [] [])) [(.t 7)]⟩,o1 4 (.al 128 [.b false,.b false,.b false,.b false]),⟨none,none,.ap (.st 4 (.t 4) (.t 8))⟩]
abbrev Pm:List AO:=
 [o1 5 (.mv (.c .sl0))]
abbrev Pk:List AO:=
 [o1 9 (.fa 2 (.t 4)),o1 10 (.ld 1 false (.t 9))]
abbrev Pj:List AO:=
 [o1 11 (.mv (.t 5)),o1 12 (.fa 2 (.t 1)),o1 13 (.ld 1 false (.t 12)),o1 14 (.bs 3 1 1 [.n .i64 0] [(0,1,(.t 13))]),o1 15 (.app 3 1 8 (.t 11) (.t 14)),o1 5 (.mv (.t 15))]
abbrev Ph:List AO:=
 [o1 16 (.fa 3 (.t 4)),o1 17 (.ld 1 false (.t 16))]
abbrev Pg:List AO:=
 [o1 18 (.mv (.t 5)),o1 19 (.fa 3 (.t 1)),o1 20 (.ld 1 false (.t 19)),o1 21 (.bs 3 1 1 [.n .i64 0] [(0,1,(.t 20))]),o1 22 (.app 3 1 8 (.t 18) (.t 21)),o1 5 (.mv (.t 22))]
abbrev Pf:List AO:=
 [o1 23 (.fa 1 (.t 4)),o1 24 (.ld 1 false (.t 23)),o1 25 (.un .not (.t 24))]
abbrev Pe:List AO:=
 [o1 26 (.mv (.t 5)),o1 2 (.mv (.t 26)),o1 3 (.mv (.c (.n .i64 (-1))))]
abbrev Pq:List (Nat×AO):=
 [(2,(o1 27 (.mv (.t 5)))),(2,(o1 28 (.fa 1 (.t 1)))),(2,(o1 2 (.mv (.t 27)))),(1,(o1 29 (.ld 1 false (.t 28)))),(2,(o1 3 (.mv (.t 29))))]
abbrev x2F:AF:=⟨30,(.seq (.reg Po) (.seq (.reg Pn) (.seq (.reg Pm) (.seq (.seq (.reg Pk) (.cond (.t 10) (.reg Pj) .skip)) (.seq (.seq (.reg Ph) (.cond (.t 17) (.reg Pg) .skip)) (.seq (.seq (.reg Pf) (.cond (.t 25) (.seq (.reg Pe) .ret) .skip)) (.seq (.mix Pq) .ret))))))),[.mv (.t 2),.mv (.t 3)]⟩
theorem Pp:bi Tryz.prog (aj Tryz.prog 89) 89=some x2F:=by kernel_rfl
/-! lower.shape-/
/-! optimizer.written-/
abbrev O2:List AO:=
 [o1 1 (.bx 37 0 (.t 0)),o1 2 (.mv (.c (.n .i64 0)))]
abbrev O1:List AO:=
 [o1 6 (.ld 5 true (.t 1)),⟨some 7,none,.cl (.c (.f 89 [] [])) [(.t 6)]⟩,o1 5 (.mv (.t 7)),o1 8 (.ext 0 (.t 5)),o1 9 (.ext 1 (.t 5)),o1 3 (.mv (.t 8)),o1 4 (.mv (.t 9))]
abbrev O0:List AO:=
 [o1 10 (.mv (.t 4)),o1 2 (.mv (.t 10))]
abbrev x3F:AF:=⟨11,(.seq (.reg O2) (.seq (.reg O1) (.seq (.reg O0) .ret))),[.mv (.t 2)]⟩
theorem O3:bi Tryz.prog (aj Tryz.prog 57) 57=some x3F:=by kernel_rfl
/-! optimizer.source-/
abbrev OJ:List AO:=
 [o1 4 (.mv (.c (.n .i64 0)))]
abbrev OI:List AO:=
 [o1 7 (.mv (.t 0)),o1 8 (.len (.t 7)),o1 9 (.mv (.c (.n .i64 0)))]
abbrev OH:List AO:=
 [o1 10 (.bin .lss (.t 9) (.t 8))]
abbrev OG:List AO:=
 [o1 11 (.ia 2 (.t 7) (.t 9)),o1 12 (.ld 2 true (.t 11)),o1 6 (.al 102 [.n .i64 0,.n .i64 0]),⟨none,none,.ap (.st 2 (.t 6) (.t 12))⟩]
abbrev OE:List AO:=
 [o1 13 (.fa 0 (.t 6)),o1 14 (.ld 1 false (.t 13)),o1 15 (.mv (.t 1)),o1 16 (.bin .eql (.t 14) (.t 15))]
abbrev OD:List AO:=
 [o1 17 (.fa 1 (.t 6)),o1 18 (.ld 1 false (.t 17)),o1 4 (.mv (.t 18))]
abbrev OM:AC:=
 (.seq (.reg OG) (.seq (.reg OE) (.cond (.t 16) (.seq (.reg OD) .ret) .skip)))
abbrev OC:List AO:=
 [o1 19 (.bin .add (.t 9) (.c (.n .i64 1))),o1 9 (.mv (.t 19))]
abbrev OO:AC:=
 (.seq (.reg OH) (.seq (.cond (.t 10) .skip (.exit 0)) (.seq (.block 1 OM) (.reg OC))))
abbrev OL:AC:=
 (.loop OO)
abbrev GY:List AO:=
 [o1 20 (.mv (.t 1)),o1 4 (.mv (.t 20))]
abbrev x4F:AF:=⟨21,(.seq (.reg OJ) (.seq (.seq (.reg OI) (.block 0 OL)) (.seq (.reg GY) .ret))),[.mv (.t 4)]⟩
theorem OK:bi Tryz.prog (aj Tryz.prog 67) 67=some x4F:=by kernel_rfl
/-! slices.Index[[]optimizer.known,optimizer.known]-/
abbrev Oi:List AO:=
 [o1 3 (.bx 84 0 (.t 1)),o1 4 (.mv (.c (.n .i64 0)))]
abbrev Oh:List AO:=
 [o1 6 (.mv (.t 0)),o1 7 (.len (.t 6)),o1 8 (.mv (.c (.n .i64 0)))]
abbrev Og:List AO:=
 [o1 9 (.bin .lss (.t 8) (.t 7))]
abbrev Oe:List AO:=
 [o1 10 (.mv (.t 8)),o1 5 (.mv (.t 10))]
abbrev Ok:List (Nat×AO):=
 [(2,(o1 12 (.mv (.t 0)))),(2,(o1 13 (.mv (.t 5)))),(2,(o1 14 (.ia 2 (.t 12) (.t 13)))),(1,(o1 11 (.ld 2 true (.t 3)))),(1,(o1 15 (.ld 2 true (.t 14)))),(2,(o1 16 (.eq false (.st [(0,1,.n),(1,1,.n)]) (.t 11) (.t 15))))]
abbrev Od:List AO:=
 [o1 17 (.mv (.t 5)),o1 4 (.mv (.t 17))]
abbrev Om:AC:=
 (.seq (.reg Oe) (.seq (.mix Ok) (.cond (.t 16) (.seq (.reg Od) .ret) .skip)))
abbrev Oc:List AO:=
 [o1 18 (.bin .add (.t 8) (.c (.n .i64 1))),o1 8 (.mv (.t 18))]
abbrev Oo:AC:=
 (.seq (.reg Og) (.seq (.cond (.t 9) .skip (.exit 0)) (.seq (.block 1 Om) (.reg Oc))))
abbrev Ol:AC:=
 (.loop Oo)
abbrev FG:List AO:=
 [o1 4 (.mv (.c (.n .i64 (-1))))]
abbrev x5F:AF:=⟨19,(.seq (.reg Oi) (.seq (.seq (.reg Oh) (.block 0 Ol)) (.seq (.reg FG) .ret))),[.mv (.t 4)]⟩
theorem Oj:bi Tryz.prog (aj Tryz.prog 119) 119=some x5F:=by kernel_rfl
/-! slices.Contains[[]optimizer.known,optimizer.known]-/
abbrev N0:List AO:=
 [o1 3 (.bx 84 0 (.t 1)),o1 4 (.mv (.c (.b false)))]
abbrev NZ:List AO:=
 [o1 5 (.mv (.t 0)),o1 6 (.ld 2 true (.t 3)),⟨some 7,none,.cl (.c (.f 119 [] [])) [(.t 5),(.t 6)]⟩,o1 8 (.bin .geq (.t 7) (.c (.n .i64 0))),o1 4 (.mv (.t 8))]
abbrev x6F:AF:=⟨9,(.seq (.reg N0) (.seq (.reg NZ) .ret)),[.mv (.t 4)]⟩
theorem N1:bi Tryz.prog (aj Tryz.prog 109) 109=some x6F:=by kernel_rfl
/-! slices.IndexFunc[[]optimizer.known,optimizer.known]-/
abbrev NI:List AO:=
 [o1 4 (.mv (.c (.n .i64 0)))]
abbrev NH:List AO:=
 [o1 6 (.mv (.t 0)),o1 7 (.len (.t 6)),o1 8 (.mv (.c (.n .i64 0)))]
abbrev NG:List AO:=
 [o1 9 (.bin .lss (.t 8) (.t 7))]
abbrev NF:List AO:=
 [o1 10 (.mv (.t 8)),o1 5 (.mv (.t 10))]
abbrev ND:List AO:=
 [o1 11 (.mv (.t 1)),o1 12 (.mv (.t 0)),o1 13 (.mv (.t 5)),o1 14 (.ia 2 (.t 12) (.t 13)),o1 15 (.ld 2 true (.t 14)),⟨some 16,none,.cl (.t 11) [(.t 15)]⟩]
abbrev NC:List AO:=
 [o1 17 (.mv (.t 5)),o1 4 (.mv (.t 17))]
abbrev NL:AC:=
 (.seq (.reg NF) (.seq (.reg ND) (.cond (.t 16) (.seq (.reg NC) .ret) .skip)))
abbrev Nz:List AO:=
 [o1 18 (.bin .add (.t 8) (.c (.n .i64 1))),o1 8 (.mv (.t 18))]
abbrev NM:AC:=
 (.seq (.reg NG) (.seq (.cond (.t 9) .skip (.exit 0)) (.seq (.block 1 NL) (.reg Nz))))
abbrev NK:AC:=
 (.loop NM)
abbrev C6:List AO:=
 [o1 4 (.mv (.c (.n .i64 (-1))))]
abbrev x7F:AF:=⟨19,(.seq (.reg NI) (.seq (.seq (.reg NH) (.block 0 NK)) (.seq (.reg C6) .ret))),[.mv (.t 4)]⟩
theorem NJ:bi Tryz.prog (aj Tryz.prog 111) 111=some x7F:=by kernel_rfl
/-! optimizer.numbers$1-/
abbrev Nx:List AO:=
 [o1 2 (.bx 84 0 (.t 0)),o1 3 (.mv (.c (.b false)))]
abbrev Nw:List AO:=
 [o1 4 (.fa 0 (.t 2)),o1 5 (.ld 1 false (.t 4)),o1 6 (.ld 1 false (.t 1)),o1 7 (.bin .eql (.t 5) (.t 6)),o1 3 (.mv (.t 7))]
abbrev x8F:AF:=⟨8,(.seq (.reg Nx) (.seq (.reg Nw) .ret)),[.mv (.t 3)]⟩
theorem Ny:bi Tryz.prog (aj Tryz.prog 112) 112=some x8F:=by kernel_rfl
/-! optimizer.both[optimizer.known]-/
abbrev Ns:List AO:=
 [o1 4 (.mv (.c .sl0))]
abbrev Nr:List AO:=
 [o1 5 (.mv (.c .sl0))]
abbrev Nq:List AO:=
 [o1 8 (.mv (.t 0)),o1 9 (.len (.t 8)),o1 10 (.mv (.c (.n .i64 0)))]
abbrev Np:List AO:=
 [o1 11 (.bin .lss (.t 10) (.t 9))]
abbrev Nn:List AO:=
 [o1 12 (.ia 2 (.t 8) (.t 10)),o1 13 (.ld 2 true (.t 12)),o1 7 (.al 84 [.n .i64 0,.n .u32 0]),⟨none,none,.ap (.st 2 (.t 7) (.t 13))⟩]
abbrev Nm:List AO:=
 [o1 14 (.mv (.t 1)),o1 15 (.ld 2 true (.t 7)),⟨some 16,none,.cl (.c (.f 109 [] [])) [(.t 14),(.t 15)]⟩]
abbrev Nl:List AO:=
 [o1 17 (.mv (.t 5)),o1 18 (.ld 2 true (.t 7)),o1 19 (.bs 84 2 1 [.n .i64 0,.n .u32 0] [(0,2,(.t 18))]),o1 20 (.app 84 2 16 (.t 17) (.t 19)),o1 5 (.mv (.t 20))]
abbrev Nu:AC:=
 (.seq (.reg Nn) (.seq (.reg Nm) (.cond (.t 16) (.reg Nl) .skip)))
abbrev Nk:List AO:=
 [o1 21 (.bin .add (.t 10) (.c (.n .i64 1))),o1 10 (.mv (.t 21))]
abbrev Nv:AC:=
 (.seq (.reg Np) (.seq (.cond (.t 11) .skip (.exit 0)) (.seq (.block 1 Nu) (.reg Nk))))
abbrev C5:AC:=
 (.loop Nv)
abbrev C4:List AO:=
 [o1 22 (.mv (.t 5)),o1 4 (.mv (.t 22))]
abbrev x9F:AF:=⟨23,(.seq (.reg Ns) (.seq (.reg Nr) (.seq (.seq (.reg Nq) (.block 0 C5)) (.seq (.reg C4) .ret)))),[.mv (.t 4)]⟩
theorem Nt:bi Tryz.prog (aj Tryz.prog 88) 88=some x9F:=by kernel_rfl
/-! optimizer.without[optimizer.known]-/
abbrev Mf:List AO:=
 [o1 4 (.bx 91 0 (.t 1)),o1 6 (.mv (.c .sl0))]
abbrev Me:List AO:=
 [o1 7 (.mv (.c .sl0))]
abbrev Md:List AO:=
 [o1 10 (.mv (.t 0)),o1 11 (.len (.t 10)),o1 12 (.mv (.c (.n .i64 0)))]
abbrev Mc:List AO:=
 [o1 13 (.bin .lss (.t 12) (.t 11))]
abbrev Mb:List AO:=
 [o1 14 (.ia 2 (.t 10) (.t 12)),o1 15 (.ld 2 true (.t 14)),o1 9 (.al 84 [.n .i64 0,.n .u32 0]),⟨none,none,.ap (.st 2 (.t 9) (.t 15))⟩]
abbrev Ma:List AO:=
 [o1 16 (.mv (.t 2)),o1 17 (.mf 108 [] [(.t 4),(.t 9)]),⟨some 18,none,.cl (.c (.f 107 [] [])) [(.t 16),(.t 17)]⟩,o1 19 (.un .not (.t 18))]
abbrev L9:List AO:=
 [o1 20 (.mv (.t 7)),o1 21 (.ld 2 true (.t 9)),o1 22 (.bs 84 2 1 [.n .i64 0,.n .u32 0] [(0,2,(.t 21))]),o1 23 (.app 84 2 16 (.t 20) (.t 22)),o1 7 (.mv (.t 23))]
abbrev Mh:AC:=
 (.seq (.reg Mb) (.seq (.reg Ma) (.cond (.t 19) (.reg L9) .skip)))
abbrev L8:List AO:=
 [o1 24 (.bin .add (.t 12) (.c (.n .i64 1))),o1 12 (.mv (.t 24))]
abbrev Mi:AC:=
 (.seq (.reg Mc) (.seq (.cond (.t 13) .skip (.exit 0)) (.seq (.block 1 Mh) (.reg L8))))
abbrev B5:AC:=
 (.loop Mi)
abbrev B4:List AO:=
 [o1 25 (.mv (.t 7)),o1 6 (.mv (.t 25))]
abbrev P0:AF:=⟨26,(.seq (.reg Mf) (.seq (.reg Me) (.seq (.seq (.reg Md) (.block 0 B5)) (.seq (.reg B4) .ret)))),[.mv (.t 6)]⟩
theorem Mg:bi Tryz.prog (aj Tryz.prog 87) 87=some P0:=by kernel_rfl
/-! optimizer.without[optimizer.known]$1-/
abbrev L6:List AO:=
 [o1 3 (.bx 37 0 (.t 0)),o1 4 (.mv (.c (.b false)))]
abbrev L5:List AO:=
 [o1 5 (.fa 0 (.t 1)),o1 6 (.ld 1 false (.t 5)),o1 7 (.ld 5 true (.t 3)),o1 8 (.ld 2 true (.t 2)),⟨some 9,none,.cl (.t 6) [(.t 7),(.t 8)]⟩,o1 4 (.mv (.t 9))]
abbrev PZ:AF:=⟨10,(.seq (.reg L6) (.seq (.reg L5) .ret)),[.mv (.t 4)]⟩
theorem L7:bi Tryz.prog (aj Tryz.prog 108) 108=some PZ:=by kernel_rfl
/-! slices.ContainsFunc[[]api.RegInstr,api.RegInstr]-/
abbrev L3:List AO:=
 [o1 4 (.mv (.c (.b false)))]
abbrev L2:List AO:=
 [o1 5 (.mv (.t 0)),o1 6 (.mv (.t 1)),⟨some 7,none,.cl (.c (.f 118 [] [])) [(.t 5),(.t 6)]⟩,o1 8 (.bin .geq (.t 7) (.c (.n .i64 0))),o1 4 (.mv (.t 8))]
abbrev PY:AF:=⟨9,(.seq (.reg L3) (.seq (.reg L2) .ret)),[.mv (.t 4)]⟩
theorem L4:bi Tryz.prog (aj Tryz.prog 107) 107=some PY:=by kernel_rfl
/-! slices.IndexFunc[[]api.RegInstr,api.RegInstr]-/
abbrev LX:List AO:=
 [o1 4 (.mv (.c (.n .i64 0)))]
abbrev LW:List AO:=
 [o1 6 (.mv (.t 0)),o1 7 (.len (.t 6)),o1 8 (.mv (.c (.n .i64 0)))]
abbrev LV:List AO:=
 [o1 9 (.bin .lss (.t 8) (.t 7))]
abbrev LU:List AO:=
 [o1 10 (.mv (.t 8)),o1 5 (.mv (.t 10))]
abbrev LS:List AO:=
 [o1 11 (.mv (.t 1)),o1 12 (.mv (.t 0)),o1 13 (.mv (.t 5)),o1 14 (.ia 5 (.t 12) (.t 13)),o1 15 (.ld 5 true (.t 14)),⟨some 16,none,.cl (.t 11) [(.t 15)]⟩]
abbrev LR:List AO:=
 [o1 17 (.mv (.t 5)),o1 4 (.mv (.t 17))]
abbrev L0:AC:=
 (.seq (.reg LU) (.seq (.reg LS) (.cond (.t 16) (.seq (.reg LR) .ret) .skip)))
abbrev LQ:List AO:=
 [o1 18 (.bin .add (.t 8) (.c (.n .i64 1))),o1 8 (.mv (.t 18))]
abbrev L1:AC:=
 (.seq (.reg LV) (.seq (.cond (.t 9) .skip (.exit 0)) (.seq (.block 1 L0) (.reg LQ))))
abbrev LZ:AC:=
 (.loop L1)
abbrev B3:List AO:=
 [o1 4 (.mv (.c (.n .i64 (-1))))]
abbrev PW:AF:=⟨19,(.seq (.reg LX) (.seq (.seq (.reg LW) (.block 0 LZ)) (.seq (.reg B3) .ret))),[.mv (.t 4)]⟩
theorem LY:bi Tryz.prog (aj Tryz.prog 118) 118=some PW:=by kernel_rfl
/-! optimizer.arithmetic-/
abbrev LO:List AO:=
 [o1 2 (.mv (.c (.b false)))]
abbrev LN:List AO:=
 [o1 3 (.mv (.t 0)),o1 4 (.bin .geq (.t 3) (.c (.n .i64 8))),o1 5 (.mv (.t 4)),⟨some 6,some (5,true),.ap (.mv (.t 0))⟩,⟨some 7,some (5,true),.ap (.bin .leq (.t 6) (.c (.n .i64 26)))⟩,o1 8 (.pick (.t 5) (.t 7) (.c (.b false))),o1 2 (.mv (.t 8))]
abbrev PV:AF:=⟨9,(.seq (.reg LO) (.seq (.reg LN) .ret)),[.mv (.t 2)]⟩
theorem LP:bi Tryz.prog (aj Tryz.prog 90) 90=some PV:=by kernel_rfl
/-! optimizer.folded-/
abbrev LL:List AO:=
 [o1 2 (.bx 37 0 (.t 0)),o1 4 (.al 37 [.n .i64 0,.n .i64 0,.n .i64 0,.n .i64 0,.n .u32 0])]
abbrev LK:List AO:=
 [o1 12 (.fa 0 (.t 2)),o1 13 (.ld 1 false (.t 12)),⟨some 14,none,.cl (.c (.f 90 [] [])) [(.t 13)]⟩,o1 15 (.un .not (.t 14)),o1 16 (.mv (.t 15)),⟨some 17,some (16,true),.ap (.fa 0 (.t 2))⟩,⟨some 18,some (16,true),.ap (.ld 1 false (.t 17))⟩,⟨some 19,some (16,true),.ap (.bin .neq (.t 18) (.c (.n .i64 36)))⟩,o1 20 (.pick (.t 16) (.t 19) (.c (.b false)))]
abbrev LJ:List AO:=
 [o1 21 (.ld 5 true (.t 2)),⟨none,none,.ap (.st 5 (.t 4) (.t 21))⟩]
abbrev LI:List AO:=
 [o1 23 (.ld 5 true (.t 2)),⟨some 24,none,.cl (.c (.f 89 [] [])) [(.t 23)]⟩,o1 22 (.mv (.t 24)),o1 25 (.ext 0 (.t 22)),o1 26 (.ext 1 (.t 22)),o1 5 (.mv (.t 25)),o1 6 (.mv (.t 26))]
abbrev LH:List AO:=
 [o1 28 (.mv (.t 1)),o1 29 (.mv (.t 5)),⟨some 30,none,.cl (.c (.f 91 [] [])) [(.t 28),(.t 29)]⟩,o1 27 (.mv (.t 30)),o1 31 (.ext 0 (.t 27)),o1 32 (.ext 1 (.t 27)),o1 7 (.mv (.t 31)),o1 8 (.mv (.t 32))]
abbrev LG:List AO:=
 [o1 33 (.mv (.t 8)),o1 34 (.un .not (.t 33))]
abbrev LF:List AO:=
 [o1 35 (.ld 5 true (.t 2)),⟨none,none,.ap (.st 5 (.t 4) (.t 35))⟩]
abbrev LD:List AO:=
 [o1 36 (.mv (.t 7)),o1 37 (.ia 1 (.t 36) (.c (.n .i64 0))),o1 38 (.ld 1 false (.t 37)),o1 9 (.mv (.t 38))]
abbrev LC:List AO:=
 [o1 39 (.fa 0 (.t 2)),o1 40 (.ld 1 false (.t 39)),⟨some 41,none,.cl (.c (.f 90 [] [])) [(.t 40)]⟩]
abbrev LB:List AO:=
 [o1 42 (.mv (.t 7)),o1 43 (.bs 35 1 1 [.n .u32 0] [(0,1,(.c (.n .u32 0)))]),o1 44 (.app 35 1 4 (.t 42) (.t 43)),o1 7 (.mv (.t 44))]
abbrev B2:List (Nat×AO):=
 [(2,(o1 46 (.fa 0 (.t 2)))),(2,(o1 48 (.mv (.t 7)))),(2,(o1 49 (.ia 1 (.t 48) (.c (.n .i64 0))))),(2,(o1 51 (.mv (.t 7)))),(2,(o1 52 (.ia 1 (.t 51) (.c (.n .i64 1))))),(1,(o1 47 (.ld 1 false (.t 46)))),(1,(o1 50 (.ld 1 false (.t 49)))),(1,(o1 53 (.ld 1 false (.t 52)))),(3,⟨some 54,none,.cl (.c (.f 92 [] [])) [(.t 47),(.t 50),(.t 53)]⟩),(2,(o1 45 (.mv (.t 54)))),(2,(o1 55 (.ext 0 (.t 45)))),(2,(o1 56 (.ext 1 (.t 45)))),(2,(o1 10 (.mv (.t 55)))),(2,(o1 11 (.mv (.t 56))))]
abbrev B1:List AO:=
 [o1 57 (.mv (.t 11)),o1 58 (.bin .neq (.t 57) (.c (.n .i64 0)))]
abbrev B0:List AO:=
 [o1 59 (.ld 5 true (.t 2)),⟨none,none,.ap (.st 5 (.t 4) (.t 59))⟩]
abbrev BZ:List AO:=
 [o1 60 (.mv (.t 10)),o1 9 (.mv (.t 60))]
abbrev BW:List AO:=
 [o1 61 (.fa 1 (.t 2)),o1 62 (.ld 1 false (.t 61)),o1 63 (.mv (.t 9)),o1 64 (.bd [.n .i64 0,.n .i64 0,.n .i64 0,.n .i64 0,.n .u32 0] [(0,1,(.c (.n .i64 0))),(1,1,(.t 62)),(2,1,(.c (.n .i64 (-1)))),(3,1,(.c (.n .i64 (-1)))),(4,1,(.t 63))]),⟨none,none,.ap (.st 5 (.t 4) (.t 64))⟩]
abbrev PU:AF:=⟨65,(.seq (.reg LL) (.seq (.seq (.reg LK) (.cond (.t 20) (.seq (.reg LJ) .ret) .skip)) (.seq (.reg LI) (.seq (.reg LH) (.seq (.seq (.reg LG) (.cond (.t 34) (.seq (.reg LF) .ret) .skip)) (.seq (.reg LD) (.seq (.seq (.reg LC) (.cond (.t 41) (.seq (.reg LB) (.seq (.mix B2) (.seq (.seq (.reg B1) (.cond (.t 58) (.seq (.reg B0) .ret) .skip)) (.reg BZ)))) .skip)) (.seq (.reg BW) .ret)))))))),[.ld 5 true (.t 4)]⟩
theorem LM:bi Tryz.prog (aj Tryz.prog 59) 59=some PU:=by kernel_rfl
/-! optimizer.fold$1-/
abbrev Ly:List AO:=
 [o1 2 (.bx 37 0 (.t 0)),o1 3 (.bx 84 0 (.t 1)),o1 4 (.mv (.c (.b false)))]
abbrev LA:List (Nat×AO):=
 [(2,(o1 7 (.fa 0 (.t 3)))),(1,(o1 5 (.ld 5 true (.t 2)))),(1,(o1 8 (.ld 1 false (.t 7)))),(0,⟨some 6,none,.cl (.c (.f 57 [] [])) [(.t 5)]⟩),(2,(o1 9 (.bin .eql (.t 6) (.t 8)))),(2,(o1 4 (.mv (.t 9))))]
abbrev PS:AF:=⟨10,(.seq (.reg Ly) (.seq (.mix LA) .ret)),[.mv (.t 4)]⟩
theorem Lz:bi Tryz.prog (aj Tryz.prog 56) 56=some PS:=by kernel_rfl
/-! optimizer.fold$2-/
abbrev Lw:List AO:=
 [o1 2 (.bx 37 0 (.t 0)),o1 4 (.al 37 [.n .i64 0,.n .i64 0,.n .i64 0,.n .i64 0,.n .u32 0]),o1 5 (.mv (.c (.b false))),o1 6 (.mv (.c .sl0))]
abbrev Lu:List AO:=
 [o1 8 (.ld 5 true (.t 2)),o1 9 (.mv (.t 1)),⟨some 10,none,.cl (.c (.f 59 [] [])) [(.t 8),(.t 9)]⟩,o1 7 (.al 37 [.n .i64 0,.n .i64 0,.n .i64 0,.n .i64 0,.n .u32 0]),⟨none,none,.ap (.st 5 (.t 7) (.t 10))⟩]
abbrev Ls:List AO:=
 [o1 11 (.fa 0 (.t 7)),o1 12 (.ld 1 false (.t 11)),o1 13 (.bin .eql (.t 12) (.c (.n .i64 0)))]
abbrev Lx:List (Nat×AO):=
 [(1,(o1 14 (.ld 5 true (.t 7)))),(2,(o1 15 (.fa 1 (.t 7)))),(1,(o1 16 (.ld 1 false (.t 15)))),(2,(o1 17 (.fa 4 (.t 7)))),(1,(o1 18 (.ld 1 false (.t 17)))),(2,(o1 19 (.bd [.n .i64 0,.n .u32 0] [(0,1,(.t 16)),(1,1,(.t 18))])))]
abbrev Lq:AT:=
 (.alt (o1 20 (.bs 84 2 1 [.n .i64 0,.n .u32 0] [(0,2,(.t 19))])) (.alt ⟨none,none,.ap (.st 5 (.t 4) (.t 14))⟩ (.alt (o1 5 (.mv (.c (.b true)))) (.alt (o1 6 (.mv (.t 20))) .fin .none) .none) .none) (.alt ⟨none,none,.ap (.st 5 (.t 4) (.t 14))⟩ (.alt (o1 20 (.bs 84 2 1 [.n .i64 0,.n .u32 0] [(0,2,(.t 19))])) (.alt (o1 5 (.mv (.c (.b true)))) (.alt (o1 6 (.mv (.t 20))) .fin .none) .none) (.alt (o1 5 (.mv (.c (.b true)))) (.alt (o1 20 (.bs 84 2 1 [.n .i64 0,.n .u32 0] [(0,2,(.t 19))])) (.alt (o1 6 (.mv (.t 20))) .fin .none) .none) .none)) .none))
abbrev Lr:List AO:=
 [o1 21 (.ld 5 true (.t 7)),⟨none,none,.ap (.st 5 (.t 4) (.t 21))⟩,o1 5 (.mv (.c (.b true))),o1 6 (.mv (.c .sl0))]
abbrev PQ:AF:=⟨22,(.seq (.reg Lw) (.seq (.reg Lu) (.seq (.seq (.reg Ls) (.cond (.t 13) (.seq (.frk Lx Lq) .ret) .skip)) (.seq (.reg Lr) .ret)))),[.ld 5 true (.t 4),.mv (.t 5),.mv (.t 6)]⟩
theorem wR:bi Tryz.prog (aj Tryz.prog 58) 58=some PQ:=by kernel_rfl
/-! optimizer.pairs-/
abbrev Lo:List AO:=
 [o1 2 (.mv (.c .sl0))]
abbrev Ln:List AO:=
 [o1 11 (.mv (.t 0)),o1 12 (.len (.t 11)),o1 13 (.ms 3 1 8 [.n .i64 0] (.t 12) (.t 12)),o1 3 (.mv (.t 13))]
abbrev Lm:List AO:=
 [o1 4 (.mv (.c .sl0)),o1 5 (.mv (.c .sl0))]
abbrev Ll:List AO:=
 [o1 14 (.mv (.t 0)),o1 15 (.len (.t 14)),o1 16 (.mv (.c (.n .i64 0)))]
abbrev Lk:List AO:=
 [o1 17 (.bin .lss (.t 16) (.t 15))]
abbrev Lj:List AO:=
 [o1 18 (.mv (.t 16)),o1 19 (.ia 5 (.t 14) (.t 16)),o1 20 (.ld 5 true (.t 19)),o1 7 (.al 37 [.n .i64 0,.n .i64 0,.n .i64 0,.n .i64 0,.n .u32 0]),o1 6 (.mv (.t 18)),⟨none,none,.ap (.st 5 (.t 7) (.t 20))⟩]
abbrev Li:List AO:=
 [o1 21 (.mv (.t 3)),o1 22 (.mv (.t 6)),o1 23 (.ia 1 (.t 21) (.t 22)),⟨none,none,.ap (.st 1 (.t 23) (.c (.n .i64 (-1))))⟩]
abbrev Lh:List AO:=
 [o1 24 (.fa 0 (.t 7)),o1 25 (.ld 1 false (.t 24))]
abbrev Lg:List AO:=
 [o1 27 (.bin .eql (.t 25) (.c (.n .i64 27))),o1 26 (.mv (.t 27))]
abbrev Ld:List AO:=
 [o1 28 (.mv (.t 4)),o1 29 (.mv (.t 6)),o1 30 (.bs 3 1 1 [.n .i64 0] [(0,1,(.t 29))]),o1 31 (.app 3 1 8 (.t 28) (.t 30)),o1 4 (.mv (.t 31))]
abbrev BN:List AO:=
 [o1 33 (.bin .eql (.t 25) (.c (.n .i64 29))),o1 32 (.mv (.t 33))]
abbrev BM:List AO:=
 [o1 34 (.mv (.t 4)),o1 35 (.mv (.t 6)),o1 36 (.bs 3 1 1 [.n .i64 0] [(0,1,(.t 35))]),o1 37 (.app 3 1 8 (.t 34) (.t 36)),o1 38 (.mv (.t 5)),o1 39 (.mv (.t 6)),o1 40 (.bs 3 1 1 [.n .i64 0] [(0,1,(.t 39))]),o1 41 (.app 3 1 8 (.t 38) (.t 40)),o1 4 (.mv (.t 37)),o1 5 (.mv (.t 41))]
abbrev BL:List AO:=
 [o1 43 (.bin .eql (.t 25) (.c (.n .i64 28))),o1 42 (.mv (.t 43))]
abbrev BK:List AO:=
 [o1 44 (.mv (.t 3)),o1 45 (.mv (.t 4)),o1 46 (.mv (.t 4)),o1 47 (.len (.t 46)),o1 48 (.bin .sub (.t 47) (.c (.n .i64 1))),o1 49 (.ia 1 (.t 45) (.t 48)),o1 50 (.ld 1 false (.t 49)),o1 51 (.mv (.t 6)),o1 52 (.ia 1 (.t 44) (.t 50)),⟨none,none,.ap (.st 1 (.t 52) (.t 51))⟩]
abbrev BJ:List AO:=
 [o1 54 (.bin .eql (.t 25) (.c (.n .i64 31))),o1 53 (.mv (.t 54))]
abbrev BI:List AO:=
 [o1 55 (.mv (.t 4)),o1 56 (.mv (.t 4)),o1 57 (.len (.t 56)),o1 58 (.bin .sub (.t 57) (.c (.n .i64 1))),o1 59 (.ia 1 (.t 55) (.t 58)),o1 60 (.ld 1 false (.t 59)),o1 8 (.mv (.t 60))]
abbrev BH:List AO:=
 [o1 61 (.mv (.t 4)),o1 62 (.mv (.t 4)),o1 63 (.len (.t 62)),o1 64 (.bin .sub (.t 63) (.c (.n .i64 1))),o1 65 (.sl 1 (.t 61) none (some (.t 64))),o1 4 (.mv (.t 65))]
abbrev BG:List AO:=
 [o1 66 (.mv (.t 3)),o1 67 (.mv (.t 6)),o1 68 (.mv (.t 8)),o1 69 (.ia 1 (.t 66) (.t 67)),⟨none,none,.ap (.st 1 (.t 69) (.t 68))⟩]
abbrev BF:List AO:=
 [o1 70 (.mv (.t 3)),o1 71 (.mv (.t 8)),o1 72 (.ia 1 (.t 70) (.t 71)),o1 73 (.ld 1 false (.t 72)),o1 74 (.bin .geq (.t 73) (.c (.n .i64 0)))]
abbrev BE:List AO:=
 [o1 75 (.mv (.t 3)),o1 76 (.mv (.t 3)),o1 77 (.mv (.t 8)),o1 78 (.ia 1 (.t 76) (.t 77)),o1 79 (.ld 1 false (.t 78)),o1 80 (.mv (.t 6)),o1 81 (.ia 1 (.t 75) (.t 79)),⟨none,none,.ap (.st 1 (.t 81) (.t 80))⟩]
abbrev BD:List AO:=
 [o1 82 (.mv (.t 3)),o1 83 (.mv (.t 8)),o1 84 (.mv (.t 6)),o1 85 (.ia 1 (.t 82) (.t 83)),⟨none,none,.ap (.st 1 (.t 85) (.t 84))⟩]
abbrev BC:List AO:=
 [o1 86 (.mv (.t 0)),o1 87 (.mv (.t 8)),o1 88 (.ia 5 (.t 86) (.t 87)),o1 89 (.fa 0 (.t 88)),o1 90 (.ld 1 false (.t 89)),o1 91 (.bin .eql (.t 90) (.c (.n .i64 29)))]
abbrev BB:List AO:=
 [o1 92 (.mv (.t 5)),o1 93 (.mv (.t 5)),o1 94 (.len (.t 93)),o1 95 (.bin .sub (.t 94) (.c (.n .i64 1))),o1 96 (.sl 1 (.t 92) none (some (.t 95))),o1 5 (.mv (.t 96))]
abbrev BA:List AO:=
 [o1 98 (.bin .eql (.t 25) (.c (.n .i64 30))),o1 97 (.mv (.t 98))]
abbrev Bz:List AO:=
 [o1 99 (.mv (.t 3)),o1 100 (.mv (.t 6)),o1 101 (.mv (.t 5)),o1 102 (.mv (.t 5)),o1 103 (.len (.t 102)),o1 104 (.bin .sub (.t 103) (.c (.n .i64 1))),o1 105 (.ia 1 (.t 101) (.t 104)),o1 106 (.ld 1 false (.t 105)),o1 107 (.ia 1 (.t 99) (.t 100)),⟨none,none,.ap (.st 1 (.t 107) (.t 106))⟩]
abbrev BT:AC:=
 (.seq (.reg Lg) (.cond (.t 26) (.reg Ld) (.seq (.reg BN) (.cond (.t 32) (.reg BM) (.seq (.reg BL) (.cond (.t 42) (.reg BK) (.seq (.reg BJ) (.cond (.t 53) (.seq (.reg BI) (.seq (.reg BH) (.seq (.reg BG) (.seq (.seq (.reg BF) (.cond (.t 74) (.reg BE) (.reg BD))) (.seq (.reg BC) (.cond (.t 91) (.reg BB) .skip)))))) (.seq (.reg BA) (.cond (.t 97) (.reg Bz) .skip))))))))))
abbrev BS:AC:=
 (.seq (.reg Lj) (.seq (.reg Li) (.seq (.reg Lh) (.block 2 BT))))
abbrev Bx:List AO:=
 [o1 108 (.bin .add (.t 16) (.c (.n .i64 1))),o1 16 (.mv (.t 108))]
abbrev BV:AC:=
 (.seq (.reg Lk) (.seq (.cond (.t 17) .skip (.exit 0)) (.seq (.block 1 BS) (.reg Bx))))
abbrev BQ:AC:=
 (.loop BV)
abbrev Bw:List AO:=
 [o1 109 (.mv (.t 0)),o1 110 (.len (.t 109)),o1 111 (.mv (.c (.n .i64 0)))]
abbrev Bv:List AO:=
 [o1 112 (.bin .lss (.t 111) (.t 110))]
abbrev Bu:List AO:=
 [o1 113 (.mv (.t 111)),o1 114 (.ia 5 (.t 109) (.t 111)),o1 115 (.ld 5 true (.t 114)),o1 10 (.al 37 [.n .i64 0,.n .i64 0,.n .i64 0,.n .i64 0,.n .u32 0]),o1 9 (.mv (.t 113)),⟨none,none,.ap (.st 5 (.t 10) (.t 115))⟩]
abbrev Bt:List AO:=
 [o1 116 (.fa 0 (.t 10)),o1 117 (.ld 1 false (.t 116)),o1 118 (.bin .eql (.t 117) (.c (.n .i64 30)))]
abbrev Bs:List AO:=
 [o1 119 (.mv (.t 3)),o1 120 (.mv (.t 9)),o1 121 (.mv (.t 3)),o1 122 (.mv (.t 3)),o1 123 (.mv (.t 9)),o1 124 (.ia 1 (.t 122) (.t 123)),o1 125 (.ld 1 false (.t 124)),o1 126 (.ia 1 (.t 121) (.t 125)),o1 127 (.ld 1 false (.t 126)),o1 128 (.ia 1 (.t 119) (.t 120)),⟨none,none,.ap (.st 1 (.t 128) (.t 127))⟩]
abbrev BP:AC:=
 (.seq (.reg Bu) (.seq (.reg Bt) (.cond (.t 118) (.reg Bs) .skip)))
abbrev Br:List AO:=
 [o1 129 (.bin .add (.t 111) (.c (.n .i64 1))),o1 111 (.mv (.t 129))]
abbrev BU:AC:=
 (.seq (.reg Bv) (.seq (.cond (.t 112) .skip (.exit 3)) (.seq (.block 4 BP) (.reg Br))))
abbrev BO:AC:=
 (.loop BU)
abbrev Bq:List AO:=
 [o1 130 (.mv (.t 3)),o1 2 (.mv (.t 130))]
abbrev PP:AF:=⟨131,(.seq (.reg Lo) (.seq (.reg Ln) (.seq (.reg Lm) (.seq (.seq (.reg Ll) (.block 0 BQ)) (.seq (.seq (.reg Bw) (.block 3 BO)) (.seq (.reg Bq) .ret)))))),[.mv (.t 2)]⟩
theorem Lp:bi Tryz.prog (aj Tryz.prog 86) 86=some PP:=by kernel_rfl
/-! optimizer.walk[optimizer.known]-/
abbrev Lb:List AO:=
 [o1 5 (.bx 91 0 (.t 2)),o1 6 (.mv (.c .sl0))]
abbrev La:List AO:=
 [o1 16 (.mv (.t 0)),⟨some 17,none,.cl (.c (.f 86 [] [])) [(.t 16)]⟩,o1 7 (.mv (.t 17))]
abbrev K9:List AO:=
 [o1 8 (.mv (.c .sl0))]
abbrev K8:List AO:=
 [o1 9 (.mv (.c .sl0))]
abbrev K7:List AO:=
 [o1 18 (.mv (.t 0)),o1 19 (.len (.t 18)),o1 20 (.mv (.c (.n .i64 0)))]
abbrev K6:List AO:=
 [o1 21 (.bin .lss (.t 20) (.t 19))]
abbrev K5:List AO:=
 [o1 22 (.mv (.t 20)),o1 23 (.ia 5 (.t 18) (.t 20)),o1 24 (.ld 5 true (.t 23)),o1 11 (.al 37 [.n .i64 0,.n .i64 0,.n .i64 0,.n .i64 0,.n .u32 0]),o1 10 (.mv (.t 22)),⟨none,none,.ap (.st 5 (.t 11) (.t 24))⟩]
abbrev K4:List AO:=
 [o1 26 (.fa 1 (.t 5)),o1 27 (.ld 1 false (.t 26)),o1 28 (.ld 5 true (.t 11)),o1 29 (.mv (.t 1)),⟨some 30,none,.cl (.t 27) [(.t 28),(.t 29)]⟩,o1 25 (.mv (.t 30)),o1 31 (.ext 0 (.t 25)),o1 32 (.ext 1 (.t 25)),o1 33 (.ext 2 (.t 25)),o1 12 (.al 37 [.n .i64 0,.n .i64 0,.n .i64 0,.n .i64 0,.n .u32 0]),⟨none,none,.ap (.st 5 (.t 12) (.t 31))⟩,o1 13 (.mv (.t 32)),o1 14 (.mv (.t 33))]
abbrev K3:List AO:=
 [o1 34 (.mv (.t 13)),o1 35 (.un .not (.t 34))]
abbrev K2:List AO:=
 [o1 36 (.mv (.t 9)),o1 37 (.len (.t 36)),o1 38 (.bin .sub (.t 37) (.c (.n .i64 1))),o1 15 (.mv (.t 38))]
abbrev Bi:List AO:=
 [o1 40 (.fa 0 (.t 11)),o1 41 (.ld 1 false (.t 40)),o1 42 (.bin .eql (.t 41) (.c (.n .i64 27))),o1 39 (.mv (.t 42))]
abbrev Bh:List AO:=
 [o1 43 (.mv (.t 9)),o1 44 (.mv (.t 1)),o1 45 (.bs 82 1 1 [.sl0] [(0,1,(.t 44))]),o1 46 (.app 82 1 24 (.t 43) (.t 45)),o1 9 (.mv (.t 46))]
abbrev Bg:List AO:=
 [o1 48 (.fa 0 (.t 11)),o1 49 (.ld 1 false (.t 48)),o1 50 (.bin .eql (.t 49) (.c (.n .i64 28))),o1 47 (.mv (.t 50))]
abbrev Bf:List AO:=
 [o1 51 (.mv (.t 9)),o1 52 (.mv (.t 15)),o1 53 (.mv (.t 1)),o1 54 (.mv (.t 9)),o1 55 (.mv (.t 15)),o1 56 (.ia 1 (.t 54) (.t 55)),o1 57 (.ld 1 false (.t 56)),o1 58 (.ia 1 (.t 51) (.t 52)),⟨none,none,.ap (.st 1 (.t 58) (.t 53))⟩,o1 1 (.mv (.t 57))]
abbrev Be:List AO:=
 [o1 60 (.fa 0 (.t 11)),o1 61 (.ld 1 false (.t 60)),o1 62 (.bin .eql (.t 61) (.c (.n .i64 29))),o1 59 (.mv (.t 62))]
abbrev Bl:List (Nat×AO):=
 [(2,(o1 63 (.mv (.t 1)))),(2,(o1 65 (.mv (.t 0)))),(2,(o1 66 (.mv (.t 10)))),(2,(o1 67 (.mv (.t 7)))),(2,(o1 68 (.mv (.t 10)))),(2,(o1 69 (.ia 1 (.t 67) (.t 68)))),(1,(o1 64 (.ld 2 true (.t 5)))),(1,(o1 70 (.ld 1 false (.t 69)))),(2,(o1 71 (.sl 5 (.t 65) (some (.t 66)) (some (.t 70))))),(3,⟨some 72,none,.cl (.c (.f 87 [] [])) [(.t 63),(.t 64),(.t 71)]⟩),(2,(o1 1 (.mv (.t 72))))]
abbrev Bd:List AO:=
 [o1 74 (.fa 0 (.t 11)),o1 75 (.ld 1 false (.t 74)),o1 76 (.bin .eql (.t 75) (.c (.n .i64 31))),o1 77 (.mv (.t 76)),⟨some 78,some (77,true),.ap (.mv (.t 0))⟩,⟨some 79,some (77,true),.ap (.mv (.t 7))⟩,⟨some 80,some (77,true),.ap (.mv (.t 10))⟩,⟨some 81,some (77,true),.ap (.ia 1 (.t 79) (.t 80))⟩,⟨some 82,some (77,true),.ap (.ld 1 false (.t 81))⟩,⟨some 83,some (77,true),.ap (.ia 5 (.t 78) (.t 82))⟩,⟨some 84,some (77,true),.ap (.fa 0 (.t 83))⟩,⟨some 85,some (77,true),.ap (.ld 1 false (.t 84))⟩,⟨some 86,some (77,true),.ap (.bin .eql (.t 85) (.c (.n .i64 29)))⟩,o1 87 (.pick (.t 77) (.t 86) (.c (.b false))),o1 73 (.mv (.t 87))]
abbrev Bk:List (Nat×AO):=
 [(2,(o1 88 (.mv (.t 1)))),(2,(o1 90 (.mv (.t 0)))),(2,(o1 91 (.mv (.t 7)))),(2,(o1 92 (.mv (.t 10)))),(2,(o1 93 (.ia 1 (.t 91) (.t 92)))),(2,(o1 95 (.mv (.t 10)))),(1,(o1 89 (.ld 2 true (.t 5)))),(1,(o1 94 (.ld 1 false (.t 93)))),(2,(o1 96 (.sl 5 (.t 90) (some (.t 94)) (some (.t 95))))),(3,⟨some 97,none,.cl (.c (.f 87 [] [])) [(.t 88),(.t 89),(.t 96)]⟩),(2,(o1 1 (.mv (.t 97))))]
abbrev Bc:List AO:=
 [o1 99 (.fa 0 (.t 11)),o1 100 (.ld 1 false (.t 99)),o1 101 (.bin .eql (.t 100) (.c (.n .i64 31))),o1 98 (.mv (.t 101))]
abbrev Bj:List (Nat×AO):=
 [(2,(o1 102 (.mv (.t 1)))),(2,(o1 103 (.mv (.t 9)))),(2,(o1 104 (.mv (.t 15)))),(2,(o1 105 (.ia 1 (.t 103) (.t 104)))),(2,(o1 108 (.mv (.t 9)))),(2,(o1 109 (.mv (.t 15)))),(2,(o1 110 (.sl 1 (.t 108) none (some (.t 109))))),(1,(o1 106 (.ld 1 false (.t 105)))),(3,⟨some 107,none,.cl (.c (.f 88 [] [])) [(.t 102),(.t 106)]⟩),(2,(o1 1 (.mv (.t 107)))),(2,(o1 9 (.mv (.t 110))))]
abbrev Bo:AC:=
 (.seq (.reg Bi) (.cond (.t 39) (.reg Bh) (.seq (.reg Bg) (.cond (.t 47) (.reg Bf) (.seq (.reg Be) (.cond (.t 59) (.mix Bl) (.seq (.reg Bd) (.cond (.t 73) (.mix Bk) (.seq (.reg Bc) (.cond (.t 98) (.mix Bj) .skip))))))))))
abbrev Bb:List AO:=
 [o1 111 (.mv (.t 1)),o1 112 (.ld 2 true (.t 5)),o1 113 (.ld 5 true (.t 12)),o1 114 (.bs 37 5 1 [.n .i64 0,.n .i64 0,.n .i64 0,.n .i64 0,.n .u32 0] [(0,5,(.t 113))]),⟨some 115,none,.cl (.c (.f 87 [] [])) [(.t 111),(.t 112),(.t 114)]⟩,o1 116 (.mv (.t 14)),o1 117 (.app 84 2 16 (.t 115) (.t 116)),o1 1 (.mv (.t 117))]
abbrev Ba:List AO:=
 [o1 118 (.mv (.t 8)),o1 119 (.ld 5 true (.t 12)),o1 120 (.bs 37 5 1 [.n .i64 0,.n .i64 0,.n .i64 0,.n .i64 0,.n .u32 0] [(0,5,(.t 119))]),o1 121 (.app 37 5 40 (.t 118) (.t 120)),o1 8 (.mv (.t 121))]
abbrev Bn:AC:=
 (.seq (.reg K5) (.seq (.reg K4) (.seq (.seq (.reg K3) (.cond (.t 35) (.exit 1) .skip)) (.seq (.reg K2) (.seq (.block 2 Bo) (.seq (.reg Bb) (.reg Ba)))))))
abbrev A9:List AO:=
 [o1 122 (.bin .add (.t 20) (.c (.n .i64 1))),o1 20 (.mv (.t 122))]
abbrev Bp:AC:=
 (.seq (.reg K6) (.seq (.cond (.t 21) .skip (.exit 0)) (.seq (.block 1 Bn) (.reg A9))))
abbrev Bm:AC:=
 (.loop Bp)
abbrev A8:List AO:=
 [o1 123 (.mv (.t 8)),o1 6 (.mv (.t 123))]
abbrev PO:AF:=⟨124,(.seq (.reg Lb) (.seq (.reg La) (.seq (.reg K9) (.seq (.reg K8) (.seq (.seq (.reg K7) (.block 0 Bm)) (.seq (.reg A8) .ret)))))),[.mv (.t 6)]⟩
theorem Lc:bi Tryz.prog (aj Tryz.prog 55) 55=some PO:=by kernel_rfl
/-! optimizer.fold-/
abbrev KT:List AO:=
 [o1 1 (.bx 25 0 (.t 0)),o1 2 (.mv (.c .sl0))]
abbrev KS:List AO:=
 [o1 3 (.mv (.c .sl0))]
abbrev KR:List AO:=
 [o1 5 (.fa 1 (.t 1)),o1 6 (.ld 1 false (.t 5)),o1 7 (.mv (.c (.n .i64 0)))]
abbrev KQ:List AO:=
 [o1 8 (.bin .lss (.t 7) (.t 6))]
abbrev KP:List AO:=
 [o1 9 (.mv (.t 7)),o1 4 (.mv (.t 9))]
abbrev KO:List AO:=
 [o1 10 (.mv (.t 3)),o1 11 (.mv (.t 4)),o1 12 (.bd [.n .i64 0,.n .u32 0] [(0,1,(.t 11))]),o1 13 (.bs 84 2 1 [.n .i64 0,.n .u32 0] [(0,2,(.t 12))]),o1 14 (.app 84 2 16 (.t 10) (.t 13)),o1 3 (.mv (.t 14))]
abbrev KW:AC:=
 (.seq (.reg KP) (.reg KO))
abbrev KN:List AO:=
 [o1 15 (.bin .add (.t 7) (.c (.n .i64 1))),o1 7 (.mv (.t 15))]
abbrev KX:AC:=
 (.seq (.reg KQ) (.seq (.cond (.t 8) .skip (.exit 0)) (.seq (.block 1 KW) (.reg KN))))
abbrev KV:AC:=
 (.loop KX)
abbrev A7:List AO:=
 [o1 16 (.fa 3 (.t 1)),o1 17 (.ld 1 false (.t 16)),o1 18 (.mv (.t 3)),o1 19 (.bd [.f0,.f0] [(0,1,(.c (.f 56 [] []))),(1,1,(.c (.f 58 [] [])))]),⟨some 20,none,.cl (.c (.f 55 [] [])) [(.t 17),(.t 18),(.t 19)]⟩,o1 2 (.mv (.t 20))]
abbrev PA:AF:=⟨21,(.seq (.reg KT) (.seq (.reg KS) (.seq (.seq (.reg KR) (.block 0 KV)) (.seq (.reg A7) .ret)))),[.mv (.t 2)]⟩
theorem KU:bi Tryz.prog (aj Tryz.prog 25) 25=some PA:=by kernel_rfl
/-! optimizer.checked-/
abbrev KL:List AO:=
 [o1 2 (.bx 25 0 (.t 0)),o1 4 (.al 25 [.sl0,.n .i64 0,.n .i64 0,.sl0]),o1 5 (.mv (.c (.n .i64 0)))]
abbrev KK:List AO:=
 [o1 9 (.ld 4 true (.t 2)),⟨some 10,none,.cl (.c (.f 54 [] [])) [(.t 9)]⟩,o1 8 (.mv (.t 10)),o1 11 (.ext 0 (.t 8)),o1 12 (.ext 1 (.t 8)),o1 6 (.mv (.t 11)),o1 7 (.mv (.t 12))]
abbrev KJ:List AO:=
 [o1 13 (.mv (.t 7)),o1 14 (.bin .neq (.t 13) (.c (.n .i64 0)))]
abbrev KI:List AO:=
 [o1 15 (.bd [.sl0,.n .i64 0,.n .i64 0,.sl0] []),o1 16 (.mv (.t 7)),⟨none,none,.ap (.st 4 (.t 4) (.t 15))⟩,o1 5 (.mv (.t 16))]
abbrev KM:List (Nat×AO):=
 [(2,(o1 18 (.mv (.t 1)))),(1,(o1 17 (.ld 4 true (.t 2)))),(1,(o1 19 (.ld 4 true (.t 2)))),(0,⟨some 20,none,.cl (.t 18) [(.t 19)]⟩),(3,⟨some 21,none,.cl (.c (.f 52 [] [])) [(.t 17),(.t 20)]⟩),(3,⟨none,none,.ap (.st 4 (.t 4) (.t 21))⟩),(2,(o1 5 (.mv (.c (.n .i64 0)))))]
abbrev Pz:AF:=⟨22,(.seq (.reg KL) (.seq (.seq (.reg KK) (.seq (.reg KJ) (.cond (.t 14) (.seq (.reg KI) .ret) .skip))) (.seq (.mix KM) .ret))),[.ld 4 true (.t 4),.mv (.t 5)]⟩
theorem wQ:bi Tryz.prog (aj Tryz.prog 24) 24=some Pz:=by kernel_rfl
/-! optimizer.copied-/
abbrev KG:List AO:=
 [o1 2 (.bx 25 0 (.t 0)),o1 4 (.al 25 [.sl0,.n .i64 0,.n .i64 0,.sl0])]
abbrev KF:List AO:=
 [o1 5 (.fa 0 (.t 2)),o1 6 (.ld 1 false (.t 5)),⟨some 7,none,.cl (.c (.f 79 [] [])) [(.t 6)]⟩,o1 8 (.mv (.t 1)),⟨some 9,none,.cl (.c (.f 80 [] [])) [(.t 8)]⟩,o1 10 (.fa 0 (.t 2)),⟨none,none,.ap (.st 1 (.t 10) (.t 7))⟩,o1 11 (.fa 3 (.t 2)),⟨none,none,.ap (.st 1 (.t 11) (.t 9))⟩]
abbrev KE:List AO:=
 [o1 12 (.ld 4 true (.t 2)),⟨none,none,.ap (.st 4 (.t 4) (.t 12))⟩]
abbrev Py:AF:=⟨13,(.seq (.reg KG) (.seq (.reg KF) (.seq (.reg KE) .ret))),[.ld 4 true (.t 4)]⟩
theorem KH:bi Tryz.prog (aj Tryz.prog 52) 52=some Py:=by kernel_rfl
/-! optimizer.Fold-/
abbrev KD:List AO:=
 [o1 1 (.bx 25 0 (.t 0)),o1 2 (.al 25 [.sl0,.n .i64 0,.n .i64 0,.sl0]),o1 3 (.mv (.c (.n .i64 0)))]
abbrev KC:List AO:=
 [o1 4 (.ld 4 true (.t 1)),⟨some 5,none,.cl (.c (.f 24 [] [])) [(.t 4),(.c (.f 25 [] []))]⟩,o1 6 (.ext 0 (.t 5)),o1 7 (.ext 1 (.t 5)),⟨none,none,.ap (.st 4 (.t 2) (.t 6))⟩,o1 3 (.mv (.t 7))]
abbrev Px:AF:=⟨8,(.seq (.reg KD) (.seq (.reg KC) .ret)),[.ld 4 true (.t 2),.mv (.t 3)]⟩
theorem wP:bi Tryz.prog (aj Tryz.prog 10) 10=some Px:=by kernel_rfl
/-! compactorref24.writes-/
abbrev Ky:List AO:=
 [o1 3 (.bx 25 0 (.t 0)),o1 6 (.mv (.c .sl0))]
abbrev Kx:List AO:=
 [o1 11 (.fa 1 (.t 3)),o1 12 (.ld 1 false (.t 11)),o1 13 (.ms 4 1 1 [.b false] (.t 12) (.t 12)),o1 7 (.mv (.t 13))]
abbrev Kw:List AO:=
 [o1 14 (.mv (.t 1)),o1 8 (.mv (.t 14))]
abbrev Kv:List AO:=
 [o1 15 (.mv (.t 8)),o1 16 (.mv (.t 2)),o1 17 (.bin .lss (.t 15) (.t 16))]
abbrev Ku:List AO:=
 [o1 21 (.fa 3 (.t 3)),o1 22 (.ld 1 false (.t 21)),o1 23 (.mv (.t 8)),o1 24 (.ia 5 (.t 22) (.t 23)),o1 25 (.ld 5 true (.t 24)),⟨some 26,none,.cl (.c (.f 34 [] [])) [(.t 25)]⟩,o1 20 (.mv (.t 26)),o1 27 (.ext 0 (.t 20)),o1 28 (.ext 1 (.t 20)),o1 9 (.mv (.t 27)),o1 10 (.mv (.t 28))]
abbrev Kt:List AO:=
 [o1 29 (.mv (.t 10)),o1 30 (.bin .geq (.t 29) (.c (.n .i64 0)))]
abbrev Ks:List AO:=
 [o1 31 (.mv (.t 7)),o1 32 (.mv (.t 10)),o1 33 (.ia 1 (.t 31) (.t 32)),⟨none,none,.ap (.st 1 (.t 33) (.c (.b true)))⟩]
abbrev KA:AC:=
 (.seq (.reg Ku) (.seq (.reg Kt) (.cond (.t 30) (.reg Ks) .skip)))
abbrev Kr:List AO:=
 [o1 18 (.mv (.t 8)),o1 19 (.bin .add (.t 18) (.c (.n .i64 1))),o1 8 (.mv (.t 19))]
abbrev KB:AC:=
 (.seq (.seq (.reg Kv) (.cond (.t 17) .skip (.exit 0))) (.seq (.block 1 KA) (.reg Kr)))
abbrev A6:AC:=
 (.loop KB)
abbrev A5:List AO:=
 [o1 34 (.mv (.t 7)),o1 6 (.mv (.t 34))]
abbrev Pw:AF:=⟨35,(.seq (.reg Ky) (.seq (.reg Kx) (.seq (.seq (.reg Kw) (.block 0 A6)) (.seq (.reg A5) .ret)))),[.mv (.t 6)]⟩
theorem Kz:bi Tryz.prog (aj Tryz.prog 31) 31=some Pw:=by kernel_rfl
/-! compactorref24.copyKnown-/
/-! compactorref24.forget-/
/-! compactorref24.bothKnown-/
/-! compactorref24.folded-/
/-! compactorref24.Fold-/
abbrev Ko:List AO:=
 [o1 1 (.bx 25 0 (.t 0)),o1 2 (.al 25 [.sl0,.n .i64 0,.n .i64 0,.sl0]),o1 3 (.mv (.c (.n .i64 0)))]
abbrev Kn:List AO:=
 [o1 20 (.ld 4 true (.t 1)),⟨some 21,none,.cl (.c (.f 26 [] [])) [(.t 20)]⟩,o1 19 (.mv (.t 21)),o1 22 (.ext 0 (.t 19)),o1 23 (.ext 1 (.t 19)),o1 4 (.mv (.t 22)),o1 5 (.mv (.t 23))]
abbrev Km:List AO:=
 [o1 24 (.mv (.t 5)),o1 25 (.bin .neq (.t 24) (.c (.n .i64 0)))]
abbrev Kl:List AO:=
 [o1 26 (.bd [.sl0,.n .i64 0,.n .i64 0,.sl0] []),o1 27 (.mv (.t 5)),⟨none,none,.ap (.st 4 (.t 2) (.t 26))⟩,o1 3 (.mv (.t 27))]
abbrev Kk:List AO:=
 [o1 29 (.fa 3 (.t 1)),o1 30 (.ld 1 false (.t 29)),⟨some 31,none,.cl (.c (.f 27 [] [])) [(.t 30)]⟩,o1 28 (.mv (.t 31)),o1 32 (.ext 0 (.t 28)),o1 33 (.ext 1 (.t 28)),o1 34 (.ext 2 (.t 28)),o1 6 (.mv (.t 32)),o1 7 (.mv (.t 33)),o1 8 (.mv (.t 34))]
abbrev Kj:List AO:=
 [o1 35 (.ld 4 true (.t 1)),⟨some 36,none,.cl (.c (.f 28 [] [])) [(.t 35)]⟩,o1 9 (.al 25 [.sl0,.n .i64 0,.n .i64 0,.sl0]),⟨none,none,.ap (.st 4 (.t 9) (.t 36))⟩]
abbrev Kq:List (Nat×AO):=
 [(2,(o1 37 (.fa 1 (.t 1)))),(1,(o1 38 (.ld 1 false (.t 37)))),(2,(o1 40 (.fa 1 (.t 1)))),(1,(o1 41 (.ld 1 false (.t 40))))]
abbrev Kg:AT:=
 (.alt (o1 39 (.ms 4 1 1 [.b false] (.t 38) (.t 38))) (.alt (o1 42 (.ms 35 1 4 [.n .u32 0] (.t 41) (.t 41))) (.alt (o1 43 (.bd [.sl0,.sl0] [(0,1,(.t 39)),(1,1,(.t 42))])) (.alt (o1 10 (.al 50 [.sl0,.sl0])) (.alt ⟨none,none,.ap (.st 2 (.t 10) (.t 43))⟩ .fin .none) .none) (.alt (o1 10 (.al 50 [.sl0,.sl0])) (.alt (o1 43 (.bd [.sl0,.sl0] [(0,1,(.t 39)),(1,1,(.t 42))])) (.alt ⟨none,none,.ap (.st 2 (.t 10) (.t 43))⟩ .fin .none) .none) .none)) (.alt (o1 10 (.al 50 [.sl0,.sl0])) (.alt (o1 42 (.ms 35 1 4 [.n .u32 0] (.t 41) (.t 41))) (.alt (o1 43 (.bd [.sl0,.sl0] [(0,1,(.t 39)),(1,1,(.t 42))])) (.alt ⟨none,none,.ap (.st 2 (.t 10) (.t 43))⟩ .fin .none) .none) .none) .none)) (.alt (o1 42 (.ms 35 1 4 [.n .u32 0] (.t 41) (.t 41))) (.alt (o1 39 (.ms 4 1 1 [.b false] (.t 38) (.t 38))) (.alt (o1 43 (.bd [.sl0,.sl0] [(0,1,(.t 39)),(1,1,(.t 42))])) (.alt (o1 10 (.al 50 [.sl0,.sl0])) (.alt ⟨none,none,.ap (.st 2 (.t 10) (.t 43))⟩ .fin .none) .none) (.alt (o1 10 (.al 50 [.sl0,.sl0])) (.alt (o1 43 (.bd [.sl0,.sl0] [(0,1,(.t 39)),(1,1,(.t 42))])) (.alt ⟨none,none,.ap (.st 2 (.t 10) (.t 43))⟩ .fin .none) .none) .none)) (.alt (o1 10 (.al 50 [.sl0,.sl0])) (.alt (o1 39 (.ms 4 1 1 [.b false] (.t 38) (.t 38))) (.alt (o1 43 (.bd [.sl0,.sl0] [(0,1,(.t 39)),(1,1,(.t 42))])) (.alt ⟨none,none,.ap (.st 2 (.t 10) (.t 43))⟩ .fin .none) .none) .none) .none)) (.alt (o1 10 (.al 50 [.sl0,.sl0])) (.alt (o1 39 (.ms 4 1 1 [.b false] (.t 38) (.t 38))) (.alt (o1 42 (.ms 35 1 4 [.n .u32 0] (.t 41) (.t 41))) (.alt (o1 43 (.bd [.sl0,.sl0] [(0,1,(.t 39)),(1,1,(.t 42))])) (.alt ⟨none,none,.ap (.st 2 (.t 10) (.t 43))⟩ .fin .none) .none) .none) (.alt (o1 42 (.ms 35 1 4 [.n .u32 0] (.t 41) (.t 41))) (.alt (o1 39 (.ms 4 1 1 [.b false] (.t 38) (.t 38))) (.alt (o1 43 (.bd [.sl0,.sl0] [(0,1,(.t 39)),(1,1,(.t 42))])) (.alt ⟨none,none,.ap (.st 2 (.t 10) (.t 43))⟩ .fin .none) .none) .none) .none)) .none)))
abbrev Ki:List AO:=
 [o1 11 (.mv (.c (.n .i64 0)))]
abbrev Kh:List AO:=
 [o1 44 (.mv (.t 11)),o1 45 (.fa 1 (.t 1)),o1 46 (.ld 1 false (.t 45)),o1 47 (.bin .lss (.t 44) (.t 46))]
abbrev AL:List AO:=
 [o1 50 (.fa 0 (.t 10)),o1 51 (.ld 1 false (.t 50)),o1 52 (.mv (.t 11)),o1 53 (.ia 1 (.t 51) (.t 52)),⟨none,none,.ap (.st 1 (.t 53) (.c (.b true)))⟩]
abbrev A2:AC:=
 (.reg AL)
abbrev AJ:List AO:=
 [o1 48 (.mv (.t 11)),o1 49 (.bin .add (.t 48) (.c (.n .i64 1))),o1 11 (.mv (.t 49))]
abbrev A4:AC:=
 (.seq (.seq (.reg Kh) (.cond (.t 47) .skip (.exit 0))) (.seq (.block 1 A2) (.reg AJ)))
abbrev A1:AC:=
 (.loop A4)
abbrev AG:List AO:=
 [o1 12 (.mv (.c .sl0))]
abbrev AD:List AO:=
 [o1 13 (.mv (.c (.n .i64 0)))]
abbrev AA:List AO:=
 [o1 54 (.mv (.t 13)),o1 55 (.fa 3 (.t 1)),o1 56 (.ld 1 false (.t 55)),o1 57 (.len (.t 56)),o1 58 (.bin .lss (.t 54) (.t 57))]
abbrev Az:List AO:=
 [o1 61 (.fa 3 (.t 1)),o1 62 (.ld 1 false (.t 61)),o1 63 (.mv (.t 13)),o1 64 (.ia 5 (.t 62) (.t 63)),o1 65 (.ld 5 true (.t 64)),o1 14 (.al 37 [.n .i64 0,.n .i64 0,.n .i64 0,.n .i64 0,.n .u32 0]),⟨none,none,.ap (.st 5 (.t 14) (.t 65))⟩]
abbrev Ay:List AO:=
 [o1 66 (.mv (.t 12)),o1 67 (.len (.t 66)),o1 15 (.mv (.t 67))]
abbrev Ax:List AO:=
 [o1 68 (.fa 0 (.t 14)),o1 69 (.ld 1 false (.t 68))]
abbrev Aw:List AO:=
 [o1 99 (.bin .eql (.t 69) (.c (.n .i64 27))),o1 98 (.mv (.t 99))]
abbrev Av:List AO:=
 [o1 100 (.mv (.t 12)),o1 101 (.ld 2 true (.t 10)),⟨some 102,none,.cl (.c (.f 29 [] [])) [(.t 101)]⟩,o1 103 (.bs 50 2 1 [.sl0,.sl0] [(0,2,(.t 102))]),o1 104 (.app 50 2 48 (.t 100) (.t 103)),o1 12 (.mv (.t 104))]
abbrev Au:List AO:=
 [o1 106 (.bin .eql (.t 69) (.c (.n .i64 28))),o1 105 (.mv (.t 106))]
abbrev AW:List (Nat×AO):=
 [(2,(o1 107 (.mv (.t 12)))),(2,(o1 108 (.mv (.t 15)))),(2,(o1 109 (.bin .sub (.t 108) (.c (.n .i64 1))))),(2,(o1 111 (.mv (.t 12)))),(2,(o1 112 (.mv (.t 15)))),(2,(o1 113 (.bin .sub (.t 112) (.c (.n .i64 1))))),(2,(o1 114 (.ia 2 (.t 111) (.t 113)))),(1,(o1 110 (.ld 2 true (.t 10)))),(1,(o1 115 (.ld 2 true (.t 114)))),(0,⟨some 116,none,.cl (.c (.f 29 [] [])) [(.t 115)]⟩),(2,(o1 117 (.ia 2 (.t 107) (.t 109)))),(3,⟨none,none,.ap (.st 2 (.t 117) (.t 110))⟩),(3,⟨none,none,.ap (.st 2 (.t 10) (.t 116))⟩)]
abbrev Aq:List AO:=
 [o1 119 (.bin .eql (.t 69) (.c (.n .i64 29))),o1 118 (.mv (.t 119))]
abbrev AU:List (Nat×AO):=
 [(2,(o1 122 (.mv (.t 13)))),(2,(o1 123 (.mv (.t 6)))),(2,(o1 124 (.mv (.t 13)))),(2,(o1 125 (.ia 1 (.t 123) (.t 124)))),(1,(o1 120 (.ld 2 true (.t 10)))),(1,(o1 121 (.ld 4 true (.t 1)))),(1,(o1 126 (.ld 1 false (.t 125)))),(0,⟨some 127,none,.cl (.c (.f 31 [] [])) [(.t 121),(.t 122),(.t 126)]⟩),(3,⟨some 128,none,.cl (.c (.f 30 [] [])) [(.t 120),(.t 127)]⟩),(3,⟨none,none,.ap (.st 2 (.t 10) (.t 128))⟩)]
abbrev Ap:List AO:=
 [o1 130 (.bin .eql (.t 69) (.c (.n .i64 31))),o1 129 (.mv (.t 130))]
abbrev AR:List (Nat×AO):=
 [(2,(o1 131 (.fa 3 (.t 1)))),(2,(o1 133 (.mv (.t 6)))),(2,(o1 134 (.mv (.t 13)))),(2,(o1 135 (.ia 1 (.t 133) (.t 134)))),(1,(o1 132 (.ld 1 false (.t 131)))),(1,(o1 136 (.ld 1 false (.t 135)))),(2,(o1 137 (.ia 5 (.t 132) (.t 136)))),(2,(o1 138 (.fa 0 (.t 137)))),(1,(o1 139 (.ld 1 false (.t 138)))),(2,(o1 140 (.bin .eql (.t 139) (.c (.n .i64 29)))))]
abbrev AQ:List (Nat×AO):=
 [(2,(o1 143 (.mv (.t 6)))),(2,(o1 144 (.mv (.t 13)))),(2,(o1 145 (.ia 1 (.t 143) (.t 144)))),(2,(o1 147 (.mv (.t 13)))),(1,(o1 141 (.ld 2 true (.t 10)))),(1,(o1 142 (.ld 4 true (.t 1)))),(1,(o1 146 (.ld 1 false (.t 145)))),(0,⟨some 148,none,.cl (.c (.f 31 [] [])) [(.t 142),(.t 146),(.t 147)]⟩),(3,⟨some 149,none,.cl (.c (.f 30 [] [])) [(.t 141),(.t 148)]⟩),(3,⟨none,none,.ap (.st 2 (.t 10) (.t 149))⟩)]
abbrev AN:List (Nat×AO):=
 [(2,(o1 151 (.mv (.t 12)))),(2,(o1 152 (.mv (.t 15)))),(2,(o1 153 (.bin .sub (.t 152) (.c (.n .i64 1))))),(2,(o1 154 (.ia 2 (.t 151) (.t 153)))),(1,(o1 150 (.ld 2 true (.t 10)))),(1,(o1 155 (.ld 2 true (.t 154)))),(3,⟨some 156,none,.cl (.c (.f 32 [] [])) [(.t 150),(.t 155)]⟩),(3,⟨none,none,.ap (.st 2 (.t 10) (.t 156))⟩)]
abbrev Ao:List AO:=
 [o1 157 (.mv (.t 12)),o1 158 (.mv (.t 15)),o1 159 (.bin .sub (.t 158) (.c (.n .i64 1))),o1 160 (.sl 2 (.t 157) none (some (.t 159))),o1 12 (.mv (.t 160))]
abbrev An:List AO:=
 [o1 70 (.ld 5 true (.t 14)),o1 71 (.ld 2 true (.t 10)),⟨some 72,none,.cl (.c (.f 33 [] [])) [(.t 70),(.t 71)]⟩,o1 16 (.al 37 [.n .i64 0,.n .i64 0,.n .i64 0,.n .i64 0,.n .u32 0]),⟨none,none,.ap (.st 5 (.t 16) (.t 72))⟩]
abbrev Am:List AO:=
 [o1 73 (.fa 3 (.t 9)),o1 74 (.ld 1 false (.t 73)),o1 75 (.mv (.t 13)),o1 76 (.ld 5 true (.t 16)),o1 77 (.ia 5 (.t 74) (.t 75)),⟨none,none,.ap (.st 5 (.t 77) (.t 76))⟩]
abbrev Al:List AO:=
 [o1 79 (.ld 5 true (.t 16)),⟨some 80,none,.cl (.c (.f 34 [] [])) [(.t 79)]⟩,o1 78 (.mv (.t 80)),o1 81 (.ext 0 (.t 78)),o1 82 (.ext 1 (.t 78)),o1 17 (.mv (.t 81)),o1 18 (.mv (.t 82))]
abbrev Ak:List AO:=
 [o1 83 (.mv (.t 18)),o1 84 (.bin .geq (.t 83) (.c (.n .i64 0)))]
abbrev AM:List (Nat×AO):=
 [(2,(o1 85 (.fa 0 (.t 10)))),(2,(o1 87 (.mv (.t 18)))),(2,(o1 88 (.fa 1 (.t 10)))),(2,(o1 90 (.mv (.t 18)))),(2,(o1 91 (.fa 0 (.t 16)))),(2,(o1 94 (.fa 4 (.t 16)))),(1,(o1 86 (.ld 1 false (.t 85)))),(1,(o1 89 (.ld 1 false (.t 88)))),(1,(o1 92 (.ld 1 false (.t 91)))),(2,(o1 93 (.bin .eql (.t 92) (.c (.n .i64 0))))),(2,(o1 96 (.ia 1 (.t 86) (.t 87)))),(1,(o1 95 (.ld 1 false (.t 94)))),(0,⟨none,none,.ap (.st 1 (.t 96) (.t 93))⟩),(2,(o1 97 (.ia 1 (.t 89) (.t 90)))),(3,⟨none,none,.ap (.st 1 (.t 97) (.t 95))⟩)]
abbrev A0:AC:=
 (.seq (.reg Aw) (.cond (.t 98) (.reg Av) (.seq (.reg Au) (.cond (.t 105) (.mix AW) (.seq (.reg Aq) (.cond (.t 118) (.mix AU) (.seq (.reg Ap) (.cond (.t 129) (.seq (.mix AR) (.cond (.t 140) (.mix AQ) (.seq (.mix AN) (.reg Ao)))) (.seq (.reg An) (.seq (.reg Am) (.seq (.reg Al) (.seq (.reg Ak) (.cond (.t 84) (.mix AM) .skip)))))))))))))
abbrev AZ:AC:=
 (.seq (.reg Az) (.seq (.reg Ay) (.seq (.reg Ax) (.block 4 A0))))
abbrev Aj:List AO:=
 [o1 59 (.mv (.t 13)),o1 60 (.bin .add (.t 59) (.c (.n .i64 1))),o1 13 (.mv (.t 60))]
abbrev A3:AC:=
 (.seq (.seq (.reg AA) (.cond (.t 58) .skip (.exit 2))) (.seq (.block 3 AZ) (.reg Aj)))
abbrev AY:AC:=
 (.loop A3)
abbrev Ai:List AO:=
 [o1 161 (.ld 4 true (.t 9)),⟨none,none,.ap (.st 4 (.t 2) (.t 161))⟩,o1 3 (.mv (.c (.n .i64 0)))]
abbrev Pv:AF:=⟨162,(.seq (.reg Ko) (.seq (.seq (.reg Kn) (.seq (.reg Km) (.cond (.t 25) (.seq (.reg Kl) .ret) .skip))) (.seq (.reg Kk) (.seq (.reg Kj) (.seq (.frk Kq Kg) (.seq (.seq (.reg Ki) (.block 0 A1)) (.seq (.reg AG) (.seq (.seq (.reg AD) (.block 2 AY)) (.seq (.reg Ai) .ret))))))))),[.ld 4 true (.t 2),.mv (.t 3)]⟩
theorem Kp:bi Tryz.prog (aj Tryz.prog 11) 11=some Pv:=by kernel_rfl
/-! compactorref23.Uses-/
abbrev Kd:List AO:=
 [o1 1 (.bx 37 0 (.t 0)),o1 2 (.mv (.c .sl0)),o1 3 (.mv (.c (.n .i64 0)))]
abbrev Kc:List AO:=
 [o1 10 (.fa 0 (.t 1)),o1 11 (.ld 1 false (.t 10)),⟨some 12,none,.cl (.c (.f 62 [] [])) [(.t 11)]⟩,o1 9 (.mv (.t 12)),o1 13 (.ext 0 (.t 9)),o1 14 (.ext 1 (.t 9)),o1 15 (.ext 2 (.t 9)),o1 16 (.ext 3 (.t 9)),o1 4 (.mv (.t 13)),o1 5 (.mv (.t 14)),o1 6 (.mv (.t 15)),o1 7 (.mv (.t 16))]
abbrev Kb:List AO:=
 [o1 8 (.mv (.c .sl0))]
abbrev Ka:List AO:=
 [o1 17 (.mv (.t 5))]
abbrev J9:List AO:=
 [o1 18 (.mv (.t 8)),o1 19 (.fa 2 (.t 1)),o1 20 (.ld 1 false (.t 19)),o1 21 (.bs 3 1 1 [.n .i64 0] [(0,1,(.t 20))]),o1 22 (.app 3 1 8 (.t 18) (.t 21)),o1 8 (.mv (.t 22))]
abbrev J8:List AO:=
 [o1 23 (.mv (.t 6))]
abbrev J7:List AO:=
 [o1 24 (.mv (.t 8)),o1 25 (.fa 3 (.t 1)),o1 26 (.ld 1 false (.t 25)),o1 27 (.bs 3 1 1 [.n .i64 0] [(0,1,(.t 26))]),o1 28 (.app 3 1 8 (.t 24) (.t 27)),o1 8 (.mv (.t 28))]
abbrev J6:List AO:=
 [o1 29 (.mv (.t 4))]
abbrev Kf:List (Nat×AO):=
 [(2,(o1 30 (.mv (.t 8)))),(2,(o1 31 (.fa 1 (.t 1)))),(2,(o1 2 (.mv (.t 30)))),(1,(o1 32 (.ld 1 false (.t 31)))),(2,(o1 3 (.mv (.t 32))))]
abbrev J5:List AO:=
 [o1 33 (.mv (.t 8)),o1 2 (.mv (.t 33)),o1 3 (.mv (.c (.n .i64 (-1))))]
abbrev Pu:AF:=⟨34,(.seq (.reg Kd) (.seq (.reg Kc) (.seq (.reg Kb) (.seq (.seq (.reg Ka) (.cond (.t 17) (.reg J9) .skip)) (.seq (.seq (.reg J8) (.cond (.t 23) (.reg J7) .skip)) (.seq (.seq (.reg J6) (.cond (.t 29) (.seq (.mix Kf) .ret) .skip)) (.seq (.reg J5) .ret))))))),[.mv (.t 2),.mv (.t 3)]⟩
theorem Ke:bi Tryz.prog (aj Tryz.prog 34) 34=some Pu:=by kernel_rfl
/-! compactorref23.Parts-/
/-! slices.Clone[[]api.Array,api.Array]-/
abbrev J3:List AO:=
 [o1 2 (.mv (.c .sl0))]
abbrev J2:List AO:=
 [o1 3 (.mv (.t 0)),⟨some 4,none,.sn false (.t 3)⟩]
abbrev J1:List AO:=
 [o1 2 (.mv (.c .sl0))]
abbrev J0:List AO:=
 [o1 5 (.bs 93 2 0 [] []),o1 6 (.mv (.t 0)),o1 7 (.app 93 2 16 (.t 5) (.t 6)),o1 2 (.mv (.t 7))]
abbrev Pt:AF:=⟨8,(.seq (.reg J3) (.seq (.seq (.reg J2) (.cond (.t 4) (.seq (.reg J1) .ret) .skip)) (.seq (.reg J0) .ret))),[.mv (.t 2)]⟩
theorem J4:bi Tryz.prog (aj Tryz.prog 79) 79=some Pt:=by kernel_rfl
/-! slices.Clone[[]api.RegInstr,api.RegInstr]-/
abbrev JY:List AO:=
 [o1 2 (.mv (.c .sl0))]
abbrev JX:List AO:=
 [o1 3 (.mv (.t 0)),⟨some 4,none,.sn false (.t 3)⟩]
abbrev JW:List AO:=
 [o1 2 (.mv (.c .sl0))]
abbrev JV:List AO:=
 [o1 5 (.bs 37 5 0 [] []),o1 6 (.mv (.t 0)),o1 7 (.app 37 5 40 (.t 5) (.t 6)),o1 2 (.mv (.t 7))]
abbrev Ps:AF:=⟨8,(.seq (.reg JY) (.seq (.seq (.reg JX) (.cond (.t 4) (.seq (.reg JW) .ret) .skip)) (.seq (.reg JV) .ret))),[.mv (.t 2)]⟩
theorem JZ:bi Tryz.prog (aj Tryz.prog 80) 80=some Ps:=by kernel_rfl
/-! compactorref23.Same-/
abbrev JR:List AO:=
 [o1 2 (.bx 25 0 (.t 0)),o1 3 (.bx 25 0 (.t 1)),o1 4 (.mv (.c (.b false)))]
abbrev JQ:List AO:=
 [o1 6 (.fa 1 (.t 2)),o1 7 (.ld 1 false (.t 6)),o1 8 (.fa 1 (.t 3)),o1 9 (.ld 1 false (.t 8)),o1 10 (.bin .neq (.t 7) (.t 9)),o1 11 (.mv (.t 10)),⟨some 12,some (11,false),.ap (.fa 2 (.t 2))⟩,⟨some 13,some (11,false),.ap (.ld 1 false (.t 12))⟩,⟨some 14,some (11,false),.ap (.fa 2 (.t 3))⟩,⟨some 15,some (11,false),.ap (.ld 1 false (.t 14))⟩,⟨some 16,some (11,false),.ap (.bin .neq (.t 13) (.t 15))⟩,o1 17 (.pick (.t 11) (.c (.b true)) (.t 16)),o1 18 (.mv (.t 17)),⟨some 19,some (18,false),.ap (.fa 0 (.t 2))⟩,⟨some 20,some (18,false),.ap (.ld 1 false (.t 19))⟩,⟨some 21,some (18,false),.ap (.fa 0 (.t 3))⟩,⟨some 22,some (18,false),.ap (.ld 1 false (.t 21))⟩,⟨some 23,some (18,false),.cl (.c (.f 35 [] [])) [(.t 20),(.t 22)]⟩,⟨some 24,some (18,false),.ap (.un .not (.t 23))⟩,o1 25 (.pick (.t 18) (.c (.b true)) (.t 24)),o1 26 (.mv (.t 25)),⟨some 27,some (26,false),.ap (.fa 3 (.t 2))⟩,⟨some 28,some (26,false),.ap (.ld 1 false (.t 27))⟩,⟨some 29,some (26,false),.ap (.len (.t 28))⟩,⟨some 30,some (26,false),.ap (.fa 3 (.t 3))⟩,⟨some 31,some (26,false),.ap (.ld 1 false (.t 30))⟩,⟨some 32,some (26,false),.ap (.len (.t 31))⟩,⟨some 33,some (26,false),.ap (.bin .neq (.t 29) (.t 32))⟩,o1 34 (.pick (.t 26) (.c (.b true)) (.t 33))]
abbrev JP:List AO:=
 [o1 4 (.mv (.c (.b false)))]
abbrev JO:List AO:=
 [o1 5 (.mv (.c (.n .i64 0)))]
abbrev JN:List AO:=
 [o1 35 (.mv (.t 5)),o1 36 (.fa 3 (.t 2)),o1 37 (.ld 1 false (.t 36)),o1 38 (.len (.t 37)),o1 39 (.bin .lss (.t 35) (.t 38))]
abbrev JS:List (Nat×AO):=
 [(2,(o1 42 (.fa 3 (.t 2)))),(2,(o1 44 (.mv (.t 5)))),(2,(o1 47 (.fa 3 (.t 3)))),(2,(o1 49 (.mv (.t 5)))),(1,(o1 43 (.ld 1 false (.t 42)))),(2,(o1 45 (.ia 5 (.t 43) (.t 44)))),(1,(o1 46 (.ld 5 true (.t 45)))),(1,(o1 48 (.ld 1 false (.t 47)))),(2,(o1 50 (.ia 5 (.t 48) (.t 49)))),(1,(o1 51 (.ld 5 true (.t 50)))),(2,(o1 52 (.eq true (.st [(0,1,.n),(1,1,.n),(2,1,.n),(3,1,.n),(4,1,.n)]) (.t 46) (.t 51))))]
abbrev JM:List AO:=
 [o1 4 (.mv (.c (.b false)))]
abbrev JT:AC:=
 (.seq (.mix JS) (.cond (.t 52) (.seq (.reg JM) .ret) .skip))
abbrev JL:List AO:=
 [o1 40 (.mv (.t 5)),o1 41 (.bin .add (.t 40) (.c (.n .i64 1))),o1 5 (.mv (.t 41))]
abbrev JU:AC:=
 (.seq (.seq (.reg JN) (.cond (.t 39) .skip (.exit 0))) (.seq (.block 1 JT) (.reg JL)))
abbrev Ah:AC:=
 (.loop JU)
abbrev Ag:List AO:=
 [o1 4 (.mv (.c (.b true)))]
abbrev Pr:AF:=⟨53,(.seq (.reg JR) (.seq (.seq (.reg JQ) (.cond (.t 34) (.seq (.reg JP) .ret) .skip)) (.seq (.seq (.reg JO) (.block 0 Ah)) (.seq (.reg Ag) .ret)))),[.mv (.t 4)]⟩
theorem wO:bi Tryz.prog (aj Tryz.prog 12) 12=some Pr:=by kernel_rfl
/-! compactorref15.SameArrays-/
abbrev JG:List AO:=
 [o1 4 (.mv (.c (.b false)))]
abbrev JF:List AO:=
 [o1 6 (.mv (.t 0)),o1 7 (.len (.t 6)),o1 8 (.mv (.t 1)),o1 9 (.len (.t 8)),o1 10 (.bin .neq (.t 7) (.t 9))]
abbrev JE:List AO:=
 [o1 4 (.mv (.c (.b false)))]
abbrev JD:List AO:=
 [o1 5 (.mv (.c (.n .i64 0)))]
abbrev JC:List AO:=
 [o1 11 (.mv (.t 5)),o1 12 (.mv (.t 0)),o1 13 (.len (.t 12)),o1 14 (.bin .lss (.t 11) (.t 13))]
abbrev JI:List (Nat×AO):=
 [(2,(o1 17 (.mv (.t 0)))),(2,(o1 18 (.mv (.t 5)))),(2,(o1 19 (.ia 2 (.t 17) (.t 18)))),(2,(o1 21 (.mv (.t 1)))),(2,(o1 22 (.mv (.t 5)))),(2,(o1 23 (.ia 2 (.t 21) (.t 22)))),(1,(o1 20 (.ld 2 true (.t 19)))),(1,(o1 24 (.ld 2 true (.t 23)))),(2,(o1 25 (.eq true (.st [(0,1,.b),(1,1,.n)]) (.t 20) (.t 24))))]
abbrev JB:List AO:=
 [o1 4 (.mv (.c (.b false)))]
abbrev JJ:AC:=
 (.seq (.mix JI) (.cond (.t 25) (.seq (.reg JB) .ret) .skip))
abbrev JA:List AO:=
 [o1 15 (.mv (.t 5)),o1 16 (.bin .add (.t 15) (.c (.n .i64 1))),o1 5 (.mv (.t 16))]
abbrev JK:AC:=
 (.seq (.seq (.reg JC) (.cond (.t 14) .skip (.exit 0))) (.seq (.block 1 JJ) (.reg JA)))
abbrev Af:AC:=
 (.loop JK)
abbrev Ae:List AO:=
 [o1 4 (.mv (.c (.b true)))]
abbrev Pd:AF:=⟨26,(.seq (.reg JG) (.seq (.seq (.reg JF) (.cond (.t 10) (.seq (.reg JE) .ret) .skip)) (.seq (.seq (.reg JD) (.block 0 Af)) (.seq (.reg Ae) .ret)))),[.mv (.t 4)]⟩
theorem JH:bi Tryz.prog (aj Tryz.prog 35) 35=some Pd:=by kernel_rfl
/-! compactorref24.Few-/
abbrev Jy:List AO:=
 [o1 1 (.bx 25 0 (.t 0)),o1 2 (.mv (.c (.b false)))]
abbrev Jx:List AO:=
 [o1 3 (.ld 4 true (.t 1)),⟨some 4,none,.cl (.c (.f 21 [] [])) [(.t 3)]⟩,o1 5 (.mv (.t 4)),⟨some 6,some (5,true),.ap (.fa 1 (.t 1))⟩,⟨some 7,some (5,true),.ap (.ld 1 false (.t 6))⟩,⟨some 8,some (5,true),.ap (.bin .leq (.t 7) (.c (.n .i64 60)))⟩,⟨some 9,some (5,true),.ap (.mv (.t 8))⟩,⟨some 10,some (9,false),.ap (.fa 1 (.t 1))⟩,⟨some 11,some (9,false),.ap (.ld 1 false (.t 10))⟩,⟨some 12,some (9,false),.ap (.bin .gtr (.t 11) (.c (.n .i64 1024)))⟩,⟨some 13,some (5,true),.ap (.pick (.t 9) (.c (.b true)) (.t 12))⟩,o1 14 (.pick (.t 5) (.t 13) (.c (.b false))),o1 2 (.mv (.t 14))]
abbrev Pc:AF:=⟨15,(.seq (.reg Jy) (.seq (.reg Jx) .ret)),[.mv (.t 2)]⟩
theorem Jz:bi Tryz.prog (aj Tryz.prog 8) 8=some Pc:=by kernel_rfl
/-! compactorref23.Few-/
abbrev Jv:List AO:=
 [o1 1 (.bx 25 0 (.t 0)),o1 2 (.mv (.c (.b false)))]
abbrev Ju:List AO:=
 [o1 3 (.fa 0 (.t 1)),o1 4 (.ld 1 false (.t 3)),o1 5 (.len (.t 4)),o1 6 (.bin .leq (.t 5) (.c (.n .i64 20))),o1 7 (.mv (.t 6)),⟨some 8,some (7,true),.ap (.fa 3 (.t 1))⟩,⟨some 9,some (7,true),.ap (.ld 1 false (.t 8))⟩,⟨some 10,some (7,true),.ap (.len (.t 9))⟩,⟨some 11,some (7,true),.ap (.bin .leq (.t 10) (.c (.n .i64 300)))⟩,o1 12 (.pick (.t 7) (.t 11) (.c (.b false))),o1 2 (.mv (.t 12))]
abbrev Pb:AF:=⟨13,(.seq (.reg Jv) (.seq (.reg Ju) .ret)),[.mv (.t 2)]⟩
theorem Jw:bi Tryz.prog (aj Tryz.prog 21) 21=some Pb:=by kernel_rfl
/-! compactorlaw24.OptimizerFolds-/
abbrev Jt:List AO:=
 [o1 1 (.bx 25 0 (.t 0)),o1 2 (.mv (.c (.b false)))]
abbrev Js:List AO:=
 [o1 7 (.ld 4 true (.t 1)),⟨some 8,none,.cl (.c (.f 8 [] [])) [(.t 7)]⟩,o1 9 (.un .not (.t 8))]
abbrev Jr:List AO:=
 [⟨some 10,none,.cl (.c (.f 9 [] [])) []⟩,o1 2 (.mv (.t 10))]
abbrev Jq:List AO:=
 [o1 12 (.ld 4 true (.t 1)),⟨some 13,none,.cl (.c (.f 10 [] [])) [(.t 12)]⟩,o1 11 (.mv (.t 13)),o1 14 (.ext 0 (.t 11)),o1 15 (.ext 1 (.t 11)),o1 3 (.al 25 [.sl0,.n .i64 0,.n .i64 0,.sl0]),⟨none,none,.ap (.st 4 (.t 3) (.t 14))⟩,o1 4 (.mv (.t 15))]
abbrev Jp:List AO:=
 [o1 17 (.ld 4 true (.t 1)),⟨some 18,none,.cl (.c (.f 11 [] [])) [(.t 17)]⟩,o1 16 (.mv (.t 18)),o1 19 (.ext 0 (.t 16)),o1 20 (.ext 1 (.t 16)),o1 5 (.al 25 [.sl0,.n .i64 0,.n .i64 0,.sl0]),⟨none,none,.ap (.st 4 (.t 5) (.t 19))⟩,o1 6 (.mv (.t 20))]
abbrev Jo:List AO:=
 [⟨some 21,none,.cl (.c (.f 9 [] [])) []⟩,o1 22 (.mv (.t 21)),⟨some 23,some (22,true),.ap (.ld 4 true (.t 3))⟩,⟨some 24,some (22,true),.ap (.ld 4 true (.t 5))⟩,⟨some 25,some (22,true),.cl (.c (.f 12 [] [])) [(.t 23),(.t 24)]⟩,o1 26 (.pick (.t 22) (.t 25) (.c (.b false))),o1 27 (.mv (.t 26)),⟨some 28,some (27,true),.ap (.mv (.t 4))⟩,⟨some 29,some (27,true),.ap (.mv (.t 6))⟩,⟨some 30,some (27,true),.ap (.bin .eql (.t 28) (.t 29))⟩,o1 31 (.pick (.t 27) (.t 30) (.c (.b false))),o1 2 (.mv (.t 31))]
abbrev Pa:AF:=⟨32,(.seq (.reg Jt) (.seq (.seq (.reg Js) (.cond (.t 9) (.seq (.reg Jr) .ret) .skip)) (.seq (.reg Jq) (.seq (.reg Jp) (.seq (.reg Jo) .ret))))),[.mv (.t 2)]⟩
theorem wN:bi Tryz.prog (aj Tryz.prog 3) 3=some Pa:=by kernel_rfl
/-! lower.shapes-/
/-! optimizer.Copies-/
abbrev Jm:List AO:=
 [o1 1 (.bx 25 0 (.t 0)),o1 2 (.al 25 [.sl0,.n .i64 0,.n .i64 0,.sl0]),o1 3 (.mv (.c (.n .i64 0)))]
abbrev Jl:List AO:=
 [o1 4 (.ld 4 true (.t 1)),⟨some 5,none,.cl (.c (.f 24 [] [])) [(.t 4),(.c (.f 36 [] []))]⟩,o1 6 (.ext 0 (.t 5)),o1 7 (.ext 1 (.t 5)),⟨none,none,.ap (.st 4 (.t 2) (.t 6))⟩,o1 3 (.mv (.t 7))]
abbrev O9:AF:=⟨8,(.seq (.reg Jm) (.seq (.reg Jl) .ret)),[.ld 4 true (.t 2),.mv (.t 3)]⟩
theorem Jn:bi Tryz.prog (aj Tryz.prog 13) 13=some O9:=by kernel_rfl
/-! optimizer.copies-/
abbrev Jj:List AO:=
 [o1 1 (.bx 25 0 (.t 0)),o1 2 (.mv (.c .sl0))]
abbrev Ji:List AO:=
 [o1 3 (.fa 3 (.t 1)),o1 4 (.ld 1 false (.t 3)),o1 5 (.bd [.f0,.f0] [(0,1,(.c (.f 65 [] []))),(1,1,(.c (.f 66 [] [])))]),⟨some 6,none,.cl (.c (.f 64 [] [])) [(.t 4),(.c .sl0),(.t 5)]⟩,o1 2 (.mv (.t 6))]
abbrev O8:AF:=⟨7,(.seq (.reg Jj) (.seq (.reg Ji) .ret)),[.mv (.t 2)]⟩
theorem Jk:bi Tryz.prog (aj Tryz.prog 36) 36=some O8:=by kernel_rfl
/-! optimizer.walk[optimizer.same]-/
abbrev Jg:List AO:=
 [o1 5 (.bx 108 0 (.t 2)),o1 6 (.mv (.c .sl0))]
abbrev Jf:List AO:=
 [o1 16 (.mv (.t 0)),⟨some 17,none,.cl (.c (.f 86 [] [])) [(.t 16)]⟩,o1 7 (.mv (.t 17))]
abbrev Je:List AO:=
 [o1 8 (.mv (.c .sl0))]
abbrev Jd:List AO:=
 [o1 9 (.mv (.c .sl0))]
abbrev Jc:List AO:=
 [o1 18 (.mv (.t 0)),o1 19 (.len (.t 18)),o1 20 (.mv (.c (.n .i64 0)))]
abbrev Jb:List AO:=
 [o1 21 (.bin .lss (.t 20) (.t 19))]
abbrev Ja:List AO:=
 [o1 22 (.mv (.t 20)),o1 23 (.ia 5 (.t 18) (.t 20)),o1 24 (.ld 5 true (.t 23)),o1 11 (.al 37 [.n .i64 0,.n .i64 0,.n .i64 0,.n .i64 0,.n .u32 0]),o1 10 (.mv (.t 22)),⟨none,none,.ap (.st 5 (.t 11) (.t 24))⟩]
abbrev I9:List AO:=
 [o1 26 (.fa 1 (.t 5)),o1 27 (.ld 1 false (.t 26)),o1 28 (.ld 5 true (.t 11)),o1 29 (.mv (.t 1)),⟨some 30,none,.cl (.t 27) [(.t 28),(.t 29)]⟩,o1 25 (.mv (.t 30)),o1 31 (.ext 0 (.t 25)),o1 32 (.ext 1 (.t 25)),o1 33 (.ext 2 (.t 25)),o1 12 (.al 37 [.n .i64 0,.n .i64 0,.n .i64 0,.n .i64 0,.n .u32 0]),⟨none,none,.ap (.st 5 (.t 12) (.t 31))⟩,o1 13 (.mv (.t 32)),o1 14 (.mv (.t 33))]
abbrev I8:List AO:=
 [o1 34 (.mv (.t 13)),o1 35 (.un .not (.t 34))]
abbrev I7:List AO:=
 [o1 36 (.mv (.t 9)),o1 37 (.len (.t 36)),o1 38 (.bin .sub (.t 37) (.c (.n .i64 1))),o1 15 (.mv (.t 38))]
abbrev z6:List AO:=
 [o1 40 (.fa 0 (.t 11)),o1 41 (.ld 1 false (.t 40)),o1 42 (.bin .eql (.t 41) (.c (.n .i64 27))),o1 39 (.mv (.t 42))]
abbrev z5:List AO:=
 [o1 43 (.mv (.t 9)),o1 44 (.mv (.t 1)),o1 45 (.bs 104 1 1 [.sl0] [(0,1,(.t 44))]),o1 46 (.app 104 1 24 (.t 43) (.t 45)),o1 9 (.mv (.t 46))]
abbrev zZ:List AO:=
 [o1 48 (.fa 0 (.t 11)),o1 49 (.ld 1 false (.t 48)),o1 50 (.bin .eql (.t 49) (.c (.n .i64 28))),o1 47 (.mv (.t 50))]
abbrev zY:List AO:=
 [o1 51 (.mv (.t 9)),o1 52 (.mv (.t 15)),o1 53 (.mv (.t 1)),o1 54 (.mv (.t 9)),o1 55 (.mv (.t 15)),o1 56 (.ia 1 (.t 54) (.t 55)),o1 57 (.ld 1 false (.t 56)),o1 58 (.ia 1 (.t 51) (.t 52)),⟨none,none,.ap (.st 1 (.t 58) (.t 53))⟩,o1 1 (.mv (.t 57))]
abbrev zX:List AO:=
 [o1 60 (.fa 0 (.t 11)),o1 61 (.ld 1 false (.t 60)),o1 62 (.bin .eql (.t 61) (.c (.n .i64 29))),o1 59 (.mv (.t 62))]
abbrev z9:List (Nat×AO):=
 [(2,(o1 63 (.mv (.t 1)))),(2,(o1 65 (.mv (.t 0)))),(2,(o1 66 (.mv (.t 10)))),(2,(o1 67 (.mv (.t 7)))),(2,(o1 68 (.mv (.t 10)))),(2,(o1 69 (.ia 1 (.t 67) (.t 68)))),(1,(o1 64 (.ld 2 true (.t 5)))),(1,(o1 70 (.ld 1 false (.t 69)))),(2,(o1 71 (.sl 5 (.t 65) (some (.t 66)) (some (.t 70))))),(3,⟨some 72,none,.cl (.c (.f 97 [] [])) [(.t 63),(.t 64),(.t 71)]⟩),(2,(o1 1 (.mv (.t 72))))]
abbrev zW:List AO:=
 [o1 74 (.fa 0 (.t 11)),o1 75 (.ld 1 false (.t 74)),o1 76 (.bin .eql (.t 75) (.c (.n .i64 31))),o1 77 (.mv (.t 76)),⟨some 78,some (77,true),.ap (.mv (.t 0))⟩,⟨some 79,some (77,true),.ap (.mv (.t 7))⟩,⟨some 80,some (77,true),.ap (.mv (.t 10))⟩,⟨some 81,some (77,true),.ap (.ia 1 (.t 79) (.t 80))⟩,⟨some 82,some (77,true),.ap (.ld 1 false (.t 81))⟩,⟨some 83,some (77,true),.ap (.ia 5 (.t 78) (.t 82))⟩,⟨some 84,some (77,true),.ap (.fa 0 (.t 83))⟩,⟨some 85,some (77,true),.ap (.ld 1 false (.t 84))⟩,⟨some 86,some (77,true),.ap (.bin .eql (.t 85) (.c (.n .i64 29)))⟩,o1 87 (.pick (.t 77) (.t 86) (.c (.b false))),o1 73 (.mv (.t 87))]
abbrev z8:List (Nat×AO):=
 [(2,(o1 88 (.mv (.t 1)))),(2,(o1 90 (.mv (.t 0)))),(2,(o1 91 (.mv (.t 7)))),(2,(o1 92 (.mv (.t 10)))),(2,(o1 93 (.ia 1 (.t 91) (.t 92)))),(2,(o1 95 (.mv (.t 10)))),(1,(o1 89 (.ld 2 true (.t 5)))),(1,(o1 94 (.ld 1 false (.t 93)))),(2,(o1 96 (.sl 5 (.t 90) (some (.t 94)) (some (.t 95))))),(3,⟨some 97,none,.cl (.c (.f 97 [] [])) [(.t 88),(.t 89),(.t 96)]⟩),(2,(o1 1 (.mv (.t 97))))]
abbrev zV:List AO:=
 [o1 99 (.fa 0 (.t 11)),o1 100 (.ld 1 false (.t 99)),o1 101 (.bin .eql (.t 100) (.c (.n .i64 31))),o1 98 (.mv (.t 101))]
abbrev z7:List (Nat×AO):=
 [(2,(o1 102 (.mv (.t 1)))),(2,(o1 103 (.mv (.t 9)))),(2,(o1 104 (.mv (.t 15)))),(2,(o1 105 (.ia 1 (.t 103) (.t 104)))),(2,(o1 108 (.mv (.t 9)))),(2,(o1 109 (.mv (.t 15)))),(2,(o1 110 (.sl 1 (.t 108) none (some (.t 109))))),(1,(o1 106 (.ld 1 false (.t 105)))),(3,⟨some 107,none,.cl (.c (.f 98 [] [])) [(.t 102),(.t 106)]⟩),(2,(o1 1 (.mv (.t 107)))),(2,(o1 9 (.mv (.t 110))))]
abbrev Ac:AC:=
 (.seq (.reg z6) (.cond (.t 39) (.reg z5) (.seq (.reg zZ) (.cond (.t 47) (.reg zY) (.seq (.reg zX) (.cond (.t 59) (.mix z9) (.seq (.reg zW) (.cond (.t 73) (.mix z8) (.seq (.reg zV) (.cond (.t 98) (.mix z7) .skip))))))))))
abbrev zU:List AO:=
 [o1 111 (.mv (.t 1)),o1 112 (.ld 2 true (.t 5)),o1 113 (.ld 5 true (.t 12)),o1 114 (.bs 37 5 1 [.n .i64 0,.n .i64 0,.n .i64 0,.n .i64 0,.n .u32 0] [(0,5,(.t 113))]),⟨some 115,none,.cl (.c (.f 97 [] [])) [(.t 111),(.t 112),(.t 114)]⟩,o1 116 (.mv (.t 14)),o1 117 (.app 102 2 16 (.t 115) (.t 116)),o1 1 (.mv (.t 117))]
abbrev zT:List AO:=
 [o1 118 (.mv (.t 8)),o1 119 (.ld 5 true (.t 12)),o1 120 (.bs 37 5 1 [.n .i64 0,.n .i64 0,.n .i64 0,.n .i64 0,.n .u32 0] [(0,5,(.t 119))]),o1 121 (.app 37 5 40 (.t 118) (.t 120)),o1 8 (.mv (.t 121))]
abbrev Ab:AC:=
 (.seq (.reg Ja) (.seq (.reg I9) (.seq (.seq (.reg I8) (.cond (.t 35) (.exit 1) .skip)) (.seq (.reg I7) (.seq (.block 2 Ac) (.seq (.reg zU) (.reg zT)))))))
abbrev zS:List AO:=
 [o1 122 (.bin .add (.t 20) (.c (.n .i64 1))),o1 20 (.mv (.t 122))]
abbrev Ad:AC:=
 (.seq (.reg Jb) (.seq (.cond (.t 21) .skip (.exit 0)) (.seq (.block 1 Ab) (.reg zS))))
abbrev Aa:AC:=
 (.loop Ad)
abbrev zR:List AO:=
 [o1 123 (.mv (.t 8)),o1 6 (.mv (.t 123))]
abbrev O7:AF:=⟨124,(.seq (.reg Jg) (.seq (.reg Jf) (.seq (.reg Je) (.seq (.reg Jd) (.seq (.seq (.reg Jc) (.block 0 Aa)) (.seq (.reg zR) .ret)))))),[.mv (.t 6)]⟩
theorem Jh:bi Tryz.prog (aj Tryz.prog 64) 64=some O7:=by kernel_rfl
/-! optimizer.copies$1-/
abbrev I5:List AO:=
 [o1 2 (.bx 37 0 (.t 0)),o1 3 (.bx 102 0 (.t 1)),o1 4 (.mv (.c (.b false)))]
abbrev I4:List AO:=
 [o1 6 (.ld 5 true (.t 2)),⟨some 7,none,.cl (.c (.f 57 [] [])) [(.t 6)]⟩,o1 5 (.mv (.t 7))]
abbrev I3:List AO:=
 [o1 8 (.mv (.t 5)),o1 9 (.fa 0 (.t 3)),o1 10 (.ld 1 false (.t 9)),o1 11 (.bin .eql (.t 8) (.t 10)),o1 12 (.mv (.t 11)),⟨some 13,some (12,false),.ap (.mv (.t 5))⟩,⟨some 14,some (12,false),.ap (.fa 1 (.t 3))⟩,⟨some 15,some (12,false),.ap (.ld 1 false (.t 14))⟩,⟨some 16,some (12,false),.ap (.bin .eql (.t 13) (.t 15))⟩,o1 17 (.pick (.t 12) (.c (.b true)) (.t 16)),o1 4 (.mv (.t 17))]
abbrev O6:AF:=⟨18,(.seq (.reg I5) (.seq (.reg I4) (.seq (.reg I3) .ret))),[.mv (.t 4)]⟩
theorem I6:bi Tryz.prog (aj Tryz.prog 65) 65=some O6:=by kernel_rfl
/-! optimizer.copies$2-/
abbrev IZ:List AO:=
 [o1 2 (.bx 37 0 (.t 0)),o1 4 (.al 37 [.n .i64 0,.n .i64 0,.n .i64 0,.n .i64 0,.n .u32 0]),o1 5 (.mv (.c (.b false))),o1 6 (.mv (.c .sl0))]
abbrev I1:List (Nat×AO):=
 [(2,(o1 7 (.mv (.t 1)))),(2,(o1 8 (.fa 2 (.t 2)))),(2,(o1 11 (.mv (.t 1)))),(2,(o1 12 (.fa 3 (.t 2)))),(1,(o1 9 (.ld 1 false (.t 8)))),(1,(o1 13 (.ld 1 false (.t 12)))),(0,⟨some 10,none,.cl (.c (.f 67 [] [])) [(.t 7),(.t 9)]⟩),(2,(o1 15 (.fa 2 (.t 2)))),(3,⟨some 14,none,.cl (.c (.f 67 [] [])) [(.t 11),(.t 13)]⟩),(3,⟨none,none,.ap (.st 1 (.t 15) (.t 10))⟩),(2,(o1 16 (.fa 3 (.t 2)))),(3,⟨none,none,.ap (.st 1 (.t 16) (.t 14))⟩)]
abbrev IY:List AO:=
 [o1 18 (.fa 0 (.t 2)),o1 19 (.ld 1 false (.t 18)),o1 20 (.bin .neq (.t 19) (.c (.n .i64 36))),o1 17 (.mv (.t 20))]
abbrev IX:List AO:=
 [o1 21 (.ld 5 true (.t 2)),⟨none,none,.ap (.st 5 (.t 4) (.t 21))⟩,o1 5 (.mv (.c (.b true))),o1 6 (.mv (.c .sl0))]
abbrev IW:List AO:=
 [o1 23 (.fa 2 (.t 2)),o1 24 (.ld 1 false (.t 23)),o1 25 (.fa 1 (.t 2)),o1 26 (.ld 1 false (.t 25)),o1 27 (.bin .eql (.t 24) (.t 26)),o1 22 (.mv (.t 27))]
abbrev IV:List AO:=
 [o1 28 (.ld 5 true (.t 2)),⟨none,none,.ap (.st 5 (.t 4) (.t 28))⟩,o1 5 (.mv (.c (.b false))),o1 6 (.mv (.c .sl0))]
abbrev I2:AC:=
 (.seq (.reg IY) (.cond (.t 17) (.seq (.reg IX) .ret) (.seq (.reg IW) (.cond (.t 22) (.seq (.reg IV) .ret) .skip))))
abbrev I0:List (Nat×AO):=
 [(1,(o1 29 (.ld 5 true (.t 2)))),(2,(o1 30 (.fa 1 (.t 2)))),(1,(o1 31 (.ld 1 false (.t 30)))),(2,(o1 32 (.fa 2 (.t 2)))),(1,(o1 33 (.ld 1 false (.t 32)))),(2,(o1 34 (.bd [.n .i64 0,.n .i64 0] [(0,1,(.t 31)),(1,1,(.t 33))])))]
abbrev IU:AT:=
 (.alt (o1 35 (.bs 102 2 1 [.n .i64 0,.n .i64 0] [(0,2,(.t 34))])) (.alt ⟨none,none,.ap (.st 5 (.t 4) (.t 29))⟩ (.alt (o1 5 (.mv (.c (.b true)))) (.alt (o1 6 (.mv (.t 35))) .fin .none) .none) .none) (.alt ⟨none,none,.ap (.st 5 (.t 4) (.t 29))⟩ (.alt (o1 35 (.bs 102 2 1 [.n .i64 0,.n .i64 0] [(0,2,(.t 34))])) (.alt (o1 5 (.mv (.c (.b true)))) (.alt (o1 6 (.mv (.t 35))) .fin .none) .none) (.alt (o1 5 (.mv (.c (.b true)))) (.alt (o1 35 (.bs 102 2 1 [.n .i64 0,.n .i64 0] [(0,2,(.t 34))])) (.alt (o1 6 (.mv (.t 35))) .fin .none) .none) .none)) .none))
abbrev O5:AF:=⟨36,(.seq (.reg IZ) (.seq (.mix I1) (.seq (.block 0 I2) (.seq (.frk I0 IU) .ret)))),[.ld 5 true (.t 4),.mv (.t 5),.mv (.t 6)]⟩
theorem ss:bi Tryz.prog (aj Tryz.prog 66) 66=some O5:=by kernel_rfl
/-! optimizer.without[optimizer.same]-/
abbrev IM:List AO:=
 [o1 4 (.bx 108 0 (.t 1)),o1 6 (.mv (.c .sl0))]
abbrev IL:List AO:=
 [o1 7 (.mv (.c .sl0))]
abbrev IK:List AO:=
 [o1 10 (.mv (.t 0)),o1 11 (.len (.t 10)),o1 12 (.mv (.c (.n .i64 0)))]
abbrev IJ:List AO:=
 [o1 13 (.bin .lss (.t 12) (.t 11))]
abbrev II:List AO:=
 [o1 14 (.ia 2 (.t 10) (.t 12)),o1 15 (.ld 2 true (.t 14)),o1 9 (.al 102 [.n .i64 0,.n .i64 0]),⟨none,none,.ap (.st 2 (.t 9) (.t 15))⟩]
abbrev IH:List AO:=
 [o1 16 (.mv (.t 2)),o1 17 (.mf 114 [] [(.t 4),(.t 9)]),⟨some 18,none,.cl (.c (.f 107 [] [])) [(.t 16),(.t 17)]⟩,o1 19 (.un .not (.t 18))]
abbrev IG:List AO:=
 [o1 20 (.mv (.t 7)),o1 21 (.ld 2 true (.t 9)),o1 22 (.bs 102 2 1 [.n .i64 0,.n .i64 0] [(0,2,(.t 21))]),o1 23 (.app 102 2 16 (.t 20) (.t 22)),o1 7 (.mv (.t 23))]
abbrev IQ:AC:=
 (.seq (.reg II) (.seq (.reg IH) (.cond (.t 19) (.reg IG) .skip)))
abbrev IE:List AO:=
 [o1 24 (.bin .add (.t 12) (.c (.n .i64 1))),o1 12 (.mv (.t 24))]
abbrev IR:AC:=
 (.seq (.reg IJ) (.seq (.cond (.t 13) .skip (.exit 0)) (.seq (.block 1 IQ) (.reg IE))))
abbrev zQ:AC:=
 (.loop IR)
abbrev zP:List AO:=
 [o1 25 (.mv (.t 7)),o1 6 (.mv (.t 25))]
abbrev O4:AF:=⟨26,(.seq (.reg IM) (.seq (.reg IL) (.seq (.seq (.reg IK) (.block 0 zQ)) (.seq (.reg zP) .ret)))),[.mv (.t 6)]⟩
theorem IP:bi Tryz.prog (aj Tryz.prog 97) 97=some O4:=by kernel_rfl
/-! optimizer.both[optimizer.same]-/
abbrev Iz:List AO:=
 [o1 4 (.mv (.c .sl0))]
abbrev Iy:List AO:=
 [o1 5 (.mv (.c .sl0))]
abbrev Ix:List AO:=
 [o1 8 (.mv (.t 0)),o1 9 (.len (.t 8)),o1 10 (.mv (.c (.n .i64 0)))]
abbrev Iw:List AO:=
 [o1 11 (.bin .lss (.t 10) (.t 9))]
abbrev Iv:List AO:=
 [o1 12 (.ia 2 (.t 8) (.t 10)),o1 13 (.ld 2 true (.t 12)),o1 7 (.al 102 [.n .i64 0,.n .i64 0]),⟨none,none,.ap (.st 2 (.t 7) (.t 13))⟩]
abbrev Iu:List AO:=
 [o1 14 (.mv (.t 1)),o1 15 (.ld 2 true (.t 7)),⟨some 16,none,.cl (.c (.f 115 [] [])) [(.t 14),(.t 15)]⟩]
abbrev It:List AO:=
 [o1 17 (.mv (.t 5)),o1 18 (.ld 2 true (.t 7)),o1 19 (.bs 102 2 1 [.n .i64 0,.n .i64 0] [(0,2,(.t 18))]),o1 20 (.app 102 2 16 (.t 17) (.t 19)),o1 5 (.mv (.t 20))]
abbrev IB:AC:=
 (.seq (.reg Iv) (.seq (.reg Iu) (.cond (.t 16) (.reg It) .skip)))
abbrev Ir:List AO:=
 [o1 21 (.bin .add (.t 10) (.c (.n .i64 1))),o1 10 (.mv (.t 21))]
abbrev IC:AC:=
 (.seq (.reg Iw) (.seq (.cond (.t 11) .skip (.exit 0)) (.seq (.block 1 IB) (.reg Ir))))
abbrev zO:AC:=
 (.loop IC)
abbrev zN:List AO:=
 [o1 22 (.mv (.t 5)),o1 4 (.mv (.t 22))]
abbrev OZ:AF:=⟨23,(.seq (.reg Iz) (.seq (.reg Iy) (.seq (.seq (.reg Ix) (.block 0 zO)) (.seq (.reg zN) .ret)))),[.mv (.t 4)]⟩
theorem IA:bi Tryz.prog (aj Tryz.prog 98) 98=some OZ:=by kernel_rfl
/-! optimizer.without[optimizer.same]$1-/
abbrev Ip:List AO:=
 [o1 3 (.bx 37 0 (.t 0)),o1 4 (.mv (.c (.b false)))]
abbrev Im:List AO:=
 [o1 5 (.fa 0 (.t 1)),o1 6 (.ld 1 false (.t 5)),o1 7 (.ld 5 true (.t 3)),o1 8 (.ld 2 true (.t 2)),⟨some 9,none,.cl (.t 6) [(.t 7),(.t 8)]⟩,o1 4 (.mv (.t 9))]
abbrev OY:AF:=⟨10,(.seq (.reg Ip) (.seq (.reg Im) .ret)),[.mv (.t 4)]⟩
theorem Iq:bi Tryz.prog (aj Tryz.prog 114) 114=some OY:=by kernel_rfl
/-! slices.Contains[[]optimizer.same,optimizer.same]-/
abbrev Ik:List AO:=
 [o1 3 (.bx 102 0 (.t 1)),o1 4 (.mv (.c (.b false)))]
abbrev Ij:List AO:=
 [o1 5 (.mv (.t 0)),o1 6 (.ld 2 true (.t 3)),⟨some 7,none,.cl (.c (.f 140 [] [])) [(.t 5),(.t 6)]⟩,o1 8 (.bin .geq (.t 7) (.c (.n .i64 0))),o1 4 (.mv (.t 8))]
abbrev OX:AF:=⟨9,(.seq (.reg Ik) (.seq (.reg Ij) .ret)),[.mv (.t 4)]⟩
theorem Il:bi Tryz.prog (aj Tryz.prog 115) 115=some OX:=by kernel_rfl
/-! slices.Index[[]optimizer.same,optimizer.same]-/
abbrev Ib:List AO:=
 [o1 3 (.bx 102 0 (.t 1)),o1 4 (.mv (.c (.n .i64 0)))]
abbrev Ia:List AO:=
 [o1 6 (.mv (.t 0)),o1 7 (.len (.t 6)),o1 8 (.mv (.c (.n .i64 0)))]
abbrev H9:List AO:=
 [o1 9 (.bin .lss (.t 8) (.t 7))]
abbrev H8:List AO:=
 [o1 10 (.mv (.t 8)),o1 5 (.mv (.t 10))]
abbrev Ie:List (Nat×AO):=
 [(2,(o1 12 (.mv (.t 0)))),(2,(o1 13 (.mv (.t 5)))),(2,(o1 14 (.ia 2 (.t 12) (.t 13)))),(1,(o1 11 (.ld 2 true (.t 3)))),(1,(o1 15 (.ld 2 true (.t 14)))),(2,(o1 16 (.eq false (.st [(0,1,.n),(1,1,.n)]) (.t 11) (.t 15))))]
abbrev H7:List AO:=
 [o1 17 (.mv (.t 5)),o1 4 (.mv (.t 17))]
abbrev Ih:AC:=
 (.seq (.reg H8) (.seq (.mix Ie) (.cond (.t 16) (.seq (.reg H7) .ret) .skip)))
abbrev H6:List AO:=
 [o1 18 (.bin .add (.t 8) (.c (.n .i64 1))),o1 8 (.mv (.t 18))]
abbrev Ii:AC:=
 (.seq (.reg H9) (.seq (.cond (.t 9) .skip (.exit 0)) (.seq (.block 1 Ih) (.reg H6))))
abbrev Ig:AC:=
 (.loop Ii)
abbrev zM:List AO:=
 [o1 4 (.mv (.c (.n .i64 (-1))))]
abbrev OW:AF:=⟨19,(.seq (.reg Ib) (.seq (.seq (.reg Ia) (.block 0 Ig)) (.seq (.reg zM) .ret))),[.mv (.t 4)]⟩
theorem Ic:bi Tryz.prog (aj Tryz.prog 140) 140=some OW:=by kernel_rfl
/-! compactorref24.Copies-/
/-! compactorref24.source-/
/-! compactorref24.withoutSources-/
/-! compactorref24.bothSources-/
/-! compactorref24.only-/
/-! compactorref23.Copy-/
abbrev H4:List AO:=
 [o1 1 (.bx 25 0 (.t 0)),o1 2 (.al 25 [.sl0,.n .i64 0,.n .i64 0,.sl0])]
abbrev H3:List AO:=
 [o1 3 (.bs 93 2 0 [] []),o1 4 (.fa 0 (.t 1)),o1 5 (.ld 1 false (.t 4)),o1 6 (.app 93 2 16 (.t 3) (.t 5)),o1 7 (.fa 0 (.t 1)),⟨none,none,.ap (.st 1 (.t 7) (.t 6))⟩]
abbrev HY:List AO:=
 [o1 8 (.bs 37 5 0 [] []),o1 9 (.fa 3 (.t 1)),o1 10 (.ld 1 false (.t 9)),o1 11 (.app 37 5 40 (.t 8) (.t 10)),o1 12 (.fa 3 (.t 1)),⟨none,none,.ap (.st 1 (.t 12) (.t 11))⟩]
abbrev HU:List AO:=
 [o1 13 (.ld 4 true (.t 1)),⟨none,none,.ap (.st 4 (.t 2) (.t 13))⟩]
abbrev OV:AF:=⟨14,(.seq (.reg H4) (.seq (.reg H3) (.seq (.reg HY) (.seq (.reg HU) .ret)))),[.ld 4 true (.t 2)]⟩
theorem H5:bi Tryz.prog (aj Tryz.prog 28) 28=some OV:=by kernel_rfl
/-! compactorlaw24.OptimizerCopies-/
/-! optimizer.Prune-/
abbrev HQ:List AO:=
 [o1 1 (.bx 25 0 (.t 0)),o1 2 (.al 25 [.sl0,.n .i64 0,.n .i64 0,.sl0]),o1 3 (.mv (.c (.n .i64 0)))]
abbrev HL:List AO:=
 [o1 4 (.ld 4 true (.t 1)),⟨some 5,none,.cl (.c (.f 24 [] [])) [(.t 4),(.c (.f 47 [] []))]⟩,o1 6 (.ext 0 (.t 5)),o1 7 (.ext 1 (.t 5)),⟨none,none,.ap (.st 4 (.t 2) (.t 6))⟩,o1 3 (.mv (.t 7))]
abbrev OU:AF:=⟨8,(.seq (.reg HQ) (.seq (.reg HL) .ret)),[.ld 4 true (.t 2),.mv (.t 3)]⟩
theorem HT:bi Tryz.prog (aj Tryz.prog 17) 17=some OU:=by kernel_rfl
/-! optimizer.prune-/
abbrev Hz:List AO:=
 [o1 1 (.bx 25 0 (.t 0)),o1 2 (.mv (.c .sl0))]
abbrev Hy:List AO:=
 [o1 11 (.ld 4 true (.t 1)),⟨some 12,none,.cl (.c (.f 75 [] [])) [(.t 11)]⟩,o1 3 (.mv (.t 12))]
abbrev Hx:List AO:=
 [o1 4 (.mv (.c .sl0))]
abbrev Hw:List AO:=
 [o1 13 (.fa 3 (.t 1)),o1 14 (.ld 1 false (.t 13)),o1 15 (.len (.t 14)),o1 16 (.mv (.c (.n .i64 0)))]
abbrev Hv:List AO:=
 [o1 17 (.bin .lss (.t 16) (.t 15))]
abbrev Hu:List AO:=
 [o1 18 (.mv (.t 16)),o1 19 (.ia 5 (.t 14) (.t 16)),o1 20 (.ld 5 true (.t 19)),o1 6 (.al 37 [.n .i64 0,.n .i64 0,.n .i64 0,.n .i64 0,.n .u32 0]),o1 5 (.mv (.t 18)),⟨none,none,.ap (.st 5 (.t 6) (.t 20))⟩]
abbrev Ht:List AO:=
 [o1 21 (.fa 0 (.t 6)),o1 22 (.ld 1 false (.t 21)),⟨some 23,none,.cl (.c (.f 71 [] [])) [(.t 22)]⟩,o1 24 (.mv (.t 23)),⟨some 25,some (24,false),.ap (.fa 0 (.t 6))⟩,⟨some 26,some (24,false),.ap (.ld 1 false (.t 25))⟩,⟨some 27,some (24,false),.ap (.bin .eql (.t 26) (.c (.n .i64 0)))⟩,o1 28 (.pick (.t 24) (.c (.b true)) (.t 27)),o1 29 (.mv (.t 28)),⟨some 30,some (29,false),.ap (.fa 0 (.t 6))⟩,⟨some 31,some (29,false),.ap (.ld 1 false (.t 30))⟩,⟨some 32,some (29,false),.ap (.bin .eql (.t 31) (.c (.n .i64 36)))⟩,o1 33 (.pick (.t 29) (.c (.b true)) (.t 32)),o1 34 (.mv (.t 33)),⟨some 35,some (34,false),.ap (.fa 0 (.t 6))⟩,⟨some 36,some (34,false),.ap (.ld 1 false (.t 35))⟩,⟨some 37,some (34,false),.ap (.bin .eql (.t 36) (.c (.n .i64 38)))⟩,o1 38 (.pick (.t 34) (.c (.b true)) (.t 37)),o1 7 (.mv (.t 38))]
abbrev HJ:List (Nat×AO):=
 [(2,(o1 39 (.mv (.t 7)))),(2,(o1 40 (.un .not (.t 39)))),(2,(o1 41 (.mv (.t 40)))),(2,⟨some 42,some (41,false),.ap (.mv (.t 3))⟩),(2,⟨some 43,some (41,false),.ap (.mv (.t 5))⟩),(2,⟨some 44,some (41,false),.ap (.bin .add (.t 43) (.c (.n .i64 1)))⟩),(2,⟨some 45,some (41,false),.ap (.ia 1 (.t 42) (.t 44))⟩),(2,⟨some 47,some (41,false),.ap (.fa 1 (.t 6))⟩),(1,⟨some 46,some (41,false),.ap (.ld 1 false (.t 45))⟩),(1,⟨some 48,some (41,false),.ap (.ld 1 false (.t 47))⟩),(2,⟨some 49,some (41,false),.ap (.ia 1 (.t 46) (.t 48))⟩),(1,⟨some 50,some (41,false),.ap (.ld 1 false (.t 49))⟩),(2,(o1 51 (.pick (.t 41) (.c (.b true)) (.t 50))))]
abbrev Hs:List AO:=
 [o1 52 (.mv (.t 4)),o1 53 (.ld 5 true (.t 6)),o1 54 (.bs 37 5 1 [.n .i64 0,.n .i64 0,.n .i64 0,.n .i64 0,.n .u32 0] [(0,5,(.t 53))]),o1 55 (.app 37 5 40 (.t 52) (.t 54)),o1 4 (.mv (.t 55))]
abbrev HK:AC:=
 (.seq (.reg Hu) (.seq (.reg Ht) (.seq (.mix HJ) (.cond (.t 51) (.reg Hs) .skip))))
abbrev zG:List AO:=
 [o1 56 (.bin .add (.t 16) (.c (.n .i64 1))),o1 16 (.mv (.t 56))]
abbrev zL:AC:=
 (.seq (.reg Hv) (.seq (.cond (.t 17) .skip (.exit 0)) (.seq (.block 1 HK) (.reg zG))))
abbrev zJ:AC:=
 (.loop zL)
abbrev zF:List AO:=
 [o1 58 (.mv (.t 4)),⟨some 59,none,.cl (.c (.f 76 [] [])) [(.t 58)]⟩,o1 57 (.mv (.t 59)),o1 60 (.ext 0 (.t 57)),o1 61 (.ext 1 (.t 57)),o1 8 (.mv (.t 60)),o1 9 (.mv (.t 61))]
abbrev zE:List AO:=
 [o1 62 (.mv (.t 9)),o1 63 (.un .not (.t 62))]
abbrev zD:List AO:=
 [o1 64 (.mv (.t 4)),o1 2 (.mv (.t 64))]
abbrev zC:List AO:=
 [o1 10 (.mv (.c (.n .i64 2)))]
abbrev zB:List AO:=
 [o1 65 (.mv (.t 4)),o1 66 (.mv (.t 8)),o1 67 (.ia 5 (.t 65) (.t 66)),o1 68 (.fa 0 (.t 67)),o1 69 (.ld 1 false (.t 68)),o1 70 (.bin .eql (.t 69) (.c (.n .i64 28)))]
abbrev zA:List AO:=
 [o1 10 (.mv (.c (.n .i64 1)))]
abbrev zz:List AO:=
 [o1 71 (.mv (.t 4)),o1 72 (.mv (.t 8)),o1 73 (.mv (.t 8)),o1 74 (.mv (.t 10)),o1 75 (.bin .add (.t 73) (.t 74)),⟨some 76,none,.cl (.c (.f 77 [] [])) [(.t 71),(.t 72),(.t 75)]⟩,o1 4 (.mv (.t 76))]
abbrev zI:AC:=
 (.seq (.reg zF) (.seq (.seq (.reg zE) (.cond (.t 63) (.seq (.reg zD) .ret) .skip)) (.seq (.reg zC) (.seq (.seq (.reg zB) (.cond (.t 70) (.reg zA) .skip)) (.reg zz)))))
abbrev zK:AC:=
 (.block 3 zI)
abbrev zH:AC:=
 (.loop zK)
abbrev OT:AF:=⟨77,(.seq (.reg Hz) (.seq (.reg Hy) (.seq (.reg Hx) (.seq (.seq (.reg Hw) (.block 0 zJ)) (.block 2 zH))))),[.mv (.t 2)]⟩
theorem HC:bi Tryz.prog (aj Tryz.prog 47) 47=some OT:=by kernel_rfl
/-! optimizer.live-/
abbrev Ho:List AO:=
 [o1 1 (.bx 25 0 (.t 0)),o1 2 (.mv (.c .sl0))]
abbrev Hn:List AO:=
 [o1 17 (.fa 3 (.t 1)),o1 18 (.ld 1 false (.t 17)),⟨some 19,none,.cl (.c (.f 86 [] [])) [(.t 18)]⟩,o1 3 (.mv (.t 19))]
abbrev Hm:List AO:=
 [o1 20 (.fa 3 (.t 1)),o1 21 (.ld 1 false (.t 20)),o1 22 (.len (.t 21)),o1 23 (.bin .add (.t 22) (.c (.n .i64 1))),o1 24 (.ms 47 1 24 [.sl0] (.t 23) (.t 23)),o1 4 (.mv (.t 24))]
abbrev Hl:List AO:=
 [o1 25 (.mv (.t 4)),o1 26 (.len (.t 25)),o1 27 (.mv (.c (.n .i64 0)))]
abbrev Hk:List AO:=
 [o1 28 (.bin .lss (.t 27) (.t 26))]
abbrev Hj:List AO:=
 [o1 29 (.mv (.t 27)),o1 5 (.mv (.t 29))]
abbrev Hi:List AO:=
 [o1 30 (.mv (.t 4)),o1 31 (.mv (.t 5)),o1 32 (.fa 1 (.t 1)),o1 33 (.ld 1 false (.t 32)),o1 34 (.ms 4 1 1 [.b false] (.t 33) (.t 33)),o1 35 (.ia 1 (.t 30) (.t 31)),⟨none,none,.ap (.st 1 (.t 35) (.t 34))⟩]
abbrev Hq:AC:=
 (.seq (.reg Hj) (.reg Hi))
abbrev Hh:List AO:=
 [o1 36 (.bin .add (.t 27) (.c (.n .i64 1))),o1 27 (.mv (.t 36))]
abbrev Hr:AC:=
 (.seq (.reg Hk) (.seq (.cond (.t 28) .skip (.exit 0)) (.seq (.block 1 Hq) (.reg Hh))))
abbrev zt:AC:=
 (.loop Hr)
abbrev zi:List AO:=
 [o1 6 (.mv (.c (.b true)))]
abbrev zh:List AO:=
 [o1 37 (.mv (.t 6))]
abbrev zg:List AO:=
 [o1 6 (.mv (.c (.b false)))]
abbrev zf:List AO:=
 [o1 38 (.fa 3 (.t 1)),o1 39 (.ld 1 false (.t 38)),o1 40 (.len (.t 39)),o1 41 (.bin .sub (.t 40) (.c (.n .i64 1))),o1 7 (.mv (.t 41))]
abbrev ze:List AO:=
 [o1 42 (.mv (.t 7)),o1 43 (.bin .geq (.t 42) (.c (.n .i64 0)))]
abbrev zd:List AO:=
 [o1 47 (.fa 3 (.t 1)),o1 48 (.ld 1 false (.t 47)),o1 49 (.mv (.t 7)),o1 50 (.ia 5 (.t 48) (.t 49)),o1 51 (.ld 5 true (.t 50)),⟨some 52,none,.cl (.c (.f 89 [] [])) [(.t 51)]⟩,o1 46 (.mv (.t 52)),o1 53 (.ext 0 (.t 46)),o1 54 (.ext 1 (.t 46)),o1 8 (.mv (.t 53)),o1 9 (.mv (.t 54))]
abbrev zc:List AO:=
 [o1 55 (.mv (.t 4)),o1 56 (.mv (.t 7)),o1 57 (.ia 1 (.t 55) (.t 56)),o1 58 (.ld 1 false (.t 57)),⟨some 59,none,.cl (.c (.f 101 [] [])) [(.t 58)]⟩,o1 10 (.mv (.t 59))]
abbrev zb:List AO:=
 [o1 60 (.fa 3 (.t 1)),o1 61 (.ld 1 false (.t 60)),o1 62 (.mv (.t 3)),o1 63 (.mv (.t 7)),⟨some 64,none,.cl (.c (.f 102 [] [])) [(.t 61),(.t 62),(.t 63)]⟩,o1 65 (.len (.t 64)),o1 66 (.mv (.c (.n .i64 0)))]
abbrev za:List AO:=
 [o1 67 (.bin .lss (.t 66) (.t 65))]
abbrev y9:List AO:=
 [o1 68 (.ia 1 (.t 64) (.t 66)),o1 69 (.ld 1 false (.t 68)),o1 12 (.mv (.t 69))]
abbrev y8:List AO:=
 [o1 70 (.mv (.t 4)),o1 71 (.mv (.t 12)),o1 72 (.ia 1 (.t 70) (.t 71)),o1 73 (.ld 1 false (.t 72)),o1 74 (.len (.t 73)),o1 75 (.mv (.c (.n .i64 0)))]
abbrev y6:List AO:=
 [o1 76 (.bin .lss (.t 75) (.t 74))]
abbrev yZ:List AO:=
 [o1 77 (.mv (.t 75)),o1 78 (.ia 1 (.t 73) (.t 75)),o1 79 (.ld 1 false (.t 78)),o1 13 (.mv (.t 77)),o1 14 (.mv (.t 79))]
abbrev yY:List AO:=
 [o1 80 (.mv (.t 10)),o1 81 (.mv (.t 13)),o1 82 (.mv (.t 10)),o1 83 (.mv (.t 13)),o1 84 (.ia 1 (.t 82) (.t 83)),o1 85 (.ld 1 false (.t 84)),o1 86 (.mv (.t 85)),⟨some 87,some (86,false),.ap (.mv (.t 14))⟩,⟨some 88,some (86,false),.ap (.mv (.t 87))⟩,⟨some 89,some (88,true),.ap (.mv (.t 13))⟩,⟨some 90,some (88,true),.ap (.mv (.t 9))⟩,⟨some 91,some (88,true),.ap (.bin .neq (.t 89) (.t 90))⟩,⟨some 92,some (86,false),.ap (.pick (.t 88) (.t 91) (.c (.b false)))⟩,o1 93 (.pick (.t 86) (.c (.b true)) (.t 92)),o1 94 (.ia 1 (.t 80) (.t 81)),⟨none,none,.ap (.st 1 (.t 94) (.t 93))⟩]
abbrev zs:AC:=
 (.seq (.reg yZ) (.reg yY))
abbrev yX:List AO:=
 [o1 95 (.bin .add (.t 75) (.c (.n .i64 1))),o1 75 (.mv (.t 95))]
abbrev zy:AC:=
 (.seq (.reg y6) (.seq (.cond (.t 76) .skip (.exit 8)) (.seq (.block 9 zs) (.reg yX))))
abbrev zr:AC:=
 (.loop zy)
abbrev zq:AC:=
 (.seq (.reg y9) (.seq (.reg y8) (.block 8 zr)))
abbrev yW:List AO:=
 [o1 96 (.bin .add (.t 66) (.c (.n .i64 1))),o1 66 (.mv (.t 96))]
abbrev zx:AC:=
 (.seq (.reg za) (.seq (.cond (.t 67) .skip (.exit 6)) (.seq (.block 7 zq) (.reg yW))))
abbrev zp:AC:=
 (.loop zx)
abbrev yV:List AO:=
 [o1 97 (.mv (.t 8)),o1 98 (.len (.t 97)),o1 99 (.mv (.c (.n .i64 0)))]
abbrev yU:List AO:=
 [o1 100 (.bin .lss (.t 99) (.t 98))]
abbrev yT:List AO:=
 [o1 101 (.ia 1 (.t 97) (.t 99)),o1 102 (.ld 1 false (.t 101)),o1 16 (.mv (.t 102))]
abbrev yS:List AO:=
 [o1 103 (.mv (.t 10)),o1 104 (.mv (.t 16)),o1 105 (.ia 1 (.t 103) (.t 104)),⟨none,none,.ap (.st 1 (.t 105) (.c (.b true)))⟩]
abbrev zo:AC:=
 (.seq (.reg yT) (.reg yS))
abbrev yR:List AO:=
 [o1 106 (.bin .add (.t 99) (.c (.n .i64 1))),o1 99 (.mv (.t 106))]
abbrev zw:AC:=
 (.seq (.reg yU) (.seq (.cond (.t 100) .skip (.exit 10)) (.seq (.block 11 zo) (.reg yR))))
abbrev zn:AC:=
 (.loop zw)
abbrev yQ:List AO:=
 [o1 107 (.mv (.t 10)),o1 108 (.mv (.t 4)),o1 109 (.mv (.t 7)),o1 110 (.ia 1 (.t 108) (.t 109)),o1 111 (.ld 1 false (.t 110)),⟨some 112,none,.cl (.c (.f 103 [] [])) [(.t 107),(.t 111)]⟩,o1 113 (.un .not (.t 112))]
abbrev yP:List AO:=
 [o1 114 (.mv (.t 4)),o1 115 (.mv (.t 7)),o1 116 (.mv (.t 10)),o1 117 (.ia 1 (.t 114) (.t 115)),⟨none,none,.ap (.st 1 (.t 117) (.t 116))⟩,o1 6 (.mv (.c (.b true)))]
abbrev zm:AC:=
 (.seq (.reg zd) (.seq (.reg zc) (.seq (.seq (.reg zb) (.block 6 zp)) (.seq (.seq (.reg yV) (.block 10 zn)) (.seq (.reg yQ) (.cond (.t 113) (.reg yP) .skip))))))
abbrev yO:List AO:=
 [o1 44 (.mv (.t 7)),o1 45 (.bin .sub (.t 44) (.c (.n .i64 1))),o1 7 (.mv (.t 45))]
abbrev zv:AC:=
 (.seq (.seq (.reg ze) (.cond (.t 43) .skip (.exit 4))) (.seq (.block 5 zm) (.reg yO)))
abbrev zl:AC:=
 (.loop zv)
abbrev zk:AC:=
 (.seq (.reg zg) (.seq (.reg zf) (.block 4 zl)))
abbrev zu:AC:=
 (.seq (.seq (.reg zh) (.cond (.t 37) .skip (.exit 2))) (.block 3 zk))
abbrev zj:AC:=
 (.loop zu)
abbrev yN:List AO:=
 [o1 118 (.mv (.t 4)),o1 2 (.mv (.t 118))]
abbrev OS:AF:=⟨119,(.seq (.reg Ho) (.seq (.reg Hn) (.seq (.reg Hm) (.seq (.seq (.reg Hl) (.block 0 zt)) (.seq (.seq (.reg zi) (.block 2 zj)) (.seq (.reg yN) .ret)))))),[.mv (.t 2)]⟩
theorem Hp:bi Tryz.prog (aj Tryz.prog 75) 75=some OS:=by kernel_rfl
/-! optimizer.hollow-/
abbrev Hb:List AO:=
 [o1 2 (.mv (.c (.n .i64 0))),o1 3 (.mv (.c (.b false)))]
abbrev G9:List AO:=
 [o1 4 (.mv (.c (.n .i64 0)))]
abbrev G8:List AO:=
 [o1 6 (.mv (.t 4)),o1 7 (.bin .add (.t 6) (.c (.n .i64 1))),o1 8 (.mv (.t 0)),o1 9 (.len (.t 8)),o1 10 (.bin .lss (.t 7) (.t 9))]
abbrev G7:List AO:=
 [o1 13 (.mv (.t 0)),o1 14 (.mv (.t 4)),o1 15 (.ia 5 (.t 13) (.t 14)),o1 16 (.fa 0 (.t 15)),o1 17 (.ld 1 false (.t 16)),o1 5 (.mv (.t 17))]
abbrev G6:List AO:=
 [o1 18 (.mv (.t 0)),o1 19 (.mv (.t 4)),o1 20 (.bin .add (.t 19) (.c (.n .i64 1))),o1 21 (.ia 5 (.t 18) (.t 20)),o1 22 (.fa 0 (.t 21)),o1 23 (.ld 1 false (.t 22)),o1 24 (.bin .eql (.t 23) (.c (.n .i64 31))),o1 25 (.mv (.t 24)),⟨some 26,some (25,true),.ap (.mv (.t 5))⟩,⟨some 27,some (25,true),.ap (.bin .eql (.t 26) (.c (.n .i64 27)))⟩,⟨some 28,some (25,true),.ap (.mv (.t 27))⟩,⟨some 29,some (28,false),.ap (.mv (.t 5))⟩,⟨some 30,some (28,false),.ap (.bin .eql (.t 29) (.c (.n .i64 29)))⟩,⟨some 31,some (25,true),.ap (.pick (.t 28) (.c (.b true)) (.t 30))⟩,⟨some 32,some (25,true),.ap (.mv (.t 31))⟩,⟨some 33,some (32,false),.ap (.mv (.t 5))⟩,⟨some 34,some (32,false),.ap (.bin .eql (.t 33) (.c (.n .i64 28)))⟩,⟨some 35,some (25,true),.ap (.pick (.t 32) (.c (.b true)) (.t 34))⟩,o1 36 (.pick (.t 25) (.t 35) (.c (.b false)))]
abbrev G5:List AO:=
 [o1 37 (.mv (.t 4)),o1 2 (.mv (.t 37)),o1 3 (.mv (.c (.b true)))]
abbrev Hf:AC:=
 (.seq (.reg G7) (.seq (.reg G6) (.cond (.t 36) (.seq (.reg G5) .ret) .skip)))
abbrev G4:List AO:=
 [o1 11 (.mv (.t 4)),o1 12 (.bin .add (.t 11) (.c (.n .i64 1))),o1 4 (.mv (.t 12))]
abbrev Hg:AC:=
 (.seq (.seq (.reg G8) (.cond (.t 10) .skip (.exit 0))) (.seq (.block 1 Hf) (.reg G4)))
abbrev He:AC:=
 (.loop Hg)
abbrev yM:List AO:=
 [o1 2 (.mv (.c (.n .i64 0))),o1 3 (.mv (.c (.b false)))]
abbrev OQ:AF:=⟨38,(.seq (.reg Hb) (.seq (.seq (.reg G9) (.block 0 He)) (.seq (.reg yM) .ret))),[.mv (.t 2),.mv (.t 3)]⟩
theorem Hd:bi Tryz.prog (aj Tryz.prog 76) 76=some OQ:=by kernel_rfl
/-! slices.Clone[[]bool,bool]-/
abbrev G2:List AO:=
 [o1 2 (.mv (.c .sl0))]
abbrev G1:List AO:=
 [o1 3 (.mv (.t 0)),⟨some 4,none,.sn false (.t 3)⟩]
abbrev G0:List AO:=
 [o1 2 (.mv (.c .sl0))]
abbrev GZ:List AO:=
 [o1 5 (.bs 4 1 0 [] []),o1 6 (.mv (.t 0)),o1 7 (.app 4 1 1 (.t 5) (.t 6)),o1 2 (.mv (.t 7))]
abbrev OP:AF:=⟨8,(.seq (.reg G2) (.seq (.seq (.reg G1) (.cond (.t 4) (.seq (.reg G0) .ret) .skip)) (.seq (.reg GZ) .ret))),[.mv (.t 2)]⟩
theorem G3:bi Tryz.prog (aj Tryz.prog 101) 101=some OP:=by kernel_rfl
/-! optimizer.following-/
abbrev GU:List AO:=
 [o1 6 (.mv (.c .sl0))]
abbrev GQ:List AO:=
 [o1 9 (.mv (.t 1)),o1 10 (.mv (.t 2)),o1 11 (.ia 1 (.t 9) (.t 10)),o1 12 (.ld 1 false (.t 11)),o1 7 (.mv (.t 12))]
abbrev GP:List AO:=
 [o1 13 (.mv (.t 0)),o1 14 (.mv (.t 2)),o1 15 (.ia 5 (.t 13) (.t 14)),o1 16 (.fa 0 (.t 15)),o1 17 (.ld 1 false (.t 16)),o1 8 (.mv (.t 17))]
abbrev GO:List AO:=
 [o1 19 (.mv (.t 8)),o1 20 (.bin .eql (.t 19) (.c (.n .i64 28))),o1 18 (.mv (.t 20))]
abbrev GN:List AO:=
 [o1 21 (.mv (.t 7)),o1 22 (.bin .add (.t 21) (.c (.n .i64 1))),o1 23 (.bs 3 1 1 [.n .i64 0] [(0,1,(.t 22))]),o1 6 (.mv (.t 23))]
abbrev GM:List AO:=
 [o1 25 (.mv (.t 8)),o1 26 (.bin .eql (.t 25) (.c (.n .i64 27))),o1 27 (.mv (.t 26)),⟨some 28,some (27,false),.ap (.mv (.t 8))⟩,⟨some 29,some (27,false),.ap (.bin .eql (.t 28) (.c (.n .i64 29)))⟩,o1 30 (.pick (.t 27) (.c (.b true)) (.t 29)),o1 31 (.mv (.t 30)),⟨some 32,some (31,false),.ap (.mv (.t 8))⟩,⟨some 33,some (31,false),.ap (.bin .eql (.t 32) (.c (.n .i64 30)))⟩,o1 34 (.pick (.t 31) (.c (.b true)) (.t 33)),o1 35 (.mv (.t 34)),⟨some 36,some (35,false),.ap (.mv (.t 8))⟩,⟨some 37,some (35,false),.ap (.bin .eql (.t 36) (.c (.n .i64 31)))⟩,⟨some 38,some (35,false),.ap (.mv (.t 37))⟩,⟨some 39,some (38,true),.ap (.mv (.t 0))⟩,⟨some 40,some (38,true),.ap (.mv (.t 7))⟩,⟨some 41,some (38,true),.ap (.ia 5 (.t 39) (.t 40))⟩,⟨some 42,some (38,true),.ap (.fa 0 (.t 41))⟩,⟨some 43,some (38,true),.ap (.ld 1 false (.t 42))⟩,⟨some 44,some (38,true),.ap (.bin .eql (.t 43) (.c (.n .i64 29)))⟩,⟨some 45,some (35,false),.ap (.pick (.t 38) (.t 44) (.c (.b false)))⟩,o1 46 (.pick (.t 35) (.c (.b true)) (.t 45)),o1 24 (.mv (.t 46))]
abbrev GL:List AO:=
 [o1 47 (.mv (.t 2)),o1 48 (.bin .add (.t 47) (.c (.n .i64 1))),o1 49 (.mv (.t 7)),o1 50 (.bin .add (.t 49) (.c (.n .i64 1))),o1 51 (.bs 3 1 2 [.n .i64 0,.n .i64 0] [(0,1,(.t 48)),(1,1,(.t 50))]),o1 6 (.mv (.t 51))]
abbrev GX:AC:=
 (.seq (.reg GO) (.cond (.t 18) (.seq (.reg GN) .ret) (.seq (.reg GM) (.cond (.t 24) (.seq (.reg GL) .ret) .skip))))
abbrev GK:List AO:=
 [o1 52 (.mv (.t 2)),o1 53 (.bin .add (.t 52) (.c (.n .i64 1))),o1 54 (.bs 3 1 1 [.n .i64 0] [(0,1,(.t 53))]),o1 6 (.mv (.t 54))]
abbrev OB:AF:=⟨55,(.seq (.reg GU) (.seq (.reg GQ) (.seq (.seq (.reg GP) (.block 0 GX)) (.seq (.reg GK) .ret)))),[.mv (.t 6)]⟩
theorem GV:bi Tryz.prog (aj Tryz.prog 102) 102=some OB:=by kernel_rfl
/-! slices.Equal[[]bool,bool]-/
abbrev GG:List AO:=
 [o1 4 (.mv (.c (.b false)))]
abbrev GF:List AO:=
 [o1 6 (.mv (.t 0)),o1 7 (.len (.t 6)),o1 8 (.mv (.t 1)),o1 9 (.len (.t 8)),o1 10 (.bin .neq (.t 7) (.t 9))]
abbrev GD:List AO:=
 [o1 4 (.mv (.c (.b false)))]
abbrev GC:List AO:=
 [o1 11 (.mv (.t 0)),o1 12 (.len (.t 11)),o1 13 (.mv (.c (.n .i64 0)))]
abbrev GB:List AO:=
 [o1 14 (.bin .lss (.t 13) (.t 12))]
abbrev Gz:List AO:=
 [o1 15 (.mv (.t 13)),o1 5 (.mv (.t 15))]
abbrev GI:List (Nat×AO):=
 [(2,(o1 16 (.mv (.t 0)))),(2,(o1 17 (.mv (.t 5)))),(2,(o1 18 (.ia 1 (.t 16) (.t 17)))),(2,(o1 20 (.mv (.t 1)))),(2,(o1 21 (.mv (.t 5)))),(2,(o1 22 (.ia 1 (.t 20) (.t 21)))),(1,(o1 19 (.ld 1 false (.t 18)))),(1,(o1 23 (.ld 1 false (.t 22)))),(2,(o1 24 (.eq true .b (.t 19) (.t 23))))]
abbrev Gy:List AO:=
 [o1 4 (.mv (.c (.b false)))]
abbrev GJ:AC:=
 (.seq (.reg Gz) (.seq (.mix GI) (.cond (.t 24) (.seq (.reg Gy) .ret) .skip)))
abbrev Gx:List AO:=
 [o1 25 (.bin .add (.t 13) (.c (.n .i64 1))),o1 13 (.mv (.t 25))]
abbrev yL:AC:=
 (.seq (.reg GB) (.seq (.cond (.t 14) .skip (.exit 0)) (.seq (.block 1 GJ) (.reg Gx))))
abbrev yK:AC:=
 (.loop yL)
abbrev yJ:List AO:=
 [o1 4 (.mv (.c (.b true)))]
abbrev OA:AF:=⟨26,(.seq (.reg GG) (.seq (.seq (.reg GF) (.cond (.t 10) (.seq (.reg GD) .ret) .skip)) (.seq (.seq (.reg GC) (.block 0 yK)) (.seq (.reg yJ) .ret)))),[.mv (.t 4)]⟩
theorem GH:bi Tryz.prog (aj Tryz.prog 103) 103=some OA:=by kernel_rfl
/-! compactorref24.Prune-/
/-! compactorref24.live-/
/-! compactorref24.idle-/
/-! compactorref24.empty-/
/-! compactorref24.successors-/
/-! compactorlaw24.OptimizerPrunes-/
/-! optimizer.Optimize-/
abbrev DM:List AO:=
 [o1 1 (.bx 25 0 (.t 0)),o1 2 (.al 25 [.sl0,.n .i64 0,.n .i64 0,.sl0]),o1 3 (.mv (.c (.n .i64 0)))]
abbrev DL:List AO:=
 [o1 4 (.ld 4 true (.t 1)),⟨some 5,none,.cl (.c (.f 24 [] [])) [(.t 4),(.c (.f 51 [] []))]⟩,o1 6 (.ext 0 (.t 5)),o1 7 (.ext 1 (.t 5)),⟨none,none,.ap (.st 4 (.t 2) (.t 6))⟩,o1 3 (.mv (.t 7))]
abbrev NU:AF:=⟨8,(.seq (.reg DM) (.seq (.reg DL) .ret)),[.ld 4 true (.t 2),.mv (.t 3)]⟩
theorem DN:bi Tryz.prog (aj Tryz.prog 19) 19=some NU:=by kernel_rfl
/-! compactorref24.Optimize-/
/-! optimizer.Optimize$1-/
abbrev DG:List AO:=
 [o1 1 (.bx 25 0 (.t 0)),o1 2 (.mv (.c .sl0))]
abbrev DF:List AO:=
 [o1 6 (.mv (.c (.n .i64 0)))]
abbrev DE:List AO:=
 [o1 7 (.bin .lss (.t 6) (.c (.n .i64 8)))]
abbrev DD:List AO:=
 [o1 8 (.ld 4 true (.t 1)),o1 3 (.al 25 [.sl0,.n .i64 0,.n .i64 0,.sl0]),⟨none,none,.ap (.st 4 (.t 3) (.t 8))⟩]
abbrev DC:List AO:=
 [o1 9 (.bs 40 1 4 [.f0,.f0,.f0,.f0] [(0,1,(.c (.f 25 [] []))),(1,1,(.c (.f 36 [] []))),(2,1,(.c (.f 41 [] []))),(3,1,(.c (.f 47 [] [])))]),o1 10 (.len (.t 9)),o1 11 (.mv (.c (.n .i64 0)))]
abbrev DB:List AO:=
 [o1 12 (.bin .lss (.t 11) (.t 10))]
abbrev DA:List AO:=
 [o1 13 (.ia 1 (.t 9) (.t 11)),o1 14 (.ld 1 false (.t 13)),o1 5 (.mv (.t 14))]
abbrev DI:List (Nat×AO):=
 [(2,(o1 16 (.mv (.t 5)))),(1,(o1 15 (.ld 4 true (.t 3)))),(1,(o1 17 (.ld 4 true (.t 3)))),(0,⟨some 18,none,.cl (.t 16) [(.t 17)]⟩),(3,⟨some 19,none,.cl (.c (.f 52 [] [])) [(.t 15),(.t 18)]⟩),(3,⟨none,none,.ap (.st 4 (.t 3) (.t 19))⟩)]
abbrev DJ:AC:=
 (.seq (.reg DA) (.mix DI))
abbrev Dz:List AO:=
 [o1 20 (.bin .add (.t 11) (.c (.n .i64 1))),o1 11 (.mv (.t 20))]
abbrev xA:AC:=
 (.seq (.reg DB) (.seq (.cond (.t 12) .skip (.exit 2)) (.seq (.block 3 DJ) (.reg Dz))))
abbrev xy:AC:=
 (.loop xA)
abbrev xu:List AO:=
 [o1 21 (.fa 3 (.t 1)),o1 22 (.ld 1 false (.t 21)),o1 23 (.fa 3 (.t 3)),o1 24 (.ld 1 false (.t 23)),⟨some 25,none,.cl (.c (.f 53 [] [])) [(.t 22),(.t 24)]⟩]
abbrev xt:List AO:=
 [o1 26 (.ld 4 true (.t 3)),⟨none,none,.ap (.st 4 (.t 1) (.t 26))⟩]
abbrev xw:AC:=
 (.seq (.reg DD) (.seq (.seq (.reg DC) (.block 2 xy)) (.seq (.seq (.reg xu) (.cond (.t 25) (.exit 0) .skip)) (.reg xt))))
abbrev xr:List AO:=
 [o1 27 (.bin .add (.t 6) (.c (.n .i64 1))),o1 6 (.mv (.t 27))]
abbrev xz:AC:=
 (.seq (.reg DE) (.seq (.cond (.t 7) .skip (.exit 0)) (.seq (.block 1 xw) (.reg xr))))
abbrev xv:AC:=
 (.loop xz)
abbrev xq:List AO:=
 [o1 28 (.fa 3 (.t 1)),o1 29 (.ld 1 false (.t 28)),o1 2 (.mv (.t 29))]
abbrev NT:AF:=⟨30,(.seq (.reg DG) (.seq (.seq (.reg DF) (.block 0 xv)) (.seq (.reg xq) .ret))),[.mv (.t 2)]⟩
theorem DH:bi Tryz.prog (aj Tryz.prog 51) 51=some NT:=by kernel_rfl
/-! slices.Equal[[]api.RegInstr,api.RegInstr]-/
abbrev Dw:List AO:=
 [o1 4 (.mv (.c (.b false)))]
abbrev Dv:List AO:=
 [o1 6 (.mv (.t 0)),o1 7 (.len (.t 6)),o1 8 (.mv (.t 1)),o1 9 (.len (.t 8)),o1 10 (.bin .neq (.t 7) (.t 9))]
abbrev Du:List AO:=
 [o1 4 (.mv (.c (.b false)))]
abbrev Dt:List AO:=
 [o1 11 (.mv (.t 0)),o1 12 (.len (.t 11)),o1 13 (.mv (.c (.n .i64 0)))]
abbrev Ds:List AO:=
 [o1 14 (.bin .lss (.t 13) (.t 12))]
abbrev Dr:List AO:=
 [o1 15 (.mv (.t 13)),o1 5 (.mv (.t 15))]
abbrev Dx:List (Nat×AO):=
 [(2,(o1 16 (.mv (.t 0)))),(2,(o1 17 (.mv (.t 5)))),(2,(o1 18 (.ia 5 (.t 16) (.t 17)))),(2,(o1 20 (.mv (.t 1)))),(2,(o1 21 (.mv (.t 5)))),(2,(o1 22 (.ia 5 (.t 20) (.t 21)))),(1,(o1 19 (.ld 5 true (.t 18)))),(1,(o1 23 (.ld 5 true (.t 22)))),(2,(o1 24 (.eq true (.st [(0,1,.n),(1,1,.n),(2,1,.n),(3,1,.n),(4,1,.n)]) (.t 19) (.t 23))))]
abbrev Dq:List AO:=
 [o1 4 (.mv (.c (.b false)))]
abbrev Dy:AC:=
 (.seq (.reg Dr) (.seq (.mix Dx) (.cond (.t 24) (.seq (.reg Dq) .ret) .skip)))
abbrev Dp:List AO:=
 [o1 25 (.bin .add (.t 13) (.c (.n .i64 1))),o1 13 (.mv (.t 25))]
abbrev xp:AC:=
 (.seq (.reg Ds) (.seq (.cond (.t 14) .skip (.exit 0)) (.seq (.block 1 Dy) (.reg Dp))))
abbrev xo:AC:=
 (.loop xp)
abbrev xn:List AO:=
 [o1 4 (.mv (.c (.b true)))]
abbrev NS:AF:=⟨26,(.seq (.reg Dw) (.seq (.seq (.reg Dv) (.cond (.t 10) (.seq (.reg Du) .ret) .skip)) (.seq (.seq (.reg Dt) (.block 0 xo)) (.seq (.reg xn) .ret)))),[.mv (.t 4)]⟩
theorem wK:bi Tryz.prog (aj Tryz.prog 53) 53=some NS:=by kernel_rfl
/-! compactorlaw24.OptimizerOptimizes-/
/-! compactorlaw24.code-/
abbrev Dm:List AO:=
 [o1 2 (.al 25 [.sl0,.n .i64 0,.n .i64 0,.sl0])]
abbrev Dl:List AO:=
 [o1 3 (.mv (.t 0)),o1 4 (.bd [.sl0,.n .i64 0,.n .i64 0,.sl0] [(1,1,(.c (.n .i64 4))),(3,1,(.t 3))]),⟨none,none,.ap (.st 4 (.t 2) (.t 4))⟩]
abbrev NQ:AF:=⟨5,(.seq (.reg Dm) (.seq (.reg Dl) .ret)),[.ld 4 true (.t 2)]⟩
theorem Dn:bi Tryz.prog (aj Tryz.prog 22) 22=some NQ:=by kernel_rfl
/-! compactorlaw24.i-/
abbrev Dj:List AO:=
 [o1 10 (.al 37 [.n .i64 0,.n .i64 0,.n .i64 0,.n .i64 0,.n .u32 0])]
abbrev Di:List AO:=
 [o1 11 (.mv (.t 0)),o1 12 (.mv (.t 1)),o1 13 (.mv (.t 2)),o1 14 (.mv (.t 3)),o1 15 (.mv (.t 4)),o1 16 (.bd [.n .i64 0,.n .i64 0,.n .i64 0,.n .i64 0,.n .u32 0] [(0,1,(.t 11)),(1,1,(.t 12)),(2,1,(.t 13)),(3,1,(.t 14)),(4,1,(.t 15))]),⟨none,none,.ap (.st 5 (.t 10) (.t 16))⟩]
abbrev NP:AF:=⟨17,(.seq (.reg Dj) (.seq (.reg Di) .ret)),[.ld 5 true (.t 10)]⟩
theorem Dk:bi Tryz.prog (aj Tryz.prog 23) 23=some NP:=by kernel_rfl
end Go.Proofs.YtidhfimbnjaceaaGreat