/- A part of the proof of OptimizerOptimizes: AcA AcB AcD AcC AcE AcF. No condition. -/
import Derived.Test.YtidhfimbnjaceaaGreatGq09
import Derived.Test.YtidhfimbnjaceaaGreatProg
set_option linter.unusedSimpArgs false
set_option linter.unusedVariables false
set_option linter.constructorNameAsVariable false
set_option maxRecDepth 100000
set_option maxHeartbeats 4000000
namespace Go.Proofs.YtidhfimbnjaceaaGreat
open Go.RowKit
/-! optimizer.numbers-/
abbrev XQ:List AO:=
 [o1 4 (.mv (.c .sl0)),o1 5 (.mv (.c (.b false)))]
abbrev XP:List AO:=
 [o1 6 (.mv (.c .sl0))]
abbrev XO:List AO:=
 [(mt 10 1),o1 11 (.len (.t 10)),o1 12 (.mv (ci 0))]
abbrev XN:List AO:=
 [o1 13 (.bin .lss (.t 12) (.t 11))]
abbrev XM:List AO:=
 [o1 14 (.ia 1 (.t 10) (.t 12)),o1 15 (.ld 1 false (.t 14)),o1 8 (.al 3 [.n .i64 0]),
  (o3 (.st 1 (.t 8) (.t 15)))]
abbrev XL:List AO:=
 [(mt 16 0),o1 17 (.mf 112 [] [.t 8]),
  (o2 18 111 [.t 16,.t 17]),
  (mt 9 18)]
abbrev XK:List AO:=
 [(mt 19 9),o1 20 (.bin .lss (.t 19) (ci 0))]
abbrev XJ:List AO:=
 [o1 4 (.mv (.c .sl0)),o1 5 (.mv (.c (.b false)))]
abbrev XI:List AO:=
 [(mt 21 6),
  (mt 22 0),
  (mt 23 9),o1 24 (.ia 2 (.t 22) (.t 23)),o1 25 (.fa 1 (.t 24)),o1 26 (.ld 1 false (.t 25)),o1 27 (.bs 35 1 1 [.n .u32 0] [(0,1,(.t 26))]),o1 28 (.app 35 1 4 (.t 21) (.t 27)),
  (mt 6 28)]
abbrev XS:AC:=
 (.seq (.reg XM) (.seq (.reg XL) (.seq (.seq (.reg XK) (.cond (.t 20) (.seq (.reg XJ) .ret) .skip)) (.reg XI))))
abbrev S9:List AO:=
 [o1 29 (.bin .add (.t 12) (ci 1)),
  (mt 12 29)]
abbrev Tb:AC:=
 (.seq (.reg XN) (.seq (.cond (.t 13) .skip (.exit 0)) (.seq (.block 1 XS) (.reg S9))))
abbrev Ta:AC:=
 (.loop Tb)
abbrev S8:List AO:=
 [(mt 30 6),
  (mt 4 30),o1 5 (.mv (.c (.b true)))]
abbrev x1F:AF:=⟨31,(.seq (.reg XQ) (.seq (.reg XP) (.seq (.seq (.reg XO) (.block 0 Ta)) (.seq (.reg S8) .ret)))),[.mv (.t 4),.mv (.t 5)]⟩
theorem XR:bj Tryz.prog (aj Tryz.prog 91) 91=some x1F:=by kernel_rfl
/-! lower.Uses-/
abbrev Xv:List AO:=
 [o1 1 (.bx 37 0 (.t 0)),o1 2 (.mv (.c .sl0)),o1 3 (.mv (ci 0))]
abbrev Xu:List AO:=
 [o1 6 (.fa 0 (.t 1)),o1 7 (.ld 1 false (.t 6)),
  (o2 8 110 [.t 7]),o1 4 (.al 128 [.b false,.b false,.b false,.b false]),
  (o3 (.st 4 (.t 4) (.t 8)))]
abbrev Xt:List AO:=
 [o1 5 (.mv (.c .sl0))]
abbrev Xs:List AO:=
 [o1 9 (.fa 2 (.t 4)),o1 10 (.ld 1 false (.t 9))]
abbrev Xr:List AO:=
 [(mt 11 5),o1 12 (.fa 2 (.t 1)),o1 13 (.ld 1 false (.t 12)),o1 14 (.bs 3 1 1 [.n .i64 0] [(0,1,(.t 13))]),o1 15 (.app 3 1 8 (.t 11) (.t 14)),
  (mt 5 15)]
abbrev Xq:List AO:=
 [o1 16 (.fa 3 (.t 4)),o1 17 (.ld 1 false (.t 16))]
abbrev Xp:List AO:=
 [(mt 18 5),o1 19 (.fa 3 (.t 1)),o1 20 (.ld 1 false (.t 19)),o1 21 (.bs 3 1 1 [.n .i64 0] [(0,1,(.t 20))]),o1 22 (.app 3 1 8 (.t 18) (.t 21)),
  (mt 5 22)]
abbrev Xo:List AO:=
 [o1 23 (.fa 1 (.t 4)),o1 24 (.ld 1 false (.t 23)),o1 25 (.un .not (.t 24))]
abbrev Xn:List AO:=
 [(mt 26 5),
  (mt 2 26),o1 3 (.mv (.c (.n .i64 (-1))))]
abbrev Xx:List (Nat×AO):=
 [(2,(mt 27 5)),(2,(o1 28 (.fa 1 (.t 1)))),
  (2,(mt 2 27)),(1,(o1 29 (.ld 1 false (.t 28)))),
  (2,(mt 3 29))]
abbrev x2F:AF:=⟨30,(.seq (.reg Xv) (.seq (.reg Xu) (.seq (.reg Xt) (.seq (.seq (.reg Xs) (.cond (.t 10) (.reg Xr) .skip)) (.seq (.seq (.reg Xq) (.cond (.t 17) (.reg Xp) .skip)) (.seq (.seq (.reg Xo) (.cond (.t 25) (.seq (.reg Xn) .ret) .skip)) (.seq (.mix Xx) .ret))))))),[.mv (.t 2),.mv (.t 3)]⟩
theorem Xw:bj Tryz.prog (aj Tryz.prog 89) 89=some x2F:=by kernel_rfl
/-! lower.shape-/
/-! optimizer.written-/
abbrev Xb:List AO:=
 [o1 1 (.bx 37 0 (.t 0)),o1 2 (.mv (ci 0))]
abbrev Xa:List AO:=
 [o1 6 (.ld 5 true (.t 1)),
  (o2 7 89 [.t 6]),
  (mt 5 7),o1 8 (.ext 0 (.t 5)),o1 9 (.ext 1 (.t 5)),
  (mt 3 8),
  (mt 4 9)]
abbrev W9:List AO:=
 [(mt 10 4),
  (mt 2 10)]
abbrev x3F:AF:=⟨11,(.seq (.reg Xb) (.seq (.reg Xa) (.seq (.reg W9) .ret))),[.mv (.t 2)]⟩
theorem Xc:bj Tryz.prog (aj Tryz.prog 57) 57=some x3F:=by kernel_rfl
/-! optimizer.source-/
abbrev WT:List AO:=
 [o1 4 (.mv (ci 0))]
abbrev WS:List AO:=
 [(mt 7 0),o1 8 (.len (.t 7)),o1 9 (.mv (ci 0))]
abbrev WR:List AO:=
 [o1 10 (.bin .lss (.t 9) (.t 8))]
abbrev WQ:List AO:=
 [o1 11 (.ia 2 (.t 7) (.t 9)),o1 12 (.ld 2 true (.t 11)),o1 6 (.al 102 [.n .i64 0,.n .i64 0]),
  (o3 (.st 2 (.t 6) (.t 12)))]
abbrev WP:List AO:=
 [o1 13 (.fa 0 (.t 6)),o1 14 (.ld 1 false (.t 13)),
  (mt 15 1),o1 16 (.bin .eql (.t 14) (.t 15))]
abbrev WO:List AO:=
 [o1 17 (.fa 1 (.t 6)),o1 18 (.ld 1 false (.t 17)),
  (mt 4 18)]
abbrev WW:AC:=
 (.seq (.reg WQ) (.seq (.reg WP) (.cond (.t 16) (.seq (.reg WO) .ret) .skip)))
abbrev WN:List AO:=
 [o1 19 (.bin .add (.t 9) (ci 1)),
  (mt 9 19)]
abbrev WX:AC:=
 (.seq (.reg WR) (.seq (.cond (.t 10) .skip (.exit 0)) (.seq (.block 1 WW) (.reg WN))))
abbrev WV:AC:=
 (.loop WX)
abbrev Pf:List AO:=
 [(mt 20 1),
  (mt 4 20)]
abbrev x4F:AF:=⟨21,(.seq (.reg WT) (.seq (.seq (.reg WS) (.block 0 WV)) (.seq (.reg Pf) .ret))),[.mv (.t 4)]⟩
theorem WU:bj Tryz.prog (aj Tryz.prog 67) 67=some x4F:=by kernel_rfl
/-! slices.Index[[]optimizer.known,optimizer.known]-/
abbrev Wx:List AO:=
 [o1 3 (.bx 84 0 (.t 1)),o1 4 (.mv (ci 0))]
abbrev Ww:List AO:=
 [(mt 6 0),o1 7 (.len (.t 6)),o1 8 (.mv (ci 0))]
abbrev Wu:List AO:=
 [o1 9 (.bin .lss (.t 8) (.t 7))]
abbrev Wt:List AO:=
 [(mt 10 8),
  (mt 5 10)]
abbrev Wz:List (Nat×AO):=
 [(2,(mt 12 0)),
  (2,(mt 13 5)),(2,(o1 14 (.ia 2 (.t 12) (.t 13)))),(1,(o1 11 (.ld 2 true (.t 3)))),(1,(o1 15 (.ld 2 true (.t 14)))),(2,(o1 16 (.eq false (.st [(0,1,.n),(1,1,.n)]) (.t 11) (.t 15))))]
abbrev Ws:List AO:=
 [(mt 17 5),
  (mt 4 17)]
abbrev WB:AC:=
 (.seq (.reg Wt) (.seq (.mix Wz) (.cond (.t 16) (.seq (.reg Ws) .ret) .skip)))
abbrev Wr:List AO:=
 [o1 18 (.bin .add (.t 8) (ci 1)),
  (mt 8 18)]
abbrev WC:AC:=
 (.seq (.reg Wu) (.seq (.cond (.t 9) .skip (.exit 0)) (.seq (.block 1 WB) (.reg Wr))))
abbrev WA:AC:=
 (.loop WC)
abbrev NI:List AO:=
 [o1 4 (.mv (.c (.n .i64 (-1))))]
abbrev x5F:AF:=⟨19,(.seq (.reg Wx) (.seq (.seq (.reg Ww) (.block 0 WA)) (.seq (.reg NI) .ret))),[.mv (.t 4)]⟩
theorem Wy:bj Tryz.prog (aj Tryz.prog 119) 119=some x5F:=by kernel_rfl
/-! slices.Contains[[]optimizer.known,optimizer.known]-/
abbrev We:List AO:=
 [o1 3 (.bx 84 0 (.t 1)),o1 4 (.mv (.c (.b false)))]
abbrev Wd:List AO:=
 [(mt 5 0),o1 6 (.ld 2 true (.t 3)),
  (o2 7 119 [.t 5,.t 6]),o1 8 (.bin .geq (.t 7) (ci 0)),
  (mt 4 8)]
abbrev x6F:AF:=⟨9,(.seq (.reg We) (.seq (.reg Wd) .ret)),[.mv (.t 4)]⟩
theorem Wf:bj Tryz.prog (aj Tryz.prog 109) 109=some x6F:=by kernel_rfl
/-! slices.IndexFunc[[]optimizer.known,optimizer.known]-/
abbrev VY:List AO:=
 [o1 4 (.mv (ci 0))]
abbrev VX:List AO:=
 [(mt 6 0),o1 7 (.len (.t 6)),o1 8 (.mv (ci 0))]
abbrev VW:List AO:=
 [o1 9 (.bin .lss (.t 8) (.t 7))]
abbrev VV:List AO:=
 [(mt 10 8),
  (mt 5 10)]
abbrev VU:List AO:=
 [(mt 11 1),
  (mt 12 0),
  (mt 13 5),o1 14 (.ia 2 (.t 12) (.t 13)),o1 15 (.ld 2 true (.t 14)),⟨some 16,none,.cl (.t 11) [.t 15]⟩]
abbrev VT:List AO:=
 [(mt 17 5),
  (mt 4 17)]
abbrev V1:AC:=
 (.seq (.reg VV) (.seq (.reg VU) (.cond (.t 16) (.seq (.reg VT) .ret) .skip)))
abbrev VS:List AO:=
 [o1 18 (.bin .add (.t 8) (ci 1)),
  (mt 8 18)]
abbrev V2:AC:=
 (.seq (.reg VW) (.seq (.cond (.t 9) .skip (.exit 0)) (.seq (.block 1 V1) (.reg VS))))
abbrev V0:AC:=
 (.loop V2)
abbrev K2:List AO:=
 [o1 4 (.mv (.c (.n .i64 (-1))))]
abbrev x7F:AF:=⟨19,(.seq (.reg VY) (.seq (.seq (.reg VX) (.block 0 V0)) (.seq (.reg K2) .ret))),[.mv (.t 4)]⟩
theorem VZ:bj Tryz.prog (aj Tryz.prog 111) 111=some x7F:=by kernel_rfl
/-! optimizer.numbers$1-/
abbrev VE:List AO:=
 [o1 2 (.bx 84 0 (.t 0)),o1 3 (.mv (.c (.b false)))]
abbrev VD:List AO:=
 [o1 4 (.fa 0 (.t 2)),o1 5 (.ld 1 false (.t 4)),o1 6 (.ld 1 false (.t 1)),o1 7 (.bin .eql (.t 5) (.t 6)),
  (mt 3 7)]
abbrev x8F:AF:=⟨8,(.seq (.reg VE) (.seq (.reg VD) .ret)),[.mv (.t 3)]⟩
theorem VF:bj Tryz.prog (aj Tryz.prog 112) 112=some x8F:=by kernel_rfl
/-! optimizer.both[optimizer.known]-/
abbrev Vv:List AO:=
 [o1 4 (.mv (.c .sl0))]
abbrev Vu:List AO:=
 [o1 5 (.mv (.c .sl0))]
abbrev Vt:List AO:=
 [(mt 8 0),o1 9 (.len (.t 8)),o1 10 (.mv (ci 0))]
abbrev Vs:List AO:=
 [o1 11 (.bin .lss (.t 10) (.t 9))]
abbrev Vr:List AO:=
 [o1 12 (.ia 2 (.t 8) (.t 10)),o1 13 (.ld 2 true (.t 12)),o1 7 (.al 84 [.n .i64 0,.n .u32 0]),
  (o3 (.st 2 (.t 7) (.t 13)))]
abbrev Vq:List AO:=
 [(mt 14 1),o1 15 (.ld 2 true (.t 7)),
  (o2 16 109 [.t 14,.t 15])]
abbrev Vp:List AO:=
 [(mt 17 5),o1 18 (.ld 2 true (.t 7)),o1 19 (.bs 84 2 1 [.n .i64 0,.n .u32 0] [(0,2,(.t 18))]),o1 20 (.app 84 2 16 (.t 17) (.t 19)),
  (mt 5 20)]
abbrev Vx:AC:=
 (.seq (.reg Vr) (.seq (.reg Vq) (.cond (.t 16) (.reg Vp) .skip)))
abbrev Vo:List AO:=
 [o1 21 (.bin .add (.t 10) (ci 1)),
  (mt 10 21)]
abbrev Vy:AC:=
 (.seq (.reg Vs) (.seq (.cond (.t 11) .skip (.exit 0)) (.seq (.block 1 Vx) (.reg Vo))))
abbrev Ja:AC:=
 (.loop Vy)
abbrev I9:List AO:=
 [(mt 22 5),
  (mt 4 22)]
abbrev x9F:AF:=⟨23,(.seq (.reg Vv) (.seq (.reg Vu) (.seq (.seq (.reg Vt) (.block 0 Ja)) (.seq (.reg I9) .ret)))),[.mv (.t 4)]⟩
theorem Vw:bj Tryz.prog (aj Tryz.prog 88) 88=some x9F:=by kernel_rfl
/-! optimizer.without[optimizer.known]-/
abbrev Un:List AO:=
 [o1 4 (.bx 91 0 (.t 1)),o1 6 (.mv (.c .sl0))]
abbrev Um:List AO:=
 [o1 7 (.mv (.c .sl0))]
abbrev Ul:List AO:=
 [(mt 10 0),o1 11 (.len (.t 10)),o1 12 (.mv (ci 0))]
abbrev Uk:List AO:=
 [o1 13 (.bin .lss (.t 12) (.t 11))]
abbrev Uj:List AO:=
 [o1 14 (.ia 2 (.t 10) (.t 12)),o1 15 (.ld 2 true (.t 14)),o1 9 (.al 84 [.n .i64 0,.n .u32 0]),
  (o3 (.st 2 (.t 9) (.t 15)))]
abbrev Ui:List AO:=
 [(mt 16 2),o1 17 (.mf 108 [] [.t 4,.t 9]),
  (o2 18 107 [.t 16,.t 17]),o1 19 (.un .not (.t 18))]
abbrev Uh:List AO:=
 [(mt 20 7),o1 21 (.ld 2 true (.t 9)),o1 22 (.bs 84 2 1 [.n .i64 0,.n .u32 0] [(0,2,(.t 21))]),o1 23 (.app 84 2 16 (.t 20) (.t 22)),
  (mt 7 23)]
abbrev Up:AC:=
 (.seq (.reg Uj) (.seq (.reg Ui) (.cond (.t 19) (.reg Uh) .skip)))
abbrev Ug:List AO:=
 [o1 24 (.bin .add (.t 12) (ci 1)),
  (mt 12 24)]
abbrev Uq:AC:=
 (.seq (.reg Uk) (.seq (.cond (.t 13) .skip (.exit 0)) (.seq (.block 1 Up) (.reg Ug))))
abbrev Hz:AC:=
 (.loop Uq)
abbrev Hy:List AO:=
 [(mt 25 7),
  (mt 6 25)]
abbrev X2:AF:=⟨26,(.seq (.reg Un) (.seq (.reg Um) (.seq (.seq (.reg Ul) (.block 0 Hz)) (.seq (.reg Hy) .ret)))),[.mv (.t 6)]⟩
theorem Uo:bj Tryz.prog (aj Tryz.prog 87) 87=some X2:=by kernel_rfl
/-! optimizer.without[optimizer.known]$1-/
abbrev Ue:List AO:=
 [o1 3 (.bx 37 0 (.t 0)),o1 4 (.mv (.c (.b false)))]
abbrev Ud:List AO:=
 [o1 5 (.fa 0 (.t 1)),o1 6 (.ld 1 false (.t 5)),o1 7 (.ld 5 true (.t 3)),o1 8 (.ld 2 true (.t 2)),⟨some 9,none,.cl (.t 6) [.t 7,.t 8]⟩,
  (mt 4 9)]
abbrev X1:AF:=⟨10,(.seq (.reg Ue) (.seq (.reg Ud) .ret)),[.mv (.t 4)]⟩
theorem Uf:bj Tryz.prog (aj Tryz.prog 108) 108=some X1:=by kernel_rfl
/-! slices.ContainsFunc[[]api.RegInstr,api.RegInstr]-/
abbrev Ub:List AO:=
 [o1 4 (.mv (.c (.b false)))]
abbrev Ua:List AO:=
 [(mt 5 0),
  (mt 6 1),
  (o2 7 118 [.t 5,.t 6]),o1 8 (.bin .geq (.t 7) (ci 0)),
  (mt 4 8)]
abbrev X0:AF:=⟨9,(.seq (.reg Ub) (.seq (.reg Ua) .ret)),[.mv (.t 4)]⟩
theorem Uc:bj Tryz.prog (aj Tryz.prog 107) 107=some X0:=by kernel_rfl
/-! slices.IndexFunc[[]api.RegInstr,api.RegInstr]-/
abbrev T5:List AO:=
 [o1 4 (.mv (ci 0))]
abbrev T4:List AO:=
 [(mt 6 0),o1 7 (.len (.t 6)),o1 8 (.mv (ci 0))]
abbrev T3:List AO:=
 [o1 9 (.bin .lss (.t 8) (.t 7))]
abbrev T2:List AO:=
 [(mt 10 8),
  (mt 5 10)]
abbrev T1:List AO:=
 [(mt 11 1),
  (mt 12 0),
  (mt 13 5),o1 14 (.ia 5 (.t 12) (.t 13)),o1 15 (.ld 5 true (.t 14)),⟨some 16,none,.cl (.t 11) [.t 15]⟩]
abbrev TZ:List AO:=
 [(mt 17 5),
  (mt 4 17)]
abbrev T8:AC:=
 (.seq (.reg T2) (.seq (.reg T1) (.cond (.t 16) (.seq (.reg TZ) .ret) .skip)))
abbrev TY:List AO:=
 [o1 18 (.bin .add (.t 8) (ci 1)),
  (mt 8 18)]
abbrev T9:AC:=
 (.seq (.reg T3) (.seq (.cond (.t 9) .skip (.exit 0)) (.seq (.block 1 T8) (.reg TY))))
abbrev T7:AC:=
 (.loop T9)
abbrev Hx:List AO:=
 [o1 4 (.mv (.c (.n .i64 (-1))))]
abbrev XZ:AF:=⟨19,(.seq (.reg T5) (.seq (.seq (.reg T4) (.block 0 T7)) (.seq (.reg Hx) .ret))),[.mv (.t 4)]⟩
theorem T6:bj Tryz.prog (aj Tryz.prog 118) 118=some XZ:=by kernel_rfl
/-! optimizer.arithmetic-/
abbrev TW:List AO:=
 [o1 2 (.mv (.c (.b false)))]
abbrev TV:List AO:=
 [(mt 3 0),o1 4 (.bin .geq (.t 3) (ci 8)),
  (mt 5 4),
  (o5 6 5 (.mv (.t 0))),
  (o5 7 5 (.bin .leq (.t 6) (ci 26))),o1 8 (.pick (.t 5) (.t 7) (.c (.b false))),
  (mt 2 8)]
abbrev XY:AF:=⟨9,(.seq (.reg TW) (.seq (.reg TV) .ret)),[.mv (.t 2)]⟩
theorem TX:bj Tryz.prog (aj Tryz.prog 90) 90=some XY:=by kernel_rfl
/-! optimizer.folded-/
abbrev TT:List AO:=
 [o1 2 (.bx 37 0 (.t 0)),o1 4 (.al 37 [.n .i64 0,.n .i64 0,.n .i64 0,.n .i64 0,.n .u32 0])]
abbrev TS:List AO:=
 [o1 12 (.fa 0 (.t 2)),o1 13 (.ld 1 false (.t 12)),
  (o2 14 90 [.t 13]),o1 15 (.un .not (.t 14)),
  (mt 16 15),
  (o5 17 16 (.fa 0 (.t 2))),
  (o5 18 16 (.ld 1 false (.t 17))),
  (o5 19 16 (.bin .neq (.t 18) (ci 36))),o1 20 (.pick (.t 16) (.t 19) (.c (.b false)))]
abbrev TR:List AO:=
 [o1 21 (.ld 5 true (.t 2)),
  (o3 (.st 5 (.t 4) (.t 21)))]
abbrev TQ:List AO:=
 [o1 23 (.ld 5 true (.t 2)),
  (o2 24 89 [.t 23]),
  (mt 22 24),o1 25 (.ext 0 (.t 22)),o1 26 (.ext 1 (.t 22)),
  (mt 5 25),
  (mt 6 26)]
abbrev TP:List AO:=
 [(mt 28 1),
  (mt 29 5),
  (o2 30 91 [.t 28,.t 29]),
  (mt 27 30),o1 31 (.ext 0 (.t 27)),o1 32 (.ext 1 (.t 27)),
  (mt 7 31),
  (mt 8 32)]
abbrev TN:List AO:=
 [(mt 33 8),o1 34 (.un .not (.t 33))]
abbrev TM:List AO:=
 [o1 35 (.ld 5 true (.t 2)),
  (o3 (.st 5 (.t 4) (.t 35)))]
abbrev TL:List AO:=
 [(mt 36 7),o1 37 (.ia 1 (.t 36) (ci 0)),o1 38 (.ld 1 false (.t 37)),
  (mt 9 38)]
abbrev TK:List AO:=
 [o1 39 (.fa 0 (.t 2)),o1 40 (.ld 1 false (.t 39)),
  (o2 41 90 [.t 40])]
abbrev TJ:List AO:=
 [(mt 42 7),o1 43 (.bs 35 1 1 [.n .u32 0] [(0,1,(.c (.n .u32 0)))]),o1 44 (.app 35 1 4 (.t 42) (.t 43)),
  (mt 7 44)]
abbrev Hw:List (Nat×AO):=
 [(2,(o1 46 (.fa 0 (.t 2)))),
  (2,(mt 48 7)),(2,(o1 49 (.ia 1 (.t 48) (ci 0)))),
  (2,(mt 51 7)),(2,(o1 52 (.ia 1 (.t 51) (ci 1)))),(1,(o1 47 (.ld 1 false (.t 46)))),(1,(o1 50 (.ld 1 false (.t 49)))),(1,(o1 53 (.ld 1 false (.t 52)))),
  (3,(o2 54 92 [.t 47,.t 50,.t 53])),
  (2,(mt 45 54)),(2,(o1 55 (.ext 0 (.t 45)))),(2,(o1 56 (.ext 1 (.t 45)))),
  (2,(mt 10 55)),
  (2,(mt 11 56))]
abbrev Hv:List AO:=
 [(mt 57 11),o1 58 (.bin .neq (.t 57) (ci 0))]
abbrev Hu:List AO:=
 [o1 59 (.ld 5 true (.t 2)),
  (o3 (.st 5 (.t 4) (.t 59)))]
abbrev Ht:List AO:=
 [(mt 60 10),
  (mt 9 60)]
abbrev Hs:List AO:=
 [o1 61 (.fa 1 (.t 2)),o1 62 (.ld 1 false (.t 61)),
  (mt 63 9),o1 64 (.bd [.n .i64 0,.n .i64 0,.n .i64 0,.n .i64 0,.n .u32 0] [(0,1,(ci 0)),(1,1,(.t 62)),(2,1,(.c (.n .i64 (-1)))),(3,1,(.c (.n .i64 (-1)))),(4,1,(.t 63))]),
  (o3 (.st 5 (.t 4) (.t 64)))]
abbrev XX:AF:=⟨65,(.seq (.reg TT) (.seq (.seq (.reg TS) (.cond (.t 20) (.seq (.reg TR) .ret) .skip)) (.seq (.reg TQ) (.seq (.reg TP) (.seq (.seq (.reg TN) (.cond (.t 34) (.seq (.reg TM) .ret) .skip)) (.seq (.reg TL) (.seq (.seq (.reg TK) (.cond (.t 41) (.seq (.reg TJ) (.seq (.mix Hw) (.seq (.seq (.reg Hv) (.cond (.t 58) (.seq (.reg Hu) .ret) .skip)) (.reg Ht)))) .skip)) (.seq (.reg Hs) .ret)))))))),[.ld 5 true (.t 4)]⟩
theorem TU:bj Tryz.prog (aj Tryz.prog 59) 59=some XX:=by kernel_rfl
/-! optimizer.fold$1-/
abbrev TG:List AO:=
 [o1 2 (.bx 37 0 (.t 0)),o1 3 (.bx 84 0 (.t 1)),o1 4 (.mv (.c (.b false)))]
abbrev TI:List (Nat×AO):=
 [(2,(o1 7 (.fa 0 (.t 3)))),(1,(o1 5 (.ld 5 true (.t 2)))),(1,(o1 8 (.ld 1 false (.t 7)))),
  (0,(o2 6 57 [.t 5])),(2,(o1 9 (.bin .eql (.t 6) (.t 8)))),
  (2,(mt 4 9))]
abbrev XW:AF:=⟨10,(.seq (.reg TG) (.seq (.mix TI) .ret)),[.mv (.t 4)]⟩
theorem TH:bj Tryz.prog (aj Tryz.prog 56) 56=some XW:=by kernel_rfl
/-! optimizer.fold$2-/
abbrev TE:List AO:=
 [o1 2 (.bx 37 0 (.t 0)),o1 4 (.al 37 [.n .i64 0,.n .i64 0,.n .i64 0,.n .i64 0,.n .u32 0]),o1 5 (.mv (.c (.b false))),o1 6 (.mv (.c .sl0))]
abbrev TD:List AO:=
 [o1 8 (.ld 5 true (.t 2)),
  (mt 9 1),
  (o2 10 59 [.t 8,.t 9]),o1 7 (.al 37 [.n .i64 0,.n .i64 0,.n .i64 0,.n .i64 0,.n .u32 0]),
  (o3 (.st 5 (.t 7) (.t 10)))]
abbrev TC:List AO:=
 [o1 11 (.fa 0 (.t 7)),o1 12 (.ld 1 false (.t 11)),o1 13 (.bin .eql (.t 12) (ci 0))]
abbrev TF:List (Nat×AO):=
 [(1,(o1 14 (.ld 5 true (.t 7)))),(2,(o1 15 (.fa 1 (.t 7)))),(1,(o1 16 (.ld 1 false (.t 15)))),(2,(o1 17 (.fa 4 (.t 7)))),(1,(o1 18 (.ld 1 false (.t 17)))),(2,(o1 19 (.bd [.n .i64 0,.n .u32 0] [(0,1,(.t 16)),(1,1,(.t 18))])))]
abbrev TA:AT:=
 (.alt (o1 20 (.bs 84 2 1 [.n .i64 0,.n .u32 0] [(0,2,(.t 19))])) (.alt (o3 (.st 5 (.t 4) (.t 14))) (.alt (o1 5 (.mv (.c (.b true)))) (.alt (mt 6 20) .fin .none) .none) .none) (.alt (o3 (.st 5 (.t 4) (.t 14))) (.alt (o1 20 (.bs 84 2 1 [.n .i64 0,.n .u32 0] [(0,2,(.t 19))])) (.alt (o1 5 (.mv (.c (.b true)))) (.alt (mt 6 20) .fin .none) .none) (.alt (o1 5 (.mv (.c (.b true)))) (.alt (o1 20 (.bs 84 2 1 [.n .i64 0,.n .u32 0] [(0,2,(.t 19))])) (.alt (mt 6 20) .fin .none) .none) .none)) .none))
abbrev TB:List AO:=
 [o1 21 (.ld 5 true (.t 7)),
  (o3 (.st 5 (.t 4) (.t 21))),o1 5 (.mv (.c (.b true))),o1 6 (.mv (.c .sl0))]
abbrev XV:AF:=⟨22,(.seq (.reg TE) (.seq (.reg TD) (.seq (.seq (.reg TC) (.cond (.t 13) (.seq (.frk TF TA) .ret) .skip)) (.seq (.reg TB) .ret)))),[.ld 5 true (.t 4),.mv (.t 5),.mv (.t 6)]⟩
theorem Az:bj Tryz.prog (aj Tryz.prog 58) 58=some XV:=by kernel_rfl
/-! optimizer.pairs-/
abbrev Ty:List AO:=
 [o1 2 (.mv (.c .sl0))]
abbrev Tx:List AO:=
 [(mt 11 0),o1 12 (.len (.t 11)),o1 13 (.ms 3 1 8 [.n .i64 0] (.t 12) (.t 12)),
  (mt 3 13)]
abbrev Tw:List AO:=
 [o1 4 (.mv (.c .sl0)),o1 5 (.mv (.c .sl0))]
abbrev Tv:List AO:=
 [(mt 14 0),o1 15 (.len (.t 14)),o1 16 (.mv (ci 0))]
abbrev Tu:List AO:=
 [o1 17 (.bin .lss (.t 16) (.t 15))]
abbrev Tt:List AO:=
 [(mt 18 16),o1 19 (.ia 5 (.t 14) (.t 16)),o1 20 (.ld 5 true (.t 19)),o1 7 (.al 37 [.n .i64 0,.n .i64 0,.n .i64 0,.n .i64 0,.n .u32 0]),
  (mt 6 18),
  (o3 (.st 5 (.t 7) (.t 20)))]
abbrev Ts:List AO:=
 [(mt 21 3),
  (mt 22 6),o1 23 (.ia 1 (.t 21) (.t 22)),
  (o3 (.st 1 (.t 23) (.c (.n .i64 (-1)))))]
abbrev Tq:List AO:=
 [o1 24 (.fa 0 (.t 7)),o1 25 (.ld 1 false (.t 24))]
abbrev Tp:List AO:=
 [o1 27 (.bin .eql (.t 25) (ci 27)),
  (mt 26 27)]
abbrev Tn:List AO:=
 [(mt 28 4),
  (mt 29 6),o1 30 (.bs 3 1 1 [.n .i64 0] [(0,1,(.t 29))]),o1 31 (.app 3 1 8 (.t 28) (.t 30)),
  (mt 4 31)]
abbrev Hk:List AO:=
 [o1 33 (.bin .eql (.t 25) (ci 29)),
  (mt 32 33)]
abbrev Hj:List AO:=
 [(mt 34 4),
  (mt 35 6),o1 36 (.bs 3 1 1 [.n .i64 0] [(0,1,(.t 35))]),o1 37 (.app 3 1 8 (.t 34) (.t 36)),
  (mt 38 5),
  (mt 39 6),o1 40 (.bs 3 1 1 [.n .i64 0] [(0,1,(.t 39))]),o1 41 (.app 3 1 8 (.t 38) (.t 40)),
  (mt 4 37),
  (mt 5 41)]
abbrev Hi:List AO:=
 [o1 43 (.bin .eql (.t 25) (ci 28)),
  (mt 42 43)]
abbrev Hh:List AO:=
 [(mt 44 3),
  (mt 45 4),
  (mt 46 4),o1 47 (.len (.t 46)),o1 48 (.bin .sub (.t 47) (ci 1)),o1 49 (.ia 1 (.t 45) (.t 48)),o1 50 (.ld 1 false (.t 49)),
  (mt 51 6),o1 52 (.ia 1 (.t 44) (.t 50)),
  (o3 (.st 1 (.t 52) (.t 51)))]
abbrev Hg:List AO:=
 [o1 54 (.bin .eql (.t 25) (ci 31)),
  (mt 53 54)]
abbrev Hf:List AO:=
 [(mt 55 4),
  (mt 56 4),o1 57 (.len (.t 56)),o1 58 (.bin .sub (.t 57) (ci 1)),o1 59 (.ia 1 (.t 55) (.t 58)),o1 60 (.ld 1 false (.t 59)),
  (mt 8 60)]
abbrev He:List AO:=
 [(mt 61 4),
  (mt 62 4),o1 63 (.len (.t 62)),o1 64 (.bin .sub (.t 63) (ci 1)),o1 65 (.sl 1 (.t 61) none (some (.t 64))),
  (mt 4 65)]
abbrev Hd:List AO:=
 [(mt 66 3),
  (mt 67 6),
  (mt 68 8),o1 69 (.ia 1 (.t 66) (.t 67)),
  (o3 (.st 1 (.t 69) (.t 68)))]
abbrev Hb:List AO:=
 [(mt 70 3),
  (mt 71 8),o1 72 (.ia 1 (.t 70) (.t 71)),o1 73 (.ld 1 false (.t 72)),o1 74 (.bin .geq (.t 73) (ci 0))]
abbrev G9:List AO:=
 [(mt 75 3),
  (mt 76 3),
  (mt 77 8),o1 78 (.ia 1 (.t 76) (.t 77)),o1 79 (.ld 1 false (.t 78)),
  (mt 80 6),o1 81 (.ia 1 (.t 75) (.t 79)),
  (o3 (.st 1 (.t 81) (.t 80)))]
abbrev G8:List AO:=
 [(mt 82 3),
  (mt 83 8),
  (mt 84 6),o1 85 (.ia 1 (.t 82) (.t 83)),
  (o3 (.st 1 (.t 85) (.t 84)))]
abbrev G7:List AO:=
 [(mt 86 0),
  (mt 87 8),o1 88 (.ia 5 (.t 86) (.t 87)),o1 89 (.fa 0 (.t 88)),o1 90 (.ld 1 false (.t 89)),o1 91 (.bin .eql (.t 90) (ci 29))]
abbrev G6:List AO:=
 [(mt 92 5),
  (mt 93 5),o1 94 (.len (.t 93)),o1 95 (.bin .sub (.t 94) (ci 1)),o1 96 (.sl 1 (.t 92) none (some (.t 95))),
  (mt 5 96)]
abbrev G5:List AO:=
 [o1 98 (.bin .eql (.t 25) (ci 30)),
  (mt 97 98)]
abbrev G4:List AO:=
 [(mt 99 3),
  (mt 100 6),
  (mt 101 5),
  (mt 102 5),o1 103 (.len (.t 102)),o1 104 (.bin .sub (.t 103) (ci 1)),o1 105 (.ia 1 (.t 101) (.t 104)),o1 106 (.ld 1 false (.t 105)),o1 107 (.ia 1 (.t 99) (.t 100)),
  (o3 (.st 1 (.t 107) (.t 106)))]
abbrev Hp:AC:=
 (.seq (.reg Tp) (.cond (.t 26) (.reg Tn) (.seq (.reg Hk) (.cond (.t 32) (.reg Hj) (.seq (.reg Hi) (.cond (.t 42) (.reg Hh) (.seq (.reg Hg) (.cond (.t 53) (.seq (.reg Hf) (.seq (.reg He) (.seq (.reg Hd) (.seq (.seq (.reg Hb) (.cond (.t 74) (.reg G9) (.reg G8))) (.seq (.reg G7) (.cond (.t 91) (.reg G6) .skip)))))) (.seq (.reg G5) (.cond (.t 97) (.reg G4) .skip))))))))))
abbrev Ho:AC:=
 (.seq (.reg Tt) (.seq (.reg Ts) (.seq (.reg Tq) (.block 2 Hp))))
abbrev G3:List AO:=
 [o1 108 (.bin .add (.t 16) (ci 1)),
  (mt 16 108)]
abbrev Hr:AC:=
 (.seq (.reg Tu) (.seq (.cond (.t 17) .skip (.exit 0)) (.seq (.block 1 Ho) (.reg G3))))
abbrev Hn:AC:=
 (.loop Hr)
abbrev G2:List AO:=
 [(mt 109 0),o1 110 (.len (.t 109)),o1 111 (.mv (ci 0))]
abbrev G1:List AO:=
 [o1 112 (.bin .lss (.t 111) (.t 110))]
abbrev G0:List AO:=
 [(mt 113 111),o1 114 (.ia 5 (.t 109) (.t 111)),o1 115 (.ld 5 true (.t 114)),o1 10 (.al 37 [.n .i64 0,.n .i64 0,.n .i64 0,.n .i64 0,.n .u32 0]),
  (mt 9 113),
  (o3 (.st 5 (.t 10) (.t 115)))]
abbrev GZ:List AO:=
 [o1 116 (.fa 0 (.t 10)),o1 117 (.ld 1 false (.t 116)),o1 118 (.bin .eql (.t 117) (ci 30))]
abbrev GY:List AO:=
 [(mt 119 3),
  (mt 120 9),
  (mt 121 3),
  (mt 122 3),
  (mt 123 9),o1 124 (.ia 1 (.t 122) (.t 123)),o1 125 (.ld 1 false (.t 124)),o1 126 (.ia 1 (.t 121) (.t 125)),o1 127 (.ld 1 false (.t 126)),o1 128 (.ia 1 (.t 119) (.t 120)),
  (o3 (.st 1 (.t 128) (.t 127)))]
abbrev Hm:AC:=
 (.seq (.reg G0) (.seq (.reg GZ) (.cond (.t 118) (.reg GY) .skip)))
abbrev GX:List AO:=
 [o1 129 (.bin .add (.t 111) (ci 1)),
  (mt 111 129)]
abbrev Hq:AC:=
 (.seq (.reg G1) (.seq (.cond (.t 112) .skip (.exit 3)) (.seq (.block 4 Hm) (.reg GX))))
abbrev Hl:AC:=
 (.loop Hq)
abbrev GV:List AO:=
 [(mt 130 3),
  (mt 2 130)]
abbrev XU:AF:=⟨131,(.seq (.reg Ty) (.seq (.reg Tx) (.seq (.reg Tw) (.seq (.seq (.reg Tv) (.block 0 Hn)) (.seq (.seq (.reg G2) (.block 3 Hl)) (.seq (.reg GV) .ret)))))),[.mv (.t 2)]⟩
theorem Tz:bj Tryz.prog (aj Tryz.prog 86) 86=some XU:=by kernel_rfl
/-! optimizer.walk[optimizer.known]-/
abbrev Tl:List AO:=
 [o1 5 (.bx 91 0 (.t 2)),o1 6 (.mv (.c .sl0))]
abbrev Tk:List AO:=
 [(mt 16 0),
  (o2 17 86 [.t 16]),
  (mt 7 17)]
abbrev Tj:List AO:=
 [o1 8 (.mv (.c .sl0))]
abbrev Ti:List AO:=
 [o1 9 (.mv (.c .sl0))]
abbrev Th:List AO:=
 [(mt 18 0),o1 19 (.len (.t 18)),o1 20 (.mv (ci 0))]
abbrev Tg:List AO:=
 [o1 21 (.bin .lss (.t 20) (.t 19))]
abbrev Tf:List AO:=
 [(mt 22 20),o1 23 (.ia 5 (.t 18) (.t 20)),o1 24 (.ld 5 true (.t 23)),o1 11 (.al 37 [.n .i64 0,.n .i64 0,.n .i64 0,.n .i64 0,.n .u32 0]),
  (mt 10 22),
  (o3 (.st 5 (.t 11) (.t 24)))]
abbrev Te:List AO:=
 [o1 26 (.fa 1 (.t 5)),o1 27 (.ld 1 false (.t 26)),o1 28 (.ld 5 true (.t 11)),
  (mt 29 1),⟨some 30,none,.cl (.t 27) [.t 28,.t 29]⟩,
  (mt 25 30),o1 31 (.ext 0 (.t 25)),o1 32 (.ext 1 (.t 25)),o1 33 (.ext 2 (.t 25)),o1 12 (.al 37 [.n .i64 0,.n .i64 0,.n .i64 0,.n .i64 0,.n .u32 0]),
  (o3 (.st 5 (.t 12) (.t 31))),
  (mt 13 32),
  (mt 14 33)]
abbrev Td:List AO:=
 [(mt 34 13),o1 35 (.un .not (.t 34))]
abbrev Tc:List AO:=
 [(mt 36 9),o1 37 (.len (.t 36)),o1 38 (.bin .sub (.t 37) (ci 1)),
  (mt 15 38)]
abbrev GK:List AO:=
 [o1 40 (.fa 0 (.t 11)),o1 41 (.ld 1 false (.t 40)),o1 42 (.bin .eql (.t 41) (ci 27)),
  (mt 39 42)]
abbrev GJ:List AO:=
 [(mt 43 9),
  (mt 44 1),o1 45 (.bs 82 1 1 [.sl0] [(0,1,(.t 44))]),o1 46 (.app 82 1 24 (.t 43) (.t 45)),
  (mt 9 46)]
abbrev GI:List AO:=
 [o1 48 (.fa 0 (.t 11)),o1 49 (.ld 1 false (.t 48)),o1 50 (.bin .eql (.t 49) (ci 28)),
  (mt 47 50)]
abbrev GH:List AO:=
 [(mt 51 9),
  (mt 52 15),
  (mt 53 1),
  (mt 54 9),
  (mt 55 15),o1 56 (.ia 1 (.t 54) (.t 55)),o1 57 (.ld 1 false (.t 56)),o1 58 (.ia 1 (.t 51) (.t 52)),
  (o3 (.st 1 (.t 58) (.t 53))),
  (mt 1 57)]
abbrev GG:List AO:=
 [o1 60 (.fa 0 (.t 11)),o1 61 (.ld 1 false (.t 60)),o1 62 (.bin .eql (.t 61) (ci 29)),
  (mt 59 62)]
abbrev GN:List (Nat×AO):=
 [(2,(mt 63 1)),
  (2,(mt 65 0)),
  (2,(mt 66 10)),
  (2,(mt 67 7)),
  (2,(mt 68 10)),(2,(o1 69 (.ia 1 (.t 67) (.t 68)))),(1,(o1 64 (.ld 2 true (.t 5)))),(1,(o1 70 (.ld 1 false (.t 69)))),(2,(o1 71 (.sl 5 (.t 65) (some (.t 66)) (some (.t 70))))),
  (3,(o2 72 87 [.t 63,.t 64,.t 71])),
  (2,(mt 1 72))]
abbrev GF:List AO:=
 [o1 74 (.fa 0 (.t 11)),o1 75 (.ld 1 false (.t 74)),o1 76 (.bin .eql (.t 75) (ci 31)),
  (mt 77 76),
  (o5 78 77 (.mv (.t 0))),
  (o5 79 77 (.mv (.t 7))),
  (o5 80 77 (.mv (.t 10))),
  (o5 81 77 (.ia 1 (.t 79) (.t 80))),
  (o5 82 77 (.ld 1 false (.t 81))),
  (o5 83 77 (.ia 5 (.t 78) (.t 82))),
  (o5 84 77 (.fa 0 (.t 83))),
  (o5 85 77 (.ld 1 false (.t 84))),
  (o5 86 77 (.bin .eql (.t 85) (ci 29))),o1 87 (.pick (.t 77) (.t 86) (.c (.b false))),
  (mt 73 87)]
abbrev GM:List (Nat×AO):=
 [(2,(mt 88 1)),
  (2,(mt 90 0)),
  (2,(mt 91 7)),
  (2,(mt 92 10)),(2,(o1 93 (.ia 1 (.t 91) (.t 92)))),
  (2,(mt 95 10)),(1,(o1 89 (.ld 2 true (.t 5)))),(1,(o1 94 (.ld 1 false (.t 93)))),(2,(o1 96 (.sl 5 (.t 90) (some (.t 94)) (some (.t 95))))),
  (3,(o2 97 87 [.t 88,.t 89,.t 96])),
  (2,(mt 1 97))]
abbrev GD:List AO:=
 [o1 99 (.fa 0 (.t 11)),o1 100 (.ld 1 false (.t 99)),o1 101 (.bin .eql (.t 100) (ci 31)),
  (mt 98 101)]
abbrev GL:List (Nat×AO):=
 [(2,(mt 102 1)),
  (2,(mt 103 9)),
  (2,(mt 104 15)),(2,(o1 105 (.ia 1 (.t 103) (.t 104)))),
  (2,(mt 108 9)),
  (2,(mt 109 15)),(2,(o1 110 (.sl 1 (.t 108) none (some (.t 109))))),(1,(o1 106 (.ld 1 false (.t 105)))),
  (3,(o2 107 88 [.t 102,.t 106])),
  (2,(mt 1 107)),
  (2,(mt 9 110))]
abbrev GQ:AC:=
 (.seq (.reg GK) (.cond (.t 39) (.reg GJ) (.seq (.reg GI) (.cond (.t 47) (.reg GH) (.seq (.reg GG) (.cond (.t 59) (.mix GN) (.seq (.reg GF) (.cond (.t 73) (.mix GM) (.seq (.reg GD) (.cond (.t 98) (.mix GL) .skip))))))))))
abbrev GC:List AO:=
 [(mt 111 1),o1 112 (.ld 2 true (.t 5)),o1 113 (.ld 5 true (.t 12)),o1 114 (.bs 37 5 1 [.n .i64 0,.n .i64 0,.n .i64 0,.n .i64 0,.n .u32 0] [(0,5,(.t 113))]),
  (o2 115 87 [.t 111,.t 112,.t 114]),
  (mt 116 14),o1 117 (.app 84 2 16 (.t 115) (.t 116)),
  (mt 1 117)]
abbrev GB:List AO:=
 [(mt 118 8),o1 119 (.ld 5 true (.t 12)),o1 120 (.bs 37 5 1 [.n .i64 0,.n .i64 0,.n .i64 0,.n .i64 0,.n .u32 0] [(0,5,(.t 119))]),o1 121 (.app 37 5 40 (.t 118) (.t 120)),
  (mt 8 121)]
abbrev GP:AC:=
 (.seq (.reg Tf) (.seq (.reg Te) (.seq (.seq (.reg Td) (.cond (.t 35) (.exit 1) .skip)) (.seq (.reg Tc) (.seq (.block 2 GQ) (.seq (.reg GC) (.reg GB)))))))
abbrev Gz:List AO:=
 [o1 122 (.bin .add (.t 20) (ci 1)),
  (mt 20 122)]
abbrev GU:AC:=
 (.seq (.reg Tg) (.seq (.cond (.t 21) .skip (.exit 0)) (.seq (.block 1 GP) (.reg Gz))))
abbrev GO:AC:=
 (.loop GU)
abbrev Gy:List AO:=
 [(mt 123 8),
  (mt 6 123)]
abbrev XT:AF:=⟨124,(.seq (.reg Tl) (.seq (.reg Tk) (.seq (.reg Tj) (.seq (.reg Ti) (.seq (.seq (.reg Th) (.block 0 GO)) (.seq (.reg Gy) .ret)))))),[.mv (.t 6)]⟩
theorem Tm:bj Tryz.prog (aj Tryz.prog 55) 55=some XT:=by kernel_rfl
/-! optimizer.fold-/
abbrev S3:List AO:=
 [o1 1 (.bx 25 0 (.t 0)),o1 2 (.mv (.c .sl0))]
abbrev S0:List AO:=
 [o1 3 (.mv (.c .sl0))]
abbrev SZ:List AO:=
 [o1 5 (.fa 1 (.t 1)),o1 6 (.ld 1 false (.t 5)),o1 7 (.mv (ci 0))]
abbrev SY:List AO:=
 [o1 8 (.bin .lss (.t 7) (.t 6))]
abbrev SX:List AO:=
 [(mt 9 7),
  (mt 4 9)]
abbrev SW:List AO:=
 [(mt 10 3),
  (mt 11 4),o1 12 (.bd [.n .i64 0,.n .u32 0] [(0,1,(.t 11))]),o1 13 (.bs 84 2 1 [.n .i64 0,.n .u32 0] [(0,2,(.t 12))]),o1 14 (.app 84 2 16 (.t 10) (.t 13)),
  (mt 3 14)]
abbrev S6:AC:=
 (.seq (.reg SX) (.reg SW))
abbrev SV:List AO:=
 [o1 15 (.bin .add (.t 7) (ci 1)),
  (mt 7 15)]
abbrev S7:AC:=
 (.seq (.reg SY) (.seq (.cond (.t 8) .skip (.exit 0)) (.seq (.block 1 S6) (.reg SV))))
abbrev S5:AC:=
 (.loop S7)
abbrev Gx:List AO:=
 [o1 16 (.fa 3 (.t 1)),o1 17 (.ld 1 false (.t 16)),
  (mt 18 3),o1 19 (.bd [.f0,.f0] [(0,1,(.c (.f 56 [] []))),(1,1,(.c (.f 58 [] [])))]),
  (o2 20 55 [.t 17,.t 18,.t 19]),
  (mt 2 20)]
abbrev XH:AF:=⟨21,(.seq (.reg S3) (.seq (.reg S0) (.seq (.seq (.reg SZ) (.block 0 S5)) (.seq (.reg Gx) .ret)))),[.mv (.t 2)]⟩
theorem S4:bj Tryz.prog (aj Tryz.prog 25) 25=some XH:=by kernel_rfl
/-! optimizer.checked-/
abbrev SS:List AO:=
 [o1 2 (.bx 25 0 (.t 0)),o1 4 (.al 25 [.sl0,.n .i64 0,.n .i64 0,.sl0]),o1 5 (.mv (ci 0))]
abbrev SQ:List AO:=
 [o1 9 (.ld 4 true (.t 2)),
  (o2 10 54 [.t 9]),
  (mt 8 10),o1 11 (.ext 0 (.t 8)),o1 12 (.ext 1 (.t 8)),
  (mt 6 11),
  (mt 7 12)]
abbrev SP:List AO:=
 [(mt 13 7),o1 14 (.bin .neq (.t 13) (ci 0))]
abbrev SO:List AO:=
 [o1 15 (.bd [.sl0,.n .i64 0,.n .i64 0,.sl0] []),
  (mt 16 7),
  (o3 (.st 4 (.t 4) (.t 15))),
  (mt 5 16)]
abbrev SU:List (Nat×AO):=
 [(2,(mt 18 1)),(1,(o1 17 (.ld 4 true (.t 2)))),(1,(o1 19 (.ld 4 true (.t 2)))),(0,⟨some 20,none,.cl (.t 18) [.t 19]⟩),
  (3,(o2 21 52 [.t 17,.t 20])),
  (3,(o3 (.st 4 (.t 4) (.t 21)))),(2,(o1 5 (.mv (ci 0))))]
abbrev XG:AF:=⟨22,(.seq (.reg SS) (.seq (.seq (.reg SQ) (.seq (.reg SP) (.cond (.t 14) (.seq (.reg SO) .ret) .skip))) (.seq (.mix SU) .ret))),[.ld 4 true (.t 4),.mv (.t 5)]⟩
theorem Ay:bj Tryz.prog (aj Tryz.prog 24) 24=some XG:=by kernel_rfl
/-! optimizer.copied-/
abbrev SL:List AO:=
 [o1 2 (.bx 25 0 (.t 0)),o1 4 (.al 25 [.sl0,.n .i64 0,.n .i64 0,.sl0])]
abbrev SK:List AO:=
 [o1 5 (.fa 0 (.t 2)),o1 6 (.ld 1 false (.t 5)),
  (o2 7 79 [.t 6]),
  (mt 8 1),
  (o2 9 80 [.t 8]),o1 10 (.fa 0 (.t 2)),
  (o3 (.st 1 (.t 10) (.t 7))),o1 11 (.fa 3 (.t 2)),
  (o3 (.st 1 (.t 11) (.t 9)))]
abbrev SJ:List AO:=
 [o1 12 (.ld 4 true (.t 2)),
  (o3 (.st 4 (.t 4) (.t 12)))]
abbrev XF:AF:=⟨13,(.seq (.reg SL) (.seq (.reg SK) (.seq (.reg SJ) .ret))),[.ld 4 true (.t 4)]⟩
theorem SM:bj Tryz.prog (aj Tryz.prog 52) 52=some XF:=by kernel_rfl
/-! optimizer.Fold-/
abbrev SI:List AO:=
 [o1 1 (.bx 25 0 (.t 0)),o1 2 (.al 25 [.sl0,.n .i64 0,.n .i64 0,.sl0]),o1 3 (.mv (ci 0))]
abbrev SG:List AO:=
 [o1 4 (.ld 4 true (.t 1)),
  (o2 5 24 [.t 4,(.c (.f 25 [] []))]),o1 6 (.ext 0 (.t 5)),o1 7 (.ext 1 (.t 5)),
  (o3 (.st 4 (.t 2) (.t 6))),
  (mt 3 7)]
abbrev XE:AF:=⟨8,(.seq (.reg SI) (.seq (.reg SG) .ret)),[.ld 4 true (.t 2),.mv (.t 3)]⟩
theorem Ax:bj Tryz.prog (aj Tryz.prog 10) 10=some XE:=by kernel_rfl
/-! compactorref24.writes-/
abbrev SC:List AO:=
 [o1 3 (.bx 25 0 (.t 0)),o1 6 (.mv (.c .sl0))]
abbrev SB:List AO:=
 [o1 11 (.fa 1 (.t 3)),o1 12 (.ld 1 false (.t 11)),o1 13 (.ms 4 1 1 [.b false] (.t 12) (.t 12)),
  (mt 7 13)]
abbrev Sz:List AO:=
 [(mt 14 1),
  (mt 8 14)]
abbrev Sy:List AO:=
 [(mt 15 8),
  (mt 16 2),o1 17 (.bin .lss (.t 15) (.t 16))]
abbrev Sx:List AO:=
 [o1 21 (.fa 3 (.t 3)),o1 22 (.ld 1 false (.t 21)),
  (mt 23 8),o1 24 (.ia 5 (.t 22) (.t 23)),o1 25 (.ld 5 true (.t 24)),
  (o2 26 34 [.t 25]),
  (mt 20 26),o1 27 (.ext 0 (.t 20)),o1 28 (.ext 1 (.t 20)),
  (mt 9 27),
  (mt 10 28)]
abbrev Sw:List AO:=
 [(mt 29 10),o1 30 (.bin .geq (.t 29) (ci 0))]
abbrev Sv:List AO:=
 [(mt 31 7),
  (mt 32 10),o1 33 (.ia 1 (.t 31) (.t 32)),
  (o3 (.st 1 (.t 33) (.c (.b true))))]
abbrev SE:AC:=
 (.seq (.reg Sx) (.seq (.reg Sw) (.cond (.t 30) (.reg Sv) .skip)))
abbrev Su:List AO:=
 [(mt 18 8),o1 19 (.bin .add (.t 18) (ci 1)),
  (mt 8 19)]
abbrev SF:AC:=
 (.seq (.seq (.reg Sy) (.cond (.t 17) .skip (.exit 0))) (.seq (.block 1 SE) (.reg Su)))
abbrev Gw:AC:=
 (.loop SF)
abbrev Gv:List AO:=
 [(mt 34 7),
  (mt 6 34)]
abbrev XD:AF:=⟨35,(.seq (.reg SC) (.seq (.reg SB) (.seq (.seq (.reg Sz) (.block 0 Gw)) (.seq (.reg Gv) .ret)))),[.mv (.t 6)]⟩
theorem SD:bj Tryz.prog (aj Tryz.prog 31) 31=some XD:=by kernel_rfl
/-! compactorref24.copyKnown-/
abbrev Sq:List AO:=
 [o1 1 (.bx 50 0 (.t 0)),o1 2 (.al 50 [.sl0,.sl0])]
abbrev Ss:List (Nat×AO):=
 [(2,(o1 4 (.fa 0 (.t 1)))),(1,(o1 5 (.ld 1 false (.t 4)))),(2,(o1 8 (.fa 1 (.t 1)))),(1,(o1 9 (.ld 1 false (.t 8))))]
abbrev Sp:AT:=
 (.alt (o1 3 (.bs 4 1 0 [] [])) (.alt (o1 6 (.app 4 1 1 (.t 3) (.t 5))) (.alt (o1 7 (.bs 35 1 0 [] [])) (.alt (o1 10 (.app 35 1 4 (.t 7) (.t 9))) (.alt (o1 11 (.bd [.sl0,.sl0] [(0,1,(.t 6)),(1,1,(.t 10))])) (.alt (o3 (.st 2 (.t 2) (.t 11))) .fin .none) .none) .none) .none) (.alt (o1 7 (.bs 35 1 0 [] [])) (.alt (o1 6 (.app 4 1 1 (.t 3) (.t 5))) (.alt (o1 10 (.app 35 1 4 (.t 7) (.t 9))) (.alt (o1 11 (.bd [.sl0,.sl0] [(0,1,(.t 6)),(1,1,(.t 10))])) (.alt (o3 (.st 2 (.t 2) (.t 11))) .fin .none) .none) .none) .none) .none)) (.alt (o1 7 (.bs 35 1 0 [] [])) (.alt (o1 3 (.bs 4 1 0 [] [])) (.alt (o1 6 (.app 4 1 1 (.t 3) (.t 5))) (.alt (o1 10 (.app 35 1 4 (.t 7) (.t 9))) (.alt (o1 11 (.bd [.sl0,.sl0] [(0,1,(.t 6)),(1,1,(.t 10))])) (.alt (o3 (.st 2 (.t 2) (.t 11))) .fin .none) .none) .none) .none) .none) .none))
abbrev XC:AF:=⟨12,(.seq (.reg Sq) (.seq (.frk Ss Sp) .ret)),[.ld 2 true (.t 2)]⟩
theorem Sr:bj Tryz.prog (aj Tryz.prog 29) 29=some XC:=by kernel_rfl
/-! compactorref24.forget-/
abbrev Sj:List AO:=
 [o1 2 (.bx 50 0 (.t 0)),o1 4 (.al 50 [.sl0,.sl0])]
abbrev Si:List AO:=
 [o1 7 (.ld 2 true (.t 2)),
  (o2 8 29 [.t 7]),o1 5 (.al 50 [.sl0,.sl0]),
  (o3 (.st 2 (.t 5) (.t 8)))]
abbrev Sf:List AO:=
 [o1 6 (.mv (ci 0))]
abbrev Se:List AO:=
 [(mt 9 6),
  (mt 10 1),o1 11 (.len (.t 10)),o1 12 (.bin .lss (.t 9) (.t 11))]
abbrev Sl:List (Nat×AO):=
 [(2,(o1 15 (.fa 0 (.t 5)))),
  (2,(mt 17 6)),(2,(o1 18 (.fa 0 (.t 2)))),
  (2,(mt 20 6)),(1,(o1 16 (.ld 1 false (.t 15)))),(1,(o1 19 (.ld 1 false (.t 18)))),(2,(o1 21 (.ia 1 (.t 19) (.t 20)))),(1,(o1 22 (.ld 1 false (.t 21)))),
  (2,(mt 23 22)),
  (2,(o5 24 23 (.mv (.t 1)))),
  (2,(o5 25 23 (.mv (.t 6)))),
  (2,(o5 26 23 (.ia 1 (.t 24) (.t 25)))),
  (1,(o5 27 23 (.ld 1 false (.t 26)))),
  (2,(o5 28 23 (.un .not (.t 27)))),(2,(o1 29 (.pick (.t 23) (.t 28) (.c (.b false))))),(2,(o1 30 (.ia 1 (.t 16) (.t 17)))),
  (3,(o3 (.st 1 (.t 30) (.t 29))))]
abbrev Sn:AC:=
 (.mix Sl)
abbrev Sd:List AO:=
 [(mt 13 6),o1 14 (.bin .add (.t 13) (ci 1)),
  (mt 6 14)]
abbrev So:AC:=
 (.seq (.seq (.reg Se) (.cond (.t 12) .skip (.exit 0))) (.seq (.block 1 Sn) (.reg Sd)))
abbrev Sm:AC:=
 (.loop So)
abbrev Sc:List AO:=
 [o1 31 (.ld 2 true (.t 5)),
  (o3 (.st 2 (.t 4) (.t 31)))]
abbrev XB:AF:=⟨32,(.seq (.reg Sj) (.seq (.reg Si) (.seq (.seq (.reg Sf) (.block 0 Sm)) (.seq (.reg Sc) .ret)))),[.ld 2 true (.t 4)]⟩
theorem Sk:bj Tryz.prog (aj Tryz.prog 30) 30=some XB:=by kernel_rfl
/-! compactorref24.bothKnown-/
abbrev R6:List AO:=
 [o1 2 (.bx 50 0 (.t 0)),o1 3 (.bx 50 0 (.t 1)),o1 4 (.al 50 [.sl0,.sl0])]
abbrev R5:List AO:=
 [o1 7 (.ld 2 true (.t 2)),
  (o2 8 29 [.t 7]),o1 5 (.al 50 [.sl0,.sl0]),
  (o3 (.st 2 (.t 5) (.t 8)))]
abbrev R4:List AO:=
 [o1 6 (.mv (ci 0))]
abbrev R3:List AO:=
 [(mt 9 6),o1 10 (.fa 0 (.t 5)),o1 11 (.ld 1 false (.t 10)),o1 12 (.len (.t 11)),o1 13 (.bin .lss (.t 9) (.t 12))]
abbrev R8:List (Nat×AO):=
 [(2,(o1 16 (.fa 0 (.t 5)))),
  (2,(mt 18 6)),(2,(o1 19 (.fa 0 (.t 2)))),
  (2,(mt 21 6)),(1,(o1 17 (.ld 1 false (.t 16)))),(1,(o1 20 (.ld 1 false (.t 19)))),(2,(o1 22 (.ia 1 (.t 20) (.t 21)))),(1,(o1 23 (.ld 1 false (.t 22)))),
  (2,(mt 24 23)),
  (2,(o5 25 24 (.fa 0 (.t 3)))),
  (2,(o5 27 24 (.mv (.t 6)))),
  (1,(o5 26 24 (.ld 1 false (.t 25)))),
  (2,(o5 28 24 (.ia 1 (.t 26) (.t 27)))),
  (1,(o5 29 24 (.ld 1 false (.t 28)))),(2,(o1 30 (.pick (.t 24) (.t 29) (.c (.b false))))),
  (2,(mt 31 30)),
  (2,(o5 32 31 (.fa 1 (.t 2)))),
  (2,(o5 34 31 (.mv (.t 6)))),
  (2,(o5 37 31 (.fa 1 (.t 3)))),
  (2,(o5 39 31 (.mv (.t 6)))),
  (1,(o5 33 31 (.ld 1 false (.t 32)))),
  (2,(o5 35 31 (.ia 1 (.t 33) (.t 34)))),
  (1,(o5 36 31 (.ld 1 false (.t 35)))),
  (1,(o5 38 31 (.ld 1 false (.t 37)))),
  (2,(o5 40 31 (.ia 1 (.t 38) (.t 39)))),
  (1,(o5 41 31 (.ld 1 false (.t 40)))),
  (2,(o5 42 31 (.bin .eql (.t 36) (.t 41)))),(2,(o1 43 (.pick (.t 31) (.t 42) (.c (.b false))))),(2,(o1 44 (.ia 1 (.t 17) (.t 18)))),
  (3,(o3 (.st 1 (.t 44) (.t 43))))]
abbrev Sa:AC:=
 (.mix R8)
abbrev R2:List AO:=
 [(mt 14 6),o1 15 (.bin .add (.t 14) (ci 1)),
  (mt 6 15)]
abbrev Sb:AC:=
 (.seq (.seq (.reg R3) (.cond (.t 13) .skip (.exit 0))) (.seq (.block 1 Sa) (.reg R2)))
abbrev R9:AC:=
 (.loop Sb)
abbrev R1:List AO:=
 [o1 45 (.ld 2 true (.t 5)),
  (o3 (.st 2 (.t 4) (.t 45)))]
abbrev XA:AF:=⟨46,(.seq (.reg R6) (.seq (.reg R5) (.seq (.seq (.reg R4) (.block 0 R9)) (.seq (.reg R1) .ret)))),[.ld 2 true (.t 4)]⟩
theorem R7:bj Tryz.prog (aj Tryz.prog 32) 32=some XA:=by kernel_rfl
/-! compactorref24.folded-/
abbrev RZ:List AO:=
 [o1 2 (.bx 37 0 (.t 0)),o1 3 (.bx 50 0 (.t 1)),o1 4 (.al 37 [.n .i64 0,.n .i64 0,.n .i64 0,.n .i64 0,.n .u32 0])]
abbrev RY:List AO:=
 [o1 15 (.fa 0 (.t 2)),o1 16 (.ld 1 false (.t 15)),
  (o2 17 62 [.t 16]),
  (mt 14 17),o1 18 (.ext 0 (.t 14)),o1 19 (.ext 1 (.t 14)),o1 20 (.ext 2 (.t 14)),o1 21 (.ext 3 (.t 14)),
  (mt 5 18),
  (mt 6 19),
  (mt 7 20),
  (mt 8 21)]
abbrev RX:List AO:=
 [o1 22 (.fa 0 (.t 2)),o1 23 (.ld 1 false (.t 22)),o1 24 (.bin .geq (.t 23) (ci 8)),
  (mt 25 24),
  (o5 26 25 (.fa 0 (.t 2))),
  (o5 27 25 (.ld 1 false (.t 26))),
  (o5 28 25 (.bin .leq (.t 27) (ci 26))),o1 29 (.pick (.t 25) (.t 28) (.c (.b false))),
  (mt 9 29)]
abbrev RV:List AO:=
 [(mt 30 9),o1 31 (.un .not (.t 30)),
  (mt 32 31),
  (o5 33 32 (.fa 0 (.t 2))),
  (o5 34 32 (.ld 1 false (.t 33))),
  (o5 35 32 (.bin .neq (.t 34) (ci 36))),o1 36 (.pick (.t 32) (.t 35) (.c (.b false))),
  (mt 37 36),
  (o4 38 37 (.mv (.t 6))),
  (o4 39 37 (.mv (.t 38))),
  (o5 40 39 (.fa 0 (.t 3))),
  (o5 41 39 (.ld 1 false (.t 40))),
  (o5 42 39 (.fa 2 (.t 2))),
  (o5 43 39 (.ld 1 false (.t 42))),
  (o5 44 39 (.ia 1 (.t 41) (.t 43))),
  (o5 45 39 (.ld 1 false (.t 44))),
  (o5 46 39 (.un .not (.t 45))),
  (o4 47 37 (.pick (.t 39) (.t 46) (.c (.b false)))),o1 48 (.pick (.t 37) (.c (.b true)) (.t 47)),
  (mt 49 48),
  (o4 50 49 (.mv (.t 7))),
  (o4 51 49 (.mv (.t 50))),
  (o5 52 51 (.fa 0 (.t 3))),
  (o5 53 51 (.ld 1 false (.t 52))),
  (o5 54 51 (.fa 3 (.t 2))),
  (o5 55 51 (.ld 1 false (.t 54))),
  (o5 56 51 (.ia 1 (.t 53) (.t 55))),
  (o5 57 51 (.ld 1 false (.t 56))),
  (o5 58 51 (.un .not (.t 57))),
  (o4 59 49 (.pick (.t 51) (.t 58) (.c (.b false)))),o1 60 (.pick (.t 49) (.c (.b true)) (.t 59))]
abbrev RU:List AO:=
 [o1 61 (.ld 5 true (.t 2)),
  (o3 (.st 5 (.t 4) (.t 61)))]
abbrev RS:List AO:=
 [o1 62 (.fa 1 (.t 3)),o1 63 (.ld 1 false (.t 62)),o1 64 (.fa 2 (.t 2)),o1 65 (.ld 1 false (.t 64)),o1 66 (.ia 1 (.t 63) (.t 65)),o1 67 (.ld 1 false (.t 66)),
  (mt 10 67),o1 11 (.mv (.c (.n .u32 0)))]
abbrev RR:List AO:=
 [(mt 68 7)]
abbrev RQ:List AO:=
 [o1 69 (.fa 1 (.t 3)),o1 70 (.ld 1 false (.t 69)),o1 71 (.fa 3 (.t 2)),o1 72 (.ld 1 false (.t 71)),o1 73 (.ia 1 (.t 70) (.t 72)),o1 74 (.ld 1 false (.t 73)),
  (mt 11 74)]
abbrev RP:List AO:=
 [(mt 75 9)]
abbrev RO:List AO:=
 [o1 77 (.fa 0 (.t 2)),o1 78 (.ld 1 false (.t 77)),
  (mt 79 10),
  (mt 80 11),
  (o2 81 63 [.t 78,.t 79,.t 80]),
  (mt 76 81),o1 82 (.ext 0 (.t 76)),o1 83 (.ext 1 (.t 76)),
  (mt 12 82),
  (mt 13 83)]
abbrev Gu:List AO:=
 [(mt 84 13),o1 85 (.bin .neq (.t 84) (ci 0))]
abbrev Gs:List AO:=
 [o1 86 (.ld 5 true (.t 2)),
  (o3 (.st 5 (.t 4) (.t 86)))]
abbrev Gr:List AO:=
 [(mt 87 12),
  (mt 10 87)]
abbrev Gq:List AO:=
 [o1 88 (.fa 1 (.t 2)),o1 89 (.ld 1 false (.t 88)),
  (mt 90 10),o1 91 (.bd [.n .i64 0,.n .i64 0,.n .i64 0,.n .i64 0,.n .u32 0] [(0,1,(ci 0)),(1,1,(.t 89)),(2,1,(.c (.n .i64 (-1)))),(3,1,(.c (.n .i64 (-1)))),(4,1,(.t 90))]),
  (o3 (.st 5 (.t 4) (.t 91)))]
abbrev Xz:AF:=⟨92,(.seq (.reg RZ) (.seq (.reg RY) (.seq (.reg RX) (.seq (.seq (.reg RV) (.cond (.t 60) (.seq (.reg RU) .ret) .skip)) (.seq (.reg RS) (.seq (.seq (.reg RR) (.cond (.t 68) (.reg RQ) .skip)) (.seq (.seq (.reg RP) (.cond (.t 75) (.seq (.reg RO) (.seq (.seq (.reg Gu) (.cond (.t 85) (.seq (.reg Gs) .ret) .skip)) (.reg Gr))) .skip)) (.seq (.reg Gq) .ret)))))))),[.ld 5 true (.t 4)]⟩
theorem R0:bj Tryz.prog (aj Tryz.prog 33) 33=some Xz:=by kernel_rfl
/-! compactorref24.Fold-/
abbrev RM:List AO:=
 [o1 1 (.bx 25 0 (.t 0)),o1 2 (.al 25 [.sl0,.n .i64 0,.n .i64 0,.sl0]),o1 3 (.mv (ci 0))]
abbrev RL:List AO:=
 [o1 20 (.ld 4 true (.t 1)),
  (o2 21 26 [.t 20]),
  (mt 19 21),o1 22 (.ext 0 (.t 19)),o1 23 (.ext 1 (.t 19)),
  (mt 4 22),
  (mt 5 23)]
abbrev RK:List AO:=
 [(mt 24 5),o1 25 (.bin .neq (.t 24) (ci 0))]
abbrev RJ:List AO:=
 [o1 26 (.bd [.sl0,.n .i64 0,.n .i64 0,.sl0] []),
  (mt 27 5),
  (o3 (.st 4 (.t 2) (.t 26))),
  (mt 3 27)]
abbrev RH:List AO:=
 [o1 29 (.fa 3 (.t 1)),o1 30 (.ld 1 false (.t 29)),
  (o2 31 27 [.t 30]),
  (mt 28 31),o1 32 (.ext 0 (.t 28)),o1 33 (.ext 1 (.t 28)),o1 34 (.ext 2 (.t 28)),
  (mt 6 32),
  (mt 7 33),
  (mt 8 34)]
abbrev RG:List AO:=
 [o1 35 (.ld 4 true (.t 1)),
  (o2 36 28 [.t 35]),o1 9 (.al 25 [.sl0,.n .i64 0,.n .i64 0,.sl0]),
  (o3 (.st 4 (.t 9) (.t 36)))]
abbrev RN:List (Nat×AO):=
 [(2,(o1 37 (.fa 1 (.t 1)))),(1,(o1 38 (.ld 1 false (.t 37)))),(2,(o1 40 (.fa 1 (.t 1)))),(1,(o1 41 (.ld 1 false (.t 40))))]
abbrev RD:AT:=
 (.alt (o1 39 (.ms 4 1 1 [.b false] (.t 38) (.t 38))) (.alt (o1 42 (.ms 35 1 4 [.n .u32 0] (.t 41) (.t 41))) (.alt (o1 43 (.bd [.sl0,.sl0] [(0,1,(.t 39)),(1,1,(.t 42))])) (.alt (o1 10 (.al 50 [.sl0,.sl0])) (.alt (o3 (.st 2 (.t 10) (.t 43))) .fin .none) .none) (.alt (o1 10 (.al 50 [.sl0,.sl0])) (.alt (o1 43 (.bd [.sl0,.sl0] [(0,1,(.t 39)),(1,1,(.t 42))])) (.alt (o3 (.st 2 (.t 10) (.t 43))) .fin .none) .none) .none)) (.alt (o1 10 (.al 50 [.sl0,.sl0])) (.alt (o1 42 (.ms 35 1 4 [.n .u32 0] (.t 41) (.t 41))) (.alt (o1 43 (.bd [.sl0,.sl0] [(0,1,(.t 39)),(1,1,(.t 42))])) (.alt (o3 (.st 2 (.t 10) (.t 43))) .fin .none) .none) .none) .none)) (.alt (o1 42 (.ms 35 1 4 [.n .u32 0] (.t 41) (.t 41))) (.alt (o1 39 (.ms 4 1 1 [.b false] (.t 38) (.t 38))) (.alt (o1 43 (.bd [.sl0,.sl0] [(0,1,(.t 39)),(1,1,(.t 42))])) (.alt (o1 10 (.al 50 [.sl0,.sl0])) (.alt (o3 (.st 2 (.t 10) (.t 43))) .fin .none) .none) (.alt (o1 10 (.al 50 [.sl0,.sl0])) (.alt (o1 43 (.bd [.sl0,.sl0] [(0,1,(.t 39)),(1,1,(.t 42))])) (.alt (o3 (.st 2 (.t 10) (.t 43))) .fin .none) .none) .none)) (.alt (o1 10 (.al 50 [.sl0,.sl0])) (.alt (o1 39 (.ms 4 1 1 [.b false] (.t 38) (.t 38))) (.alt (o1 43 (.bd [.sl0,.sl0] [(0,1,(.t 39)),(1,1,(.t 42))])) (.alt (o3 (.st 2 (.t 10) (.t 43))) .fin .none) .none) .none) .none)) (.alt (o1 10 (.al 50 [.sl0,.sl0])) (.alt (o1 39 (.ms 4 1 1 [.b false] (.t 38) (.t 38))) (.alt (o1 42 (.ms 35 1 4 [.n .u32 0] (.t 41) (.t 41))) (.alt (o1 43 (.bd [.sl0,.sl0] [(0,1,(.t 39)),(1,1,(.t 42))])) (.alt (o3 (.st 2 (.t 10) (.t 43))) .fin .none) .none) .none) (.alt (o1 42 (.ms 35 1 4 [.n .u32 0] (.t 41) (.t 41))) (.alt (o1 39 (.ms 4 1 1 [.b false] (.t 38) (.t 38))) (.alt (o1 43 (.bd [.sl0,.sl0] [(0,1,(.t 39)),(1,1,(.t 42))])) (.alt (o3 (.st 2 (.t 10) (.t 43))) .fin .none) .none) .none) .none)) .none)))
abbrev RF:List AO:=
 [o1 11 (.mv (ci 0))]
abbrev RE:List AO:=
 [(mt 44 11),o1 45 (.fa 1 (.t 1)),o1 46 (.ld 1 false (.t 45)),o1 47 (.bin .lss (.t 44) (.t 46))]
abbrev F9:List AO:=
 [o1 50 (.fa 0 (.t 10)),o1 51 (.ld 1 false (.t 50)),
  (mt 52 11),o1 53 (.ia 1 (.t 51) (.t 52)),
  (o3 (.st 1 (.t 53) (.c (.b true))))]
abbrev Gm:AC:=
 (.reg F9)
abbrev F8:List AO:=
 [(mt 48 11),o1 49 (.bin .add (.t 48) (ci 1)),
  (mt 11 49)]
abbrev Gp:AC:=
 (.seq (.seq (.reg RE) (.cond (.t 47) .skip (.exit 0))) (.seq (.block 1 Gm) (.reg F8)))
abbrev Gl:AC:=
 (.loop Gp)
abbrev F7:List AO:=
 [o1 12 (.mv (.c .sl0))]
abbrev F6:List AO:=
 [o1 13 (.mv (ci 0))]
abbrev F5:List AO:=
 [(mt 54 13),o1 55 (.fa 3 (.t 1)),o1 56 (.ld 1 false (.t 55)),o1 57 (.len (.t 56)),o1 58 (.bin .lss (.t 54) (.t 57))]
abbrev F4:List AO:=
 [o1 61 (.fa 3 (.t 1)),o1 62 (.ld 1 false (.t 61)),
  (mt 63 13),o1 64 (.ia 5 (.t 62) (.t 63)),o1 65 (.ld 5 true (.t 64)),o1 14 (.al 37 [.n .i64 0,.n .i64 0,.n .i64 0,.n .i64 0,.n .u32 0]),
  (o3 (.st 5 (.t 14) (.t 65)))]
abbrev F3:List AO:=
 [(mt 66 12),o1 67 (.len (.t 66)),
  (mt 15 67)]
abbrev F2:List AO:=
 [o1 68 (.fa 0 (.t 14)),o1 69 (.ld 1 false (.t 68))]
abbrev F1:List AO:=
 [o1 99 (.bin .eql (.t 69) (ci 27)),
  (mt 98 99)]
abbrev F0:List AO:=
 [(mt 100 12),o1 101 (.ld 2 true (.t 10)),
  (o2 102 29 [.t 101]),o1 103 (.bs 50 2 1 [.sl0,.sl0] [(0,2,(.t 102))]),o1 104 (.app 50 2 48 (.t 100) (.t 103)),
  (mt 12 104)]
abbrev FZ:List AO:=
 [o1 106 (.bin .eql (.t 69) (ci 28)),
  (mt 105 106)]
abbrev Gh:List (Nat×AO):=
 [(2,(mt 107 12)),
  (2,(mt 108 15)),(2,(o1 109 (.bin .sub (.t 108) (ci 1)))),
  (2,(mt 111 12)),
  (2,(mt 112 15)),(2,(o1 113 (.bin .sub (.t 112) (ci 1)))),(2,(o1 114 (.ia 2 (.t 111) (.t 113)))),(1,(o1 110 (.ld 2 true (.t 10)))),(1,(o1 115 (.ld 2 true (.t 114)))),
  (0,(o2 116 29 [.t 115])),(2,(o1 117 (.ia 2 (.t 107) (.t 109)))),
  (3,(o3 (.st 2 (.t 117) (.t 110)))),
  (3,(o3 (.st 2 (.t 10) (.t 116))))]
abbrev FY:List AO:=
 [o1 119 (.bin .eql (.t 69) (ci 29)),
  (mt 118 119)]
abbrev Gg:List (Nat×AO):=
 [(2,(mt 122 13)),
  (2,(mt 123 6)),
  (2,(mt 124 13)),(2,(o1 125 (.ia 1 (.t 123) (.t 124)))),(1,(o1 120 (.ld 2 true (.t 10)))),(1,(o1 121 (.ld 4 true (.t 1)))),(1,(o1 126 (.ld 1 false (.t 125)))),
  (0,(o2 127 31 [.t 121,.t 122,.t 126])),
  (3,(o2 128 30 [.t 120,.t 127])),
  (3,(o3 (.st 2 (.t 10) (.t 128))))]
abbrev FX:List AO:=
 [o1 130 (.bin .eql (.t 69) (ci 31)),
  (mt 129 130)]
abbrev Gf:List (Nat×AO):=
 [(2,(o1 131 (.fa 3 (.t 1)))),
  (2,(mt 133 6)),
  (2,(mt 134 13)),(2,(o1 135 (.ia 1 (.t 133) (.t 134)))),(1,(o1 132 (.ld 1 false (.t 131)))),(1,(o1 136 (.ld 1 false (.t 135)))),(2,(o1 137 (.ia 5 (.t 132) (.t 136)))),(2,(o1 138 (.fa 0 (.t 137)))),(1,(o1 139 (.ld 1 false (.t 138)))),(2,(o1 140 (.bin .eql (.t 139) (ci 29))))]
abbrev Gc:List (Nat×AO):=
 [(2,(mt 143 6)),
  (2,(mt 144 13)),(2,(o1 145 (.ia 1 (.t 143) (.t 144)))),
  (2,(mt 147 13)),(1,(o1 141 (.ld 2 true (.t 10)))),(1,(o1 142 (.ld 4 true (.t 1)))),(1,(o1 146 (.ld 1 false (.t 145)))),
  (0,(o2 148 31 [.t 142,.t 146,.t 147])),
  (3,(o2 149 30 [.t 141,.t 148])),
  (3,(o3 (.st 2 (.t 10) (.t 149))))]
abbrev Gb:List (Nat×AO):=
 [(2,(mt 151 12)),
  (2,(mt 152 15)),(2,(o1 153 (.bin .sub (.t 152) (ci 1)))),(2,(o1 154 (.ia 2 (.t 151) (.t 153)))),(1,(o1 150 (.ld 2 true (.t 10)))),(1,(o1 155 (.ld 2 true (.t 154)))),
  (3,(o2 156 32 [.t 150,.t 155])),
  (3,(o3 (.st 2 (.t 10) (.t 156))))]
abbrev FW:List AO:=
 [(mt 157 12),
  (mt 158 15),o1 159 (.bin .sub (.t 158) (ci 1)),o1 160 (.sl 2 (.t 157) none (some (.t 159))),
  (mt 12 160)]
abbrev FV:List AO:=
 [o1 70 (.ld 5 true (.t 14)),o1 71 (.ld 2 true (.t 10)),
  (o2 72 33 [.t 70,.t 71]),o1 16 (.al 37 [.n .i64 0,.n .i64 0,.n .i64 0,.n .i64 0,.n .u32 0]),
  (o3 (.st 5 (.t 16) (.t 72)))]
abbrev FU:List AO:=
 [o1 73 (.fa 3 (.t 9)),o1 74 (.ld 1 false (.t 73)),
  (mt 75 13),o1 76 (.ld 5 true (.t 16)),o1 77 (.ia 5 (.t 74) (.t 75)),
  (o3 (.st 5 (.t 77) (.t 76)))]
abbrev FT:List AO:=
 [o1 79 (.ld 5 true (.t 16)),
  (o2 80 34 [.t 79]),
  (mt 78 80),o1 81 (.ext 0 (.t 78)),o1 82 (.ext 1 (.t 78)),
  (mt 17 81),
  (mt 18 82)]
abbrev FS:List AO:=
 [(mt 83 18),o1 84 (.bin .geq (.t 83) (ci 0))]
abbrev Ga:List (Nat×AO):=
 [(2,(o1 85 (.fa 0 (.t 10)))),
  (2,(mt 87 18)),(2,(o1 88 (.fa 1 (.t 10)))),
  (2,(mt 90 18)),(2,(o1 91 (.fa 0 (.t 16)))),(2,(o1 94 (.fa 4 (.t 16)))),(1,(o1 86 (.ld 1 false (.t 85)))),(1,(o1 89 (.ld 1 false (.t 88)))),(1,(o1 92 (.ld 1 false (.t 91)))),(2,(o1 93 (.bin .eql (.t 92) (ci 0)))),(2,(o1 96 (.ia 1 (.t 86) (.t 87)))),(1,(o1 95 (.ld 1 false (.t 94)))),
  (0,(o3 (.st 1 (.t 96) (.t 93)))),(2,(o1 97 (.ia 1 (.t 89) (.t 90)))),
  (3,(o3 (.st 1 (.t 97) (.t 95))))]
abbrev Gk:AC:=
 (.seq (.reg F1) (.cond (.t 98) (.reg F0) (.seq (.reg FZ) (.cond (.t 105) (.mix Gh) (.seq (.reg FY) (.cond (.t 118) (.mix Gg) (.seq (.reg FX) (.cond (.t 129) (.seq (.mix Gf) (.cond (.t 140) (.mix Gc) (.seq (.mix Gb) (.reg FW)))) (.seq (.reg FV) (.seq (.reg FU) (.seq (.reg FT) (.seq (.reg FS) (.cond (.t 84) (.mix Ga) .skip)))))))))))))
abbrev Gj:AC:=
 (.seq (.reg F4) (.seq (.reg F3) (.seq (.reg F2) (.block 4 Gk))))
abbrev FQ:List AO:=
 [(mt 59 13),o1 60 (.bin .add (.t 59) (ci 1)),
  (mt 13 60)]
abbrev Gn:AC:=
 (.seq (.seq (.reg F5) (.cond (.t 58) .skip (.exit 2))) (.seq (.block 3 Gj) (.reg FQ)))
abbrev Gi:AC:=
 (.loop Gn)
abbrev FP:List AO:=
 [o1 161 (.ld 4 true (.t 9)),
  (o3 (.st 4 (.t 2) (.t 161))),o1 3 (.mv (ci 0))]
abbrev Xy:AF:=⟨162,(.seq (.reg RM) (.seq (.seq (.reg RL) (.seq (.reg RK) (.cond (.t 25) (.seq (.reg RJ) .ret) .skip))) (.seq (.reg RH) (.seq (.reg RG) (.seq (.frk RN RD) (.seq (.seq (.reg RF) (.block 0 Gl)) (.seq (.reg F7) (.seq (.seq (.reg F6) (.block 2 Gi)) (.seq (.reg FP) .ret))))))))),[.ld 4 true (.t 2),.mv (.t 3)]⟩
theorem Aw:bj Tryz.prog (aj Tryz.prog 11) 11=some Xy:=by kernel_rfl
/-! compactorref23.Uses-/
abbrev RA:List AO:=
 [o1 1 (.bx 37 0 (.t 0)),o1 2 (.mv (.c .sl0)),o1 3 (.mv (ci 0))]
abbrev Rz:List AO:=
 [o1 10 (.fa 0 (.t 1)),o1 11 (.ld 1 false (.t 10)),
  (o2 12 62 [.t 11]),
  (mt 9 12),o1 13 (.ext 0 (.t 9)),o1 14 (.ext 1 (.t 9)),o1 15 (.ext 2 (.t 9)),o1 16 (.ext 3 (.t 9)),
  (mt 4 13),
  (mt 5 14),
  (mt 6 15),
  (mt 7 16)]
abbrev Ry:List AO:=
 [o1 8 (.mv (.c .sl0))]
abbrev Rx:List AO:=
 [(mt 17 5)]
abbrev Rv:List AO:=
 [(mt 18 8),o1 19 (.fa 2 (.t 1)),o1 20 (.ld 1 false (.t 19)),o1 21 (.bs 3 1 1 [.n .i64 0] [(0,1,(.t 20))]),o1 22 (.app 3 1 8 (.t 18) (.t 21)),
  (mt 8 22)]
abbrev Ru:List AO:=
 [(mt 23 6)]
abbrev Rt:List AO:=
 [(mt 24 8),o1 25 (.fa 3 (.t 1)),o1 26 (.ld 1 false (.t 25)),o1 27 (.bs 3 1 1 [.n .i64 0] [(0,1,(.t 26))]),o1 28 (.app 3 1 8 (.t 24) (.t 27)),
  (mt 8 28)]
abbrev Rs:List AO:=
 [(mt 29 4)]
abbrev RC:List (Nat×AO):=
 [(2,(mt 30 8)),(2,(o1 31 (.fa 1 (.t 1)))),
  (2,(mt 2 30)),(1,(o1 32 (.ld 1 false (.t 31)))),
  (2,(mt 3 32))]
abbrev Rr:List AO:=
 [(mt 33 8),
  (mt 2 33),o1 3 (.mv (.c (.n .i64 (-1))))]
abbrev Xm:AF:=⟨34,(.seq (.reg RA) (.seq (.reg Rz) (.seq (.reg Ry) (.seq (.seq (.reg Rx) (.cond (.t 17) (.reg Rv) .skip)) (.seq (.seq (.reg Ru) (.cond (.t 23) (.reg Rt) .skip)) (.seq (.seq (.reg Rs) (.cond (.t 29) (.seq (.mix RC) .ret) .skip)) (.seq (.reg Rr) .ret))))))),[.mv (.t 2),.mv (.t 3)]⟩
theorem RB:bj Tryz.prog (aj Tryz.prog 34) 34=some Xm:=by kernel_rfl
/-! compactorref23.Parts-/
/-! slices.Clone[[]api.Array,api.Array]-/
abbrev Rp:List AO:=
 [o1 2 (.mv (.c .sl0))]
abbrev Ro:List AO:=
 [(mt 3 0),⟨some 4,none,.sn false (.t 3)⟩]
abbrev Rn:List AO:=
 [o1 2 (.mv (.c .sl0))]
abbrev Rm:List AO:=
 [o1 5 (.bs 93 2 0 [] []),
  (mt 6 0),o1 7 (.app 93 2 16 (.t 5) (.t 6)),
  (mt 2 7)]
abbrev Xl:AF:=⟨8,(.seq (.reg Rp) (.seq (.seq (.reg Ro) (.cond (.t 4) (.seq (.reg Rn) .ret) .skip)) (.seq (.reg Rm) .ret))),[.mv (.t 2)]⟩
theorem Rq:bj Tryz.prog (aj Tryz.prog 79) 79=some Xl:=by kernel_rfl
/-! slices.Clone[[]api.RegInstr,api.RegInstr]-/
abbrev Rk:List AO:=
 [o1 2 (.mv (.c .sl0))]
abbrev Rj:List AO:=
 [(mt 3 0),⟨some 4,none,.sn false (.t 3)⟩]
abbrev Ri:List AO:=
 [o1 2 (.mv (.c .sl0))]
abbrev Rh:List AO:=
 [o1 5 (.bs 37 5 0 [] []),
  (mt 6 0),o1 7 (.app 37 5 40 (.t 5) (.t 6)),
  (mt 2 7)]
abbrev Xk:AF:=⟨8,(.seq (.reg Rk) (.seq (.seq (.reg Rj) (.cond (.t 4) (.seq (.reg Ri) .ret) .skip)) (.seq (.reg Rh) .ret))),[.mv (.t 2)]⟩
theorem Rl:bj Tryz.prog (aj Tryz.prog 80) 80=some Xk:=by kernel_rfl
/-! compactorref23.Same-/
abbrev Rd:List AO:=
 [o1 2 (.bx 25 0 (.t 0)),o1 3 (.bx 25 0 (.t 1)),o1 4 (.mv (.c (.b false)))]
abbrev Rc:List AO:=
 [o1 6 (.fa 1 (.t 2)),o1 7 (.ld 1 false (.t 6)),o1 8 (.fa 1 (.t 3)),o1 9 (.ld 1 false (.t 8)),o1 10 (.bin .neq (.t 7) (.t 9)),
  (mt 11 10),
  (o4 12 11 (.fa 2 (.t 2))),
  (o4 13 11 (.ld 1 false (.t 12))),
  (o4 14 11 (.fa 2 (.t 3))),
  (o4 15 11 (.ld 1 false (.t 14))),
  (o4 16 11 (.bin .neq (.t 13) (.t 15))),o1 17 (.pick (.t 11) (.c (.b true)) (.t 16)),
  (mt 18 17),
  (o4 19 18 (.fa 0 (.t 2))),
  (o4 20 18 (.ld 1 false (.t 19))),
  (o4 21 18 (.fa 0 (.t 3))),
  (o4 22 18 (.ld 1 false (.t 21))),⟨some 23,some (18,false),.cl (.c (.f 35 [] [])) [.t 20,.t 22]⟩,
  (o4 24 18 (.un .not (.t 23))),o1 25 (.pick (.t 18) (.c (.b true)) (.t 24)),
  (mt 26 25),
  (o4 27 26 (.fa 3 (.t 2))),
  (o4 28 26 (.ld 1 false (.t 27))),
  (o4 29 26 (.len (.t 28))),
  (o4 30 26 (.fa 3 (.t 3))),
  (o4 31 26 (.ld 1 false (.t 30))),
  (o4 32 26 (.len (.t 31))),
  (o4 33 26 (.bin .neq (.t 29) (.t 32))),o1 34 (.pick (.t 26) (.c (.b true)) (.t 33))]
abbrev Rb:List AO:=
 [o1 4 (.mv (.c (.b false)))]
abbrev Ra:List AO:=
 [o1 5 (.mv (ci 0))]
abbrev Q9:List AO:=
 [(mt 35 5),o1 36 (.fa 3 (.t 2)),o1 37 (.ld 1 false (.t 36)),o1 38 (.len (.t 37)),o1 39 (.bin .lss (.t 35) (.t 38))]
abbrev Re:List (Nat×AO):=
 [(2,(o1 42 (.fa 3 (.t 2)))),
  (2,(mt 44 5)),(2,(o1 47 (.fa 3 (.t 3)))),
  (2,(mt 49 5)),(1,(o1 43 (.ld 1 false (.t 42)))),(2,(o1 45 (.ia 5 (.t 43) (.t 44)))),(1,(o1 46 (.ld 5 true (.t 45)))),(1,(o1 48 (.ld 1 false (.t 47)))),(2,(o1 50 (.ia 5 (.t 48) (.t 49)))),(1,(o1 51 (.ld 5 true (.t 50)))),(2,(o1 52 (.eq true (.st [(0,1,.n),(1,1,.n),(2,1,.n),(3,1,.n),(4,1,.n)]) (.t 46) (.t 51))))]
abbrev Q8:List AO:=
 [o1 4 (.mv (.c (.b false)))]
abbrev Rf:AC:=
 (.seq (.mix Re) (.cond (.t 52) (.seq (.reg Q8) .ret) .skip))
abbrev Q7:List AO:=
 [(mt 40 5),o1 41 (.bin .add (.t 40) (ci 1)),
  (mt 5 41)]
abbrev Rg:AC:=
 (.seq (.seq (.reg Q9) (.cond (.t 39) .skip (.exit 0))) (.seq (.block 1 Rf) (.reg Q7)))
abbrev FO:AC:=
 (.loop Rg)
abbrev FN:List AO:=
 [o1 4 (.mv (.c (.b true)))]
abbrev Xj:AF:=⟨53,(.seq (.reg Rd) (.seq (.seq (.reg Rc) (.cond (.t 34) (.seq (.reg Rb) .ret) .skip)) (.seq (.seq (.reg Ra) (.block 0 FO)) (.seq (.reg FN) .ret)))),[.mv (.t 4)]⟩
theorem Av:bj Tryz.prog (aj Tryz.prog 12) 12=some Xj:=by kernel_rfl
/-! compactorref15.SameArrays-/
abbrev Q2:List AO:=
 [o1 4 (.mv (.c (.b false)))]
abbrev Q1:List AO:=
 [(mt 6 0),o1 7 (.len (.t 6)),
  (mt 8 1),o1 9 (.len (.t 8)),o1 10 (.bin .neq (.t 7) (.t 9))]
abbrev Q0:List AO:=
 [o1 4 (.mv (.c (.b false)))]
abbrev QZ:List AO:=
 [o1 5 (.mv (ci 0))]
abbrev QY:List AO:=
 [(mt 11 5),
  (mt 12 0),o1 13 (.len (.t 12)),o1 14 (.bin .lss (.t 11) (.t 13))]
abbrev Q4:List (Nat×AO):=
 [(2,(mt 17 0)),
  (2,(mt 18 5)),(2,(o1 19 (.ia 2 (.t 17) (.t 18)))),
  (2,(mt 21 1)),
  (2,(mt 22 5)),(2,(o1 23 (.ia 2 (.t 21) (.t 22)))),(1,(o1 20 (.ld 2 true (.t 19)))),(1,(o1 24 (.ld 2 true (.t 23)))),(2,(o1 25 (.eq true (.st [(0,1,.b),(1,1,.n)]) (.t 20) (.t 24))))]
abbrev QX:List AO:=
 [o1 4 (.mv (.c (.b false)))]
abbrev Q5:AC:=
 (.seq (.mix Q4) (.cond (.t 25) (.seq (.reg QX) .ret) .skip))
abbrev QW:List AO:=
 [(mt 15 5),o1 16 (.bin .add (.t 15) (ci 1)),
  (mt 5 16)]
abbrev Q6:AC:=
 (.seq (.seq (.reg QY) (.cond (.t 14) .skip (.exit 0))) (.seq (.block 1 Q5) (.reg QW)))
abbrev FM:AC:=
 (.loop Q6)
abbrev FL:List AO:=
 [o1 4 (.mv (.c (.b true)))]
abbrev Xi:AF:=⟨26,(.seq (.reg Q2) (.seq (.seq (.reg Q1) (.cond (.t 10) (.seq (.reg Q0) .ret) .skip)) (.seq (.seq (.reg QZ) (.block 0 FM)) (.seq (.reg FL) .ret)))),[.mv (.t 4)]⟩
theorem Q3:bj Tryz.prog (aj Tryz.prog 35) 35=some Xi:=by kernel_rfl
/-! compactorref24.Few-/
abbrev QU:List AO:=
 [o1 1 (.bx 25 0 (.t 0)),o1 2 (.mv (.c (.b false)))]
abbrev QT:List AO:=
 [o1 3 (.ld 4 true (.t 1)),
  (o2 4 21 [.t 3]),
  (mt 5 4),
  (o5 6 5 (.fa 1 (.t 1))),
  (o5 7 5 (.ld 1 false (.t 6))),
  (o5 8 5 (.bin .leq (.t 7) (ci 60))),
  (o5 9 5 (.mv (.t 8))),
  (o4 10 9 (.fa 1 (.t 1))),
  (o4 11 9 (.ld 1 false (.t 10))),
  (o4 12 9 (.bin .gtr (.t 11) (ci 1024))),
  (o5 13 5 (.pick (.t 9) (.c (.b true)) (.t 12))),o1 14 (.pick (.t 5) (.t 13) (.c (.b false))),
  (mt 2 14)]
abbrev Xh:AF:=⟨15,(.seq (.reg QU) (.seq (.reg QT) .ret)),[.mv (.t 2)]⟩
theorem QV:bj Tryz.prog (aj Tryz.prog 8) 8=some Xh:=by kernel_rfl
/-! compactorref23.Few-/
abbrev QR:List AO:=
 [o1 1 (.bx 25 0 (.t 0)),o1 2 (.mv (.c (.b false)))]
abbrev QQ:List AO:=
 [o1 3 (.fa 0 (.t 1)),o1 4 (.ld 1 false (.t 3)),o1 5 (.len (.t 4)),o1 6 (.bin .leq (.t 5) (ci 20)),
  (mt 7 6),
  (o5 8 7 (.fa 3 (.t 1))),
  (o5 9 7 (.ld 1 false (.t 8))),
  (o5 10 7 (.len (.t 9))),
  (o5 11 7 (.bin .leq (.t 10) (ci 300))),o1 12 (.pick (.t 7) (.t 11) (.c (.b false))),
  (mt 2 12)]
abbrev Xg:AF:=⟨13,(.seq (.reg QR) (.seq (.reg QQ) .ret)),[.mv (.t 2)]⟩
theorem QS:bj Tryz.prog (aj Tryz.prog 21) 21=some Xg:=by kernel_rfl
/-! compactorlaw24.OptimizerFolds-/
abbrev QP:List AO:=
 [o1 1 (.bx 25 0 (.t 0)),o1 2 (.mv (.c (.b false)))]
abbrev QO:List AO:=
 [o1 7 (.ld 4 true (.t 1)),
  (o2 8 8 [.t 7]),o1 9 (.un .not (.t 8))]
abbrev QN:List AO:=
 [(o2 10 9 []),
  (mt 2 10)]
abbrev QM:List AO:=
 [o1 12 (.ld 4 true (.t 1)),
  (o2 13 10 [.t 12]),
  (mt 11 13),o1 14 (.ext 0 (.t 11)),o1 15 (.ext 1 (.t 11)),o1 3 (.al 25 [.sl0,.n .i64 0,.n .i64 0,.sl0]),
  (o3 (.st 4 (.t 3) (.t 14))),
  (mt 4 15)]
abbrev QL:List AO:=
 [o1 17 (.ld 4 true (.t 1)),
  (o2 18 11 [.t 17]),
  (mt 16 18),o1 19 (.ext 0 (.t 16)),o1 20 (.ext 1 (.t 16)),o1 5 (.al 25 [.sl0,.n .i64 0,.n .i64 0,.sl0]),
  (o3 (.st 4 (.t 5) (.t 19))),
  (mt 6 20)]
abbrev QK:List AO:=
 [(o2 21 9 []),
  (mt 22 21),
  (o5 23 22 (.ld 4 true (.t 3))),
  (o5 24 22 (.ld 4 true (.t 5))),⟨some 25,some (22,true),.cl (.c (.f 12 [] [])) [.t 23,.t 24]⟩,o1 26 (.pick (.t 22) (.t 25) (.c (.b false))),
  (mt 27 26),
  (o5 28 27 (.mv (.t 4))),
  (o5 29 27 (.mv (.t 6))),
  (o5 30 27 (.bin .eql (.t 28) (.t 29))),o1 31 (.pick (.t 27) (.t 30) (.c (.b false))),
  (mt 2 31)]
abbrev Xf:AF:=⟨32,(.seq (.reg QP) (.seq (.seq (.reg QO) (.cond (.t 9) (.seq (.reg QN) .ret) .skip)) (.seq (.reg QM) (.seq (.reg QL) (.seq (.reg QK) .ret))))),[.mv (.t 2)]⟩
theorem Au:bj Tryz.prog (aj Tryz.prog 3) 3=some Xf:=by kernel_rfl
/-! lower.shapes-/
/-! optimizer.Copies-/
abbrev QI:List AO:=
 [o1 1 (.bx 25 0 (.t 0)),o1 2 (.al 25 [.sl0,.n .i64 0,.n .i64 0,.sl0]),o1 3 (.mv (ci 0))]
abbrev QH:List AO:=
 [o1 4 (.ld 4 true (.t 1)),
  (o2 5 24 [.t 4,(.c (.f 36 [] []))]),o1 6 (.ext 0 (.t 5)),o1 7 (.ext 1 (.t 5)),
  (o3 (.st 4 (.t 2) (.t 6))),
  (mt 3 7)]
abbrev Xe:AF:=⟨8,(.seq (.reg QI) (.seq (.reg QH) .ret)),[.ld 4 true (.t 2),.mv (.t 3)]⟩
theorem QJ:bj Tryz.prog (aj Tryz.prog 13) 13=some Xe:=by kernel_rfl
/-! optimizer.copies-/
abbrev QF:List AO:=
 [o1 1 (.bx 25 0 (.t 0)),o1 2 (.mv (.c .sl0))]
abbrev QE:List AO:=
 [o1 3 (.fa 3 (.t 1)),o1 4 (.ld 1 false (.t 3)),o1 5 (.bd [.f0,.f0] [(0,1,(.c (.f 65 [] []))),(1,1,(.c (.f 66 [] [])))]),
  (o2 6 64 [.t 4,(.c .sl0),.t 5]),
  (mt 2 6)]
abbrev Xd:AF:=⟨7,(.seq (.reg QF) (.seq (.reg QE) .ret)),[.mv (.t 2)]⟩
theorem QG:bj Tryz.prog (aj Tryz.prog 36) 36=some Xd:=by kernel_rfl
/-! optimizer.walk[optimizer.same]-/
abbrev QC:List AO:=
 [o1 5 (.bx 108 0 (.t 2)),o1 6 (.mv (.c .sl0))]
abbrev QB:List AO:=
 [(mt 16 0),
  (o2 17 86 [.t 16]),
  (mt 7 17)]
abbrev QA:List AO:=
 [o1 8 (.mv (.c .sl0))]
abbrev Qz:List AO:=
 [o1 9 (.mv (.c .sl0))]
abbrev Qy:List AO:=
 [(mt 18 0),o1 19 (.len (.t 18)),o1 20 (.mv (ci 0))]
abbrev Qx:List AO:=
 [o1 21 (.bin .lss (.t 20) (.t 19))]
abbrev Qw:List AO:=
 [(mt 22 20),o1 23 (.ia 5 (.t 18) (.t 20)),o1 24 (.ld 5 true (.t 23)),o1 11 (.al 37 [.n .i64 0,.n .i64 0,.n .i64 0,.n .i64 0,.n .u32 0]),
  (mt 10 22),
  (o3 (.st 5 (.t 11) (.t 24)))]
abbrev Qv:List AO:=
 [o1 26 (.fa 1 (.t 5)),o1 27 (.ld 1 false (.t 26)),o1 28 (.ld 5 true (.t 11)),
  (mt 29 1),⟨some 30,none,.cl (.t 27) [.t 28,.t 29]⟩,
  (mt 25 30),o1 31 (.ext 0 (.t 25)),o1 32 (.ext 1 (.t 25)),o1 33 (.ext 2 (.t 25)),o1 12 (.al 37 [.n .i64 0,.n .i64 0,.n .i64 0,.n .i64 0,.n .u32 0]),
  (o3 (.st 5 (.t 12) (.t 31))),
  (mt 13 32),
  (mt 14 33)]
abbrev Qu:List AO:=
 [(mt 34 13),o1 35 (.un .not (.t 34))]
abbrev Qt:List AO:=
 [(mt 36 9),o1 37 (.len (.t 36)),o1 38 (.bin .sub (.t 37) (ci 1)),
  (mt 15 38)]
abbrev FD:List AO:=
 [o1 40 (.fa 0 (.t 11)),o1 41 (.ld 1 false (.t 40)),o1 42 (.bin .eql (.t 41) (ci 27)),
  (mt 39 42)]
abbrev FC:List AO:=
 [(mt 43 9),
  (mt 44 1),o1 45 (.bs 104 1 1 [.sl0] [(0,1,(.t 44))]),o1 46 (.app 104 1 24 (.t 43) (.t 45)),
  (mt 9 46)]
abbrev FB:List AO:=
 [o1 48 (.fa 0 (.t 11)),o1 49 (.ld 1 false (.t 48)),o1 50 (.bin .eql (.t 49) (ci 28)),
  (mt 47 50)]
abbrev FA:List AO:=
 [(mt 51 9),
  (mt 52 15),
  (mt 53 1),
  (mt 54 9),
  (mt 55 15),o1 56 (.ia 1 (.t 54) (.t 55)),o1 57 (.ld 1 false (.t 56)),o1 58 (.ia 1 (.t 51) (.t 52)),
  (o3 (.st 1 (.t 58) (.t 53))),
  (mt 1 57)]
abbrev Fy:List AO:=
 [o1 60 (.fa 0 (.t 11)),o1 61 (.ld 1 false (.t 60)),o1 62 (.bin .eql (.t 61) (ci 29)),
  (mt 59 62)]
abbrev FG:List (Nat×AO):=
 [(2,(mt 63 1)),
  (2,(mt 65 0)),
  (2,(mt 66 10)),
  (2,(mt 67 7)),
  (2,(mt 68 10)),(2,(o1 69 (.ia 1 (.t 67) (.t 68)))),(1,(o1 64 (.ld 2 true (.t 5)))),(1,(o1 70 (.ld 1 false (.t 69)))),(2,(o1 71 (.sl 5 (.t 65) (some (.t 66)) (some (.t 70))))),
  (3,(o2 72 97 [.t 63,.t 64,.t 71])),
  (2,(mt 1 72))]
abbrev Fx:List AO:=
 [o1 74 (.fa 0 (.t 11)),o1 75 (.ld 1 false (.t 74)),o1 76 (.bin .eql (.t 75) (ci 31)),
  (mt 77 76),
  (o5 78 77 (.mv (.t 0))),
  (o5 79 77 (.mv (.t 7))),
  (o5 80 77 (.mv (.t 10))),
  (o5 81 77 (.ia 1 (.t 79) (.t 80))),
  (o5 82 77 (.ld 1 false (.t 81))),
  (o5 83 77 (.ia 5 (.t 78) (.t 82))),
  (o5 84 77 (.fa 0 (.t 83))),
  (o5 85 77 (.ld 1 false (.t 84))),
  (o5 86 77 (.bin .eql (.t 85) (ci 29))),o1 87 (.pick (.t 77) (.t 86) (.c (.b false))),
  (mt 73 87)]
abbrev FF:List (Nat×AO):=
 [(2,(mt 88 1)),
  (2,(mt 90 0)),
  (2,(mt 91 7)),
  (2,(mt 92 10)),(2,(o1 93 (.ia 1 (.t 91) (.t 92)))),
  (2,(mt 95 10)),(1,(o1 89 (.ld 2 true (.t 5)))),(1,(o1 94 (.ld 1 false (.t 93)))),(2,(o1 96 (.sl 5 (.t 90) (some (.t 94)) (some (.t 95))))),
  (3,(o2 97 97 [.t 88,.t 89,.t 96])),
  (2,(mt 1 97))]
abbrev Fw:List AO:=
 [o1 99 (.fa 0 (.t 11)),o1 100 (.ld 1 false (.t 99)),o1 101 (.bin .eql (.t 100) (ci 31)),
  (mt 98 101)]
abbrev FE:List (Nat×AO):=
 [(2,(mt 102 1)),
  (2,(mt 103 9)),
  (2,(mt 104 15)),(2,(o1 105 (.ia 1 (.t 103) (.t 104)))),
  (2,(mt 108 9)),
  (2,(mt 109 15)),(2,(o1 110 (.sl 1 (.t 108) none (some (.t 109))))),(1,(o1 106 (.ld 1 false (.t 105)))),
  (3,(o2 107 98 [.t 102,.t 106])),
  (2,(mt 1 107)),
  (2,(mt 9 110))]
abbrev FJ:AC:=
 (.seq (.reg FD) (.cond (.t 39) (.reg FC) (.seq (.reg FB) (.cond (.t 47) (.reg FA) (.seq (.reg Fy) (.cond (.t 59) (.mix FG) (.seq (.reg Fx) (.cond (.t 73) (.mix FF) (.seq (.reg Fw) (.cond (.t 98) (.mix FE) .skip))))))))))
abbrev Fv:List AO:=
 [(mt 111 1),o1 112 (.ld 2 true (.t 5)),o1 113 (.ld 5 true (.t 12)),o1 114 (.bs 37 5 1 [.n .i64 0,.n .i64 0,.n .i64 0,.n .i64 0,.n .u32 0] [(0,5,(.t 113))]),
  (o2 115 97 [.t 111,.t 112,.t 114]),
  (mt 116 14),o1 117 (.app 102 2 16 (.t 115) (.t 116)),
  (mt 1 117)]
abbrev Fu:List AO:=
 [(mt 118 8),o1 119 (.ld 5 true (.t 12)),o1 120 (.bs 37 5 1 [.n .i64 0,.n .i64 0,.n .i64 0,.n .i64 0,.n .u32 0] [(0,5,(.t 119))]),o1 121 (.app 37 5 40 (.t 118) (.t 120)),
  (mt 8 121)]
abbrev FI:AC:=
 (.seq (.reg Qw) (.seq (.reg Qv) (.seq (.seq (.reg Qu) (.cond (.t 35) (.exit 1) .skip)) (.seq (.reg Qt) (.seq (.block 2 FJ) (.seq (.reg Fv) (.reg Fu)))))))
abbrev Ft:List AO:=
 [o1 122 (.bin .add (.t 20) (ci 1)),
  (mt 20 122)]
abbrev FK:AC:=
 (.seq (.reg Qx) (.seq (.cond (.t 21) .skip (.exit 0)) (.seq (.block 1 FI) (.reg Ft))))
abbrev FH:AC:=
 (.loop FK)
abbrev Fs:List AO:=
 [(mt 123 8),
  (mt 6 123)]
abbrev W8:AF:=⟨124,(.seq (.reg QC) (.seq (.reg QB) (.seq (.reg QA) (.seq (.reg Qz) (.seq (.seq (.reg Qy) (.block 0 FH)) (.seq (.reg Fs) .ret)))))),[.mv (.t 6)]⟩
theorem QD:bj Tryz.prog (aj Tryz.prog 64) 64=some W8:=by kernel_rfl
/-! optimizer.copies$1-/
abbrev Qr:List AO:=
 [o1 2 (.bx 37 0 (.t 0)),o1 3 (.bx 102 0 (.t 1)),o1 4 (.mv (.c (.b false)))]
abbrev Qq:List AO:=
 [o1 6 (.ld 5 true (.t 2)),
  (o2 7 57 [.t 6]),
  (mt 5 7)]
abbrev Qp:List AO:=
 [(mt 8 5),o1 9 (.fa 0 (.t 3)),o1 10 (.ld 1 false (.t 9)),o1 11 (.bin .eql (.t 8) (.t 10)),
  (mt 12 11),
  (o4 13 12 (.mv (.t 5))),
  (o4 14 12 (.fa 1 (.t 3))),
  (o4 15 12 (.ld 1 false (.t 14))),
  (o4 16 12 (.bin .eql (.t 13) (.t 15))),o1 17 (.pick (.t 12) (.c (.b true)) (.t 16)),
  (mt 4 17)]
abbrev W7:AF:=⟨18,(.seq (.reg Qr) (.seq (.reg Qq) (.seq (.reg Qp) .ret))),[.mv (.t 4)]⟩
theorem Qs:bj Tryz.prog (aj Tryz.prog 65) 65=some W7:=by kernel_rfl
/-! optimizer.copies$2-/
abbrev Ql:List AO:=
 [o1 2 (.bx 37 0 (.t 0)),o1 4 (.al 37 [.n .i64 0,.n .i64 0,.n .i64 0,.n .i64 0,.n .u32 0]),o1 5 (.mv (.c (.b false))),o1 6 (.mv (.c .sl0))]
abbrev Qn:List (Nat×AO):=
 [(2,(mt 7 1)),(2,(o1 8 (.fa 2 (.t 2)))),
  (2,(mt 11 1)),(2,(o1 12 (.fa 3 (.t 2)))),(1,(o1 9 (.ld 1 false (.t 8)))),(1,(o1 13 (.ld 1 false (.t 12)))),
  (0,(o2 10 67 [.t 7,.t 9])),(2,(o1 15 (.fa 2 (.t 2)))),
  (3,(o2 14 67 [.t 11,.t 13])),
  (3,(o3 (.st 1 (.t 15) (.t 10)))),(2,(o1 16 (.fa 3 (.t 2)))),
  (3,(o3 (.st 1 (.t 16) (.t 14))))]
abbrev Qk:List AO:=
 [o1 18 (.fa 0 (.t 2)),o1 19 (.ld 1 false (.t 18)),o1 20 (.bin .neq (.t 19) (ci 36)),
  (mt 17 20)]
abbrev Qj:List AO:=
 [o1 21 (.ld 5 true (.t 2)),
  (o3 (.st 5 (.t 4) (.t 21))),o1 5 (.mv (.c (.b true))),o1 6 (.mv (.c .sl0))]
abbrev Qi:List AO:=
 [o1 23 (.fa 2 (.t 2)),o1 24 (.ld 1 false (.t 23)),o1 25 (.fa 1 (.t 2)),o1 26 (.ld 1 false (.t 25)),o1 27 (.bin .eql (.t 24) (.t 26)),
  (mt 22 27)]
abbrev Qh:List AO:=
 [o1 28 (.ld 5 true (.t 2)),
  (o3 (.st 5 (.t 4) (.t 28))),o1 5 (.mv (.c (.b false))),o1 6 (.mv (.c .sl0))]
abbrev Qo:AC:=
 (.seq (.reg Qk) (.cond (.t 17) (.seq (.reg Qj) .ret) (.seq (.reg Qi) (.cond (.t 22) (.seq (.reg Qh) .ret) .skip))))
abbrev Qm:List (Nat×AO):=
 [(1,(o1 29 (.ld 5 true (.t 2)))),(2,(o1 30 (.fa 1 (.t 2)))),(1,(o1 31 (.ld 1 false (.t 30)))),(2,(o1 32 (.fa 2 (.t 2)))),(1,(o1 33 (.ld 1 false (.t 32)))),(2,(o1 34 (.bd [.n .i64 0,.n .i64 0] [(0,1,(.t 31)),(1,1,(.t 33))])))]
abbrev Qg:AT:=
 (.alt (o1 35 (.bs 102 2 1 [.n .i64 0,.n .i64 0] [(0,2,(.t 34))])) (.alt (o3 (.st 5 (.t 4) (.t 29))) (.alt (o1 5 (.mv (.c (.b true)))) (.alt (mt 6 35) .fin .none) .none) .none) (.alt (o3 (.st 5 (.t 4) (.t 29))) (.alt (o1 35 (.bs 102 2 1 [.n .i64 0,.n .i64 0] [(0,2,(.t 34))])) (.alt (o1 5 (.mv (.c (.b true)))) (.alt (mt 6 35) .fin .none) .none) (.alt (o1 5 (.mv (.c (.b true)))) (.alt (o1 35 (.bs 102 2 1 [.n .i64 0,.n .i64 0] [(0,2,(.t 34))])) (.alt (mt 6 35) .fin .none) .none) .none)) .none))
abbrev W6:AF:=⟨36,(.seq (.reg Ql) (.seq (.mix Qn) (.seq (.block 0 Qo) (.seq (.frk Qm Qg) .ret)))),[.ld 5 true (.t 4),.mv (.t 5),.mv (.t 6)]⟩
theorem v9:bj Tryz.prog (aj Tryz.prog 66) 66=some W6:=by kernel_rfl
/-! optimizer.without[optimizer.same]-/
abbrev Qc:List AO:=
 [o1 4 (.bx 108 0 (.t 1)),o1 6 (.mv (.c .sl0))]
abbrev Qb:List AO:=
 [o1 7 (.mv (.c .sl0))]
abbrev Qa:List AO:=
 [(mt 10 0),o1 11 (.len (.t 10)),o1 12 (.mv (ci 0))]
abbrev P9:List AO:=
 [o1 13 (.bin .lss (.t 12) (.t 11))]
abbrev P8:List AO:=
 [o1 14 (.ia 2 (.t 10) (.t 12)),o1 15 (.ld 2 true (.t 14)),o1 9 (.al 102 [.n .i64 0,.n .i64 0]),
  (o3 (.st 2 (.t 9) (.t 15)))]
abbrev P7:List AO:=
 [(mt 16 2),o1 17 (.mf 114 [] [.t 4,.t 9]),
  (o2 18 107 [.t 16,.t 17]),o1 19 (.un .not (.t 18))]
abbrev P6:List AO:=
 [(mt 20 7),o1 21 (.ld 2 true (.t 9)),o1 22 (.bs 102 2 1 [.n .i64 0,.n .i64 0] [(0,2,(.t 21))]),o1 23 (.app 102 2 16 (.t 20) (.t 22)),
  (mt 7 23)]
abbrev Qe:AC:=
 (.seq (.reg P8) (.seq (.reg P7) (.cond (.t 19) (.reg P6) .skip)))
abbrev P5:List AO:=
 [o1 24 (.bin .add (.t 12) (ci 1)),
  (mt 12 24)]
abbrev Qf:AC:=
 (.seq (.reg P9) (.seq (.cond (.t 13) .skip (.exit 0)) (.seq (.block 1 Qe) (.reg P5))))
abbrev Fq:AC:=
 (.loop Qf)
abbrev Fp:List AO:=
 [(mt 25 7),
  (mt 6 25)]
abbrev W5:AF:=⟨26,(.seq (.reg Qc) (.seq (.reg Qb) (.seq (.seq (.reg Qa) (.block 0 Fq)) (.seq (.reg Fp) .ret)))),[.mv (.t 6)]⟩
theorem Qd:bj Tryz.prog (aj Tryz.prog 97) 97=some W5:=by kernel_rfl
/-! optimizer.both[optimizer.same]-/
abbrev P1:List AO:=
 [o1 4 (.mv (.c .sl0))]
abbrev P0:List AO:=
 [o1 5 (.mv (.c .sl0))]
abbrev PZ:List AO:=
 [(mt 8 0),o1 9 (.len (.t 8)),o1 10 (.mv (ci 0))]
abbrev PY:List AO:=
 [o1 11 (.bin .lss (.t 10) (.t 9))]
abbrev PW:List AO:=
 [o1 12 (.ia 2 (.t 8) (.t 10)),o1 13 (.ld 2 true (.t 12)),o1 7 (.al 102 [.n .i64 0,.n .i64 0]),
  (o3 (.st 2 (.t 7) (.t 13)))]
abbrev PV:List AO:=
 [(mt 14 1),o1 15 (.ld 2 true (.t 7)),
  (o2 16 115 [.t 14,.t 15])]
abbrev PU:List AO:=
 [(mt 17 5),o1 18 (.ld 2 true (.t 7)),o1 19 (.bs 102 2 1 [.n .i64 0,.n .i64 0] [(0,2,(.t 18))]),o1 20 (.app 102 2 16 (.t 17) (.t 19)),
  (mt 5 20)]
abbrev P3:AC:=
 (.seq (.reg PW) (.seq (.reg PV) (.cond (.t 16) (.reg PU) .skip)))
abbrev PS:List AO:=
 [o1 21 (.bin .add (.t 10) (ci 1)),
  (mt 10 21)]
abbrev P4:AC:=
 (.seq (.reg PY) (.seq (.cond (.t 11) .skip (.exit 0)) (.seq (.block 1 P3) (.reg PS))))
abbrev Fo:AC:=
 (.loop P4)
abbrev Fm:List AO:=
 [(mt 22 5),
  (mt 4 22)]
abbrev W4:AF:=⟨23,(.seq (.reg P1) (.seq (.reg P0) (.seq (.seq (.reg PZ) (.block 0 Fo)) (.seq (.reg Fm) .ret)))),[.mv (.t 4)]⟩
theorem P2:bj Tryz.prog (aj Tryz.prog 98) 98=some W4:=by kernel_rfl
/-! optimizer.without[optimizer.same]$1-/
abbrev PP:List AO:=
 [o1 3 (.bx 37 0 (.t 0)),o1 4 (.mv (.c (.b false)))]
abbrev PO:List AO:=
 [o1 5 (.fa 0 (.t 1)),o1 6 (.ld 1 false (.t 5)),o1 7 (.ld 5 true (.t 3)),o1 8 (.ld 2 true (.t 2)),⟨some 9,none,.cl (.t 6) [.t 7,.t 8]⟩,
  (mt 4 9)]
abbrev W3:AF:=⟨10,(.seq (.reg PP) (.seq (.reg PO) .ret)),[.mv (.t 4)]⟩
theorem PQ:bj Tryz.prog (aj Tryz.prog 114) 114=some W3:=by kernel_rfl
/-! slices.Contains[[]optimizer.same,optimizer.same]-/
abbrev PL:List AO:=
 [o1 3 (.bx 102 0 (.t 1)),o1 4 (.mv (.c (.b false)))]
abbrev PK:List AO:=
 [(mt 5 0),o1 6 (.ld 2 true (.t 3)),
  (o2 7 140 [.t 5,.t 6]),o1 8 (.bin .geq (.t 7) (ci 0)),
  (mt 4 8)]
abbrev W2:AF:=⟨9,(.seq (.reg PL) (.seq (.reg PK) .ret)),[.mv (.t 4)]⟩
theorem PN:bj Tryz.prog (aj Tryz.prog 115) 115=some W2:=by kernel_rfl
/-! slices.Index[[]optimizer.same,optimizer.same]-/
abbrev PD:List AO:=
 [o1 3 (.bx 102 0 (.t 1)),o1 4 (.mv (ci 0))]
abbrev PC:List AO:=
 [(mt 6 0),o1 7 (.len (.t 6)),o1 8 (.mv (ci 0))]
abbrev PB:List AO:=
 [o1 9 (.bin .lss (.t 8) (.t 7))]
abbrev PA:List AO:=
 [(mt 10 8),
  (mt 5 10)]
abbrev PF:List (Nat×AO):=
 [(2,(mt 12 0)),
  (2,(mt 13 5)),(2,(o1 14 (.ia 2 (.t 12) (.t 13)))),(1,(o1 11 (.ld 2 true (.t 3)))),(1,(o1 15 (.ld 2 true (.t 14)))),(2,(o1 16 (.eq false (.st [(0,1,.n),(1,1,.n)]) (.t 11) (.t 15))))]
abbrev Pz:List AO:=
 [(mt 17 5),
  (mt 4 17)]
abbrev PH:AC:=
 (.seq (.reg PA) (.seq (.mix PF) (.cond (.t 16) (.seq (.reg Pz) .ret) .skip)))
abbrev Py:List AO:=
 [o1 18 (.bin .add (.t 8) (ci 1)),
  (mt 8 18)]
abbrev PJ:AC:=
 (.seq (.reg PB) (.seq (.cond (.t 9) .skip (.exit 0)) (.seq (.block 1 PH) (.reg Py))))
abbrev PG:AC:=
 (.loop PJ)
abbrev Fl:List AO:=
 [o1 4 (.mv (.c (.n .i64 (-1))))]
abbrev W0:AF:=⟨19,(.seq (.reg PD) (.seq (.seq (.reg PC) (.block 0 PG)) (.seq (.reg Fl) .ret))),[.mv (.t 4)]⟩
theorem PE:bj Tryz.prog (aj Tryz.prog 140) 140=some W0:=by kernel_rfl
/-! compactorref24.Copies-/
abbrev Pw:List AO:=
 [o1 1 (.bx 25 0 (.t 0)),o1 2 (.al 25 [.sl0,.n .i64 0,.n .i64 0,.sl0]),o1 3 (.mv (ci 0))]
abbrev Pv:List AO:=
 [o1 19 (.ld 4 true (.t 1)),
  (o2 20 26 [.t 19]),
  (mt 18 20),o1 21 (.ext 0 (.t 18)),o1 22 (.ext 1 (.t 18)),
  (mt 4 21),
  (mt 5 22)]
abbrev Pu:List AO:=
 [(mt 23 5),o1 24 (.bin .neq (.t 23) (ci 0))]
abbrev Pt:List AO:=
 [o1 25 (.bd [.sl0,.n .i64 0,.n .i64 0,.sl0] []),
  (mt 26 5),
  (o3 (.st 4 (.t 2) (.t 25))),
  (mt 3 26)]
abbrev Ps:List AO:=
 [o1 28 (.fa 3 (.t 1)),o1 29 (.ld 1 false (.t 28)),
  (o2 30 27 [.t 29]),
  (mt 27 30),o1 31 (.ext 0 (.t 27)),o1 32 (.ext 1 (.t 27)),o1 33 (.ext 2 (.t 27)),
  (mt 6 31),
  (mt 7 32),
  (mt 8 33)]
abbrev Pr:List AO:=
 [o1 34 (.ld 4 true (.t 1)),
  (o2 35 28 [.t 34]),o1 9 (.al 25 [.sl0,.n .i64 0,.n .i64 0,.sl0]),
  (o3 (.st 4 (.t 9) (.t 35)))]
abbrev Pq:List AO:=
 [o1 36 (.fa 3 (.t 9)),
  (o3 (.st 1 (.t 36) (.c .sl0)))]
abbrev Pp:List AO:=
 [o1 37 (.fa 1 (.t 1)),o1 38 (.ld 1 false (.t 37)),o1 39 (.ms 3 1 8 [.n .i64 0] (.t 38) (.t 38)),
  (mt 10 39)]
abbrev Po:List AO:=
 [o1 11 (.mv (ci 0))]
abbrev Pn:List AO:=
 [(mt 40 11),
  (mt 41 10),o1 42 (.len (.t 41)),o1 43 (.bin .lss (.t 40) (.t 42))]
abbrev E8:List AO:=
 [(mt 46 10),
  (mt 47 11),o1 48 (.ia 1 (.t 46) (.t 47)),
  (o3 (.st 1 (.t 48) (.c (.n .i64 (-1)))))]
abbrev Fh:AC:=
 (.reg E8)
abbrev E7:List AO:=
 [(mt 44 11),o1 45 (.bin .add (.t 44) (ci 1)),
  (mt 11 45)]
abbrev Fk:AC:=
 (.seq (.seq (.reg Pn) (.cond (.t 43) .skip (.exit 0))) (.seq (.block 1 Fh) (.reg E7)))
abbrev Fg:AC:=
 (.loop Fk)
abbrev E6:List AO:=
 [o1 12 (.mv (.c .sl0))]
abbrev E5:List AO:=
 [o1 13 (.mv (ci 0))]
abbrev E4:List AO:=
 [(mt 49 13),o1 50 (.fa 3 (.t 1)),o1 51 (.ld 1 false (.t 50)),o1 52 (.len (.t 51)),o1 53 (.bin .lss (.t 49) (.t 52))]
abbrev E3:List AO:=
 [o1 56 (.fa 3 (.t 1)),o1 57 (.ld 1 false (.t 56)),
  (mt 58 13),o1 59 (.ia 5 (.t 57) (.t 58)),o1 60 (.ld 5 true (.t 59)),o1 14 (.al 37 [.n .i64 0,.n .i64 0,.n .i64 0,.n .i64 0,.n .u32 0]),
  (o3 (.st 5 (.t 14) (.t 60)))]
abbrev Fc:List (Nat×AO):=
 [(2,(mt 61 10)),(2,(o1 62 (.fa 2 (.t 14)))),
  (2,(mt 65 10)),(2,(o1 66 (.fa 3 (.t 14)))),(1,(o1 63 (.ld 1 false (.t 62)))),(1,(o1 67 (.ld 1 false (.t 66)))),
  (0,(o2 64 37 [.t 61,.t 63])),(2,(o1 69 (.fa 2 (.t 14)))),
  (3,(o2 68 37 [.t 65,.t 67])),
  (3,(o3 (.st 1 (.t 69) (.t 64)))),(2,(o1 70 (.fa 3 (.t 14)))),
  (3,(o3 (.st 1 (.t 70) (.t 68))))]
abbrev E2:List AO:=
 [(mt 71 12),o1 72 (.len (.t 71)),
  (mt 15 72)]
abbrev E1:List AO:=
 [o1 73 (.fa 0 (.t 14)),o1 74 (.ld 1 false (.t 73))]
abbrev E0:List AO:=
 [o1 76 (.bin .eql (.t 74) (ci 27)),
  (mt 75 76)]
abbrev EZ:List AO:=
 [(mt 77 12),o1 78 (.bs 3 1 0 [] []),
  (mt 79 10),o1 80 (.app 3 1 8 (.t 78) (.t 79)),o1 81 (.bs 43 1 1 [.sl0] [(0,1,(.t 80))]),o1 82 (.app 43 1 24 (.t 77) (.t 81)),
  (mt 12 82)]
abbrev EY:List AO:=
 [o1 84 (.bin .eql (.t 74) (ci 28)),
  (mt 83 84)]
abbrev EX:List AO:=
 [(mt 85 12),
  (mt 86 15),o1 87 (.bin .sub (.t 86) (ci 1)),
  (mt 88 10),o1 89 (.bs 3 1 0 [] []),
  (mt 90 12),
  (mt 91 15),o1 92 (.bin .sub (.t 91) (ci 1)),o1 93 (.ia 1 (.t 90) (.t 92)),o1 94 (.ld 1 false (.t 93)),o1 95 (.app 3 1 8 (.t 89) (.t 94)),o1 96 (.ia 1 (.t 85) (.t 87)),
  (o3 (.st 1 (.t 96) (.t 88))),
  (mt 10 95)]
abbrev EW:List AO:=
 [o1 98 (.bin .eql (.t 74) (ci 29)),
  (mt 97 98)]
abbrev Fb:List (Nat×AO):=
 [(2,(mt 99 10)),
  (2,(mt 101 13)),
  (2,(mt 102 6)),
  (2,(mt 103 13)),(2,(o1 104 (.ia 1 (.t 102) (.t 103)))),(1,(o1 100 (.ld 4 true (.t 1)))),(1,(o1 105 (.ld 1 false (.t 104)))),
  (3,(o2 106 31 [.t 100,.t 101,.t 105])),
  (3,(o2 107 38 [.t 99,.t 106])),
  (2,(mt 10 107))]
abbrev EV:List AO:=
 [o1 109 (.bin .eql (.t 74) (ci 31)),
  (mt 108 109)]
abbrev Fa:List (Nat×AO):=
 [(2,(o1 110 (.fa 3 (.t 1)))),
  (2,(mt 112 6)),
  (2,(mt 113 13)),(2,(o1 114 (.ia 1 (.t 112) (.t 113)))),(1,(o1 111 (.ld 1 false (.t 110)))),(1,(o1 115 (.ld 1 false (.t 114)))),(2,(o1 116 (.ia 5 (.t 111) (.t 115)))),(2,(o1 117 (.fa 0 (.t 116)))),(1,(o1 118 (.ld 1 false (.t 117)))),(2,(o1 119 (.bin .eql (.t 118) (ci 29))))]
abbrev E9:List (Nat×AO):=
 [(2,(mt 120 10)),
  (2,(mt 122 6)),
  (2,(mt 123 13)),(2,(o1 124 (.ia 1 (.t 122) (.t 123)))),
  (2,(mt 126 13)),(1,(o1 121 (.ld 4 true (.t 1)))),(1,(o1 125 (.ld 1 false (.t 124)))),
  (3,(o2 127 31 [.t 121,.t 125,.t 126])),
  (3,(o2 128 38 [.t 120,.t 127])),
  (2,(mt 10 128))]
abbrev EU:List AO:=
 [(mt 129 10),
  (mt 130 12),
  (mt 131 15),o1 132 (.bin .sub (.t 131) (ci 1)),o1 133 (.ia 1 (.t 130) (.t 132)),o1 134 (.ld 1 false (.t 133)),
  (o2 135 39 [.t 129,.t 134]),
  (mt 10 135)]
abbrev ET:List AO:=
 [(mt 136 12),
  (mt 137 15),o1 138 (.bin .sub (.t 137) (ci 1)),o1 139 (.sl 1 (.t 136) none (some (.t 138))),
  (mt 12 139)]
abbrev Ff:AC:=
 (.seq (.reg E0) (.cond (.t 75) (.reg EZ) (.seq (.reg EY) (.cond (.t 83) (.reg EX) (.seq (.reg EW) (.cond (.t 97) (.mix Fb) (.seq (.reg EV) (.cond (.t 108) (.seq (.mix Fa) (.cond (.t 119) (.mix E9) (.seq (.reg EU) (.reg ET)))) .skip))))))))
abbrev ES:List AO:=
 [o1 140 (.fa 0 (.t 14)),o1 141 (.ld 1 false (.t 140)),o1 142 (.bin .eql (.t 141) (ci 36)),
  (mt 143 142),
  (o5 144 143 (.fa 2 (.t 14))),
  (o5 145 143 (.ld 1 false (.t 144))),
  (o5 146 143 (.fa 1 (.t 14))),
  (o5 147 143 (.ld 1 false (.t 146))),
  (o5 148 143 (.bin .eql (.t 145) (.t 147))),o1 149 (.pick (.t 143) (.t 148) (.c (.b false)))]
abbrev rU:List AO:=
 [o1 151 (.ld 5 true (.t 14)),
  (o2 152 34 [.t 151]),
  (mt 150 152),o1 153 (.ext 0 (.t 150)),o1 154 (.ext 1 (.t 150)),
  (mt 16 153),
  (mt 17 154)]
abbrev rT:List AO:=
 [(mt 155 17),o1 156 (.bin .geq (.t 155) (ci 0))]
abbrev rS:List AO:=
 [(mt 157 10),o1 158 (.fa 1 (.t 1)),o1 159 (.ld 1 false (.t 158)),
  (mt 160 17),
  (o2 161 40 [.t 159,.t 160]),
  (o2 162 38 [.t 157,.t 161]),
  (mt 10 162)]
abbrev rR:List AO:=
 [(mt 163 10),
  (mt 164 17),o1 165 (.ia 1 (.t 163) (.t 164)),
  (o3 (.st 1 (.t 165) (.c (.n .i64 (-1)))))]
abbrev rQ:List AO:=
 [o1 166 (.fa 0 (.t 14)),o1 167 (.ld 1 false (.t 166)),o1 168 (.bin .eql (.t 167) (ci 36))]
abbrev rP:List AO:=
 [(mt 169 10),
  (mt 170 17),o1 171 (.fa 2 (.t 14)),o1 172 (.ld 1 false (.t 171)),o1 173 (.ia 1 (.t 169) (.t 170)),
  (o3 (.st 1 (.t 173) (.t 172)))]
abbrev rO:List AO:=
 [o1 174 (.fa 3 (.t 9)),o1 175 (.ld 1 false (.t 174)),o1 176 (.ld 5 true (.t 14)),o1 177 (.bs 37 5 1 [.n .i64 0,.n .i64 0,.n .i64 0,.n .i64 0,.n .u32 0] [(0,5,(.t 176))]),o1 178 (.app 37 5 40 (.t 175) (.t 177)),o1 179 (.fa 3 (.t 9)),
  (o3 (.st 1 (.t 179) (.t 178)))]
abbrev Fe:AC:=
 (.seq (.reg E3) (.seq (.mix Fc) (.seq (.reg E2) (.seq (.seq (.reg E1) (.block 4 Ff)) (.seq (.seq (.reg ES) (.cond (.t 149) (.exit 3) .skip)) (.seq (.seq (.reg rU) (.seq (.reg rT) (.cond (.t 156) (.seq (.reg rS) (.seq (.reg rR) (.seq (.reg rQ) (.cond (.t 168) (.reg rP) .skip)))) .skip))) (.reg rO)))))))
abbrev EP:List AO:=
 [(mt 54 13),o1 55 (.bin .add (.t 54) (ci 1)),
  (mt 13 55)]
abbrev Fj:AC:=
 (.seq (.seq (.reg E4) (.cond (.t 53) .skip (.exit 2))) (.seq (.block 3 Fe) (.reg EP)))
abbrev Fd:AC:=
 (.loop Fj)
abbrev EO:List AO:=
 [o1 180 (.ld 4 true (.t 9)),
  (o3 (.st 4 (.t 2) (.t 180))),o1 3 (.mv (ci 0))]
abbrev WZ:AF:=⟨181,(.seq (.reg Pw) (.seq (.seq (.reg Pv) (.seq (.reg Pu) (.cond (.t 24) (.seq (.reg Pt) .ret) .skip))) (.seq (.reg Ps) (.seq (.reg Pr) (.seq (.reg Pq) (.seq (.reg Pp) (.seq (.seq (.reg Po) (.block 0 Fg)) (.seq (.reg E6) (.seq (.seq (.reg E5) (.block 2 Fd)) (.seq (.reg EO) .ret)))))))))),[.ld 4 true (.t 2),.mv (.t 3)]⟩
theorem Px:bj Tryz.prog (aj Tryz.prog 14) 14=some WZ:=by kernel_rfl
/-! compactorref24.source-/
abbrev Pk:List AO:=
 [o1 4 (.mv (ci 0))]
abbrev Pj:List AO:=
 [(mt 5 1),o1 6 (.bin .geq (.t 5) (ci 0)),
  (mt 7 6),
  (o5 8 7 (.mv (.t 0))),
  (o5 9 7 (.mv (.t 1))),
  (o5 10 7 (.ia 1 (.t 8) (.t 9))),
  (o5 11 7 (.ld 1 false (.t 10))),
  (o5 12 7 (.bin .geq (.t 11) (ci 0))),o1 13 (.pick (.t 7) (.t 12) (.c (.b false)))]
abbrev Ph:List AO:=
 [(mt 14 0),
  (mt 15 1),o1 16 (.ia 1 (.t 14) (.t 15)),o1 17 (.ld 1 false (.t 16)),
  (mt 4 17)]
abbrev Pg:List AO:=
 [(mt 18 1),
  (mt 4 18)]
abbrev WY:AF:=⟨19,(.seq (.reg Pk) (.seq (.seq (.reg Pj) (.cond (.t 13) (.seq (.reg Ph) .ret) .skip)) (.seq (.reg Pg) .ret))),[.mv (.t 4)]⟩
theorem Pm:bj Tryz.prog (aj Tryz.prog 37) 37=some WY:=by kernel_rfl
/-! compactorref24.withoutSources-/
abbrev Pa:List AO:=
 [o1 4 (.mv (.c .sl0))]
abbrev O9:List AO:=
 [o1 7 (.bs 3 1 0 [] []),
  (mt 8 0),o1 9 (.app 3 1 8 (.t 7) (.t 8)),
  (mt 5 9)]
abbrev O8:List AO:=
 [o1 6 (.mv (ci 0))]
abbrev O7:List AO:=
 [(mt 10 6),
  (mt 11 5),o1 12 (.len (.t 11)),o1 13 (.bin .lss (.t 10) (.t 12))]
abbrev O6:List AO:=
 [(mt 16 5),
  (mt 17 6),o1 18 (.ia 1 (.t 16) (.t 17)),o1 19 (.ld 1 false (.t 18)),o1 20 (.bin .geq (.t 19) (ci 0)),
  (mt 21 20),
  (o5 22 21 (.mv (.t 1))),
  (o5 23 21 (.mv (.t 6))),
  (o5 24 21 (.ia 1 (.t 22) (.t 23))),
  (o5 25 21 (.ld 1 false (.t 24))),
  (o5 26 21 (.mv (.t 25))),
  (o4 27 26 (.mv (.t 1))),
  (o4 28 26 (.mv (.t 5))),
  (o4 29 26 (.mv (.t 6))),
  (o4 30 26 (.ia 1 (.t 28) (.t 29))),
  (o4 31 26 (.ld 1 false (.t 30))),
  (o4 32 26 (.ia 1 (.t 27) (.t 31))),
  (o4 33 26 (.ld 1 false (.t 32))),
  (o5 34 21 (.pick (.t 26) (.c (.b true)) (.t 33))),o1 35 (.pick (.t 21) (.t 34) (.c (.b false)))]
abbrev O5:List AO:=
 [(mt 36 5),
  (mt 37 6),o1 38 (.ia 1 (.t 36) (.t 37)),
  (o3 (.st 1 (.t 38) (.c (.n .i64 (-1)))))]
abbrev Pd:AC:=
 (.seq (.reg O6) (.cond (.t 35) (.reg O5) .skip))
abbrev O4:List AO:=
 [(mt 14 6),o1 15 (.bin .add (.t 14) (ci 1)),
  (mt 6 15)]
abbrev Pe:AC:=
 (.seq (.seq (.reg O7) (.cond (.t 13) .skip (.exit 0))) (.seq (.block 1 Pd) (.reg O4)))
abbrev Pc:AC:=
 (.loop Pe)
abbrev EM:List AO:=
 [(mt 39 5),
  (mt 4 39)]
abbrev WM:AF:=⟨40,(.seq (.reg Pa) (.seq (.reg O9) (.seq (.seq (.reg O8) (.block 0 Pc)) (.seq (.reg EM) .ret)))),[.mv (.t 4)]⟩
theorem Pb:bj Tryz.prog (aj Tryz.prog 38) 38=some WM:=by kernel_rfl
/-! compactorref24.bothSources-/
abbrev OY:List AO:=
 [o1 4 (.mv (.c .sl0))]
abbrev OX:List AO:=
 [o1 7 (.bs 3 1 0 [] []),
  (mt 8 0),o1 9 (.app 3 1 8 (.t 7) (.t 8)),
  (mt 5 9)]
abbrev OW:List AO:=
 [o1 6 (.mv (ci 0))]
abbrev OV:List AO:=
 [(mt 10 6),
  (mt 11 5),o1 12 (.len (.t 11)),o1 13 (.bin .lss (.t 10) (.t 12))]
abbrev O0:List (Nat×AO):=
 [(2,(mt 16 0)),
  (2,(mt 17 6)),(2,(o1 18 (.ia 1 (.t 16) (.t 17)))),
  (2,(mt 20 1)),
  (2,(mt 21 6)),(2,(o1 22 (.ia 1 (.t 20) (.t 21)))),(1,(o1 19 (.ld 1 false (.t 18)))),(1,(o1 23 (.ld 1 false (.t 22)))),(2,(o1 24 (.bin .neq (.t 19) (.t 23))))]
abbrev OU:List AO:=
 [(mt 25 5),
  (mt 26 6),o1 27 (.ia 1 (.t 25) (.t 26)),
  (o3 (.st 1 (.t 27) (.c (.n .i64 (-1)))))]
abbrev O2:AC:=
 (.seq (.mix O0) (.cond (.t 24) (.reg OU) .skip))
abbrev OT:List AO:=
 [(mt 14 6),o1 15 (.bin .add (.t 14) (ci 1)),
  (mt 6 15)]
abbrev O3:AC:=
 (.seq (.seq (.reg OV) (.cond (.t 13) .skip (.exit 0))) (.seq (.block 1 O2) (.reg OT)))
abbrev O1:AC:=
 (.loop O3)
abbrev EL:List AO:=
 [(mt 28 5),
  (mt 4 28)]
abbrev WL:AF:=⟨29,(.seq (.reg OY) (.seq (.reg OX) (.seq (.seq (.reg OW) (.block 0 O1)) (.seq (.reg EL) .ret)))),[.mv (.t 4)]⟩
theorem OZ:bj Tryz.prog (aj Tryz.prog 39) 39=some WL:=by kernel_rfl
/-! compactorref24.only-/
abbrev OQ:List AO:=
 [o1 4 (.mv (.c .sl0))]
abbrev OP:List AO:=
 [(mt 6 0),o1 7 (.ms 4 1 1 [.b false] (.t 6) (.t 6)),
  (mt 5 7)]
abbrev OO:List AO:=
 [(mt 8 5),
  (mt 9 1),o1 10 (.ia 1 (.t 8) (.t 9)),
  (o3 (.st 1 (.t 10) (.c (.b true))))]
abbrev OM:List AO:=
 [(mt 11 5),
  (mt 4 11)]
abbrev WK:AF:=⟨12,(.seq (.reg OQ) (.seq (.reg OP) (.seq (.reg OO) (.seq (.reg OM) .ret)))),[.mv (.t 4)]⟩
theorem OS:bj Tryz.prog (aj Tryz.prog 40) 40=some WK:=by kernel_rfl
/-! compactorref23.Copy-/
abbrev OK:List AO:=
 [o1 1 (.bx 25 0 (.t 0)),o1 2 (.al 25 [.sl0,.n .i64 0,.n .i64 0,.sl0])]
abbrev OJ:List AO:=
 [o1 3 (.bs 93 2 0 [] []),o1 4 (.fa 0 (.t 1)),o1 5 (.ld 1 false (.t 4)),o1 6 (.app 93 2 16 (.t 3) (.t 5)),o1 7 (.fa 0 (.t 1)),
  (o3 (.st 1 (.t 7) (.t 6)))]
abbrev OI:List AO:=
 [o1 8 (.bs 37 5 0 [] []),o1 9 (.fa 3 (.t 1)),o1 10 (.ld 1 false (.t 9)),o1 11 (.app 37 5 40 (.t 8) (.t 10)),o1 12 (.fa 3 (.t 1)),
  (o3 (.st 1 (.t 12) (.t 11)))]
abbrev OH:List AO:=
 [o1 13 (.ld 4 true (.t 1)),
  (o3 (.st 4 (.t 2) (.t 13)))]
abbrev WJ:AF:=⟨14,(.seq (.reg OK) (.seq (.reg OJ) (.seq (.reg OI) (.seq (.reg OH) .ret)))),[.ld 4 true (.t 2)]⟩
theorem OL:bj Tryz.prog (aj Tryz.prog 28) 28=some WJ:=by kernel_rfl
/-! compactorlaw24.OptimizerCopies-/
/-! optimizer.Prune-/
abbrev OE:List AO:=
 [o1 1 (.bx 25 0 (.t 0)),o1 2 (.al 25 [.sl0,.n .i64 0,.n .i64 0,.sl0]),o1 3 (.mv (ci 0))]
abbrev OD:List AO:=
 [o1 4 (.ld 4 true (.t 1)),
  (o2 5 24 [.t 4,(.c (.f 47 [] []))]),o1 6 (.ext 0 (.t 5)),o1 7 (.ext 1 (.t 5)),
  (o3 (.st 4 (.t 2) (.t 6))),
  (mt 3 7)]
abbrev WI:AF:=⟨8,(.seq (.reg OE) (.seq (.reg OD) .ret)),[.ld 4 true (.t 2),.mv (.t 3)]⟩
theorem OG:bj Tryz.prog (aj Tryz.prog 17) 17=some WI:=by kernel_rfl
/-! optimizer.prune-/
abbrev Oz:List AO:=
 [o1 1 (.bx 25 0 (.t 0)),o1 2 (.mv (.c .sl0))]
abbrev Oy:List AO:=
 [o1 11 (.ld 4 true (.t 1)),
  (o2 12 75 [.t 11]),
  (mt 3 12)]
abbrev Ox:List AO:=
 [o1 4 (.mv (.c .sl0))]
abbrev Ow:List AO:=
 [o1 13 (.fa 3 (.t 1)),o1 14 (.ld 1 false (.t 13)),o1 15 (.len (.t 14)),o1 16 (.mv (ci 0))]
abbrev Ov:List AO:=
 [o1 17 (.bin .lss (.t 16) (.t 15))]
abbrev Ou:List AO:=
 [(mt 18 16),o1 19 (.ia 5 (.t 14) (.t 16)),o1 20 (.ld 5 true (.t 19)),o1 6 (.al 37 [.n .i64 0,.n .i64 0,.n .i64 0,.n .i64 0,.n .u32 0]),
  (mt 5 18),
  (o3 (.st 5 (.t 6) (.t 20)))]
abbrev Ot:List AO:=
 [o1 21 (.fa 0 (.t 6)),o1 22 (.ld 1 false (.t 21)),
  (o2 23 71 [.t 22]),
  (mt 24 23),
  (o4 25 24 (.fa 0 (.t 6))),
  (o4 26 24 (.ld 1 false (.t 25))),
  (o4 27 24 (.bin .eql (.t 26) (ci 0))),o1 28 (.pick (.t 24) (.c (.b true)) (.t 27)),
  (mt 29 28),
  (o4 30 29 (.fa 0 (.t 6))),
  (o4 31 29 (.ld 1 false (.t 30))),
  (o4 32 29 (.bin .eql (.t 31) (ci 36))),o1 33 (.pick (.t 29) (.c (.b true)) (.t 32)),
  (mt 34 33),
  (o4 35 34 (.fa 0 (.t 6))),
  (o4 36 34 (.ld 1 false (.t 35))),
  (o4 37 34 (.bin .eql (.t 36) (ci 38))),o1 38 (.pick (.t 34) (.c (.b true)) (.t 37)),
  (mt 7 38)]
abbrev OB:List (Nat×AO):=
 [(2,(mt 39 7)),(2,(o1 40 (.un .not (.t 39)))),
  (2,(mt 41 40)),
  (2,(o4 42 41 (.mv (.t 3)))),
  (2,(o4 43 41 (.mv (.t 5)))),
  (2,(o4 44 41 (.bin .add (.t 43) (ci 1)))),
  (2,(o4 45 41 (.ia 1 (.t 42) (.t 44)))),
  (2,(o4 47 41 (.fa 1 (.t 6)))),
  (1,(o4 46 41 (.ld 1 false (.t 45)))),
  (1,(o4 48 41 (.ld 1 false (.t 47)))),
  (2,(o4 49 41 (.ia 1 (.t 46) (.t 48)))),
  (1,(o4 50 41 (.ld 1 false (.t 49)))),(2,(o1 51 (.pick (.t 41) (.c (.b true)) (.t 50))))]
abbrev Oq:List AO:=
 [(mt 52 4),o1 53 (.ld 5 true (.t 6)),o1 54 (.bs 37 5 1 [.n .i64 0,.n .i64 0,.n .i64 0,.n .i64 0,.n .u32 0] [(0,5,(.t 53))]),o1 55 (.app 37 5 40 (.t 52) (.t 54)),
  (mt 4 55)]
abbrev OC:AC:=
 (.seq (.reg Ou) (.seq (.reg Ot) (.seq (.mix OB) (.cond (.t 51) (.reg Oq) .skip))))
abbrev EE:List AO:=
 [o1 56 (.bin .add (.t 16) (ci 1)),
  (mt 16 56)]
abbrev EJ:AC:=
 (.seq (.reg Ov) (.seq (.cond (.t 17) .skip (.exit 0)) (.seq (.block 1 OC) (.reg EE))))
abbrev EH:AC:=
 (.loop EJ)
abbrev ED:List AO:=
 [(mt 58 4),
  (o2 59 76 [.t 58]),
  (mt 57 59),o1 60 (.ext 0 (.t 57)),o1 61 (.ext 1 (.t 57)),
  (mt 8 60),
  (mt 9 61)]
abbrev EC:List AO:=
 [(mt 62 9),o1 63 (.un .not (.t 62))]
abbrev EB:List AO:=
 [(mt 64 4),
  (mt 2 64)]
abbrev EA:List AO:=
 [o1 10 (.mv (ci 2))]
abbrev Ez:List AO:=
 [(mt 65 4),
  (mt 66 8),o1 67 (.ia 5 (.t 65) (.t 66)),o1 68 (.fa 0 (.t 67)),o1 69 (.ld 1 false (.t 68)),o1 70 (.bin .eql (.t 69) (ci 28))]
abbrev Ey:List AO:=
 [o1 10 (.mv (ci 1))]
abbrev Ex:List AO:=
 [(mt 71 4),
  (mt 72 8),
  (mt 73 8),
  (mt 74 10),o1 75 (.bin .add (.t 73) (.t 74)),
  (o2 76 77 [.t 71,.t 72,.t 75]),
  (mt 4 76)]
abbrev EG:AC:=
 (.seq (.reg ED) (.seq (.seq (.reg EC) (.cond (.t 63) (.seq (.reg EB) .ret) .skip)) (.seq (.reg EA) (.seq (.seq (.reg Ez) (.cond (.t 70) (.reg Ey) .skip)) (.reg Ex)))))
abbrev EI:AC:=
 (.block 3 EG)
abbrev EF:AC:=
 (.loop EI)
abbrev WH:AF:=⟨77,(.seq (.reg Oz) (.seq (.reg Oy) (.seq (.reg Ox) (.seq (.seq (.reg Ow) (.block 0 EH)) (.block 2 EF))))),[.mv (.t 2)]⟩
theorem OA:bj Tryz.prog (aj Tryz.prog 47) 47=some WH:=by kernel_rfl
/-! optimizer.live-/
abbrev Ok:List AO:=
 [o1 1 (.bx 25 0 (.t 0)),o1 2 (.mv (.c .sl0))]
abbrev Oj:List AO:=
 [o1 17 (.fa 3 (.t 1)),o1 18 (.ld 1 false (.t 17)),
  (o2 19 86 [.t 18]),
  (mt 3 19)]
abbrev Oi:List AO:=
 [o1 20 (.fa 3 (.t 1)),o1 21 (.ld 1 false (.t 20)),o1 22 (.len (.t 21)),o1 23 (.bin .add (.t 22) (ci 1)),o1 24 (.ms 47 1 24 [.sl0] (.t 23) (.t 23)),
  (mt 4 24)]
abbrev Oh:List AO:=
 [(mt 25 4),o1 26 (.len (.t 25)),o1 27 (.mv (ci 0))]
abbrev Og:List AO:=
 [o1 28 (.bin .lss (.t 27) (.t 26))]
abbrev Oe:List AO:=
 [(mt 29 27),
  (mt 5 29)]
abbrev Od:List AO:=
 [(mt 30 4),
  (mt 31 5),o1 32 (.fa 1 (.t 1)),o1 33 (.ld 1 false (.t 32)),o1 34 (.ms 4 1 1 [.b false] (.t 33) (.t 33)),o1 35 (.ia 1 (.t 30) (.t 31)),
  (o3 (.st 1 (.t 35) (.t 34)))]
abbrev Om:AC:=
 (.seq (.reg Oe) (.reg Od))
abbrev Oc:List AO:=
 [o1 36 (.bin .add (.t 27) (ci 1)),
  (mt 27 36)]
abbrev Oo:AC:=
 (.seq (.reg Og) (.seq (.cond (.t 28) .skip (.exit 0)) (.seq (.block 1 Om) (.reg Oc))))
abbrev Er:AC:=
 (.loop Oo)
abbrev Ef:List AO:=
 [o1 6 (.mv (.c (.b true)))]
abbrev Ee:List AO:=
 [(mt 37 6)]
abbrev Ed:List AO:=
 [o1 6 (.mv (.c (.b false)))]
abbrev Ec:List AO:=
 [o1 38 (.fa 3 (.t 1)),o1 39 (.ld 1 false (.t 38)),o1 40 (.len (.t 39)),o1 41 (.bin .sub (.t 40) (ci 1)),
  (mt 7 41)]
abbrev Eb:List AO:=
 [(mt 42 7),o1 43 (.bin .geq (.t 42) (ci 0))]
abbrev Ea:List AO:=
 [o1 47 (.fa 3 (.t 1)),o1 48 (.ld 1 false (.t 47)),
  (mt 49 7),o1 50 (.ia 5 (.t 48) (.t 49)),o1 51 (.ld 5 true (.t 50)),
  (o2 52 89 [.t 51]),
  (mt 46 52),o1 53 (.ext 0 (.t 46)),o1 54 (.ext 1 (.t 46)),
  (mt 8 53),
  (mt 9 54)]
abbrev D9:List AO:=
 [(mt 55 4),
  (mt 56 7),o1 57 (.ia 1 (.t 55) (.t 56)),o1 58 (.ld 1 false (.t 57)),
  (o2 59 101 [.t 58]),
  (mt 10 59)]
abbrev D8:List AO:=
 [o1 60 (.fa 3 (.t 1)),o1 61 (.ld 1 false (.t 60)),
  (mt 62 3),
  (mt 63 7),
  (o2 64 102 [.t 61,.t 62,.t 63]),o1 65 (.len (.t 64)),o1 66 (.mv (ci 0))]
abbrev D7:List AO:=
 [o1 67 (.bin .lss (.t 66) (.t 65))]
abbrev D6:List AO:=
 [o1 68 (.ia 1 (.t 64) (.t 66)),o1 69 (.ld 1 false (.t 68)),
  (mt 12 69)]
abbrev D5:List AO:=
 [(mt 70 4),
  (mt 71 12),o1 72 (.ia 1 (.t 70) (.t 71)),o1 73 (.ld 1 false (.t 72)),o1 74 (.len (.t 73)),o1 75 (.mv (ci 0))]
abbrev D4:List AO:=
 [o1 76 (.bin .lss (.t 75) (.t 74))]
abbrev D3:List AO:=
 [(mt 77 75),o1 78 (.ia 1 (.t 73) (.t 75)),o1 79 (.ld 1 false (.t 78)),
  (mt 13 77),
  (mt 14 79)]
abbrev D2:List AO:=
 [(mt 80 10),
  (mt 81 13),
  (mt 82 10),
  (mt 83 13),o1 84 (.ia 1 (.t 82) (.t 83)),o1 85 (.ld 1 false (.t 84)),
  (mt 86 85),
  (o4 87 86 (.mv (.t 14))),
  (o4 88 86 (.mv (.t 87))),
  (o5 89 88 (.mv (.t 13))),
  (o5 90 88 (.mv (.t 9))),
  (o5 91 88 (.bin .neq (.t 89) (.t 90))),
  (o4 92 86 (.pick (.t 88) (.t 91) (.c (.b false)))),o1 93 (.pick (.t 86) (.c (.b true)) (.t 92)),o1 94 (.ia 1 (.t 80) (.t 81)),
  (o3 (.st 1 (.t 94) (.t 93)))]
abbrev Ep:AC:=
 (.seq (.reg D3) (.reg D2))
abbrev D1:List AO:=
 [o1 95 (.bin .add (.t 75) (ci 1)),
  (mt 75 95)]
abbrev Ew:AC:=
 (.seq (.reg D4) (.seq (.cond (.t 76) .skip (.exit 8)) (.seq (.block 9 Ep) (.reg D1))))
abbrev Eo:AC:=
 (.loop Ew)
abbrev En:AC:=
 (.seq (.reg D6) (.seq (.reg D5) (.block 8 Eo)))
abbrev D0:List AO:=
 [o1 96 (.bin .add (.t 66) (ci 1)),
  (mt 66 96)]
abbrev Ev:AC:=
 (.seq (.reg D7) (.seq (.cond (.t 67) .skip (.exit 6)) (.seq (.block 7 En) (.reg D0))))
abbrev Em:AC:=
 (.loop Ev)
abbrev DZ:List AO:=
 [(mt 97 8),o1 98 (.len (.t 97)),o1 99 (.mv (ci 0))]
abbrev DY:List AO:=
 [o1 100 (.bin .lss (.t 99) (.t 98))]
abbrev DX:List AO:=
 [o1 101 (.ia 1 (.t 97) (.t 99)),o1 102 (.ld 1 false (.t 101)),
  (mt 16 102)]
abbrev DW:List AO:=
 [(mt 103 10),
  (mt 104 16),o1 105 (.ia 1 (.t 103) (.t 104)),
  (o3 (.st 1 (.t 105) (.c (.b true))))]
abbrev El:AC:=
 (.seq (.reg DX) (.reg DW))
abbrev DV:List AO:=
 [o1 106 (.bin .add (.t 99) (ci 1)),
  (mt 99 106)]
abbrev Eu:AC:=
 (.seq (.reg DY) (.seq (.cond (.t 100) .skip (.exit 10)) (.seq (.block 11 El) (.reg DV))))
abbrev Ek:AC:=
 (.loop Eu)
abbrev DU:List AO:=
 [(mt 107 10),
  (mt 108 4),
  (mt 109 7),o1 110 (.ia 1 (.t 108) (.t 109)),o1 111 (.ld 1 false (.t 110)),
  (o2 112 103 [.t 107,.t 111]),o1 113 (.un .not (.t 112))]
abbrev DT:List AO:=
 [(mt 114 4),
  (mt 115 7),
  (mt 116 10),o1 117 (.ia 1 (.t 114) (.t 115)),
  (o3 (.st 1 (.t 117) (.t 116))),o1 6 (.mv (.c (.b true)))]
abbrev Ej:AC:=
 (.seq (.reg Ea) (.seq (.reg D9) (.seq (.seq (.reg D8) (.block 6 Em)) (.seq (.seq (.reg DZ) (.block 10 Ek)) (.seq (.reg DU) (.cond (.t 113) (.reg DT) .skip))))))
abbrev DS:List AO:=
 [(mt 44 7),o1 45 (.bin .sub (.t 44) (ci 1)),
  (mt 7 45)]
abbrev Et:AC:=
 (.seq (.seq (.reg Eb) (.cond (.t 43) .skip (.exit 4))) (.seq (.block 5 Ej) (.reg DS)))
abbrev Ei:AC:=
 (.loop Et)
abbrev Eh:AC:=
 (.seq (.reg Ed) (.seq (.reg Ec) (.block 4 Ei)))
abbrev Es:AC:=
 (.seq (.seq (.reg Ee) (.cond (.t 37) .skip (.exit 2))) (.block 3 Eh))
abbrev Eg:AC:=
 (.loop Es)
abbrev DR:List AO:=
 [(mt 118 4),
  (mt 2 118)]
abbrev WG:AF:=⟨119,(.seq (.reg Ok) (.seq (.reg Oj) (.seq (.reg Oi) (.seq (.seq (.reg Oh) (.block 0 Er)) (.seq (.seq (.reg Ef) (.block 2 Eg)) (.seq (.reg DR) .ret)))))),[.mv (.t 2)]⟩
theorem Ol:bj Tryz.prog (aj Tryz.prog 75) 75=some WG:=by kernel_rfl
/-! optimizer.hollow-/
abbrev N7:List AO:=
 [o1 2 (.mv (ci 0)),o1 3 (.mv (.c (.b false)))]
abbrev N6:List AO:=
 [o1 4 (.mv (ci 0))]
abbrev N5:List AO:=
 [(mt 6 4),o1 7 (.bin .add (.t 6) (ci 1)),
  (mt 8 0),o1 9 (.len (.t 8)),o1 10 (.bin .lss (.t 7) (.t 9))]
abbrev N4:List AO:=
 [(mt 13 0),
  (mt 14 4),o1 15 (.ia 5 (.t 13) (.t 14)),o1 16 (.fa 0 (.t 15)),o1 17 (.ld 1 false (.t 16)),
  (mt 5 17)]
abbrev N3:List AO:=
 [(mt 18 0),
  (mt 19 4),o1 20 (.bin .add (.t 19) (ci 1)),o1 21 (.ia 5 (.t 18) (.t 20)),o1 22 (.fa 0 (.t 21)),o1 23 (.ld 1 false (.t 22)),o1 24 (.bin .eql (.t 23) (ci 31)),
  (mt 25 24),
  (o5 26 25 (.mv (.t 5))),
  (o5 27 25 (.bin .eql (.t 26) (ci 27))),
  (o5 28 25 (.mv (.t 27))),
  (o4 29 28 (.mv (.t 5))),
  (o4 30 28 (.bin .eql (.t 29) (ci 29))),
  (o5 31 25 (.pick (.t 28) (.c (.b true)) (.t 30))),
  (o5 32 25 (.mv (.t 31))),
  (o4 33 32 (.mv (.t 5))),
  (o4 34 32 (.bin .eql (.t 33) (ci 28))),
  (o5 35 25 (.pick (.t 32) (.c (.b true)) (.t 34))),o1 36 (.pick (.t 25) (.t 35) (.c (.b false)))]
abbrev N2:List AO:=
 [(mt 37 4),
  (mt 2 37),o1 3 (.mv (.c (.b true)))]
abbrev Oa:AC:=
 (.seq (.reg N4) (.seq (.reg N3) (.cond (.t 36) (.seq (.reg N2) .ret) .skip)))
abbrev N1:List AO:=
 [(mt 11 4),o1 12 (.bin .add (.t 11) (ci 1)),
  (mt 4 12)]
abbrev Ob:AC:=
 (.seq (.seq (.reg N5) (.cond (.t 10) .skip (.exit 0))) (.seq (.block 1 Oa) (.reg N1)))
abbrev N9:AC:=
 (.loop Ob)
abbrev DQ:List AO:=
 [o1 2 (.mv (ci 0)),o1 3 (.mv (.c (.b false)))]
abbrev WF:AF:=⟨38,(.seq (.reg N7) (.seq (.seq (.reg N6) (.block 0 N9)) (.seq (.reg DQ) .ret))),[.mv (.t 2),.mv (.t 3)]⟩
theorem N8:bj Tryz.prog (aj Tryz.prog 76) 76=some WF:=by kernel_rfl
/-! slices.Clone[[]bool,bool]-/
abbrev NZ:List AO:=
 [o1 2 (.mv (.c .sl0))]
abbrev NY:List AO:=
 [(mt 3 0),⟨some 4,none,.sn false (.t 3)⟩]
abbrev NW:List AO:=
 [o1 2 (.mv (.c .sl0))]
abbrev NV:List AO:=
 [o1 5 (.bs 4 1 0 [] []),
  (mt 6 0),o1 7 (.app 4 1 1 (.t 5) (.t 6)),
  (mt 2 7)]
abbrev WE:AF:=⟨8,(.seq (.reg NZ) (.seq (.seq (.reg NY) (.cond (.t 4) (.seq (.reg NW) .ret) .skip)) (.seq (.reg NV) .ret))),[.mv (.t 2)]⟩
theorem N0:bj Tryz.prog (aj Tryz.prog 101) 101=some WE:=by kernel_rfl
/-! optimizer.following-/
abbrev NS:List AO:=
 [o1 6 (.mv (.c .sl0))]
abbrev NQ:List AO:=
 [(mt 9 1),
  (mt 10 2),o1 11 (.ia 1 (.t 9) (.t 10)),o1 12 (.ld 1 false (.t 11)),
  (mt 7 12)]
abbrev NP:List AO:=
 [(mt 13 0),
  (mt 14 2),o1 15 (.ia 5 (.t 13) (.t 14)),o1 16 (.fa 0 (.t 15)),o1 17 (.ld 1 false (.t 16)),
  (mt 8 17)]
abbrev NN:List AO:=
 [(mt 19 8),o1 20 (.bin .eql (.t 19) (ci 28)),
  (mt 18 20)]
abbrev NM:List AO:=
 [(mt 21 7),o1 22 (.bin .add (.t 21) (ci 1)),o1 23 (.bs 3 1 1 [.n .i64 0] [(0,1,(.t 22))]),
  (mt 6 23)]
abbrev NL:List AO:=
 [(mt 25 8),o1 26 (.bin .eql (.t 25) (ci 27)),
  (mt 27 26),
  (o4 28 27 (.mv (.t 8))),
  (o4 29 27 (.bin .eql (.t 28) (ci 29))),o1 30 (.pick (.t 27) (.c (.b true)) (.t 29)),
  (mt 31 30),
  (o4 32 31 (.mv (.t 8))),
  (o4 33 31 (.bin .eql (.t 32) (ci 30))),o1 34 (.pick (.t 31) (.c (.b true)) (.t 33)),
  (mt 35 34),
  (o4 36 35 (.mv (.t 8))),
  (o4 37 35 (.bin .eql (.t 36) (ci 31))),
  (o4 38 35 (.mv (.t 37))),
  (o5 39 38 (.mv (.t 0))),
  (o5 40 38 (.mv (.t 7))),
  (o5 41 38 (.ia 5 (.t 39) (.t 40))),
  (o5 42 38 (.fa 0 (.t 41))),
  (o5 43 38 (.ld 1 false (.t 42))),
  (o5 44 38 (.bin .eql (.t 43) (ci 29))),
  (o4 45 35 (.pick (.t 38) (.t 44) (.c (.b false)))),o1 46 (.pick (.t 35) (.c (.b true)) (.t 45)),
  (mt 24 46)]
abbrev NK:List AO:=
 [(mt 47 2),o1 48 (.bin .add (.t 47) (ci 1)),
  (mt 49 7),o1 50 (.bin .add (.t 49) (ci 1)),o1 51 (.bs 3 1 2 [.n .i64 0,.n .i64 0] [(0,1,(.t 48)),(1,1,(.t 50))]),
  (mt 6 51)]
abbrev NU:AC:=
 (.seq (.reg NN) (.cond (.t 18) (.seq (.reg NM) .ret) (.seq (.reg NL) (.cond (.t 24) (.seq (.reg NK) .ret) .skip))))
abbrev NJ:List AO:=
 [(mt 52 2),o1 53 (.bin .add (.t 52) (ci 1)),o1 54 (.bs 3 1 1 [.n .i64 0] [(0,1,(.t 53))]),
  (mt 6 54)]
abbrev WD:AF:=⟨55,(.seq (.reg NS) (.seq (.reg NQ) (.seq (.seq (.reg NP) (.block 0 NU)) (.seq (.reg NJ) .ret)))),[.mv (.t 6)]⟩
theorem NT:bj Tryz.prog (aj Tryz.prog 102) 102=some WD:=by kernel_rfl
/-! slices.Equal[[]bool,bool]-/
abbrev ND:List AO:=
 [o1 4 (.mv (.c (.b false)))]
abbrev NC:List AO:=
 [(mt 6 0),o1 7 (.len (.t 6)),
  (mt 8 1),o1 9 (.len (.t 8)),o1 10 (.bin .neq (.t 7) (.t 9))]
abbrev Nz:List AO:=
 [o1 4 (.mv (.c (.b false)))]
abbrev Ny:List AO:=
 [(mt 11 0),o1 12 (.len (.t 11)),o1 13 (.mv (ci 0))]
abbrev Nx:List AO:=
 [o1 14 (.bin .lss (.t 13) (.t 12))]
abbrev Nw:List AO:=
 [(mt 15 13),
  (mt 5 15)]
abbrev NG:List (Nat×AO):=
 [(2,(mt 16 0)),
  (2,(mt 17 5)),(2,(o1 18 (.ia 1 (.t 16) (.t 17)))),
  (2,(mt 20 1)),
  (2,(mt 21 5)),(2,(o1 22 (.ia 1 (.t 20) (.t 21)))),(1,(o1 19 (.ld 1 false (.t 18)))),(1,(o1 23 (.ld 1 false (.t 22)))),(2,(o1 24 (.eq true .b (.t 19) (.t 23))))]
abbrev Nv:List AO:=
 [o1 4 (.mv (.c (.b false)))]
abbrev NH:AC:=
 (.seq (.reg Nw) (.seq (.mix NG) (.cond (.t 24) (.seq (.reg Nv) .ret) .skip)))
abbrev Nu:List AO:=
 [o1 25 (.bin .add (.t 13) (ci 1)),
  (mt 13 25)]
abbrev DP:AC:=
 (.seq (.reg Nx) (.seq (.cond (.t 14) .skip (.exit 0)) (.seq (.block 1 NH) (.reg Nu))))
abbrev DN:AC:=
 (.loop DP)
abbrev DM:List AO:=
 [o1 4 (.mv (.c (.b true)))]
abbrev Wq:AF:=⟨26,(.seq (.reg ND) (.seq (.seq (.reg NC) (.cond (.t 10) (.seq (.reg Nz) .ret) .skip)) (.seq (.seq (.reg Ny) (.block 0 DN)) (.seq (.reg DM) .ret)))),[.mv (.t 4)]⟩
theorem NF:bj Tryz.prog (aj Tryz.prog 103) 103=some Wq:=by kernel_rfl
/-! compactorref24.Prune-/
abbrev Ns:List AO:=
 [o1 1 (.bx 25 0 (.t 0)),o1 2 (.al 25 [.sl0,.n .i64 0,.n .i64 0,.sl0]),o1 3 (.mv (ci 0))]
abbrev Nr:List AO:=
 [o1 12 (.ld 4 true (.t 1)),
  (o2 13 26 [.t 12]),
  (mt 11 13),o1 14 (.ext 0 (.t 11)),o1 15 (.ext 1 (.t 11)),
  (mt 4 14),
  (mt 5 15)]
abbrev Nq:List AO:=
 [(mt 16 5),o1 17 (.bin .neq (.t 16) (ci 0))]
abbrev Np:List AO:=
 [o1 18 (.bd [.sl0,.n .i64 0,.n .i64 0,.sl0] []),
  (mt 19 5),
  (o3 (.st 4 (.t 2) (.t 18))),
  (mt 3 19)]
abbrev Nn:List AO:=
 [o1 20 (.ld 4 true (.t 1)),
  (o2 21 48 [.t 20]),
  (mt 6 21)]
abbrev Nm:List AO:=
 [o1 22 (.ld 4 true (.t 1)),
  (o2 23 28 [.t 22]),o1 7 (.al 25 [.sl0,.n .i64 0,.n .i64 0,.sl0]),
  (o3 (.st 4 (.t 7) (.t 23)))]
abbrev Nl:List AO:=
 [o1 24 (.fa 3 (.t 7)),
  (o3 (.st 1 (.t 24) (.c .sl0)))]
abbrev Nk:List AO:=
 [o1 8 (.mv (ci 0))]
abbrev Nj:List AO:=
 [(mt 25 8),o1 26 (.fa 3 (.t 1)),o1 27 (.ld 1 false (.t 26)),o1 28 (.len (.t 27)),o1 29 (.bin .lss (.t 25) (.t 28))]
abbrev Ni:List AO:=
 [o1 32 (.fa 3 (.t 1)),o1 33 (.ld 1 false (.t 32)),
  (mt 34 8),o1 35 (.ia 5 (.t 33) (.t 34)),o1 36 (.ld 5 true (.t 35)),o1 9 (.al 37 [.n .i64 0,.n .i64 0,.n .i64 0,.n .i64 0,.n .u32 0]),
  (o3 (.st 5 (.t 9) (.t 36)))]
abbrev DE:List (Nat×AO):=
 [(2,(o1 37 (.fa 0 (.t 9)))),(1,(o1 38 (.ld 1 false (.t 37)))),
  (0,(o2 39 49 [.t 38])),(2,(o1 40 (.un .not (.t 39)))),
  (2,(mt 41 40)),
  (2,(o4 42 41 (.mv (.t 6)))),
  (2,(o4 43 41 (.mv (.t 8)))),
  (2,(o4 44 41 (.bin .add (.t 43) (ci 1)))),
  (2,(o4 45 41 (.ia 1 (.t 42) (.t 44)))),
  (2,(o4 47 41 (.fa 1 (.t 9)))),
  (1,(o4 46 41 (.ld 1 false (.t 45)))),
  (1,(o4 48 41 (.ld 1 false (.t 47)))),
  (2,(o4 49 41 (.ia 1 (.t 46) (.t 48)))),
  (1,(o4 50 41 (.ld 1 false (.t 49)))),(2,(o1 51 (.pick (.t 41) (.c (.b true)) (.t 50))))]
abbrev DD:List AO:=
 [o1 52 (.fa 3 (.t 7)),o1 53 (.ld 1 false (.t 52)),o1 54 (.ld 5 true (.t 9)),o1 55 (.bs 37 5 1 [.n .i64 0,.n .i64 0,.n .i64 0,.n .i64 0,.n .u32 0] [(0,5,(.t 54))]),o1 56 (.app 37 5 40 (.t 53) (.t 55)),o1 57 (.fa 3 (.t 7)),
  (o3 (.st 1 (.t 57) (.t 56)))]
abbrev DI:AC:=
 (.seq (.reg Ni) (.seq (.mix DE) (.cond (.t 51) (.reg DD) .skip)))
abbrev DC:List AO:=
 [(mt 30 8),o1 31 (.bin .add (.t 30) (ci 1)),
  (mt 8 31)]
abbrev DL:AC:=
 (.seq (.seq (.reg Nj) (.cond (.t 29) .skip (.exit 0))) (.seq (.block 1 DI) (.reg DC)))
abbrev DH:AC:=
 (.loop DL)
abbrev DB:List AO:=
 [o1 10 (.mv (.c (.b true)))]
abbrev DA:List AO:=
 [(mt 58 10)]
abbrev Dz:List AO:=
 [o1 60 (.fa 3 (.t 7)),o1 61 (.ld 1 false (.t 60)),
  (o2 62 50 [.t 61]),
  (mt 59 62),o1 63 (.ext 0 (.t 59)),o1 64 (.ext 1 (.t 59)),o1 65 (.fa 3 (.t 7)),
  (o3 (.st 1 (.t 65) (.t 63))),
  (mt 10 64)]
abbrev DG:AC:=
 (.reg Dz)
abbrev DJ:AC:=
 (.seq (.seq (.reg DA) (.cond (.t 58) .skip (.exit 2))) (.block 3 DG))
abbrev DF:AC:=
 (.loop DJ)
abbrev Dy:List AO:=
 [o1 66 (.ld 4 true (.t 7)),
  (o3 (.st 4 (.t 2) (.t 66))),o1 3 (.mv (ci 0))]
abbrev Wp:AF:=⟨67,(.seq (.reg Ns) (.seq (.seq (.reg Nr) (.seq (.reg Nq) (.cond (.t 17) (.seq (.reg Np) .ret) .skip))) (.seq (.reg Nn) (.seq (.reg Nm) (.seq (.reg Nl) (.seq (.seq (.reg Nk) (.block 0 DH)) (.seq (.reg DB) (.seq (.block 2 DF) (.seq (.reg Dy) .ret))))))))),[.ld 4 true (.t 2),.mv (.t 3)]⟩
theorem Nt:bj Tryz.prog (aj Tryz.prog 18) 18=some Wp:=by kernel_rfl
/-! compactorref24.live-/
abbrev Nd:List AO:=
 [o1 1 (.bx 25 0 (.t 0)),o1 2 (.mv (.c .sl0))]
abbrev Nc:List AO:=
 [o1 20 (.fa 3 (.t 1)),o1 21 (.ld 1 false (.t 20)),
  (o2 22 27 [.t 21]),
  (mt 19 22),o1 23 (.ext 0 (.t 19)),o1 24 (.ext 1 (.t 19)),o1 25 (.ext 2 (.t 19)),
  (mt 3 23),
  (mt 4 24),
  (mt 5 25)]
abbrev Nb:List AO:=
 [o1 26 (.fa 3 (.t 1)),o1 27 (.ld 1 false (.t 26)),o1 28 (.len (.t 27)),
  (mt 6 28)]
abbrev Na:List AO:=
 [(mt 29 6),o1 30 (.bin .add (.t 29) (ci 1)),o1 31 (.ms 47 1 24 [.sl0] (.t 30) (.t 30)),
  (mt 7 31)]
abbrev M9:List AO:=
 [o1 8 (.mv (ci 0))]
abbrev M8:List AO:=
 [(mt 32 8),
  (mt 33 6),o1 34 (.bin .leq (.t 32) (.t 33))]
abbrev M7:List AO:=
 [(mt 37 7),
  (mt 38 8),o1 39 (.fa 1 (.t 1)),o1 40 (.ld 1 false (.t 39)),o1 41 (.ms 4 1 1 [.b false] (.t 40) (.t 40)),o1 42 (.ia 1 (.t 37) (.t 38)),
  (o3 (.st 1 (.t 42) (.t 41)))]
abbrev Ng:AC:=
 (.reg M7)
abbrev M6:List AO:=
 [(mt 35 8),o1 36 (.bin .add (.t 35) (ci 1)),
  (mt 8 36)]
abbrev Nh:AC:=
 (.seq (.seq (.reg M8) (.cond (.t 34) .skip (.exit 0))) (.seq (.block 1 Ng) (.reg M6)))
abbrev Dr:AC:=
 (.loop Nh)
abbrev Dc:List AO:=
 [o1 9 (.mv (.c (.b true)))]
abbrev Db:List AO:=
 [(mt 43 9)]
abbrev Da:List AO:=
 [o1 9 (.mv (.c (.b false)))]
abbrev C9:List AO:=
 [(mt 44 6),o1 45 (.bin .sub (.t 44) (ci 1)),
  (mt 10 45)]
abbrev C8:List AO:=
 [(mt 46 10),o1 47 (.bin .geq (.t 46) (ci 0))]
abbrev C7:List AO:=
 [o1 51 (.fa 3 (.t 1)),o1 52 (.ld 1 false (.t 51)),
  (mt 53 10),o1 54 (.ia 5 (.t 52) (.t 53)),o1 55 (.ld 5 true (.t 54)),
  (o2 56 34 [.t 55]),
  (mt 50 56),o1 57 (.ext 0 (.t 50)),o1 58 (.ext 1 (.t 50)),
  (mt 11 57),
  (mt 12 58)]
abbrev C6:List AO:=
 [o1 59 (.fa 1 (.t 1)),o1 60 (.ld 1 false (.t 59)),o1 61 (.ms 4 1 1 [.b false] (.t 60) (.t 60)),
  (mt 13 61)]
abbrev C5:List AO:=
 [o1 62 (.fa 3 (.t 1)),o1 63 (.ld 1 false (.t 62)),
  (mt 64 3),
  (mt 65 10),
  (o2 66 78 [.t 63,.t 64,.t 65]),
  (mt 14 66)]
abbrev C4:List AO:=
 [o1 15 (.mv (ci 0))]
abbrev C3:List AO:=
 [(mt 67 15),
  (mt 68 14),o1 69 (.len (.t 68)),o1 70 (.bin .lss (.t 67) (.t 69))]
abbrev C2:List AO:=
 [o1 16 (.mv (ci 0))]
abbrev C1:List AO:=
 [(mt 73 16),o1 74 (.fa 1 (.t 1)),o1 75 (.ld 1 false (.t 74)),o1 76 (.bin .lss (.t 73) (.t 75))]
abbrev C0:List AO:=
 [(mt 79 13),
  (mt 80 16),
  (mt 81 13),
  (mt 82 16),o1 83 (.ia 1 (.t 81) (.t 82)),o1 84 (.ld 1 false (.t 83)),
  (mt 85 84),
  (o4 86 85 (.mv (.t 16))),
  (o4 87 85 (.mv (.t 12))),
  (o4 88 85 (.bin .neq (.t 86) (.t 87))),
  (o4 89 85 (.mv (.t 88))),
  (o5 90 89 (.mv (.t 7))),
  (o5 91 89 (.mv (.t 14))),
  (o5 92 89 (.mv (.t 15))),
  (o5 93 89 (.ia 1 (.t 91) (.t 92))),
  (o5 94 89 (.ld 1 false (.t 93))),
  (o5 95 89 (.ia 1 (.t 90) (.t 94))),
  (o5 96 89 (.ld 1 false (.t 95))),
  (o5 97 89 (.mv (.t 16))),
  (o5 98 89 (.ia 1 (.t 96) (.t 97))),
  (o5 99 89 (.ld 1 false (.t 98))),
  (o4 100 85 (.pick (.t 89) (.t 99) (.c (.b false)))),o1 101 (.pick (.t 85) (.c (.b true)) (.t 100)),o1 102 (.ia 1 (.t 79) (.t 80)),
  (o3 (.st 1 (.t 102) (.t 101)))]
abbrev Dq:AC:=
 (.reg C0)
abbrev CZ:List AO:=
 [(mt 77 16),o1 78 (.bin .add (.t 77) (ci 1)),
  (mt 16 78)]
abbrev Dx:AC:=
 (.seq (.seq (.reg C1) (.cond (.t 76) .skip (.exit 8))) (.seq (.block 9 Dq) (.reg CZ)))
abbrev Dp:AC:=
 (.loop Dx)
abbrev Dn:AC:=
 (.seq (.reg C2) (.block 8 Dp))
abbrev CY:List AO:=
 [(mt 71 15),o1 72 (.bin .add (.t 71) (ci 1)),
  (mt 15 72)]
abbrev Dw:AC:=
 (.seq (.seq (.reg C3) (.cond (.t 70) .skip (.exit 6))) (.seq (.block 7 Dn) (.reg CY)))
abbrev Dm:AC:=
 (.loop Dw)
abbrev CX:List AO:=
 [o1 17 (.mv (ci 0))]
abbrev CW:List AO:=
 [(mt 103 17),
  (mt 104 11),o1 105 (.len (.t 104)),o1 106 (.bin .lss (.t 103) (.t 105))]
abbrev CV:List AO:=
 [(mt 109 13),
  (mt 110 11),
  (mt 111 17),o1 112 (.ia 1 (.t 110) (.t 111)),o1 113 (.ld 1 false (.t 112)),o1 114 (.ia 1 (.t 109) (.t 113)),
  (o3 (.st 1 (.t 114) (.c (.b true))))]
abbrev Dl:AC:=
 (.reg CV)
abbrev CU:List AO:=
 [(mt 107 17),o1 108 (.bin .add (.t 107) (ci 1)),
  (mt 17 108)]
abbrev Dv:AC:=
 (.seq (.seq (.reg CW) (.cond (.t 106) .skip (.exit 10))) (.seq (.block 11 Dl) (.reg CU)))
abbrev Dk:AC:=
 (.loop Dv)
abbrev CT:List AO:=
 [o1 18 (.mv (ci 0))]
abbrev CS:List AO:=
 [(mt 115 18),o1 116 (.fa 1 (.t 1)),o1 117 (.ld 1 false (.t 116)),o1 118 (.bin .lss (.t 115) (.t 117))]
abbrev Dd:List (Nat×AO):=
 [(2,(mt 121 9)),
  (2,(mt 122 121)),
  (2,(o4 123 122 (.mv (.t 13)))),
  (2,(o4 124 122 (.mv (.t 18)))),
  (2,(o4 125 122 (.ia 1 (.t 123) (.t 124)))),
  (2,(o4 127 122 (.mv (.t 7)))),
  (2,(o4 128 122 (.mv (.t 10)))),
  (2,(o4 129 122 (.ia 1 (.t 127) (.t 128)))),
  (2,(o4 131 122 (.mv (.t 18)))),
  (1,(o4 126 122 (.ld 1 false (.t 125)))),
  (1,(o4 130 122 (.ld 1 false (.t 129)))),
  (2,(o4 132 122 (.ia 1 (.t 130) (.t 131)))),
  (1,(o4 133 122 (.ld 1 false (.t 132)))),
  (2,(o4 134 122 (.eq true .b (.t 126) (.t 133)))),(2,(o1 135 (.pick (.t 122) (.c (.b true)) (.t 134)))),
  (2,(mt 9 135))]
abbrev Dj:AC:=
 (.mix Dd)
abbrev CR:List AO:=
 [(mt 119 18),o1 120 (.bin .add (.t 119) (ci 1)),
  (mt 18 120)]
abbrev Du:AC:=
 (.seq (.seq (.reg CS) (.cond (.t 118) .skip (.exit 12))) (.seq (.block 13 Dj) (.reg CR)))
abbrev Di:AC:=
 (.loop Du)
abbrev CQ:List AO:=
 [(mt 136 7),
  (mt 137 10),
  (mt 138 13),o1 139 (.ia 1 (.t 136) (.t 137)),
  (o3 (.st 1 (.t 139) (.t 138)))]
abbrev Dh:AC:=
 (.seq (.reg C7) (.seq (.reg C6) (.seq (.reg C5) (.seq (.seq (.reg C4) (.block 6 Dm)) (.seq (.seq (.reg CX) (.block 10 Dk)) (.seq (.seq (.reg CT) (.block 12 Di)) (.reg CQ)))))))
abbrev CP:List AO:=
 [(mt 48 10),o1 49 (.bin .sub (.t 48) (ci 1)),
  (mt 10 49)]
abbrev Dt:AC:=
 (.seq (.seq (.reg C8) (.cond (.t 47) .skip (.exit 4))) (.seq (.block 5 Dh) (.reg CP)))
abbrev Dg:AC:=
 (.loop Dt)
abbrev Df:AC:=
 (.seq (.reg Da) (.seq (.reg C9) (.block 4 Dg)))
abbrev Ds:AC:=
 (.seq (.seq (.reg Db) (.cond (.t 43) .skip (.exit 2))) (.block 3 Df))
abbrev De:AC:=
 (.loop Ds)
abbrev CO:List AO:=
 [(mt 140 7),
  (mt 2 140)]
abbrev Wo:AF:=⟨141,(.seq (.reg Nd) (.seq (.reg Nc) (.seq (.reg Nb) (.seq (.reg Na) (.seq (.seq (.reg M9) (.block 0 Dr)) (.seq (.reg Dc) (.seq (.block 2 De) (.seq (.reg CO) .ret)))))))),[.mv (.t 2)]⟩
theorem Nf:bj Tryz.prog (aj Tryz.prog 48) 48=some Wo:=by kernel_rfl
/-! compactorref24.idle-/
abbrev M4:List AO:=
 [o1 2 (.mv (.c (.b false)))]
abbrev M3:List AO:=
 [(mt 3 0),
  (o2 4 45 [.t 3]),
  (mt 5 4),
  (o4 6 5 (.mv (.t 0))),
  (o4 7 5 (.bin .eql (.t 6) (ci 0))),o1 8 (.pick (.t 5) (.c (.b true)) (.t 7)),
  (mt 9 8),
  (o4 10 9 (.mv (.t 0))),
  (o4 11 9 (.bin .eql (.t 10) (ci 36))),o1 12 (.pick (.t 9) (.c (.b true)) (.t 11)),
  (mt 13 12),
  (o4 14 13 (.mv (.t 0))),
  (o4 15 13 (.bin .eql (.t 14) (ci 38))),o1 16 (.pick (.t 13) (.c (.b true)) (.t 15)),
  (mt 2 16)]
abbrev Wn:AF:=⟨17,(.seq (.reg M4) (.seq (.reg M3) .ret)),[.mv (.t 2)]⟩
theorem M5:bj Tryz.prog (aj Tryz.prog 49) 49=some Wn:=by kernel_rfl
/-! compactorref24.empty-/
abbrev M0:List AO:=
 [o1 2 (.mv (.c .sl0)),o1 3 (.mv (.c (.b false)))]
abbrev MZ:List AO:=
 [o1 4 (.mv (ci 0))]
abbrev MY:List AO:=
 [(mt 6 4),o1 7 (.bin .add (.t 6) (ci 1)),
  (mt 8 0),o1 9 (.len (.t 8)),o1 10 (.bin .lss (.t 7) (.t 9))]
abbrev MX:List AO:=
 [(mt 13 0),
  (mt 14 4),o1 15 (.bin .add (.t 14) (ci 1)),o1 16 (.ia 5 (.t 13) (.t 15)),o1 17 (.fa 0 (.t 16)),o1 18 (.ld 1 false (.t 17)),o1 19 (.bin .neq (.t 18) (ci 31))]
abbrev MW:List AO:=
 [o1 5 (.mv (.c .sl0))]
abbrev MV:List AO:=
 [(mt 20 0),
  (mt 21 4),o1 22 (.ia 5 (.t 20) (.t 21)),o1 23 (.fa 0 (.t 22)),o1 24 (.ld 1 false (.t 23))]
abbrev MU:List AO:=
 [o1 26 (.bin .eql (.t 24) (ci 27)),
  (mt 25 26)]
abbrev MT:List AO:=
 [o1 27 (.bin .eql (.t 24) (ci 29)),
  (mt 25 27)]
abbrev M2:List (Nat×AO):=
 [(2,(mt 28 5)),
  (2,(mt 29 0)),
  (2,(mt 30 4)),(2,(o1 31 (.sl 5 (.t 29) none (some (.t 30))))),
  (2,(mt 33 0)),
  (2,(mt 34 4)),(2,(o1 35 (.bin .add (.t 34) (ci 2)))),(2,(o1 36 (.sl 5 (.t 33) (some (.t 35)) none))),(3,(o1 32 (.app 37 5 40 (.t 28) (.t 31)))),(3,(o1 37 (.app 37 5 40 (.t 32) (.t 36)))),
  (2,(mt 2 37)),(2,(o1 3 (.mv (.c (.b true)))))]
abbrev MS:List AO:=
 [o1 39 (.bin .eql (.t 24) (ci 28)),
  (mt 38 39)]
abbrev CJ:List (Nat×AO):=
 [(2,(mt 40 5)),
  (2,(mt 41 0)),
  (2,(mt 42 4)),(2,(o1 43 (.sl 5 (.t 41) none (some (.t 42))))),
  (2,(mt 45 0)),
  (2,(mt 46 4)),(2,(o1 47 (.bin .add (.t 46) (ci 1)))),(2,(o1 48 (.sl 5 (.t 45) (some (.t 47)) none))),(3,(o1 44 (.app 37 5 40 (.t 40) (.t 43)))),(3,(o1 49 (.app 37 5 40 (.t 44) (.t 48)))),
  (2,(mt 2 49)),(2,(o1 3 (.mv (.c (.b true)))))]
abbrev CM:AC:=
 (.seq (.seq (.reg MU) (.cond (.t 25) .skip (.reg MT))) (.cond (.t 25) (.seq (.mix M2) .ret) (.seq (.reg MS) (.cond (.t 38) (.seq (.mix CJ) .ret) .skip))))
abbrev CL:AC:=
 (.seq (.seq (.reg MX) (.cond (.t 19) (.exit 1) .skip)) (.seq (.reg MW) (.seq (.reg MV) (.block 2 CM))))
abbrev CI:List AO:=
 [(mt 11 4),o1 12 (.bin .add (.t 11) (ci 1)),
  (mt 4 12)]
abbrev CN:AC:=
 (.seq (.seq (.reg MY) (.cond (.t 10) .skip (.exit 0))) (.seq (.block 1 CL) (.reg CI)))
abbrev CK:AC:=
 (.loop CN)
abbrev CH:List AO:=
 [(mt 50 0),
  (mt 2 50),o1 3 (.mv (.c (.b false)))]
abbrev Wm:AF:=⟨51,(.seq (.reg M0) (.seq (.seq (.reg MZ) (.block 0 CK)) (.seq (.reg CH) .ret))),[.mv (.t 2),.mv (.t 3)]⟩
theorem M1:bj Tryz.prog (aj Tryz.prog 50) 50=some Wm:=by kernel_rfl
/-! compactorref24.successors-/
abbrev MQ:List AO:=
 [o1 6 (.mv (.c .sl0))]
abbrev MP:List AO:=
 [(mt 8 1),
  (mt 9 2),o1 10 (.ia 1 (.t 8) (.t 9)),o1 11 (.ld 1 false (.t 10)),
  (mt 7 11)]
abbrev MO:List AO:=
 [(mt 12 0),
  (mt 13 2),o1 14 (.ia 5 (.t 12) (.t 13)),o1 15 (.fa 0 (.t 14)),o1 16 (.ld 1 false (.t 15))]
abbrev MN:List AO:=
 [o1 18 (.bin .eql (.t 16) (ci 27)),
  (mt 17 18)]
abbrev MM:List AO:=
 [o1 19 (.bin .eql (.t 16) (ci 29)),
  (mt 17 19)]
abbrev ML:List AO:=
 [o1 20 (.bin .eql (.t 16) (ci 30)),
  (mt 17 20)]
abbrev MJ:List AO:=
 [(mt 21 2),o1 22 (.bin .add (.t 21) (ci 1)),
  (mt 23 7),o1 24 (.bin .add (.t 23) (ci 1)),o1 25 (.bs 3 1 2 [.n .i64 0,.n .i64 0] [(0,1,(.t 22)),(1,1,(.t 24))]),
  (mt 6 25)]
abbrev MI:List AO:=
 [o1 27 (.bin .eql (.t 16) (ci 28)),
  (mt 26 27)]
abbrev MH:List AO:=
 [(mt 28 7),o1 29 (.bin .add (.t 28) (ci 1)),o1 30 (.bs 3 1 1 [.n .i64 0] [(0,1,(.t 29))]),
  (mt 6 30)]
abbrev MG:List AO:=
 [o1 32 (.bin .eql (.t 16) (ci 31)),
  (mt 31 32)]
abbrev CF:List AO:=
 [(mt 33 0),
  (mt 34 7),o1 35 (.ia 5 (.t 33) (.t 34)),o1 36 (.fa 0 (.t 35)),o1 37 (.ld 1 false (.t 36)),o1 38 (.bin .eql (.t 37) (ci 29))]
abbrev CE:List AO:=
 [(mt 39 2),o1 40 (.bin .add (.t 39) (ci 1)),
  (mt 41 7),o1 42 (.bin .add (.t 41) (ci 1)),o1 43 (.bs 3 1 2 [.n .i64 0,.n .i64 0] [(0,1,(.t 40)),(1,1,(.t 42))]),
  (mt 6 43)]
abbrev CG:AC:=
 (.seq (.seq (.reg MN) (.cond (.t 17) .skip (.seq (.reg MM) (.cond (.t 17) .skip (.reg ML))))) (.cond (.t 17) (.seq (.reg MJ) .ret) (.seq (.reg MI) (.cond (.t 26) (.seq (.reg MH) .ret) (.seq (.reg MG) (.cond (.t 31) (.seq (.reg CF) (.cond (.t 38) (.seq (.reg CE) .ret) .skip)) .skip))))))
abbrev CD:List AO:=
 [(mt 44 2),o1 45 (.bin .add (.t 44) (ci 1)),o1 46 (.bs 3 1 1 [.n .i64 0] [(0,1,(.t 45))]),
  (mt 6 46)]
abbrev Wl:AF:=⟨47,(.seq (.reg MQ) (.seq (.reg MP) (.seq (.seq (.reg MO) (.block 0 CG)) (.seq (.reg CD) .ret)))),[.mv (.t 6)]⟩
theorem MR:bj Tryz.prog (aj Tryz.prog 78) 78=some Wl:=by kernel_rfl
/-! compactorlaw24.OptimizerPrunes-/
/-! optimizer.Share-/
abbrev ME:List AO:=
 [o1 1 (.bx 25 0 (.t 0)),o1 2 (.al 25 [.sl0,.n .i64 0,.n .i64 0,.sl0]),o1 3 (.mv (ci 0))]
abbrev MD:List AO:=
 [o1 4 (.ld 4 true (.t 1)),
  (o2 5 24 [.t 4,(.c (.f 41 [] []))]),o1 6 (.ext 0 (.t 5)),o1 7 (.ext 1 (.t 5)),
  (o3 (.st 4 (.t 2) (.t 6))),
  (mt 3 7)]
abbrev Wj:AF:=⟨8,(.seq (.reg ME) (.seq (.reg MD) .ret)),[.ld 4 true (.t 2),.mv (.t 3)]⟩
theorem MF:bj Tryz.prog (aj Tryz.prog 15) 15=some Wj:=by kernel_rfl
/-! optimizer.share-/
abbrev MB:List AO:=
 [o1 1 (.bx 25 0 (.t 0)),o1 2 (.mv (.c .sl0))]
abbrev MA:List AO:=
 [o1 3 (.fa 3 (.t 1)),o1 4 (.ld 1 false (.t 3)),o1 5 (.bd [.f0,.f0] [(0,1,(.c (.f 69 [] []))),(1,1,(.c (.f 70 [] [])))]),
  (o2 6 68 [.t 4,(.c .sl0),.t 5]),
  (mt 2 6)]
abbrev Wi:AF:=⟨7,(.seq (.reg MB) (.seq (.reg MA) .ret)),[.mv (.t 2)]⟩
theorem MC:bj Tryz.prog (aj Tryz.prog 41) 41=some Wi:=by kernel_rfl
/-! optimizer.walk[optimizer.value]-/
abbrev My:List AO:=
 [o1 5 (.bx 119 0 (.t 2)),o1 6 (.mv (.c .sl0))]
abbrev Mx:List AO:=
 [(mt 16 0),
  (o2 17 86 [.t 16]),
  (mt 7 17)]
abbrev Mw:List AO:=
 [o1 8 (.mv (.c .sl0))]
abbrev Mv:List AO:=
 [o1 9 (.mv (.c .sl0))]
abbrev Mu:List AO:=
 [(mt 18 0),o1 19 (.len (.t 18)),o1 20 (.mv (ci 0))]
abbrev Mt:List AO:=
 [o1 21 (.bin .lss (.t 20) (.t 19))]
abbrev Ms:List AO:=
 [(mt 22 20),o1 23 (.ia 5 (.t 18) (.t 20)),o1 24 (.ld 5 true (.t 23)),o1 11 (.al 37 [.n .i64 0,.n .i64 0,.n .i64 0,.n .i64 0,.n .u32 0]),
  (mt 10 22),
  (o3 (.st 5 (.t 11) (.t 24)))]
abbrev Mr:List AO:=
 [o1 26 (.fa 1 (.t 5)),o1 27 (.ld 1 false (.t 26)),o1 28 (.ld 5 true (.t 11)),
  (mt 29 1),⟨some 30,none,.cl (.t 27) [.t 28,.t 29]⟩,
  (mt 25 30),o1 31 (.ext 0 (.t 25)),o1 32 (.ext 1 (.t 25)),o1 33 (.ext 2 (.t 25)),o1 12 (.al 37 [.n .i64 0,.n .i64 0,.n .i64 0,.n .i64 0,.n .u32 0]),
  (o3 (.st 5 (.t 12) (.t 31))),
  (mt 13 32),
  (mt 14 33)]
abbrev Mq:List AO:=
 [(mt 34 13),o1 35 (.un .not (.t 34))]
abbrev Mp:List AO:=
 [(mt 36 9),o1 37 (.len (.t 36)),o1 38 (.bin .sub (.t 37) (ci 1)),
  (mt 15 38)]
abbrev Cu:List AO:=
 [o1 40 (.fa 0 (.t 11)),o1 41 (.ld 1 false (.t 40)),o1 42 (.bin .eql (.t 41) (ci 27)),
  (mt 39 42)]
abbrev Ct:List AO:=
 [(mt 43 9),
  (mt 44 1),o1 45 (.bs 113 1 1 [.sl0] [(0,1,(.t 44))]),o1 46 (.app 113 1 24 (.t 43) (.t 45)),
  (mt 9 46)]
abbrev Cs:List AO:=
 [o1 48 (.fa 0 (.t 11)),o1 49 (.ld 1 false (.t 48)),o1 50 (.bin .eql (.t 49) (ci 28)),
  (mt 47 50)]
abbrev Cr:List AO:=
 [(mt 51 9),
  (mt 52 15),
  (mt 53 1),
  (mt 54 9),
  (mt 55 15),o1 56 (.ia 1 (.t 54) (.t 55)),o1 57 (.ld 1 false (.t 56)),o1 58 (.ia 1 (.t 51) (.t 52)),
  (o3 (.st 1 (.t 58) (.t 53))),
  (mt 1 57)]
abbrev Cq:List AO:=
 [o1 60 (.fa 0 (.t 11)),o1 61 (.ld 1 false (.t 60)),o1 62 (.bin .eql (.t 61) (ci 29)),
  (mt 59 62)]
abbrev Cy:List (Nat×AO):=
 [(2,(mt 63 1)),
  (2,(mt 65 0)),
  (2,(mt 66 10)),
  (2,(mt 67 7)),
  (2,(mt 68 10)),(2,(o1 69 (.ia 1 (.t 67) (.t 68)))),(1,(o1 64 (.ld 2 true (.t 5)))),(1,(o1 70 (.ld 1 false (.t 69)))),(2,(o1 71 (.sl 5 (.t 65) (some (.t 66)) (some (.t 70))))),
  (3,(o2 72 99 [.t 63,.t 64,.t 71])),
  (2,(mt 1 72))]
abbrev Cp:List AO:=
 [o1 74 (.fa 0 (.t 11)),o1 75 (.ld 1 false (.t 74)),o1 76 (.bin .eql (.t 75) (ci 31)),
  (mt 77 76),
  (o5 78 77 (.mv (.t 0))),
  (o5 79 77 (.mv (.t 7))),
  (o5 80 77 (.mv (.t 10))),
  (o5 81 77 (.ia 1 (.t 79) (.t 80))),
  (o5 82 77 (.ld 1 false (.t 81))),
  (o5 83 77 (.ia 5 (.t 78) (.t 82))),
  (o5 84 77 (.fa 0 (.t 83))),
  (o5 85 77 (.ld 1 false (.t 84))),
  (o5 86 77 (.bin .eql (.t 85) (ci 29))),o1 87 (.pick (.t 77) (.t 86) (.c (.b false))),
  (mt 73 87)]
abbrev Cx:List (Nat×AO):=
 [(2,(mt 88 1)),
  (2,(mt 90 0)),
  (2,(mt 91 7)),
  (2,(mt 92 10)),(2,(o1 93 (.ia 1 (.t 91) (.t 92)))),
  (2,(mt 95 10)),(1,(o1 89 (.ld 2 true (.t 5)))),(1,(o1 94 (.ld 1 false (.t 93)))),(2,(o1 96 (.sl 5 (.t 90) (some (.t 94)) (some (.t 95))))),
  (3,(o2 97 99 [.t 88,.t 89,.t 96])),
  (2,(mt 1 97))]
abbrev Co:List AO:=
 [o1 99 (.fa 0 (.t 11)),o1 100 (.ld 1 false (.t 99)),o1 101 (.bin .eql (.t 100) (ci 31)),
  (mt 98 101)]
abbrev Cw:List (Nat×AO):=
 [(2,(mt 102 1)),
  (2,(mt 103 9)),
  (2,(mt 104 15)),(2,(o1 105 (.ia 1 (.t 103) (.t 104)))),
  (2,(mt 108 9)),
  (2,(mt 109 15)),(2,(o1 110 (.sl 1 (.t 108) none (some (.t 109))))),(1,(o1 106 (.ld 1 false (.t 105)))),
  (3,(o2 107 100 [.t 102,.t 106])),
  (2,(mt 1 107)),
  (2,(mt 9 110))]
abbrev CB:AC:=
 (.seq (.reg Cu) (.cond (.t 39) (.reg Ct) (.seq (.reg Cs) (.cond (.t 47) (.reg Cr) (.seq (.reg Cq) (.cond (.t 59) (.mix Cy) (.seq (.reg Cp) (.cond (.t 73) (.mix Cx) (.seq (.reg Co) (.cond (.t 98) (.mix Cw) .skip))))))))))
abbrev Cn:List AO:=
 [(mt 111 1),o1 112 (.ld 2 true (.t 5)),o1 113 (.ld 5 true (.t 12)),o1 114 (.bs 37 5 1 [.n .i64 0,.n .i64 0,.n .i64 0,.n .i64 0,.n .u32 0] [(0,5,(.t 113))]),
  (o2 115 99 [.t 111,.t 112,.t 114]),
  (mt 116 14),o1 117 (.app 111 5 40 (.t 115) (.t 116)),
  (mt 1 117)]
abbrev Cm:List AO:=
 [(mt 118 8),o1 119 (.ld 5 true (.t 12)),o1 120 (.bs 37 5 1 [.n .i64 0,.n .i64 0,.n .i64 0,.n .i64 0,.n .u32 0] [(0,5,(.t 119))]),o1 121 (.app 37 5 40 (.t 118) (.t 120)),
  (mt 8 121)]
abbrev CA:AC:=
 (.seq (.reg Ms) (.seq (.reg Mr) (.seq (.seq (.reg Mq) (.cond (.t 35) (.exit 1) .skip)) (.seq (.reg Mp) (.seq (.block 2 CB) (.seq (.reg Cn) (.reg Cm)))))))
abbrev Cl:List AO:=
 [o1 122 (.bin .add (.t 20) (ci 1)),
  (mt 20 122)]
abbrev CC:AC:=
 (.seq (.reg Mt) (.seq (.cond (.t 21) .skip (.exit 0)) (.seq (.block 1 CA) (.reg Cl))))
abbrev Cz:AC:=
 (.loop CC)
abbrev Ck:List AO:=
 [(mt 123 8),
  (mt 6 123)]
abbrev Wh:AF:=⟨124,(.seq (.reg My) (.seq (.reg Mx) (.seq (.reg Mw) (.seq (.reg Mv) (.seq (.seq (.reg Mu) (.block 0 Cz)) (.seq (.reg Ck) .ret)))))),[.mv (.t 6)]⟩
theorem Mz:bj Tryz.prog (aj Tryz.prog 68) 68=some Wh:=by kernel_rfl
/-! optimizer.share$1-/
abbrev Mn:List AO:=
 [o1 2 (.bx 37 0 (.t 0)),o1 3 (.bx 111 0 (.t 1)),o1 4 (.mv (.c (.b false)))]
abbrev Mm:List AO:=
 [o1 6 (.ld 5 true (.t 2)),
  (o2 7 57 [.t 6]),
  (mt 5 7)]
abbrev Ml:List AO:=
 [(mt 8 5),o1 9 (.bin .geq (.t 8) (ci 0)),
  (mt 10 9),
  (o5 11 10 (.mv (.t 5))),
  (o5 12 10 (.fa 0 (.t 3))),
  (o5 13 10 (.fa 1 (.t 12))),
  (o5 14 10 (.ld 1 false (.t 13))),
  (o5 15 10 (.bin .eql (.t 11) (.t 14))),
  (o5 16 10 (.mv (.t 15))),
  (o4 17 16 (.mv (.t 5))),
  (o4 18 16 (.fa 0 (.t 3))),
  (o4 19 16 (.fa 2 (.t 18))),
  (o4 20 16 (.ld 1 false (.t 19))),
  (o4 21 16 (.bin .eql (.t 17) (.t 20))),
  (o5 22 10 (.pick (.t 16) (.c (.b true)) (.t 21))),
  (o5 23 10 (.mv (.t 22))),
  (o4 24 23 (.mv (.t 5))),
  (o4 25 23 (.fa 0 (.t 3))),
  (o4 26 23 (.fa 3 (.t 25))),
  (o4 27 23 (.ld 1 false (.t 26))),
  (o4 28 23 (.bin .eql (.t 24) (.t 27))),
  (o5 29 10 (.pick (.t 23) (.c (.b true)) (.t 28))),o1 30 (.pick (.t 10) (.t 29) (.c (.b false)))]
abbrev Mj:List AO:=
 [o1 4 (.mv (.c (.b true)))]
abbrev Mi:List AO:=
 [o1 31 (.fa 0 (.t 2)),o1 32 (.ld 1 false (.t 31)),o1 33 (.bin .eql (.t 32) (ci 4)),
  (mt 34 33),
  (o5 35 34 (.fa 0 (.t 3))),
  (o5 36 34 (.fa 0 (.t 35))),
  (o5 37 34 (.ld 1 false (.t 36))),
  (o5 38 34 (.bin .eql (.t 37) (ci 3))),o1 39 (.pick (.t 34) (.t 38) (.c (.b false))),
  (mt 40 39),
  (o5 41 40 (.fa 4 (.t 2))),
  (o5 42 40 (.ld 1 false (.t 41))),
  (o5 43 40 (.fa 0 (.t 3))),
  (o5 44 40 (.fa 4 (.t 43))),
  (o5 45 40 (.ld 1 false (.t 44))),
  (o5 46 40 (.bin .eql (.t 42) (.t 45))),o1 47 (.pick (.t 40) (.t 46) (.c (.b false))),
  (mt 4 47)]
abbrev Wg:AF:=⟨48,(.seq (.reg Mn) (.seq (.seq (.reg Mm) (.seq (.reg Ml) (.cond (.t 30) (.seq (.reg Mj) .ret) .skip))) (.seq (.reg Mi) .ret))),[.mv (.t 4)]⟩
theorem Mo:bj Tryz.prog (aj Tryz.prog 69) 69=some Wg:=by kernel_rfl
/-! optimizer.share$2-/
abbrev Mf:List AO:=
 [o1 2 (.bx 37 0 (.t 0)),o1 4 (.al 37 [.n .i64 0,.n .i64 0,.n .i64 0,.n .i64 0,.n .u32 0]),o1 5 (.mv (.c (.b false))),o1 6 (.mv (.c .sl0))]
abbrev Me:List AO:=
 [o1 8 (.fa 0 (.t 2)),o1 9 (.ld 1 false (.t 8)),
  (o2 10 71 [.t 9]),o1 11 (.un .not (.t 10))]
abbrev Md:List AO:=
 [o1 12 (.ld 5 true (.t 2)),
  (o3 (.st 5 (.t 4) (.t 12))),o1 5 (.mv (.c (.b true))),o1 6 (.mv (.c .sl0))]
abbrev Mc:List AO:=
 [(mt 13 1),o1 14 (.mf 73 [] [.t 2]),
  (o2 15 72 [.t 13,.t 14]),
  (mt 7 15)]
abbrev Mh:List (Nat×AO):=
 [(2,(mt 17 7)),(2,(o1 18 (.bin .geq (.t 17) (ci 0)))),
  (2,(mt 19 18)),
  (2,(o5 20 19 (.mv (.t 1)))),
  (2,(o5 21 19 (.mv (.t 7)))),
  (2,(o5 22 19 (.ia 5 (.t 20) (.t 21)))),
  (2,(o5 23 19 (.fa 0 (.t 22)))),
  (2,(o5 24 19 (.fa 1 (.t 23)))),
  (2,(o5 26 19 (.fa 1 (.t 2)))),
  (1,(o5 25 19 (.ld 1 false (.t 24)))),
  (1,(o5 27 19 (.ld 1 false (.t 26)))),
  (2,(o5 28 19 (.bin .eql (.t 25) (.t 27)))),(2,(o1 29 (.pick (.t 19) (.t 28) (.c (.b false))))),
  (2,(mt 16 29))]
abbrev Mb:List AO:=
 [o1 30 (.ld 5 true (.t 2)),
  (o3 (.st 5 (.t 4) (.t 30))),o1 5 (.mv (.c (.b false))),o1 6 (.mv (.c .sl0))]
abbrev Ma:List AO:=
 [(mt 32 7),o1 33 (.bin .geq (.t 32) (ci 0)),
  (mt 31 33)]
abbrev Mg:List (Nat×AO):=
 [(2,(o1 34 (.fa 1 (.t 2)))),
  (2,(mt 36 1)),
  (2,(mt 37 7)),(2,(o1 38 (.ia 5 (.t 36) (.t 37)))),(2,(o1 39 (.fa 0 (.t 38)))),(2,(o1 40 (.fa 1 (.t 39)))),(1,(o1 35 (.ld 1 false (.t 34)))),(1,(o1 41 (.ld 1 false (.t 40)))),(2,(o1 42 (.bd [.n .i64 0,.n .i64 0,.n .i64 0,.n .i64 0,.n .u32 0] [(0,1,(ci 36)),(1,1,(.t 35)),(2,1,(.t 41)),(3,1,(.c (.n .i64 (-1))))]))),
  (3,(o3 (.st 5 (.t 4) (.t 42)))),(2,(o1 5 (.mv (.c (.b true))))),(2,(o1 6 (.mv (.c .sl0))))]
abbrev L9:List AO:=
 [o1 44 (.fa 1 (.t 2)),o1 45 (.ld 1 false (.t 44)),o1 46 (.fa 2 (.t 2)),o1 47 (.ld 1 false (.t 46)),o1 48 (.bin .eql (.t 45) (.t 47)),
  (mt 49 48),
  (o4 50 49 (.fa 1 (.t 2))),
  (o4 51 49 (.ld 1 false (.t 50))),
  (o4 52 49 (.fa 3 (.t 2))),
  (o4 53 49 (.ld 1 false (.t 52))),
  (o4 54 49 (.bin .eql (.t 51) (.t 53))),o1 55 (.pick (.t 49) (.c (.b true)) (.t 54)),
  (mt 43 55)]
abbrev L8:List AO:=
 [o1 56 (.ld 5 true (.t 2)),
  (o3 (.st 5 (.t 4) (.t 56))),o1 5 (.mv (.c (.b true))),o1 6 (.mv (.c .sl0))]
abbrev Cj:AC:=
 (.seq (.mix Mh) (.cond (.t 16) (.seq (.reg Mb) .ret) (.seq (.reg Ma) (.cond (.t 31) (.seq (.mix Mg) .ret) (.seq (.reg L9) (.cond (.t 43) (.seq (.reg L8) .ret) .skip))))))
abbrev Ci:List (Nat×AO):=
 [(1,(o1 57 (.ld 5 true (.t 2)))),(1,(o1 58 (.ld 5 true (.t 2)))),(2,(o1 59 (.bd [.n .i64 0,.n .i64 0,.n .i64 0,.n .i64 0,.n .u32 0] [(0,5,(.t 58))])))]
abbrev Ch:AT:=
 (.alt (o1 60 (.bs 111 5 1 [.n .i64 0,.n .i64 0,.n .i64 0,.n .i64 0,.n .u32 0] [(0,5,(.t 59))])) (.alt (o3 (.st 5 (.t 4) (.t 57))) (.alt (o1 5 (.mv (.c (.b true)))) (.alt (mt 6 60) .fin .none) .none) .none) (.alt (o3 (.st 5 (.t 4) (.t 57))) (.alt (o1 60 (.bs 111 5 1 [.n .i64 0,.n .i64 0,.n .i64 0,.n .i64 0,.n .u32 0] [(0,5,(.t 59))])) (.alt (o1 5 (.mv (.c (.b true)))) (.alt (mt 6 60) .fin .none) .none) (.alt (o1 5 (.mv (.c (.b true)))) (.alt (o1 60 (.bs 111 5 1 [.n .i64 0,.n .i64 0,.n .i64 0,.n .i64 0,.n .u32 0] [(0,5,(.t 59))])) (.alt (mt 6 60) .fin .none) .none) .none)) .none))
abbrev Wc:AF:=⟨61,(.seq (.reg Mf) (.seq (.seq (.reg Me) (.cond (.t 11) (.seq (.reg Md) .ret) .skip)) (.seq (.reg Mc) (.seq (.block 0 Cj) (.seq (.frk Ci Ch) .ret))))),[.ld 5 true (.t 4),.mv (.t 5),.mv (.t 6)]⟩
theorem pP:bj Tryz.prog (aj Tryz.prog 70) 70=some Wc:=by kernel_rfl
/-! optimizer.expression-/
abbrev L6:List AO:=
 [o1 2 (.mv (.c (.b false)))]
abbrev L5:List AO:=
 [(mt 3 0),
  (o2 4 90 [.t 3]),
  (mt 5 4),
  (o4 6 5 (.mv (.t 0))),
  (o4 7 5 (.bin .eql (.t 6) (ci 3))),o1 8 (.pick (.t 5) (.c (.b true)) (.t 7)),
  (mt 9 8),
  (o4 10 9 (.mv (.t 0))),
  (o4 11 9 (.bin .eql (.t 10) (ci 32))),o1 12 (.pick (.t 9) (.c (.b true)) (.t 11)),
  (mt 13 12),
  (o4 14 13 (.mv (.t 0))),
  (o4 15 13 (.bin .eql (.t 14) (ci 33))),o1 16 (.pick (.t 13) (.c (.b true)) (.t 15)),
  (mt 2 16)]
abbrev Wb:AF:=⟨17,(.seq (.reg L6) (.seq (.reg L5) .ret)),[.mv (.t 2)]⟩
theorem L7:bj Tryz.prog (aj Tryz.prog 71) 71=some Wb:=by kernel_rfl
/-! slices.IndexFunc[[]optimizer.value,optimizer.value]-/
abbrev LZ:List AO:=
 [o1 4 (.mv (ci 0))]
abbrev LY:List AO:=
 [(mt 6 0),o1 7 (.len (.t 6)),o1 8 (.mv (ci 0))]
abbrev LX:List AO:=
 [o1 9 (.bin .lss (.t 8) (.t 7))]
abbrev LW:List AO:=
 [(mt 10 8),
  (mt 5 10)]
abbrev LV:List AO:=
 [(mt 11 1),
  (mt 12 0),
  (mt 13 5),o1 14 (.ia 5 (.t 12) (.t 13)),o1 15 (.ld 5 true (.t 14)),⟨some 16,none,.cl (.t 11) [.t 15]⟩]
abbrev LU:List AO:=
 [(mt 17 5),
  (mt 4 17)]
abbrev L3:AC:=
 (.seq (.reg LW) (.seq (.reg LV) (.cond (.t 16) (.seq (.reg LU) .ret) .skip)))
abbrev LS:List AO:=
 [o1 18 (.bin .add (.t 8) (ci 1)),
  (mt 8 18)]
abbrev L4:AC:=
 (.seq (.reg LX) (.seq (.cond (.t 9) .skip (.exit 0)) (.seq (.block 1 L3) (.reg LS))))
abbrev L1:AC:=
 (.loop L4)
abbrev Cg:List AO:=
 [o1 4 (.mv (.c (.n .i64 (-1))))]
abbrev Wa:AF:=⟨19,(.seq (.reg LZ) (.seq (.seq (.reg LY) (.block 0 L1)) (.seq (.reg Cg) .ret))),[.mv (.t 4)]⟩
theorem L0:bj Tryz.prog (aj Tryz.prog 72) 72=some Wa:=by kernel_rfl
/-! optimizer.share$2$1-/
abbrev LQ:List AO:=
 [o1 2 (.bx 111 0 (.t 0)),o1 3 (.mv (.c (.b false)))]
abbrev LP:List AO:=
 [o1 4 (.ld 5 true (.t 2)),o1 5 (.ld 5 true (.t 1)),
  (o2 6 74 [.t 4,.t 5]),
  (mt 3 6)]
abbrev V9:AF:=⟨7,(.seq (.reg LQ) (.seq (.reg LP) .ret)),[.mv (.t 3)]⟩
theorem LR:bj Tryz.prog (aj Tryz.prog 73) 73=some V9:=by kernel_rfl
/-! optimizer.value.computes-/
abbrev LN:List AO:=
 [o1 2 (.bx 111 0 (.t 0)),o1 3 (.bx 37 0 (.t 1)),o1 4 (.mv (.c (.b false)))]
abbrev LM:List AO:=
 [o1 5 (.fa 0 (.t 2)),o1 6 (.fa 1 (.t 5)),o1 7 (.ld 1 false (.t 6)),o1 8 (.fa 1 (.t 3)),
  (o3 (.st 1 (.t 8) (.t 7)))]
abbrev LL:List AO:=
 [o1 9 (.fa 0 (.t 2)),o1 10 (.ld 5 true (.t 9)),o1 11 (.ld 5 true (.t 3)),o1 12 (.eq false (.st [(0,1,.n),(1,1,.n),(2,1,.n),(3,1,.n),(4,1,.n)]) (.t 10) (.t 11)),
  (mt 4 12)]
abbrev V8:AF:=⟨13,(.seq (.reg LN) (.seq (.reg LM) (.seq (.reg LL) .ret))),[.mv (.t 4)]⟩
theorem LO:bj Tryz.prog (aj Tryz.prog 74) 74=some V8:=by kernel_rfl
/-! optimizer.without[optimizer.value]-/
abbrev LH:List AO:=
 [o1 4 (.bx 119 0 (.t 1)),o1 6 (.mv (.c .sl0))]
abbrev LG:List AO:=
 [o1 7 (.mv (.c .sl0))]
abbrev LF:List AO:=
 [(mt 10 0),o1 11 (.len (.t 10)),o1 12 (.mv (ci 0))]
abbrev LD:List AO:=
 [o1 13 (.bin .lss (.t 12) (.t 11))]
abbrev LC:List AO:=
 [o1 14 (.ia 5 (.t 10) (.t 12)),o1 15 (.ld 5 true (.t 14)),o1 9 (.al 111 [.n .i64 0,.n .i64 0,.n .i64 0,.n .i64 0,.n .u32 0]),
  (o3 (.st 5 (.t 9) (.t 15)))]
abbrev LB:List AO:=
 [(mt 16 2),o1 17 (.mf 116 [] [.t 4,.t 9]),
  (o2 18 107 [.t 16,.t 17]),o1 19 (.un .not (.t 18))]
abbrev LA:List AO:=
 [(mt 20 7),o1 21 (.ld 5 true (.t 9)),o1 22 (.bs 111 5 1 [.n .i64 0,.n .i64 0,.n .i64 0,.n .i64 0,.n .u32 0] [(0,5,(.t 21))]),o1 23 (.app 111 5 40 (.t 20) (.t 22)),
  (mt 7 23)]
abbrev LJ:AC:=
 (.seq (.reg LC) (.seq (.reg LB) (.cond (.t 19) (.reg LA) .skip)))
abbrev Lz:List AO:=
 [o1 24 (.bin .add (.t 12) (ci 1)),
  (mt 12 24)]
abbrev LK:AC:=
 (.seq (.reg LD) (.seq (.cond (.t 13) .skip (.exit 0)) (.seq (.block 1 LJ) (.reg Lz))))
abbrev Cf:AC:=
 (.loop LK)
abbrev Ce:List AO:=
 [(mt 25 7),
  (mt 6 25)]
abbrev V7:AF:=⟨26,(.seq (.reg LH) (.seq (.reg LG) (.seq (.seq (.reg LF) (.block 0 Cf)) (.seq (.reg Ce) .ret)))),[.mv (.t 6)]⟩
theorem LI:bj Tryz.prog (aj Tryz.prog 99) 99=some V7:=by kernel_rfl
/-! optimizer.both[optimizer.value]-/
abbrev Lu:List AO:=
 [o1 4 (.mv (.c .sl0))]
abbrev Ls:List AO:=
 [o1 5 (.mv (.c .sl0))]
abbrev Lr:List AO:=
 [(mt 8 0),o1 9 (.len (.t 8)),o1 10 (.mv (ci 0))]
abbrev Lq:List AO:=
 [o1 11 (.bin .lss (.t 10) (.t 9))]
abbrev Lp:List AO:=
 [o1 12 (.ia 5 (.t 8) (.t 10)),o1 13 (.ld 5 true (.t 12)),o1 7 (.al 111 [.n .i64 0,.n .i64 0,.n .i64 0,.n .i64 0,.n .u32 0]),
  (o3 (.st 5 (.t 7) (.t 13)))]
abbrev Lo:List AO:=
 [(mt 14 1),o1 15 (.ld 5 true (.t 7)),
  (o2 16 117 [.t 14,.t 15])]
abbrev Ln:List AO:=
 [(mt 17 5),o1 18 (.ld 5 true (.t 7)),o1 19 (.bs 111 5 1 [.n .i64 0,.n .i64 0,.n .i64 0,.n .i64 0,.n .u32 0] [(0,5,(.t 18))]),o1 20 (.app 111 5 40 (.t 17) (.t 19)),
  (mt 5 20)]
abbrev Lx:AC:=
 (.seq (.reg Lp) (.seq (.reg Lo) (.cond (.t 16) (.reg Ln) .skip)))
abbrev Lm:List AO:=
 [o1 21 (.bin .add (.t 10) (ci 1)),
  (mt 10 21)]
abbrev Ly:AC:=
 (.seq (.reg Lq) (.seq (.cond (.t 11) .skip (.exit 0)) (.seq (.block 1 Lx) (.reg Lm))))
abbrev Cd:AC:=
 (.loop Ly)
abbrev Cc:List AO:=
 [(mt 22 5),
  (mt 4 22)]
abbrev V6:AF:=⟨23,(.seq (.reg Lu) (.seq (.reg Ls) (.seq (.seq (.reg Lr) (.block 0 Cd)) (.seq (.reg Cc) .ret)))),[.mv (.t 4)]⟩
theorem Lw:bj Tryz.prog (aj Tryz.prog 100) 100=some V6:=by kernel_rfl
/-! optimizer.without[optimizer.value]$1-/
abbrev Lk:List AO:=
 [o1 3 (.bx 37 0 (.t 0)),o1 4 (.mv (.c (.b false)))]
abbrev Lj:List AO:=
 [o1 5 (.fa 0 (.t 1)),o1 6 (.ld 1 false (.t 5)),o1 7 (.ld 5 true (.t 3)),o1 8 (.ld 5 true (.t 2)),⟨some 9,none,.cl (.t 6) [.t 7,.t 8]⟩,
  (mt 4 9)]
abbrev V5:AF:=⟨10,(.seq (.reg Lk) (.seq (.reg Lj) .ret)),[.mv (.t 4)]⟩
theorem Ll:bj Tryz.prog (aj Tryz.prog 116) 116=some V5:=by kernel_rfl
/-! slices.Contains[[]optimizer.value,optimizer.value]-/
abbrev Lh:List AO:=
 [o1 3 (.bx 111 0 (.t 1)),o1 4 (.mv (.c (.b false)))]
abbrev Lg:List AO:=
 [(mt 5 0),o1 6 (.ld 5 true (.t 3)),
  (o2 7 141 [.t 5,.t 6]),o1 8 (.bin .geq (.t 7) (ci 0)),
  (mt 4 8)]
abbrev V4:AF:=⟨9,(.seq (.reg Lh) (.seq (.reg Lg) .ret)),[.mv (.t 4)]⟩
theorem Li:bj Tryz.prog (aj Tryz.prog 117) 117=some V4:=by kernel_rfl
/-! slices.Index[[]optimizer.value,optimizer.value]-/
abbrev K8:List AO:=
 [o1 3 (.bx 111 0 (.t 1)),o1 4 (.mv (ci 0))]
abbrev K7:List AO:=
 [(mt 6 0),o1 7 (.len (.t 6)),o1 8 (.mv (ci 0))]
abbrev K6:List AO:=
 [o1 9 (.bin .lss (.t 8) (.t 7))]
abbrev K5:List AO:=
 [(mt 10 8),
  (mt 5 10)]
abbrev La:List (Nat×AO):=
 [(2,(mt 12 0)),
  (2,(mt 13 5)),(2,(o1 14 (.ia 5 (.t 12) (.t 13)))),(1,(o1 11 (.ld 5 true (.t 3)))),(1,(o1 15 (.ld 5 true (.t 14)))),(2,(o1 16 (.eq false (.st [(0,5,.st [(0,1,.n),(1,1,.n),(2,1,.n),(3,1,.n),(4,1,.n)])]) (.t 11) (.t 15))))]
abbrev K4:List AO:=
 [(mt 17 5),
  (mt 4 17)]
abbrev Lc:AC:=
 (.seq (.reg K5) (.seq (.mix La) (.cond (.t 16) (.seq (.reg K4) .ret) .skip)))
abbrev K3:List AO:=
 [o1 18 (.bin .add (.t 8) (ci 1)),
  (mt 8 18)]
abbrev Ld:AC:=
 (.seq (.reg K6) (.seq (.cond (.t 9) .skip (.exit 0)) (.seq (.block 1 Lc) (.reg K3))))
abbrev Lb:AC:=
 (.loop Ld)
abbrev Cb:List AO:=
 [o1 4 (.mv (.c (.n .i64 (-1))))]
abbrev V3:AF:=⟨19,(.seq (.reg K8) (.seq (.seq (.reg K7) (.block 0 Lb)) (.seq (.reg Cb) .ret))),[.mv (.t 4)]⟩
theorem K9:bj Tryz.prog (aj Tryz.prog 141) 141=some V3:=by kernel_rfl
/-! compactorref24.Share-/
abbrev K0:List AO:=
 [o1 1 (.bx 25 0 (.t 0)),o1 2 (.al 25 [.sl0,.n .i64 0,.n .i64 0,.sl0]),o1 3 (.mv (ci 0))]
abbrev KZ:List AO:=
 [o1 19 (.ld 4 true (.t 1)),
  (o2 20 26 [.t 19]),
  (mt 18 20),o1 21 (.ext 0 (.t 18)),o1 22 (.ext 1 (.t 18)),
  (mt 4 21),
  (mt 5 22)]
abbrev KY:List AO:=
 [(mt 23 5),o1 24 (.bin .neq (.t 23) (ci 0))]
abbrev KX:List AO:=
 [o1 25 (.bd [.sl0,.n .i64 0,.n .i64 0,.sl0] []),
  (mt 26 5),
  (o3 (.st 4 (.t 2) (.t 25))),
  (mt 3 26)]
abbrev KW:List AO:=
 [o1 28 (.fa 3 (.t 1)),o1 29 (.ld 1 false (.t 28)),
  (o2 30 27 [.t 29]),
  (mt 27 30),o1 31 (.ext 0 (.t 27)),o1 32 (.ext 1 (.t 27)),o1 33 (.ext 2 (.t 27)),
  (mt 6 31),
  (mt 7 32),
  (mt 8 33)]
abbrev KV:List AO:=
 [o1 34 (.ld 4 true (.t 1)),
  (o2 35 28 [.t 34]),o1 9 (.al 25 [.sl0,.n .i64 0,.n .i64 0,.sl0]),
  (o3 (.st 4 (.t 9) (.t 35)))]
abbrev KU:List AO:=
 [o1 36 (.fa 3 (.t 9)),
  (o3 (.st 1 (.t 36) (.c .sl0)))]
abbrev KT:List AO:=
 [o1 10 (.mv (.c .sl0))]
abbrev KS:List AO:=
 [o1 11 (.mv (.c .sl0))]
abbrev KQ:List AO:=
 [o1 12 (.mv (ci 0))]
abbrev B1:List AO:=
 [(mt 37 12),o1 38 (.fa 3 (.t 1)),o1 39 (.ld 1 false (.t 38)),o1 40 (.len (.t 39)),o1 41 (.bin .lss (.t 37) (.t 40))]
abbrev B0:List AO:=
 [o1 44 (.fa 3 (.t 1)),o1 45 (.ld 1 false (.t 44)),
  (mt 46 12),o1 47 (.ia 5 (.t 45) (.t 46)),o1 48 (.ld 5 true (.t 47)),o1 13 (.al 37 [.n .i64 0,.n .i64 0,.n .i64 0,.n .i64 0,.n .u32 0]),
  (o3 (.st 5 (.t 13) (.t 48)))]
abbrev BZ:List AO:=
 [(mt 49 11),o1 50 (.len (.t 49)),
  (mt 14 50)]
abbrev BW:List AO:=
 [o1 51 (.fa 0 (.t 13)),o1 52 (.ld 1 false (.t 51))]
abbrev BV:List AO:=
 [o1 54 (.bin .eql (.t 52) (ci 27)),
  (mt 53 54)]
abbrev BU:List AO:=
 [(mt 55 11),
  (mt 56 10),o1 57 (.bs 65 1 1 [.sl0] [(0,1,(.t 56))]),o1 58 (.app 65 1 24 (.t 55) (.t 57)),
  (mt 11 58)]
abbrev BT:List AO:=
 [o1 60 (.bin .eql (.t 52) (ci 28)),
  (mt 59 60)]
abbrev BS:List AO:=
 [(mt 61 11),
  (mt 62 14),o1 63 (.bin .sub (.t 62) (ci 1)),
  (mt 64 10),
  (mt 65 11),
  (mt 66 14),o1 67 (.bin .sub (.t 66) (ci 1)),o1 68 (.ia 1 (.t 65) (.t 67)),o1 69 (.ld 1 false (.t 68)),o1 70 (.ia 1 (.t 61) (.t 63)),
  (o3 (.st 1 (.t 70) (.t 64))),
  (mt 10 69)]
abbrev BQ:List AO:=
 [o1 72 (.bin .eql (.t 52) (ci 29)),
  (mt 71 72)]
abbrev B6:List (Nat×AO):=
 [(2,(mt 73 10)),
  (2,(mt 75 12)),
  (2,(mt 76 6)),
  (2,(mt 77 12)),(2,(o1 78 (.ia 1 (.t 76) (.t 77)))),
  (2,(mt 82 12)),
  (2,(mt 83 6)),
  (2,(mt 84 12)),(2,(o1 85 (.ia 1 (.t 83) (.t 84)))),(1,(o1 74 (.ld 4 true (.t 1)))),(1,(o1 79 (.ld 1 false (.t 78)))),(1,(o1 81 (.ld 4 true (.t 1)))),(1,(o1 86 (.ld 1 false (.t 85)))),
  (0,(o2 80 31 [.t 74,.t 75,.t 79])),
  (3,(o2 87 43 [.t 81,.t 82,.t 86])),
  (3,(o2 88 42 [.t 73,.t 80,.t 87])),
  (2,(mt 10 88))]
abbrev BP:List AO:=
 [o1 90 (.bin .eql (.t 52) (ci 31)),
  (mt 89 90)]
abbrev B5:List (Nat×AO):=
 [(2,(o1 91 (.fa 3 (.t 1)))),
  (2,(mt 93 6)),
  (2,(mt 94 12)),(2,(o1 95 (.ia 1 (.t 93) (.t 94)))),(1,(o1 92 (.ld 1 false (.t 91)))),(1,(o1 96 (.ld 1 false (.t 95)))),(2,(o1 97 (.ia 5 (.t 92) (.t 96)))),(2,(o1 98 (.fa 0 (.t 97)))),(1,(o1 99 (.ld 1 false (.t 98)))),(2,(o1 100 (.bin .eql (.t 99) (ci 29))))]
abbrev B4:List (Nat×AO):=
 [(2,(mt 101 10)),
  (2,(mt 103 6)),
  (2,(mt 104 12)),(2,(o1 105 (.ia 1 (.t 103) (.t 104)))),
  (2,(mt 107 12)),
  (2,(mt 110 6)),
  (2,(mt 111 12)),(2,(o1 112 (.ia 1 (.t 110) (.t 111)))),
  (2,(mt 114 12)),(1,(o1 102 (.ld 4 true (.t 1)))),(1,(o1 106 (.ld 1 false (.t 105)))),(1,(o1 109 (.ld 4 true (.t 1)))),(1,(o1 113 (.ld 1 false (.t 112)))),
  (0,(o2 108 31 [.t 102,.t 106,.t 107])),
  (3,(o2 115 43 [.t 109,.t 113,.t 114])),
  (3,(o2 116 42 [.t 101,.t 108,.t 115])),
  (2,(mt 10 116))]
abbrev BO:List AO:=
 [(mt 117 10),
  (mt 118 11),
  (mt 119 14),o1 120 (.bin .sub (.t 119) (ci 1)),o1 121 (.ia 1 (.t 118) (.t 120)),o1 122 (.ld 1 false (.t 121)),
  (o2 123 44 [.t 117,.t 122]),
  (mt 10 123)]
abbrev BN:List AO:=
 [(mt 124 11),
  (mt 125 14),o1 126 (.bin .sub (.t 125) (ci 1)),o1 127 (.sl 1 (.t 124) none (some (.t 126))),
  (mt 11 127)]
abbrev B9:AC:=
 (.seq (.reg BV) (.cond (.t 53) (.reg BU) (.seq (.reg BT) (.cond (.t 59) (.reg BS) (.seq (.reg BQ) (.cond (.t 71) (.mix B6) (.seq (.reg BP) (.cond (.t 89) (.seq (.mix B5) (.cond (.t 100) (.mix B4) (.seq (.reg BO) (.reg BN)))) .skip))))))))
abbrev BM:List AO:=
 [o1 15 (.mv (.c (.n .i64 (-1))))]
abbrev BL:List AO:=
 [o1 128 (.fa 0 (.t 13)),o1 129 (.ld 1 false (.t 128)),
  (o2 130 45 [.t 129])]
abbrev BK:List AO:=
 [(mt 131 10),o1 132 (.ld 5 true (.t 13)),
  (o2 133 46 [.t 131,.t 132]),
  (mt 15 133)]
abbrev B3:List (Nat×AO):=
 [(2,(mt 134 15)),(2,(o1 135 (.bin .geq (.t 134) (ci 0)))),
  (2,(mt 136 135)),
  (2,(o5 137 136 (.mv (.t 10)))),
  (2,(o5 138 136 (.mv (.t 15)))),
  (2,(o5 139 136 (.ia 5 (.t 137) (.t 138)))),
  (2,(o5 140 136 (.fa 0 (.t 139)))),
  (2,(o5 141 136 (.fa 1 (.t 140)))),
  (2,(o5 143 136 (.fa 1 (.t 13)))),
  (1,(o5 142 136 (.ld 1 false (.t 141)))),
  (1,(o5 144 136 (.ld 1 false (.t 143)))),
  (2,(o5 145 136 (.bin .eql (.t 142) (.t 144)))),(2,(o1 146 (.pick (.t 136) (.t 145) (.c (.b false)))))]
abbrev BJ:List AO:=
 [o1 147 (.ld 5 true (.t 13)),o1 16 (.al 37 [.n .i64 0,.n .i64 0,.n .i64 0,.n .i64 0,.n .u32 0]),
  (o3 (.st 5 (.t 16) (.t 147)))]
abbrev BI:List AO:=
 [(mt 148 15),o1 149 (.bin .geq (.t 148) (ci 0))]
abbrev B2:List (Nat×AO):=
 [(2,(o1 150 (.fa 1 (.t 13)))),
  (2,(mt 152 10)),
  (2,(mt 153 15)),(2,(o1 154 (.ia 5 (.t 152) (.t 153)))),(2,(o1 155 (.fa 0 (.t 154)))),(2,(o1 156 (.fa 1 (.t 155)))),(1,(o1 151 (.ld 1 false (.t 150)))),(1,(o1 157 (.ld 1 false (.t 156)))),(2,(o1 158 (.bd [.n .i64 0,.n .i64 0,.n .i64 0,.n .i64 0,.n .u32 0] [(0,1,(ci 36)),(1,1,(.t 151)),(2,1,(.t 157)),(3,1,(.c (.n .i64 (-1))))]))),
  (3,(o3 (.st 5 (.t 16) (.t 158))))]
abbrev v8:List (Nat×AO):=
 [(2,(mt 159 10)),
  (2,(mt 161 12)),
  (2,(mt 162 12)),(2,(o1 163 (.bin .add (.t 162) (ci 1)))),
  (2,(mt 166 12)),
  (2,(mt 167 12)),(2,(o1 168 (.bin .add (.t 167) (ci 1)))),(1,(o1 160 (.ld 4 true (.t 1)))),(1,(o1 165 (.ld 4 true (.t 1)))),
  (0,(o2 164 31 [.t 160,.t 161,.t 163])),
  (3,(o2 169 43 [.t 165,.t 166,.t 168])),
  (3,(o2 170 42 [.t 159,.t 164,.t 169])),
  (2,(mt 10 170))]
abbrev v6:List AO:=
 [o1 171 (.fa 0 (.t 13)),o1 172 (.ld 1 false (.t 171)),
  (o2 173 45 [.t 172]),
  (mt 174 173),
  (o5 175 174 (.mv (.t 15))),
  (o5 176 174 (.bin .lss (.t 175) (ci 0))),o1 177 (.pick (.t 174) (.t 176) (.c (.b false))),
  (mt 178 177),
  (o5 179 178 (.fa 1 (.t 13))),
  (o5 180 178 (.ld 1 false (.t 179))),
  (o5 181 178 (.fa 2 (.t 13))),
  (o5 182 178 (.ld 1 false (.t 181))),
  (o5 183 178 (.bin .neq (.t 180) (.t 182))),o1 184 (.pick (.t 178) (.t 183) (.c (.b false))),
  (mt 185 184),
  (o5 186 185 (.fa 1 (.t 13))),
  (o5 187 185 (.ld 1 false (.t 186))),
  (o5 188 185 (.fa 3 (.t 13))),
  (o5 189 185 (.ld 1 false (.t 188))),
  (o5 190 185 (.bin .neq (.t 187) (.t 189))),o1 191 (.pick (.t 185) (.t 190) (.c (.b false)))]
abbrev v5:List AO:=
 [o1 17 (.mv (.c .sl0))]
abbrev v7:List (Nat×AO):=
 [(2,(mt 192 17)),
  (2,(mt 193 10)),(1,(o1 195 (.ld 5 true (.t 13)))),(2,(o1 196 (.bd [.n .i64 0,.n .i64 0,.n .i64 0,.n .i64 0,.n .u32 0] [(0,5,(.t 195))])))]
abbrev v4:AT:=
 (.alt (o1 194 (.app 72 5 40 (.t 192) (.t 193))) (.alt (o1 197 (.bs 72 5 1 [.n .i64 0,.n .i64 0,.n .i64 0,.n .i64 0,.n .u32 0] [(0,5,(.t 196))])) (.alt (o1 198 (.app 72 5 40 (.t 194) (.t 197))) (.alt (mt 10 198) .fin .none) .none) .none) (.alt (o1 197 (.bs 72 5 1 [.n .i64 0,.n .i64 0,.n .i64 0,.n .i64 0,.n .u32 0] [(0,5,(.t 196))])) (.alt (o1 194 (.app 72 5 40 (.t 192) (.t 193))) (.alt (o1 198 (.app 72 5 40 (.t 194) (.t 197))) (.alt (mt 10 198) .fin .none) .none) .none) .none))
abbrev rN:List AO:=
 [o1 199 (.fa 3 (.t 9)),o1 200 (.ld 1 false (.t 199)),o1 201 (.ld 5 true (.t 16)),o1 202 (.bs 37 5 1 [.n .i64 0,.n .i64 0,.n .i64 0,.n .i64 0,.n .u32 0] [(0,5,(.t 201))]),o1 203 (.app 37 5 40 (.t 200) (.t 202)),o1 204 (.fa 3 (.t 9)),
  (o3 (.st 1 (.t 204) (.t 203)))]
abbrev B8:AC:=
 (.seq (.reg B0) (.seq (.reg BZ) (.seq (.seq (.reg BW) (.block 2 B9)) (.seq (.reg BM) (.seq (.seq (.reg BL) (.cond (.t 130) (.reg BK) .skip)) (.seq (.seq (.mix B3) (.cond (.t 146) (.exit 1) .skip)) (.seq (.reg BJ) (.seq (.seq (.reg BI) (.cond (.t 149) (.mix B2) .skip)) (.seq (.mix v8) (.seq (.seq (.reg v6) (.cond (.t 191) (.seq (.reg v5) (.frk v7 v4)) .skip)) (.reg rN)))))))))))
abbrev BH:List AO:=
 [(mt 42 12),o1 43 (.bin .add (.t 42) (ci 1)),
  (mt 12 43)]
abbrev Ca:AC:=
 (.seq (.seq (.reg B1) (.cond (.t 41) .skip (.exit 0))) (.seq (.block 1 B8) (.reg BH)))
abbrev B7:AC:=
 (.loop Ca)
abbrev BG:List AO:=
 [o1 205 (.ld 4 true (.t 9)),
  (o3 (.st 4 (.t 2) (.t 205))),o1 3 (.mv (ci 0))]
abbrev VQ:AF:=⟨206,(.seq (.reg K0) (.seq (.seq (.reg KZ) (.seq (.reg KY) (.cond (.t 24) (.seq (.reg KX) .ret) .skip))) (.seq (.reg KW) (.seq (.reg KV) (.seq (.reg KU) (.seq (.reg KT) (.seq (.reg KS) (.seq (.seq (.reg KQ) (.block 0 B7)) (.seq (.reg BG) .ret))))))))),[.ld 4 true (.t 2),.mv (.t 3)]⟩
theorem K1:bj Tryz.prog (aj Tryz.prog 16) 16=some VQ:=by kernel_rfl
/-! compactorref24.keep-/
abbrev KN:List AO:=
 [o1 6 (.mv (.c .sl0))]
abbrev KM:List AO:=
 [o1 7 (.mv (.c .sl0))]
abbrev KL:List AO:=
 [o1 8 (.mv (ci 0))]
abbrev KK:List AO:=
 [(mt 11 8),
  (mt 12 0),o1 13 (.len (.t 12)),o1 14 (.bin .lss (.t 11) (.t 13))]
abbrev KJ:List AO:=
 [(mt 17 0),
  (mt 18 8),o1 19 (.ia 5 (.t 17) (.t 18)),o1 20 (.fa 0 (.t 19)),o1 21 (.ld 5 true (.t 20)),o1 9 (.al 37 [.n .i64 0,.n .i64 0,.n .i64 0,.n .i64 0,.n .u32 0]),
  (o3 (.st 5 (.t 9) (.t 21)))]
abbrev KI:List AO:=
 [(mt 22 1),o1 23 (.fa 1 (.t 9)),o1 24 (.ld 1 false (.t 23)),o1 25 (.ia 1 (.t 22) (.t 24)),o1 26 (.ld 1 false (.t 25)),
  (mt 27 26),
  (o4 28 27 (.fa 2 (.t 9))),
  (o4 29 27 (.ld 1 false (.t 28))),
  (o4 30 27 (.bin .geq (.t 29) (ci 0))),
  (o4 31 27 (.mv (.t 30))),
  (o5 32 31 (.mv (.t 1))),
  (o5 33 31 (.fa 2 (.t 9))),
  (o5 34 31 (.ld 1 false (.t 33))),
  (o5 35 31 (.ia 1 (.t 32) (.t 34))),
  (o5 36 31 (.ld 1 false (.t 35))),
  (o4 37 27 (.pick (.t 31) (.t 36) (.c (.b false)))),o1 38 (.pick (.t 27) (.c (.b true)) (.t 37)),
  (mt 39 38),
  (o4 40 39 (.fa 3 (.t 9))),
  (o4 41 39 (.ld 1 false (.t 40))),
  (o4 42 39 (.bin .geq (.t 41) (ci 0))),
  (o4 43 39 (.mv (.t 42))),
  (o5 44 43 (.mv (.t 1))),
  (o5 45 43 (.fa 3 (.t 9))),
  (o5 46 43 (.ld 1 false (.t 45))),
  (o5 47 43 (.ia 1 (.t 44) (.t 46))),
  (o5 48 43 (.ld 1 false (.t 47))),
  (o4 49 39 (.pick (.t 43) (.t 48) (.c (.b false)))),o1 50 (.pick (.t 39) (.c (.b true)) (.t 49)),
  (mt 51 50),
  (o4 52 51 (.fa 0 (.t 9))),
  (o4 53 51 (.ld 1 false (.t 52))),
  (o4 54 51 (.bin .eql (.t 53) (ci 3))),
  (o4 55 51 (.mv (.t 54))),
  (o5 56 55 (.mv (.t 2))),
  (o5 57 55 (.fa 4 (.t 9))),
  (o5 58 55 (.ld 1 false (.t 57))),
  (o5 59 55 (.ia 1 (.t 56) (.t 58))),
  (o5 60 55 (.ld 1 false (.t 59))),
  (o4 61 51 (.pick (.t 55) (.t 60) (.c (.b false)))),o1 62 (.pick (.t 51) (.c (.b true)) (.t 61)),
  (mt 10 62)]
abbrev KH:List AO:=
 [(mt 63 10),o1 64 (.un .not (.t 63))]
abbrev KG:List AO:=
 [(mt 65 7),
  (mt 66 0),
  (mt 67 8),o1 68 (.ia 5 (.t 66) (.t 67)),o1 69 (.ld 5 true (.t 68)),o1 70 (.bs 72 5 1 [.n .i64 0,.n .i64 0,.n .i64 0,.n .i64 0,.n .u32 0] [(0,5,(.t 69))]),o1 71 (.app 72 5 40 (.t 65) (.t 70)),
  (mt 7 71)]
abbrev KP:AC:=
 (.seq (.reg KJ) (.seq (.reg KI) (.seq (.reg KH) (.cond (.t 64) (.reg KG) .skip))))
abbrev KF:List AO:=
 [(mt 15 8),o1 16 (.bin .add (.t 15) (ci 1)),
  (mt 8 16)]
abbrev BF:AC:=
 (.seq (.seq (.reg KK) (.cond (.t 14) .skip (.exit 0))) (.seq (.block 1 KP) (.reg KF)))
abbrev BE:AC:=
 (.loop BF)
abbrev BD:List AO:=
 [(mt 72 7),
  (mt 6 72)]
abbrev VP:AF:=⟨73,(.seq (.reg KN) (.seq (.reg KM) (.seq (.seq (.reg KL) (.block 0 BE)) (.seq (.reg BD) .ret)))),[.mv (.t 6)]⟩
theorem KO:bj Tryz.prog (aj Tryz.prog 42) 42=some VP:=by kernel_rfl
/-! compactorref24.changes-/
abbrev KA:List AO:=
 [o1 3 (.bx 25 0 (.t 0)),o1 6 (.mv (.c .sl0))]
abbrev Kz:List AO:=
 [o1 9 (.fa 0 (.t 3)),o1 10 (.ld 1 false (.t 9)),o1 11 (.len (.t 10)),o1 12 (.ms 4 1 1 [.b false] (.t 11) (.t 11)),
  (mt 7 12)]
abbrev Ky:List AO:=
 [(mt 13 1),
  (mt 8 13)]
abbrev Kx:List AO:=
 [(mt 14 8),
  (mt 15 2),o1 16 (.bin .lss (.t 14) (.t 15))]
abbrev Kw:List AO:=
 [o1 19 (.fa 3 (.t 3)),o1 20 (.ld 1 false (.t 19)),
  (mt 21 8),o1 22 (.ia 5 (.t 20) (.t 21)),o1 23 (.fa 0 (.t 22)),o1 24 (.ld 1 false (.t 23)),o1 25 (.bin .eql (.t 24) (ci 4))]
abbrev Kv:List AO:=
 [(mt 26 7),o1 27 (.fa 3 (.t 3)),o1 28 (.ld 1 false (.t 27)),
  (mt 29 8),o1 30 (.ia 5 (.t 28) (.t 29)),o1 31 (.fa 4 (.t 30)),o1 32 (.ld 1 false (.t 31)),o1 33 (.ia 1 (.t 26) (.t 32)),
  (o3 (.st 1 (.t 33) (.c (.b true))))]
abbrev KD:AC:=
 (.seq (.reg Kw) (.cond (.t 25) (.reg Kv) .skip))
abbrev Ku:List AO:=
 [(mt 17 8),o1 18 (.bin .add (.t 17) (ci 1)),
  (mt 8 18)]
abbrev KE:AC:=
 (.seq (.seq (.reg Kx) (.cond (.t 16) .skip (.exit 0))) (.seq (.block 1 KD) (.reg Ku)))
abbrev KC:AC:=
 (.loop KE)
abbrev BC:List AO:=
 [(mt 34 7),
  (mt 6 34)]
abbrev VO:AF:=⟨35,(.seq (.reg KA) (.seq (.reg Kz) (.seq (.seq (.reg Ky) (.block 0 KC)) (.seq (.reg BC) .ret)))),[.mv (.t 6)]⟩
theorem KB:bj Tryz.prog (aj Tryz.prog 43) 43=some VO:=by kernel_rfl
/-! compactorref24.bothFacts-/
abbrev Kp:List AO:=
 [o1 4 (.mv (.c .sl0))]
abbrev Ko:List AO:=
 [o1 5 (.mv (.c .sl0))]
abbrev Kn:List AO:=
 [o1 6 (.mv (ci 0))]
abbrev Km:List AO:=
 [(mt 8 6),
  (mt 9 0),o1 10 (.len (.t 9)),o1 11 (.bin .lss (.t 8) (.t 10))]
abbrev Kl:List AO:=
 [(mt 14 1),
  (mt 15 0),
  (mt 16 6),o1 17 (.ia 5 (.t 15) (.t 16)),o1 18 (.fa 0 (.t 17)),o1 19 (.ld 5 true (.t 18)),
  (o2 20 46 [.t 14,.t 19]),
  (mt 7 20)]
abbrev Kr:List (Nat×AO):=
 [(2,(mt 21 7)),(2,(o1 22 (.bin .geq (.t 21) (ci 0)))),
  (2,(mt 23 22)),
  (2,(o5 24 23 (.mv (.t 1)))),
  (2,(o5 25 23 (.mv (.t 7)))),
  (2,(o5 26 23 (.ia 5 (.t 24) (.t 25)))),
  (2,(o5 27 23 (.fa 0 (.t 26)))),
  (2,(o5 28 23 (.fa 1 (.t 27)))),
  (2,(o5 30 23 (.mv (.t 0)))),
  (2,(o5 31 23 (.mv (.t 6)))),
  (2,(o5 32 23 (.ia 5 (.t 30) (.t 31)))),
  (2,(o5 33 23 (.fa 0 (.t 32)))),
  (2,(o5 34 23 (.fa 1 (.t 33)))),
  (1,(o5 29 23 (.ld 1 false (.t 28)))),
  (1,(o5 35 23 (.ld 1 false (.t 34)))),
  (2,(o5 36 23 (.bin .eql (.t 29) (.t 35)))),(2,(o1 37 (.pick (.t 23) (.t 36) (.c (.b false)))))]
abbrev Kk:List AO:=
 [(mt 38 5),
  (mt 39 0),
  (mt 40 6),o1 41 (.ia 5 (.t 39) (.t 40)),o1 42 (.ld 5 true (.t 41)),o1 43 (.bs 72 5 1 [.n .i64 0,.n .i64 0,.n .i64 0,.n .i64 0,.n .u32 0] [(0,5,(.t 42))]),o1 44 (.app 72 5 40 (.t 38) (.t 43)),
  (mt 5 44)]
abbrev Ks:AC:=
 (.seq (.reg Kl) (.seq (.mix Kr) (.cond (.t 37) (.reg Kk) .skip)))
abbrev Kj:List AO:=
 [(mt 12 6),o1 13 (.bin .add (.t 12) (ci 1)),
  (mt 6 13)]
abbrev Kt:AC:=
 (.seq (.seq (.reg Km) (.cond (.t 11) .skip (.exit 0))) (.seq (.block 1 Ks) (.reg Kj)))
abbrev BB:AC:=
 (.loop Kt)
abbrev BA:List AO:=
 [(mt 45 5),
  (mt 4 45)]
abbrev VN:AF:=⟨46,(.seq (.reg Kp) (.seq (.reg Ko) (.seq (.seq (.reg Kn) (.block 0 BB)) (.seq (.reg BA) .ret)))),[.mv (.t 4)]⟩
theorem Kq:bj Tryz.prog (aj Tryz.prog 44) 44=some VN:=by kernel_rfl
/-! compactorref24.expression-/
abbrev Kh:List AO:=
 [o1 2 (.mv (.c (.b false)))]
abbrev Kg:List AO:=
 [(mt 3 0),o1 4 (.bin .eql (.t 3) (ci 3)),
  (mt 5 4),
  (o4 6 5 (.mv (.t 0))),
  (o4 7 5 (.bin .geq (.t 6) (ci 8))),
  (o4 8 5 (.mv (.t 7))),
  (o5 9 8 (.mv (.t 0))),
  (o5 10 8 (.bin .leq (.t 9) (ci 26))),
  (o4 11 5 (.pick (.t 8) (.t 10) (.c (.b false)))),o1 12 (.pick (.t 5) (.c (.b true)) (.t 11)),
  (mt 13 12),
  (o4 14 13 (.mv (.t 0))),
  (o4 15 13 (.bin .eql (.t 14) (ci 32))),o1 16 (.pick (.t 13) (.c (.b true)) (.t 15)),
  (mt 17 16),
  (o4 18 17 (.mv (.t 0))),
  (o4 19 17 (.bin .eql (.t 18) (ci 33))),o1 20 (.pick (.t 17) (.c (.b true)) (.t 19)),
  (mt 2 20)]
abbrev VM:AF:=⟨21,(.seq (.reg Kh) (.seq (.reg Kg) .ret)),[.mv (.t 2)]⟩
theorem Ki:bj Tryz.prog (aj Tryz.prog 45) 45=some VM:=by kernel_rfl
/-! compactorref24.find-/
abbrev Kb:List AO:=
 [o1 3 (.bx 37 0 (.t 1)),o1 4 (.mv (ci 0))]
abbrev Ka:List AO:=
 [o1 5 (.mv (ci 0))]
abbrev J9:List AO:=
 [(mt 7 5),
  (mt 8 0),o1 9 (.len (.t 8)),o1 10 (.bin .lss (.t 7) (.t 9))]
abbrev J8:List AO:=
 [(mt 13 0),
  (mt 14 5),o1 15 (.ia 5 (.t 13) (.t 14)),o1 16 (.fa 0 (.t 15)),o1 17 (.ld 5 true (.t 16)),o1 6 (.al 37 [.n .i64 0,.n .i64 0,.n .i64 0,.n .i64 0,.n .u32 0]),
  (o3 (.st 5 (.t 6) (.t 17)))]
abbrev J7:List AO:=
 [o1 18 (.fa 0 (.t 6)),o1 19 (.ld 1 false (.t 18)),o1 20 (.fa 0 (.t 3)),o1 21 (.ld 1 false (.t 20)),o1 22 (.bin .eql (.t 19) (.t 21)),
  (mt 23 22),
  (o5 24 23 (.fa 2 (.t 6))),
  (o5 25 23 (.ld 1 false (.t 24))),
  (o5 26 23 (.fa 2 (.t 3))),
  (o5 27 23 (.ld 1 false (.t 26))),
  (o5 28 23 (.bin .eql (.t 25) (.t 27))),o1 29 (.pick (.t 23) (.t 28) (.c (.b false))),
  (mt 30 29),
  (o5 31 30 (.fa 3 (.t 6))),
  (o5 32 30 (.ld 1 false (.t 31))),
  (o5 33 30 (.fa 3 (.t 3))),
  (o5 34 30 (.ld 1 false (.t 33))),
  (o5 35 30 (.bin .eql (.t 32) (.t 34))),o1 36 (.pick (.t 30) (.t 35) (.c (.b false))),
  (mt 37 36),
  (o5 38 37 (.fa 4 (.t 6))),
  (o5 39 37 (.ld 1 false (.t 38))),
  (o5 40 37 (.fa 4 (.t 3))),
  (o5 41 37 (.ld 1 false (.t 40))),
  (o5 42 37 (.bin .eql (.t 39) (.t 41))),o1 43 (.pick (.t 37) (.t 42) (.c (.b false)))]
abbrev J6:List AO:=
 [(mt 44 5),
  (mt 4 44)]
abbrev Ke:AC:=
 (.seq (.reg J8) (.seq (.reg J7) (.cond (.t 43) (.seq (.reg J6) .ret) .skip)))
abbrev J5:List AO:=
 [(mt 11 5),o1 12 (.bin .add (.t 11) (ci 1)),
  (mt 5 12)]
abbrev Kf:AC:=
 (.seq (.seq (.reg J9) (.cond (.t 10) .skip (.exit 0))) (.seq (.block 1 Ke) (.reg J5)))
abbrev Kd:AC:=
 (.loop Kf)
abbrev Bz:List AO:=
 [o1 4 (.mv (.c (.n .i64 (-1))))]
abbrev VL:AF:=⟨45,(.seq (.reg Kb) (.seq (.seq (.reg Ka) (.block 0 Kd)) (.seq (.reg Bz) .ret))),[.mv (.t 4)]⟩
theorem Kc:bj Tryz.prog (aj Tryz.prog 46) 46=some VL:=by kernel_rfl
/-! compactorlaw24.OptimizerShares-/
/-! optimizer.Optimize-/
abbrev J4:List AO:=
 [o1 1 (.bx 25 0 (.t 0)),o1 2 (.al 25 [.sl0,.n .i64 0,.n .i64 0,.sl0]),o1 3 (.mv (ci 0))]
abbrev J3:List AO:=
 [o1 4 (.ld 4 true (.t 1)),
  (o2 5 24 [.t 4,(.c (.f 51 [] []))]),o1 6 (.ext 0 (.t 5)),o1 7 (.ext 1 (.t 5)),
  (o3 (.st 4 (.t 2) (.t 6))),
  (mt 3 7)]
abbrev VJ:AF:=⟨8,(.seq (.reg J4) (.seq (.reg J3) .ret)),[.ld 4 true (.t 2),.mv (.t 3)]⟩
theorem Aq:bj Tryz.prog (aj Tryz.prog 19) 19=some VJ:=by kernel_rfl
/-! compactorref24.Optimize-/
abbrev J2:List AO:=
 [o1 1 (.bx 25 0 (.t 0)),o1 2 (.al 25 [.sl0,.n .i64 0,.n .i64 0,.sl0]),o1 3 (.mv (ci 0))]
abbrev J1:List AO:=
 [o1 10 (.ld 4 true (.t 1)),
  (o2 11 26 [.t 10]),
  (mt 9 11),o1 12 (.ext 0 (.t 9)),o1 13 (.ext 1 (.t 9)),
  (mt 4 12),
  (mt 5 13)]
abbrev J0:List AO:=
 [(mt 14 5),o1 15 (.bin .neq (.t 14) (ci 0))]
abbrev JZ:List AO:=
 [o1 16 (.bd [.sl0,.n .i64 0,.n .i64 0,.sl0] []),
  (mt 17 5),
  (o3 (.st 4 (.t 2) (.t 16))),
  (mt 3 17)]
abbrev JY:List AO:=
 [o1 18 (.ld 4 true (.t 1)),
  (o2 19 28 [.t 18]),
  (o3 (.st 4 (.t 1) (.t 19)))]
abbrev JX:List AO:=
 [o1 6 (.mv (ci 0))]
abbrev JW:List AO:=
 [(mt 20 6),o1 21 (.bin .lss (.t 20) (ci 8))]
abbrev JV:List AO:=
 [o1 25 (.ld 4 true (.t 1)),
  (o2 26 11 [.t 25]),
  (mt 24 26),o1 27 (.ext 0 (.t 24)),o1 28 (.ext 1 (.t 24)),o1 7 (.al 25 [.sl0,.n .i64 0,.n .i64 0,.sl0]),
  (o3 (.st 4 (.t 7) (.t 27))),
  (mt 8 28)]
abbrev JU:List AO:=
 [o1 30 (.ld 4 true (.t 7)),
  (o2 31 14 [.t 30]),
  (mt 29 31),o1 32 (.ext 0 (.t 29)),o1 33 (.ext 1 (.t 29)),
  (o3 (.st 4 (.t 7) (.t 32)))]
abbrev JT:List AO:=
 [o1 35 (.ld 4 true (.t 7)),
  (o2 36 16 [.t 35]),
  (mt 34 36),o1 37 (.ext 0 (.t 34)),o1 38 (.ext 1 (.t 34)),
  (o3 (.st 4 (.t 7) (.t 37)))]
abbrev Bu:List AO:=
 [o1 40 (.ld 4 true (.t 7)),
  (o2 41 18 [.t 40]),
  (mt 39 41),o1 42 (.ext 0 (.t 39)),o1 43 (.ext 1 (.t 39)),
  (o3 (.st 4 (.t 7) (.t 42)))]
abbrev Bt:List AO:=
 [o1 44 (.ld 4 true (.t 1)),o1 45 (.ld 4 true (.t 7)),
  (o2 46 12 [.t 44,.t 45])]
abbrev Bs:List AO:=
 [o1 47 (.ld 4 true (.t 7)),
  (o3 (.st 4 (.t 2) (.t 47))),o1 3 (.mv (ci 0))]
abbrev Br:List AO:=
 [o1 48 (.ld 4 true (.t 7)),
  (o3 (.st 4 (.t 1) (.t 48)))]
abbrev Bw:AC:=
 (.seq (.reg JV) (.seq (.reg JU) (.seq (.reg JT) (.seq (.reg Bu) (.seq (.seq (.reg Bt) (.cond (.t 46) (.seq (.reg Bs) .ret) .skip)) (.reg Br))))))
abbrev Bq:List AO:=
 [(mt 22 6),o1 23 (.bin .add (.t 22) (ci 1)),
  (mt 6 23)]
abbrev Bx:AC:=
 (.seq (.seq (.reg JW) (.cond (.t 21) .skip (.exit 0))) (.seq (.block 1 Bw) (.reg Bq)))
abbrev Bv:AC:=
 (.loop Bx)
abbrev Bp:List AO:=
 [o1 49 (.ld 4 true (.t 1)),
  (o3 (.st 4 (.t 2) (.t 49))),o1 3 (.mv (ci 0))]
abbrev VI:AF:=⟨50,(.seq (.reg J2) (.seq (.seq (.reg J1) (.seq (.reg J0) (.cond (.t 15) (.seq (.reg JZ) .ret) .skip))) (.seq (.reg JY) (.seq (.seq (.reg JX) (.block 0 Bv)) (.seq (.reg Bp) .ret))))),[.ld 4 true (.t 2),.mv (.t 3)]⟩
theorem Ap:bj Tryz.prog (aj Tryz.prog 20) 20=some VI:=by kernel_rfl
/-! optimizer.Optimize$1-/
abbrev JP:List AO:=
 [o1 1 (.bx 25 0 (.t 0)),o1 2 (.mv (.c .sl0))]
abbrev JO:List AO:=
 [o1 6 (.mv (ci 0))]
abbrev JN:List AO:=
 [o1 7 (.bin .lss (.t 6) (ci 8))]
abbrev JM:List AO:=
 [o1 8 (.ld 4 true (.t 1)),o1 3 (.al 25 [.sl0,.n .i64 0,.n .i64 0,.sl0]),
  (o3 (.st 4 (.t 3) (.t 8)))]
abbrev JL:List AO:=
 [o1 9 (.bs 40 1 4 [.f0,.f0,.f0,.f0] [(0,1,(.c (.f 25 [] []))),(1,1,(.c (.f 36 [] []))),(2,1,(.c (.f 41 [] []))),(3,1,(.c (.f 47 [] [])))]),o1 10 (.len (.t 9)),o1 11 (.mv (ci 0))]
abbrev JK:List AO:=
 [o1 12 (.bin .lss (.t 11) (.t 10))]
abbrev JJ:List AO:=
 [o1 13 (.ia 1 (.t 9) (.t 11)),o1 14 (.ld 1 false (.t 13)),
  (mt 5 14)]
abbrev JR:List (Nat×AO):=
 [(2,(mt 16 5)),(1,(o1 15 (.ld 4 true (.t 3)))),(1,(o1 17 (.ld 4 true (.t 3)))),(0,⟨some 18,none,.cl (.t 16) [.t 17]⟩),
  (3,(o2 19 52 [.t 15,.t 18])),
  (3,(o3 (.st 4 (.t 3) (.t 19))))]
abbrev JS:AC:=
 (.seq (.reg JJ) (.mix JR))
abbrev JI:List AO:=
 [o1 20 (.bin .add (.t 11) (ci 1)),
  (mt 11 20)]
abbrev Bo:AC:=
 (.seq (.reg JK) (.seq (.cond (.t 12) .skip (.exit 2)) (.seq (.block 3 JS) (.reg JI))))
abbrev Bm:AC:=
 (.loop Bo)
abbrev Bj:List AO:=
 [o1 21 (.fa 3 (.t 1)),o1 22 (.ld 1 false (.t 21)),o1 23 (.fa 3 (.t 3)),o1 24 (.ld 1 false (.t 23)),
  (o2 25 53 [.t 22,.t 24])]
abbrev Bi:List AO:=
 [o1 26 (.ld 4 true (.t 3)),
  (o3 (.st 4 (.t 1) (.t 26)))]
abbrev Bl:AC:=
 (.seq (.reg JM) (.seq (.seq (.reg JL) (.block 2 Bm)) (.seq (.seq (.reg Bj) (.cond (.t 25) (.exit 0) .skip)) (.reg Bi))))
abbrev Bh:List AO:=
 [o1 27 (.bin .add (.t 6) (ci 1)),
  (mt 6 27)]
abbrev Bn:AC:=
 (.seq (.reg JN) (.seq (.cond (.t 7) .skip (.exit 0)) (.seq (.block 1 Bl) (.reg Bh))))
abbrev Bk:AC:=
 (.loop Bn)
abbrev Bg:List AO:=
 [o1 28 (.fa 3 (.t 1)),o1 29 (.ld 1 false (.t 28)),
  (mt 2 29)]
abbrev VH:AF:=⟨30,(.seq (.reg JP) (.seq (.seq (.reg JO) (.block 0 Bk)) (.seq (.reg Bg) .ret))),[.mv (.t 2)]⟩
theorem JQ:bj Tryz.prog (aj Tryz.prog 51) 51=some VH:=by kernel_rfl
/-! slices.Equal[[]api.RegInstr,api.RegInstr]-/
abbrev JF:List AO:=
 [o1 4 (.mv (.c (.b false)))]
abbrev JE:List AO:=
 [(mt 6 0),o1 7 (.len (.t 6)),
  (mt 8 1),o1 9 (.len (.t 8)),o1 10 (.bin .neq (.t 7) (.t 9))]
abbrev JD:List AO:=
 [o1 4 (.mv (.c (.b false)))]
abbrev JC:List AO:=
 [(mt 11 0),o1 12 (.len (.t 11)),o1 13 (.mv (ci 0))]
abbrev JB:List AO:=
 [o1 14 (.bin .lss (.t 13) (.t 12))]
abbrev JA:List AO:=
 [(mt 15 13),
  (mt 5 15)]
abbrev JG:List (Nat×AO):=
 [(2,(mt 16 0)),
  (2,(mt 17 5)),(2,(o1 18 (.ia 5 (.t 16) (.t 17)))),
  (2,(mt 20 1)),
  (2,(mt 21 5)),(2,(o1 22 (.ia 5 (.t 20) (.t 21)))),(1,(o1 19 (.ld 5 true (.t 18)))),(1,(o1 23 (.ld 5 true (.t 22)))),(2,(o1 24 (.eq true (.st [(0,1,.n),(1,1,.n),(2,1,.n),(3,1,.n),(4,1,.n)]) (.t 19) (.t 23))))]
abbrev Jz:List AO:=
 [o1 4 (.mv (.c (.b false)))]
abbrev JH:AC:=
 (.seq (.reg JA) (.seq (.mix JG) (.cond (.t 24) (.seq (.reg Jz) .ret) .skip)))
abbrev Jy:List AO:=
 [o1 25 (.bin .add (.t 13) (ci 1)),
  (mt 13 25)]
abbrev Bf:AC:=
 (.seq (.reg JB) (.seq (.cond (.t 14) .skip (.exit 0)) (.seq (.block 1 JH) (.reg Jy))))
abbrev Be:AC:=
 (.loop Bf)
abbrev Bd:List AO:=
 [o1 4 (.mv (.c (.b true)))]
abbrev VG:AF:=⟨26,(.seq (.reg JF) (.seq (.seq (.reg JE) (.cond (.t 10) (.seq (.reg JD) .ret) .skip)) (.seq (.seq (.reg JC) (.block 0 Be)) (.seq (.reg Bd) .ret)))),[.mv (.t 4)]⟩
theorem Ao:bj Tryz.prog (aj Tryz.prog 53) 53=some VG:=by kernel_rfl
/-! compactorlaw24.OptimizerOptimizes-/
abbrev Jx:List AO:=
 [o1 1 (.bx 25 0 (.t 0)),o1 2 (.mv (.c (.b false)))]
abbrev Jw:List AO:=
 [o1 7 (.ld 4 true (.t 1)),
  (o2 8 8 [.t 7]),o1 9 (.un .not (.t 8))]
abbrev Jv:List AO:=
 [(o2 10 9 []),
  (mt 2 10)]
abbrev Ju:List AO:=
 [o1 12 (.ld 4 true (.t 1)),
  (o2 13 19 [.t 12]),
  (mt 11 13),o1 14 (.ext 0 (.t 11)),o1 15 (.ext 1 (.t 11)),o1 3 (.al 25 [.sl0,.n .i64 0,.n .i64 0,.sl0]),
  (o3 (.st 4 (.t 3) (.t 14))),
  (mt 4 15)]
abbrev Jt:List AO:=
 [o1 17 (.ld 4 true (.t 1)),
  (o2 18 20 [.t 17]),
  (mt 16 18),o1 19 (.ext 0 (.t 16)),o1 20 (.ext 1 (.t 16)),o1 5 (.al 25 [.sl0,.n .i64 0,.n .i64 0,.sl0]),
  (o3 (.st 4 (.t 5) (.t 19))),
  (mt 6 20)]
abbrev Js:List AO:=
 [(o2 21 9 []),
  (mt 22 21),
  (o5 23 22 (.ld 4 true (.t 3))),
  (o5 24 22 (.ld 4 true (.t 5))),⟨some 25,some (22,true),.cl (.c (.f 12 [] [])) [.t 23,.t 24]⟩,o1 26 (.pick (.t 22) (.t 25) (.c (.b false))),
  (mt 27 26),
  (o5 28 27 (.mv (.t 4))),
  (o5 29 27 (.mv (.t 6))),
  (o5 30 27 (.bin .eql (.t 28) (.t 29))),o1 31 (.pick (.t 27) (.t 30) (.c (.b false))),
  (mt 2 31)]
abbrev VC:AF:=⟨32,(.seq (.reg Jx) (.seq (.seq (.reg Jw) (.cond (.t 9) (.seq (.reg Jv) .ret) .skip)) (.seq (.reg Ju) (.seq (.reg Jt) (.seq (.reg Js) .ret))))),[.mv (.t 2)]⟩
theorem vZ:bj Tryz.prog (aj Tryz.prog 7) 7=some VC:=by kernel_rfl
/-! compactorlaw24.code-/
abbrev Jq:List AO:=
 [o1 2 (.al 25 [.sl0,.n .i64 0,.n .i64 0,.sl0])]
abbrev Jp:List AO:=
 [(mt 3 0),o1 4 (.bd [.sl0,.n .i64 0,.n .i64 0,.sl0] [(1,1,(ci 4)),(3,1,(.t 3))]),
  (o3 (.st 4 (.t 2) (.t 4)))]
abbrev VB:AF:=⟨5,(.seq (.reg Jq) (.seq (.reg Jp) .ret)),[.ld 4 true (.t 2)]⟩
theorem Jr:bj Tryz.prog (aj Tryz.prog 22) 22=some VB:=by kernel_rfl
/-! compactorlaw24.i-/
abbrev Jn:List AO:=
 [o1 10 (.al 37 [.n .i64 0,.n .i64 0,.n .i64 0,.n .i64 0,.n .u32 0])]
abbrev Jm:List AO:=
 [(mt 11 0),
  (mt 12 1),
  (mt 13 2),
  (mt 14 3),
  (mt 15 4),o1 16 (.bd [.n .i64 0,.n .i64 0,.n .i64 0,.n .i64 0,.n .u32 0] [(0,1,(.t 11)),(1,1,(.t 12)),(2,1,(.t 13)),(3,1,(.t 14)),(4,1,(.t 15))]),
  (o3 (.st 5 (.t 10) (.t 16)))]
abbrev VA:AF:=⟨17,(.seq (.reg Jn) (.seq (.reg Jm) .ret)),[.ld 5 true (.t 10)]⟩
theorem Jo:bj Tryz.prog (aj Tryz.prog 23) 23=some VA:=by kernel_rfl
end Go.Proofs.YtidhfimbnjaceaaGreat