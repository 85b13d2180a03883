/- A part of the proof of OptimizerShortens: AcA AcB AcD AcC AcE AcF AcI. No condition. -/
import Derived.Test.YtidhfimbnjaceaaGs09
import Derived.Test.YtidhfimbnjaceaaProg
set_option linter.unusedSimpArgs false
set_option linter.unusedVariables false
set_option linter.constructorNameAsVariable false
set_option maxRecDepth 100000
set_option maxHeartbeats 4000000
namespace Go.Proofs.Ytidhfimbnjaceaa
open Go.RowKit
/-! optimizer.numbers-/
abbrev Lo:List AO:=
 [o1 4 (.mv (.c .sl0)),o1 5 (.mv (.c (.b false)))]
abbrev Ln:List AO:=
 [o1 6 (.mv (.c .sl0))]
abbrev Lm:List AO:=
 [(mt 10 1),o1 11 (.len (.t 10)),o1 12 (.mv (ci 0))]
abbrev Ll:List AO:=
 [o1 13 (.bin .lss (.t 12) (.t 11))]
abbrev Lk:List AO:=
 [o1 14 (.ia 1 (.t 10) (.t 12)),o1 15 (.ld 1 false (.t 14)),o1 8 (.al 3 [.n .i64 0]),
  (o3 (.st 1 (.t 8) (.t 15)))]
abbrev Lj:List AO:=
 [(mt 16 0),o1 17 (.mf 74 [] [.t 8]),
  (o2 18 73 [.t 16,.t 17]),
  (mt 9 18)]
abbrev Li:List AO:=
 [(mt 19 9),o1 20 (.bin .lss (.t 19) (ci 0))]
abbrev Lh:List AO:=
 [o1 4 (.mv (.c .sl0)),o1 5 (.mv (.c (.b false)))]
abbrev Lg:List AO:=
 [(mt 21 6),
  (mt 22 0),
  (mt 23 9),o1 24 (.ia 2 (.t 22) (.t 23)),o1 25 (.fa 1 (.t 24)),o1 26 (.ld 1 false (.t 25)),o1 27 (.bs 36 1 1 [.n .u32 0] [(0,1,(.t 26))]),o1 28 (.app 36 1 4 (.t 21) (.t 27)),
  (mt 6 28)]
abbrev Lq:AC:=
 (.seq (.reg Lk) (.seq (.reg Lj) (.seq (.seq (.reg Li) (.cond (.t 20) (.seq (.reg Lh) .ret) .skip)) (.reg Lg))))
abbrev GB:List AO:=
 [o1 29 (.bin .add (.t 12) (ci 1)),
  (mt 12 29)]
abbrev GD:AC:=
 (.seq (.reg Ll) (.seq (.cond (.t 13) .skip (.exit 0)) (.seq (.block 1 Lq) (.reg GB))))
abbrev GC:AC:=
 (.loop GD)
abbrev Gz:List AO:=
 [(mt 30 6),
  (mt 4 30),o1 5 (.mv (.c (.b true)))]
abbrev x1F:AF:=⟨31,(.seq (.reg Lo) (.seq (.reg Ln) (.seq (.seq (.reg Lm) (.block 0 GC)) (.seq (.reg Gz) .ret)))),[.mv (.t 4),.mv (.t 5)]⟩
theorem Lp:bk Try.prog (ai Try.prog 60) 60=some x1F:=by kernel_rfl
/-! lower.Uses-/
abbrev K1:List AO:=
 [o1 1 (.bx 38 0 (.t 0)),o1 2 (.mv (.c .sl0)),o1 3 (.mv (ci 0))]
abbrev K0:List AO:=
 [o1 6 (.fa 0 (.t 1)),o1 7 (.ld 1 false (.t 6)),
  (o2 8 72 [.t 7]),o1 4 (.al 48 [.b false,.b false,.b false,.b false]),
  (o3 (.st 4 (.t 4) (.t 8)))]
abbrev KZ:List AO:=
 [o1 5 (.mv (.c .sl0))]
abbrev KY:List AO:=
 [o1 9 (.fa 2 (.t 4)),o1 10 (.ld 1 false (.t 9))]
abbrev KX:List AO:=
 [(mt 11 5),o1 12 (.fa 2 (.t 1)),o1 13 (.ld 1 false (.t 12)),o1 14 (.bs 3 1 1 [.n .i64 0] [(0,1,(.t 13))]),o1 15 (.app 3 1 8 (.t 11) (.t 14)),
  (mt 5 15)]
abbrev KW:List AO:=
 [o1 16 (.fa 3 (.t 4)),o1 17 (.ld 1 false (.t 16))]
abbrev KV:List AO:=
 [(mt 18 5),o1 19 (.fa 3 (.t 1)),o1 20 (.ld 1 false (.t 19)),o1 21 (.bs 3 1 1 [.n .i64 0] [(0,1,(.t 20))]),o1 22 (.app 3 1 8 (.t 18) (.t 21)),
  (mt 5 22)]
abbrev KU:List AO:=
 [o1 23 (.fa 1 (.t 4)),o1 24 (.ld 1 false (.t 23)),o1 25 (.un .not (.t 24))]
abbrev KT:List AO:=
 [(mt 26 5),
  (mt 2 26),o1 3 (.mv (.c (.n .i64 (-1))))]
abbrev K3:List (Nat×AO):=
 [(2,(mt 27 5)),(2,(o1 28 (.fa 1 (.t 1)))),
  (2,(mt 2 27)),(1,(o1 29 (.ld 1 false (.t 28)))),
  (2,(mt 3 29))]
abbrev x2F:AF:=⟨30,(.seq (.reg K1) (.seq (.reg K0) (.seq (.reg KZ) (.seq (.seq (.reg KY) (.cond (.t 10) (.reg KX) .skip)) (.seq (.seq (.reg KW) (.cond (.t 17) (.reg KV) .skip)) (.seq (.seq (.reg KU) (.cond (.t 25) (.seq (.reg KT) .ret) .skip)) (.seq (.mix K3) .ret))))))),[.mv (.t 2),.mv (.t 3)]⟩
theorem K2:bk Try.prog (ai Try.prog 58) 58=some x2F:=by kernel_rfl
/-! lower.shape-/
/-! optimizer.written-/
abbrev KH:List AO:=
 [o1 1 (.bx 38 0 (.t 0)),o1 2 (.mv (ci 0))]
abbrev KG:List AO:=
 [o1 6 (.ld 5 true (.t 1)),
  (o2 7 58 [.t 6]),
  (mt 5 7),o1 8 (.ext 0 (.t 5)),o1 9 (.ext 1 (.t 5)),
  (mt 3 8),
  (mt 4 9)]
abbrev KF:List AO:=
 [(mt 10 4),
  (mt 2 10)]
abbrev x3F:AF:=⟨11,(.seq (.reg KH) (.seq (.reg KG) (.seq (.reg KF) .ret))),[.mv (.t 2)]⟩
theorem KI:bk Try.prog (ai Try.prog 36) 36=some x3F:=by kernel_rfl
/-! optimizer.source-/
abbrev Kq:List AO:=
 [o1 4 (.mv (ci 0))]
abbrev Kp:List AO:=
 [(mt 7 0),o1 8 (.len (.t 7)),o1 9 (.mv (ci 0))]
abbrev Ko:List AO:=
 [o1 10 (.bin .lss (.t 9) (.t 8))]
abbrev Kn:List AO:=
 [o1 11 (.ia 2 (.t 7) (.t 9)),o1 12 (.ld 2 true (.t 11)),o1 6 (.al 82 [.n .i64 0,.n .i64 0]),
  (o3 (.st 2 (.t 6) (.t 12)))]
abbrev Km:List AO:=
 [o1 13 (.fa 0 (.t 6)),o1 14 (.ld 1 false (.t 13)),
  (mt 15 1),o1 16 (.bin .eql (.t 14) (.t 15))]
abbrev Kl:List AO:=
 [o1 17 (.fa 1 (.t 6)),o1 18 (.ld 1 false (.t 17)),
  (mt 4 18)]
abbrev Kt:AC:=
 (.seq (.reg Kn) (.seq (.reg Km) (.cond (.t 16) (.seq (.reg Kl) .ret) .skip)))
abbrev Kk:List AO:=
 [o1 19 (.bin .add (.t 9) (ci 1)),
  (mt 9 19)]
abbrev Ku:AC:=
 (.seq (.reg Ko) (.seq (.cond (.t 10) .skip (.exit 0)) (.seq (.block 1 Kt) (.reg Kk))))
abbrev Ks:AC:=
 (.loop Ku)
abbrev CV:List AO:=
 [(mt 20 1),
  (mt 4 20)]
abbrev x4F:AF:=⟨21,(.seq (.reg Kq) (.seq (.seq (.reg Kp) (.block 0 Ks)) (.seq (.reg CV) .ret))),[.mv (.t 4)]⟩
theorem Kr:bk Try.prog (ai Try.prog 46) 46=some x4F:=by kernel_rfl
/-! slices.Index[[]optimizer.known,optimizer.known]-/
abbrev J4:List AO:=
 [o1 3 (.bx 68 0 (.t 1)),o1 4 (.mv (ci 0))]
abbrev J3:List AO:=
 [(mt 6 0),o1 7 (.len (.t 6)),o1 8 (.mv (ci 0))]
abbrev J2:List AO:=
 [o1 9 (.bin .lss (.t 8) (.t 7))]
abbrev J1:List AO:=
 [(mt 10 8),
  (mt 5 10)]
abbrev J6:List (Nat×AO):=
 [(2,(mt 12 0)),
  (2,(mt 13 5)),(2,(o1 14 (.ia 2 (.t 12) (.t 13)))),(1,(o1 11 (.ld 2 true (.t 3)))),(1,(o1 15 (.ld 2 true (.t 14)))),(2,(o1 16 (.eq false (.st [(0,1,.n),(1,1,.n)]) (.t 11) (.t 15))))]
abbrev J0:List AO:=
 [(mt 17 5),
  (mt 4 17)]
abbrev J8:AC:=
 (.seq (.reg J1) (.seq (.mix J6) (.cond (.t 16) (.seq (.reg J0) .ret) .skip)))
abbrev JZ:List AO:=
 [o1 18 (.bin .add (.t 8) (ci 1)),
  (mt 8 18)]
abbrev J9:AC:=
 (.seq (.reg J2) (.seq (.cond (.t 9) .skip (.exit 0)) (.seq (.block 1 J8) (.reg JZ))))
abbrev J7:AC:=
 (.loop J9)
abbrev BN:List AO:=
 [o1 4 (.mv (.c (.n .i64 (-1))))]
abbrev x5F:AF:=⟨19,(.seq (.reg J4) (.seq (.seq (.reg J3) (.block 0 J7)) (.seq (.reg BN) .ret))),[.mv (.t 4)]⟩
theorem J5:bk Try.prog (ai Try.prog 81) 81=some x5F:=by kernel_rfl
/-! slices.Contains[[]optimizer.known,optimizer.known]-/
abbrev JO:List AO:=
 [o1 3 (.bx 68 0 (.t 1)),o1 4 (.mv (.c (.b false)))]
abbrev JN:List AO:=
 [(mt 5 0),o1 6 (.ld 2 true (.t 3)),
  (o2 7 81 [.t 5,.t 6]),o1 8 (.bin .geq (.t 7) (ci 0)),
  (mt 4 8)]
abbrev x6F:AF:=⟨9,(.seq (.reg JO) (.seq (.reg JN) .ret)),[.mv (.t 4)]⟩
theorem JP:bk Try.prog (ai Try.prog 71) 71=some x6F:=by kernel_rfl
/-! slices.IndexFunc[[]optimizer.known,optimizer.known]-/
abbrev JI:List AO:=
 [o1 4 (.mv (ci 0))]
abbrev JH:List AO:=
 [(mt 6 0),o1 7 (.len (.t 6)),o1 8 (.mv (ci 0))]
abbrev JG:List AO:=
 [o1 9 (.bin .lss (.t 8) (.t 7))]
abbrev JF:List AO:=
 [(mt 10 8),
  (mt 5 10)]
abbrev JE:List AO:=
 [(mt 11 1),
  (mt 12 0),
  (mt 13 5),o1 14 (.ia 2 (.t 12) (.t 13)),o1 15 (.ld 2 true (.t 14)),⟨some 16,none,.cl (.t 11) [.t 15]⟩]
abbrev JD:List AO:=
 [(mt 17 5),
  (mt 4 17)]
abbrev JL:AC:=
 (.seq (.reg JF) (.seq (.reg JE) (.cond (.t 16) (.seq (.reg JD) .ret) .skip)))
abbrev JC:List AO:=
 [o1 18 (.bin .add (.t 8) (ci 1)),
  (mt 8 18)]
abbrev JM:AC:=
 (.seq (.reg JG) (.seq (.cond (.t 9) .skip (.exit 0)) (.seq (.block 1 JL) (.reg JC))))
abbrev JK:AC:=
 (.loop JM)
abbrev Al:List AO:=
 [o1 4 (.mv (.c (.n .i64 (-1))))]
abbrev x7F:AF:=⟨19,(.seq (.reg JI) (.seq (.seq (.reg JH) (.block 0 JK)) (.seq (.reg Al) .ret))),[.mv (.t 4)]⟩
theorem JJ:bk Try.prog (ai Try.prog 73) 73=some x7F:=by kernel_rfl
/-! optimizer.numbers$1-/
abbrev JA:List AO:=
 [o1 2 (.bx 68 0 (.t 0)),o1 3 (.mv (.c (.b false)))]
abbrev Jz:List AO:=
 [o1 4 (.fa 0 (.t 2)),o1 5 (.ld 1 false (.t 4)),o1 6 (.ld 1 false (.t 1)),o1 7 (.bin .eql (.t 5) (.t 6)),
  (mt 3 7)]
abbrev x8F:AF:=⟨8,(.seq (.reg JA) (.seq (.reg Jz) .ret)),[.mv (.t 3)]⟩
theorem JB:bk Try.prog (ai Try.prog 74) 74=some x8F:=by kernel_rfl
/-! optimizer.both[optimizer.known]-/
abbrev Jv:List AO:=
 [o1 4 (.mv (.c .sl0))]
abbrev Ju:List AO:=
 [o1 5 (.mv (.c .sl0))]
abbrev Jt:List AO:=
 [(mt 8 0),o1 9 (.len (.t 8)),o1 10 (.mv (ci 0))]
abbrev Js:List AO:=
 [o1 11 (.bin .lss (.t 10) (.t 9))]
abbrev Jr:List AO:=
 [o1 12 (.ia 2 (.t 8) (.t 10)),o1 13 (.ld 2 true (.t 12)),o1 7 (.al 68 [.n .i64 0,.n .u32 0]),
  (o3 (.st 2 (.t 7) (.t 13)))]
abbrev Jq:List AO:=
 [(mt 14 1),o1 15 (.ld 2 true (.t 7)),
  (o2 16 71 [.t 14,.t 15])]
abbrev Jp:List AO:=
 [(mt 17 5),o1 18 (.ld 2 true (.t 7)),o1 19 (.bs 68 2 1 [.n .i64 0,.n .u32 0] [(0,2,(.t 18))]),o1 20 (.app 68 2 16 (.t 17) (.t 19)),
  (mt 5 20)]
abbrev Jx:AC:=
 (.seq (.reg Jr) (.seq (.reg Jq) (.cond (.t 16) (.reg Jp) .skip)))
abbrev Jo:List AO:=
 [o1 21 (.bin .add (.t 10) (ci 1)),
  (mt 10 21)]
abbrev Jy:AC:=
 (.seq (.reg Js) (.seq (.cond (.t 11) .skip (.exit 0)) (.seq (.block 1 Jx) (.reg Jo))))
abbrev Ak:AC:=
 (.loop Jy)
abbrev Aj:List AO:=
 [(mt 22 5),
  (mt 4 22)]
abbrev x9F:AF:=⟨23,(.seq (.reg Jv) (.seq (.reg Ju) (.seq (.seq (.reg Jt) (.block 0 Ak)) (.seq (.reg Aj) .ret)))),[.mv (.t 4)]⟩
theorem Jw:bk Try.prog (ai Try.prog 57) 57=some x9F:=by kernel_rfl
/-! optimizer.without[optimizer.known]-/
abbrev Ia:List AO:=
 [o1 4 (.bx 75 0 (.t 1)),o1 6 (.mv (.c .sl0))]
abbrev H9:List AO:=
 [o1 7 (.mv (.c .sl0))]
abbrev H8:List AO:=
 [(mt 10 0),o1 11 (.len (.t 10)),o1 12 (.mv (ci 0))]
abbrev H7:List AO:=
 [o1 13 (.bin .lss (.t 12) (.t 11))]
abbrev H6:List AO:=
 [o1 14 (.ia 2 (.t 10) (.t 12)),o1 15 (.ld 2 true (.t 14)),o1 9 (.al 68 [.n .i64 0,.n .u32 0]),
  (o3 (.st 2 (.t 9) (.t 15)))]
abbrev H5:List AO:=
 [(mt 16 2),o1 17 (.mf 70 [] [.t 4,.t 9]),
  (o2 18 69 [.t 16,.t 17]),o1 19 (.un .not (.t 18))]
abbrev H4:List AO:=
 [(mt 20 7),o1 21 (.ld 2 true (.t 9)),o1 22 (.bs 68 2 1 [.n .i64 0,.n .u32 0] [(0,2,(.t 21))]),o1 23 (.app 68 2 16 (.t 20) (.t 22)),
  (mt 7 23)]
abbrev Ic:AC:=
 (.seq (.reg H6) (.seq (.reg H5) (.cond (.t 19) (.reg H4) .skip)))
abbrev H3:List AO:=
 [o1 24 (.bin .add (.t 12) (ci 1)),
  (mt 12 24)]
abbrev Ie:AC:=
 (.seq (.reg H7) (.seq (.cond (.t 13) .skip (.exit 0)) (.seq (.block 1 Ic) (.reg H3))))
abbrev zi:AC:=
 (.loop Ie)
abbrev zh:List AO:=
 [(mt 25 7),
  (mt 6 25)]
abbrev LC:AF:=⟨26,(.seq (.reg Ia) (.seq (.reg H9) (.seq (.seq (.reg H8) (.block 0 zi)) (.seq (.reg zh) .ret)))),[.mv (.t 6)]⟩
theorem Ib:bk Try.prog (ai Try.prog 56) 56=some LC:=by kernel_rfl
/-! optimizer.without[optimizer.known]$1-/
abbrev HU:List AO:=
 [o1 3 (.bx 38 0 (.t 0)),o1 4 (.mv (.c (.b false)))]
abbrev HT:List AO:=
 [o1 5 (.fa 0 (.t 1)),o1 6 (.ld 1 false (.t 5)),o1 7 (.ld 5 true (.t 3)),o1 8 (.ld 2 true (.t 2)),⟨some 9,none,.cl (.t 6) [.t 7,.t 8]⟩,
  (mt 4 9)]
abbrev LB:AF:=⟨10,(.seq (.reg HU) (.seq (.reg HT) .ret)),[.mv (.t 4)]⟩
theorem HY:bk Try.prog (ai Try.prog 70) 70=some LB:=by kernel_rfl
/-! slices.ContainsFunc[[]api.RegInstr,api.RegInstr]-/
abbrev HO:List AO:=
 [o1 4 (.mv (.c (.b false)))]
abbrev HM:List AO:=
 [(mt 5 0),
  (mt 6 1),
  (o2 7 80 [.t 5,.t 6]),o1 8 (.bin .geq (.t 7) (ci 0)),
  (mt 4 8)]
abbrev LA:AF:=⟨9,(.seq (.reg HO) (.seq (.reg HM) .ret)),[.mv (.t 4)]⟩
theorem HQ:bk Try.prog (ai Try.prog 69) 69=some LA:=by kernel_rfl
/-! slices.IndexFunc[[]api.RegInstr,api.RegInstr]-/
abbrev Hz:List AO:=
 [o1 4 (.mv (ci 0))]
abbrev Hy:List AO:=
 [(mt 6 0),o1 7 (.len (.t 6)),o1 8 (.mv (ci 0))]
abbrev Hx:List AO:=
 [o1 9 (.bin .lss (.t 8) (.t 7))]
abbrev Hw:List AO:=
 [(mt 10 8),
  (mt 5 10)]
abbrev Hv:List AO:=
 [(mt 11 1),
  (mt 12 0),
  (mt 13 5),o1 14 (.ia 5 (.t 12) (.t 13)),o1 15 (.ld 5 true (.t 14)),⟨some 16,none,.cl (.t 11) [.t 15]⟩]
abbrev Hu:List AO:=
 [(mt 17 5),
  (mt 4 17)]
abbrev HK:AC:=
 (.seq (.reg Hw) (.seq (.reg Hv) (.cond (.t 16) (.seq (.reg Hu) .ret) .skip)))
abbrev Ht:List AO:=
 [o1 18 (.bin .add (.t 8) (ci 1)),
  (mt 8 18)]
abbrev HL:AC:=
 (.seq (.reg Hx) (.seq (.cond (.t 9) .skip (.exit 0)) (.seq (.block 1 HK) (.reg Ht))))
abbrev HJ:AC:=
 (.loop HL)
abbrev zg:List AO:=
 [o1 4 (.mv (.c (.n .i64 (-1))))]
abbrev Lz:AF:=⟨19,(.seq (.reg Hz) (.seq (.seq (.reg Hy) (.block 0 HJ)) (.seq (.reg zg) .ret))),[.mv (.t 4)]⟩
theorem HC:bk Try.prog (ai Try.prog 80) 80=some Lz:=by kernel_rfl
/-! optimizer.arithmetic-/
abbrev Hr:List AO:=
 [o1 2 (.mv (.c (.b false)))]
abbrev Hq:List AO:=
 [(mt 3 0),o1 4 (.bin .geq (.t 3) (ci 8)),
  (mt 5 4),
  (o5 6 5 (.mv (.t 0))),
  (o5 7 5 (.bin .leq (.t 6) (ci 26))),o1 8 (.pick (.t 5) (.t 7) (.c (.b false))),
  (mt 2 8)]
abbrev Ly:AF:=⟨9,(.seq (.reg Hr) (.seq (.reg Hq) .ret)),[.mv (.t 2)]⟩
theorem Hs:bk Try.prog (ai Try.prog 59) 59=some Ly:=by kernel_rfl
/-! optimizer.folded-/
abbrev Ho:List AO:=
 [o1 2 (.bx 38 0 (.t 0)),o1 4 (.al 38 [.n .i64 0,.n .i64 0,.n .i64 0,.n .i64 0,.n .u32 0])]
abbrev Hn:List AO:=
 [o1 12 (.fa 0 (.t 2)),o1 13 (.ld 1 false (.t 12)),
  (o2 14 59 [.t 13]),o1 15 (.un .not (.t 14)),
  (mt 16 15),
  (o5 17 16 (.fa 0 (.t 2))),
  (o5 18 16 (.ld 1 false (.t 17))),
  (o5 19 16 (.bin .neq (.t 18) (ci 36))),o1 20 (.pick (.t 16) (.t 19) (.c (.b false)))]
abbrev Hm:List AO:=
 [o1 21 (.ld 5 true (.t 2)),
  (o3 (.st 5 (.t 4) (.t 21)))]
abbrev Hl:List AO:=
 [o1 23 (.ld 5 true (.t 2)),
  (o2 24 58 [.t 23]),
  (mt 22 24),o1 25 (.ext 0 (.t 22)),o1 26 (.ext 1 (.t 22)),
  (mt 5 25),
  (mt 6 26)]
abbrev Hk:List AO:=
 [(mt 28 1),
  (mt 29 5),
  (o2 30 60 [.t 28,.t 29]),
  (mt 27 30),o1 31 (.ext 0 (.t 27)),o1 32 (.ext 1 (.t 27)),
  (mt 7 31),
  (mt 8 32)]
abbrev Hj:List AO:=
 [(mt 33 8),o1 34 (.un .not (.t 33))]
abbrev Hi:List AO:=
 [o1 35 (.ld 5 true (.t 2)),
  (o3 (.st 5 (.t 4) (.t 35)))]
abbrev Hh:List AO:=
 [(mt 36 7),o1 37 (.ia 1 (.t 36) (ci 0)),o1 38 (.ld 1 false (.t 37)),
  (mt 9 38)]
abbrev Hg:List AO:=
 [o1 39 (.fa 0 (.t 2)),o1 40 (.ld 1 false (.t 39)),
  (o2 41 59 [.t 40])]
abbrev Hf:List AO:=
 [(mt 42 7),o1 43 (.bs 36 1 1 [.n .u32 0] [(0,1,(.c (.n .u32 0)))]),o1 44 (.app 36 1 4 (.t 42) (.t 43)),
  (mt 7 44)]
abbrev zf:List (Nat×AO):=
 [(2,(o1 46 (.fa 0 (.t 2)))),
  (2,(mt 48 7)),(2,(o1 49 (.ia 1 (.t 48) (ci 0)))),
  (2,(mt 51 7)),(2,(o1 52 (.ia 1 (.t 51) (ci 1)))),(1,(o1 47 (.ld 1 false (.t 46)))),(1,(o1 50 (.ld 1 false (.t 49)))),(1,(o1 53 (.ld 1 false (.t 52)))),
  (3,(o2 54 61 [.t 47,.t 50,.t 53])),
  (2,(mt 45 54)),(2,(o1 55 (.ext 0 (.t 45)))),(2,(o1 56 (.ext 1 (.t 45)))),
  (2,(mt 10 55)),
  (2,(mt 11 56))]
abbrev ze:List AO:=
 [(mt 57 11),o1 58 (.bin .neq (.t 57) (ci 0))]
abbrev zd:List AO:=
 [o1 59 (.ld 5 true (.t 2)),
  (o3 (.st 5 (.t 4) (.t 59)))]
abbrev zc:List AO:=
 [(mt 60 10),
  (mt 9 60)]
abbrev zb:List AO:=
 [o1 61 (.fa 1 (.t 2)),o1 62 (.ld 1 false (.t 61)),
  (mt 63 9),o1 64 (.bd [.n .i64 0,.n .i64 0,.n .i64 0,.n .i64 0,.n .u32 0] [(0,1,(ci 0)),(1,1,(.t 62)),(2,1,(.c (.n .i64 (-1)))),(3,1,(.c (.n .i64 (-1)))),(4,1,(.t 63))]),
  (o3 (.st 5 (.t 4) (.t 64)))]
abbrev Lx:AF:=⟨65,(.seq (.reg Ho) (.seq (.seq (.reg Hn) (.cond (.t 20) (.seq (.reg Hm) .ret) .skip)) (.seq (.reg Hl) (.seq (.reg Hk) (.seq (.seq (.reg Hj) (.cond (.t 34) (.seq (.reg Hi) .ret) .skip)) (.seq (.reg Hh) (.seq (.seq (.reg Hg) (.cond (.t 41) (.seq (.reg Hf) (.seq (.mix zf) (.seq (.seq (.reg ze) (.cond (.t 58) (.seq (.reg zd) .ret) .skip)) (.reg zc)))) .skip)) (.seq (.reg zb) .ret)))))))),[.ld 5 true (.t 4)]⟩
theorem Hp:bk Try.prog (ai Try.prog 38) 38=some Lx:=by kernel_rfl
/-! optimizer.fold$1-/
abbrev Hb:List AO:=
 [o1 2 (.bx 38 0 (.t 0)),o1 3 (.bx 68 0 (.t 1)),o1 4 (.mv (.c (.b false)))]
abbrev He:List (Nat×AO):=
 [(2,(o1 7 (.fa 0 (.t 3)))),(1,(o1 5 (.ld 5 true (.t 2)))),(1,(o1 8 (.ld 1 false (.t 7)))),
  (0,(o2 6 36 [.t 5])),(2,(o1 9 (.bin .eql (.t 6) (.t 8)))),
  (2,(mt 4 9))]
abbrev Lw:AF:=⟨10,(.seq (.reg Hb) (.seq (.mix He) .ret)),[.mv (.t 4)]⟩
theorem Hd:bk Try.prog (ai Try.prog 35) 35=some Lw:=by kernel_rfl
/-! optimizer.fold$2-/
abbrev G8:List AO:=
 [o1 2 (.bx 38 0 (.t 0)),o1 4 (.al 38 [.n .i64 0,.n .i64 0,.n .i64 0,.n .i64 0,.n .u32 0]),o1 5 (.mv (.c (.b false))),o1 6 (.mv (.c .sl0))]
abbrev G7:List AO:=
 [o1 8 (.ld 5 true (.t 2)),
  (mt 9 1),
  (o2 10 38 [.t 8,.t 9]),o1 7 (.al 38 [.n .i64 0,.n .i64 0,.n .i64 0,.n .i64 0,.n .u32 0]),
  (o3 (.st 5 (.t 7) (.t 10)))]
abbrev G6:List AO:=
 [o1 11 (.fa 0 (.t 7)),o1 12 (.ld 1 false (.t 11)),o1 13 (.bin .eql (.t 12) (ci 0))]
abbrev G9:List (Nat×AO):=
 [(1,(o1 14 (.ld 5 true (.t 7)))),(2,(o1 15 (.fa 1 (.t 7)))),(1,(o1 16 (.ld 1 false (.t 15)))),(2,(o1 17 (.fa 4 (.t 7)))),(1,(o1 18 (.ld 1 false (.t 17)))),(2,(o1 19 (.bd [.n .i64 0,.n .u32 0] [(0,1,(.t 16)),(1,1,(.t 18))])))]
abbrev G4:AT:=
 (.alt (o1 20 (.bs 68 2 1 [.n .i64 0,.n .u32 0] [(0,2,(.t 19))])) (.alt (o3 (.st 5 (.t 4) (.t 14))) (.alt (o1 5 (.mv (.c (.b true)))) (.alt (mt 6 20) .fin .none) .none) .none) (.alt (o3 (.st 5 (.t 4) (.t 14))) (.alt (o1 20 (.bs 68 2 1 [.n .i64 0,.n .u32 0] [(0,2,(.t 19))])) (.alt (o1 5 (.mv (.c (.b true)))) (.alt (mt 6 20) .fin .none) .none) (.alt (o1 5 (.mv (.c (.b true)))) (.alt (o1 20 (.bs 68 2 1 [.n .i64 0,.n .u32 0] [(0,2,(.t 19))])) (.alt (mt 6 20) .fin .none) .none) .none)) .none))
abbrev G5:List AO:=
 [o1 21 (.ld 5 true (.t 7)),
  (o3 (.st 5 (.t 4) (.t 21))),o1 5 (.mv (.c (.b true))),o1 6 (.mv (.c .sl0))]
abbrev Lu:AF:=⟨22,(.seq (.reg G8) (.seq (.reg G7) (.seq (.seq (.reg G6) (.cond (.t 13) (.seq (.frk G9 G4) .ret) .skip)) (.seq (.reg G5) .ret)))),[.ld 5 true (.t 4),.mv (.t 5),.mv (.t 6)]⟩
theorem vf:bk Try.prog (ai Try.prog 37) 37=some Lu:=by kernel_rfl
/-! optimizer.pairs-/
abbrev G2:List AO:=
 [o1 2 (.mv (.c .sl0))]
abbrev G1:List AO:=
 [(mt 11 0),o1 12 (.len (.t 11)),o1 13 (.ms 3 1 8 [.n .i64 0] (.t 12) (.t 12)),
  (mt 3 13)]
abbrev G0:List AO:=
 [o1 4 (.mv (.c .sl0)),o1 5 (.mv (.c .sl0))]
abbrev GZ:List AO:=
 [(mt 14 0),o1 15 (.len (.t 14)),o1 16 (.mv (ci 0))]
abbrev GY:List AO:=
 [o1 17 (.bin .lss (.t 16) (.t 15))]
abbrev GX:List AO:=
 [(mt 18 16),o1 19 (.ia 5 (.t 14) (.t 16)),o1 20 (.ld 5 true (.t 19)),o1 7 (.al 38 [.n .i64 0,.n .i64 0,.n .i64 0,.n .i64 0,.n .u32 0]),
  (mt 6 18),
  (o3 (.st 5 (.t 7) (.t 20)))]
abbrev GV:List AO:=
 [(mt 21 3),
  (mt 22 6),o1 23 (.ia 1 (.t 21) (.t 22)),
  (o3 (.st 1 (.t 23) (.c (.n .i64 (-1)))))]
abbrev GU:List AO:=
 [o1 24 (.fa 0 (.t 7)),o1 25 (.ld 1 false (.t 24))]
abbrev GR:List AO:=
 [o1 27 (.bin .eql (.t 25) (ci 27)),
  (mt 26 27)]
abbrev GQ:List AO:=
 [(mt 28 4),
  (mt 29 6),o1 30 (.bs 3 1 1 [.n .i64 0] [(0,1,(.t 29))]),o1 31 (.app 3 1 8 (.t 28) (.t 30)),
  (mt 4 31)]
abbrev yW:List AO:=
 [o1 33 (.bin .eql (.t 25) (ci 29)),
  (mt 32 33)]
abbrev yV:List AO:=
 [(mt 34 4),
  (mt 35 6),o1 36 (.bs 3 1 1 [.n .i64 0] [(0,1,(.t 35))]),o1 37 (.app 3 1 8 (.t 34) (.t 36)),
  (mt 38 5),
  (mt 39 6),o1 40 (.bs 3 1 1 [.n .i64 0] [(0,1,(.t 39))]),o1 41 (.app 3 1 8 (.t 38) (.t 40)),
  (mt 4 37),
  (mt 5 41)]
abbrev yU:List AO:=
 [o1 43 (.bin .eql (.t 25) (ci 28)),
  (mt 42 43)]
abbrev yT:List AO:=
 [(mt 44 3),
  (mt 45 4),
  (mt 46 4),o1 47 (.len (.t 46)),o1 48 (.bin .sub (.t 47) (ci 1)),o1 49 (.ia 1 (.t 45) (.t 48)),o1 50 (.ld 1 false (.t 49)),
  (mt 51 6),o1 52 (.ia 1 (.t 44) (.t 50)),
  (o3 (.st 1 (.t 52) (.t 51)))]
abbrev yS:List AO:=
 [o1 54 (.bin .eql (.t 25) (ci 31)),
  (mt 53 54)]
abbrev yR:List AO:=
 [(mt 55 4),
  (mt 56 4),o1 57 (.len (.t 56)),o1 58 (.bin .sub (.t 57) (ci 1)),o1 59 (.ia 1 (.t 55) (.t 58)),o1 60 (.ld 1 false (.t 59)),
  (mt 8 60)]
abbrev yQ:List AO:=
 [(mt 61 4),
  (mt 62 4),o1 63 (.len (.t 62)),o1 64 (.bin .sub (.t 63) (ci 1)),o1 65 (.sl 1 (.t 61) none (some (.t 64))),
  (mt 4 65)]
abbrev yP:List AO:=
 [(mt 66 3),
  (mt 67 6),
  (mt 68 8),o1 69 (.ia 1 (.t 66) (.t 67)),
  (o3 (.st 1 (.t 69) (.t 68)))]
abbrev yO:List AO:=
 [(mt 70 3),
  (mt 71 8),o1 72 (.ia 1 (.t 70) (.t 71)),o1 73 (.ld 1 false (.t 72)),o1 74 (.bin .geq (.t 73) (ci 0))]
abbrev yN:List AO:=
 [(mt 75 3),
  (mt 76 3),
  (mt 77 8),o1 78 (.ia 1 (.t 76) (.t 77)),o1 79 (.ld 1 false (.t 78)),
  (mt 80 6),o1 81 (.ia 1 (.t 75) (.t 79)),
  (o3 (.st 1 (.t 81) (.t 80)))]
abbrev yM:List AO:=
 [(mt 82 3),
  (mt 83 8),
  (mt 84 6),o1 85 (.ia 1 (.t 82) (.t 83)),
  (o3 (.st 1 (.t 85) (.t 84)))]
abbrev yL:List AO:=
 [(mt 86 0),
  (mt 87 8),o1 88 (.ia 5 (.t 86) (.t 87)),o1 89 (.fa 0 (.t 88)),o1 90 (.ld 1 false (.t 89)),o1 91 (.bin .eql (.t 90) (ci 29))]
abbrev yK:List AO:=
 [(mt 92 5),
  (mt 93 5),o1 94 (.len (.t 93)),o1 95 (.bin .sub (.t 94) (ci 1)),o1 96 (.sl 1 (.t 92) none (some (.t 95))),
  (mt 5 96)]
abbrev yJ:List AO:=
 [o1 98 (.bin .eql (.t 25) (ci 30)),
  (mt 97 98)]
abbrev yI:List AO:=
 [(mt 99 3),
  (mt 100 6),
  (mt 101 5),
  (mt 102 5),o1 103 (.len (.t 102)),o1 104 (.bin .sub (.t 103) (ci 1)),o1 105 (.ia 1 (.t 101) (.t 104)),o1 106 (.ld 1 false (.t 105)),o1 107 (.ia 1 (.t 99) (.t 100)),
  (o3 (.st 1 (.t 107) (.t 106)))]
abbrev y8:AC:=
 (.seq (.reg GR) (.cond (.t 26) (.reg GQ) (.seq (.reg yW) (.cond (.t 32) (.reg yV) (.seq (.reg yU) (.cond (.t 42) (.reg yT) (.seq (.reg yS) (.cond (.t 53) (.seq (.reg yR) (.seq (.reg yQ) (.seq (.reg yP) (.seq (.seq (.reg yO) (.cond (.t 74) (.reg yN) (.reg yM))) (.seq (.reg yL) (.cond (.t 91) (.reg yK) .skip)))))) (.seq (.reg yJ) (.cond (.t 97) (.reg yI) .skip))))))))))
abbrev y6:AC:=
 (.seq (.reg GX) (.seq (.reg GV) (.seq (.reg GU) (.block 2 y8))))
abbrev yH:List AO:=
 [o1 108 (.bin .add (.t 16) (ci 1)),
  (mt 16 108)]
abbrev za:AC:=
 (.seq (.reg GY) (.seq (.cond (.t 17) .skip (.exit 0)) (.seq (.block 1 y6) (.reg yH))))
abbrev yZ:AC:=
 (.loop za)
abbrev yG:List AO:=
 [(mt 109 0),o1 110 (.len (.t 109)),o1 111 (.mv (ci 0))]
abbrev yF:List AO:=
 [o1 112 (.bin .lss (.t 111) (.t 110))]
abbrev yE:List AO:=
 [(mt 113 111),o1 114 (.ia 5 (.t 109) (.t 111)),o1 115 (.ld 5 true (.t 114)),o1 10 (.al 38 [.n .i64 0,.n .i64 0,.n .i64 0,.n .i64 0,.n .u32 0]),
  (mt 9 113),
  (o3 (.st 5 (.t 10) (.t 115)))]
abbrev yD:List AO:=
 [o1 116 (.fa 0 (.t 10)),o1 117 (.ld 1 false (.t 116)),o1 118 (.bin .eql (.t 117) (ci 30))]
abbrev yC:List AO:=
 [(mt 119 3),
  (mt 120 9),
  (mt 121 3),
  (mt 122 3),
  (mt 123 9),o1 124 (.ia 1 (.t 122) (.t 123)),o1 125 (.ld 1 false (.t 124)),o1 126 (.ia 1 (.t 121) (.t 125)),o1 127 (.ld 1 false (.t 126)),o1 128 (.ia 1 (.t 119) (.t 120)),
  (o3 (.st 1 (.t 128) (.t 127)))]
abbrev yY:AC:=
 (.seq (.reg yE) (.seq (.reg yD) (.cond (.t 118) (.reg yC) .skip)))
abbrev yB:List AO:=
 [o1 129 (.bin .add (.t 111) (ci 1)),
  (mt 111 129)]
abbrev y9:AC:=
 (.seq (.reg yF) (.seq (.cond (.t 112) .skip (.exit 3)) (.seq (.block 4 yY) (.reg yB))))
abbrev yX:AC:=
 (.loop y9)
abbrev yA:List AO:=
 [(mt 130 3),
  (mt 2 130)]
abbrev Ls:AF:=⟨131,(.seq (.reg G2) (.seq (.reg G1) (.seq (.reg G0) (.seq (.seq (.reg GZ) (.block 0 yZ)) (.seq (.seq (.reg yG) (.block 3 yX)) (.seq (.reg yA) .ret)))))),[.mv (.t 2)]⟩
theorem G3:bk Try.prog (ai Try.prog 55) 55=some Ls:=by kernel_rfl
/-! optimizer.walk[optimizer.known]-/
abbrev GO:List AO:=
 [o1 5 (.bx 75 0 (.t 2)),o1 6 (.mv (.c .sl0))]
abbrev GN:List AO:=
 [(mt 16 0),
  (o2 17 55 [.t 16]),
  (mt 7 17)]
abbrev GM:List AO:=
 [o1 8 (.mv (.c .sl0))]
abbrev GL:List AO:=
 [o1 9 (.mv (.c .sl0))]
abbrev GK:List AO:=
 [(mt 18 0),o1 19 (.len (.t 18)),o1 20 (.mv (ci 0))]
abbrev GJ:List AO:=
 [o1 21 (.bin .lss (.t 20) (.t 19))]
abbrev GI:List AO:=
 [(mt 22 20),o1 23 (.ia 5 (.t 18) (.t 20)),o1 24 (.ld 5 true (.t 23)),o1 11 (.al 38 [.n .i64 0,.n .i64 0,.n .i64 0,.n .i64 0,.n .u32 0]),
  (mt 10 22),
  (o3 (.st 5 (.t 11) (.t 24)))]
abbrev GH:List AO:=
 [o1 26 (.fa 1 (.t 5)),o1 27 (.ld 1 false (.t 26)),o1 28 (.ld 5 true (.t 11)),
  (mt 29 1),⟨some 30,none,.cl (.t 27) [.t 28,.t 29]⟩,
  (mt 25 30),o1 31 (.ext 0 (.t 25)),o1 32 (.ext 1 (.t 25)),o1 33 (.ext 2 (.t 25)),o1 12 (.al 38 [.n .i64 0,.n .i64 0,.n .i64 0,.n .i64 0,.n .u32 0]),
  (o3 (.st 5 (.t 12) (.t 31))),
  (mt 13 32),
  (mt 14 33)]
abbrev GG:List AO:=
 [(mt 34 13),o1 35 (.un .not (.t 34))]
abbrev GF:List AO:=
 [(mt 36 9),o1 37 (.len (.t 36)),o1 38 (.bin .sub (.t 37) (ci 1)),
  (mt 15 38)]
abbrev yq:List AO:=
 [o1 40 (.fa 0 (.t 11)),o1 41 (.ld 1 false (.t 40)),o1 42 (.bin .eql (.t 41) (ci 27)),
  (mt 39 42)]
abbrev yp:List AO:=
 [(mt 43 9),
  (mt 44 1),o1 45 (.bs 66 1 1 [.sl0] [(0,1,(.t 44))]),o1 46 (.app 66 1 24 (.t 43) (.t 45)),
  (mt 9 46)]
abbrev yo:List AO:=
 [o1 48 (.fa 0 (.t 11)),o1 49 (.ld 1 false (.t 48)),o1 50 (.bin .eql (.t 49) (ci 28)),
  (mt 47 50)]
abbrev yn:List AO:=
 [(mt 51 9),
  (mt 52 15),
  (mt 53 1),
  (mt 54 9),
  (mt 55 15),o1 56 (.ia 1 (.t 54) (.t 55)),o1 57 (.ld 1 false (.t 56)),o1 58 (.ia 1 (.t 51) (.t 52)),
  (o3 (.st 1 (.t 58) (.t 53))),
  (mt 1 57)]
abbrev ym:List AO:=
 [o1 60 (.fa 0 (.t 11)),o1 61 (.ld 1 false (.t 60)),o1 62 (.bin .eql (.t 61) (ci 29)),
  (mt 59 62)]
abbrev yu:List (Nat×AO):=
 [(2,(mt 63 1)),
  (2,(mt 65 0)),
  (2,(mt 66 10)),
  (2,(mt 67 7)),
  (2,(mt 68 10)),(2,(o1 69 (.ia 1 (.t 67) (.t 68)))),(1,(o1 64 (.ld 2 true (.t 5)))),(1,(o1 70 (.ld 1 false (.t 69)))),(2,(o1 71 (.sl 5 (.t 65) (some (.t 66)) (some (.t 70))))),
  (3,(o2 72 56 [.t 63,.t 64,.t 71])),
  (2,(mt 1 72))]
abbrev yl:List AO:=
 [o1 74 (.fa 0 (.t 11)),o1 75 (.ld 1 false (.t 74)),o1 76 (.bin .eql (.t 75) (ci 31)),
  (mt 77 76),
  (o5 78 77 (.mv (.t 0))),
  (o5 79 77 (.mv (.t 7))),
  (o5 80 77 (.mv (.t 10))),
  (o5 81 77 (.ia 1 (.t 79) (.t 80))),
  (o5 82 77 (.ld 1 false (.t 81))),
  (o5 83 77 (.ia 5 (.t 78) (.t 82))),
  (o5 84 77 (.fa 0 (.t 83))),
  (o5 85 77 (.ld 1 false (.t 84))),
  (o5 86 77 (.bin .eql (.t 85) (ci 29))),o1 87 (.pick (.t 77) (.t 86) (.c (.b false))),
  (mt 73 87)]
abbrev yt:List (Nat×AO):=
 [(2,(mt 88 1)),
  (2,(mt 90 0)),
  (2,(mt 91 7)),
  (2,(mt 92 10)),(2,(o1 93 (.ia 1 (.t 91) (.t 92)))),
  (2,(mt 95 10)),(1,(o1 89 (.ld 2 true (.t 5)))),(1,(o1 94 (.ld 1 false (.t 93)))),(2,(o1 96 (.sl 5 (.t 90) (some (.t 94)) (some (.t 95))))),
  (3,(o2 97 56 [.t 88,.t 89,.t 96])),
  (2,(mt 1 97))]
abbrev yk:List AO:=
 [o1 99 (.fa 0 (.t 11)),o1 100 (.ld 1 false (.t 99)),o1 101 (.bin .eql (.t 100) (ci 31)),
  (mt 98 101)]
abbrev yr:List (Nat×AO):=
 [(2,(mt 102 1)),
  (2,(mt 103 9)),
  (2,(mt 104 15)),(2,(o1 105 (.ia 1 (.t 103) (.t 104)))),
  (2,(mt 108 9)),
  (2,(mt 109 15)),(2,(o1 110 (.sl 1 (.t 108) none (some (.t 109))))),(1,(o1 106 (.ld 1 false (.t 105)))),
  (3,(o2 107 57 [.t 102,.t 106])),
  (2,(mt 1 107)),
  (2,(mt 9 110))]
abbrev yy:AC:=
 (.seq (.reg yq) (.cond (.t 39) (.reg yp) (.seq (.reg yo) (.cond (.t 47) (.reg yn) (.seq (.reg ym) (.cond (.t 59) (.mix yu) (.seq (.reg yl) (.cond (.t 73) (.mix yt) (.seq (.reg yk) (.cond (.t 98) (.mix yr) .skip))))))))))
abbrev yj:List AO:=
 [(mt 111 1),o1 112 (.ld 2 true (.t 5)),o1 113 (.ld 5 true (.t 12)),o1 114 (.bs 38 5 1 [.n .i64 0,.n .i64 0,.n .i64 0,.n .i64 0,.n .u32 0] [(0,5,(.t 113))]),
  (o2 115 56 [.t 111,.t 112,.t 114]),
  (mt 116 14),o1 117 (.app 68 2 16 (.t 115) (.t 116)),
  (mt 1 117)]
abbrev yi:List AO:=
 [(mt 118 8),o1 119 (.ld 5 true (.t 12)),o1 120 (.bs 38 5 1 [.n .i64 0,.n .i64 0,.n .i64 0,.n .i64 0,.n .u32 0] [(0,5,(.t 119))]),o1 121 (.app 38 5 40 (.t 118) (.t 120)),
  (mt 8 121)]
abbrev yx:AC:=
 (.seq (.reg GI) (.seq (.reg GH) (.seq (.seq (.reg GG) (.cond (.t 35) (.exit 1) .skip)) (.seq (.reg GF) (.seq (.block 2 yy) (.seq (.reg yj) (.reg yi)))))))
abbrev yh:List AO:=
 [o1 122 (.bin .add (.t 20) (ci 1)),
  (mt 20 122)]
abbrev yz:AC:=
 (.seq (.reg GJ) (.seq (.cond (.t 21) .skip (.exit 0)) (.seq (.block 1 yx) (.reg yh))))
abbrev yw:AC:=
 (.loop yz)
abbrev yg:List AO:=
 [(mt 123 8),
  (mt 6 123)]
abbrev Lr:AF:=⟨124,(.seq (.reg GO) (.seq (.reg GN) (.seq (.reg GM) (.seq (.reg GL) (.seq (.seq (.reg GK) (.block 0 yw)) (.seq (.reg yg) .ret)))))),[.mv (.t 6)]⟩
theorem GP:bk Try.prog (ai Try.prog 34) 34=some Lr:=by kernel_rfl
/-! optimizer.fold-/
abbrev Gu:List AO:=
 [o1 1 (.bx 25 0 (.t 0)),o1 2 (.mv (.c .sl0))]
abbrev Gs:List AO:=
 [o1 3 (.mv (.c .sl0))]
abbrev Gr:List AO:=
 [o1 5 (.fa 1 (.t 1)),o1 6 (.ld 1 false (.t 5)),o1 7 (.mv (ci 0))]
abbrev Gq:List AO:=
 [o1 8 (.bin .lss (.t 7) (.t 6))]
abbrev Gp:List AO:=
 [(mt 9 7),
  (mt 4 9)]
abbrev Gn:List AO:=
 [(mt 10 3),
  (mt 11 4),o1 12 (.bd [.n .i64 0,.n .u32 0] [(0,1,(.t 11))]),o1 13 (.bs 68 2 1 [.n .i64 0,.n .u32 0] [(0,2,(.t 12))]),o1 14 (.app 68 2 16 (.t 10) (.t 13)),
  (mt 3 14)]
abbrev Gx:AC:=
 (.seq (.reg Gp) (.reg Gn))
abbrev Gm:List AO:=
 [o1 15 (.bin .add (.t 7) (ci 1)),
  (mt 7 15)]
abbrev Gy:AC:=
 (.seq (.reg Gq) (.seq (.cond (.t 8) .skip (.exit 0)) (.seq (.block 1 Gx) (.reg Gm))))
abbrev Gw:AC:=
 (.loop Gy)
abbrev yf:List AO:=
 [o1 16 (.fa 3 (.t 1)),o1 17 (.ld 1 false (.t 16)),
  (mt 18 3),o1 19 (.bd [.f0,.f0] [(0,1,(.c (.f 35 [] []))),(1,1,(.c (.f 37 [] [])))]),
  (o2 20 34 [.t 17,.t 18,.t 19]),
  (mt 2 20)]
abbrev Ld:AF:=⟨21,(.seq (.reg Gu) (.seq (.reg Gs) (.seq (.seq (.reg Gr) (.block 0 Gw)) (.seq (.reg yf) .ret)))),[.mv (.t 2)]⟩
theorem Gv:bk Try.prog (ai Try.prog 23) 23=some Ld:=by kernel_rfl
/-! optimizer.checked-/
abbrev Gj:List AO:=
 [o1 2 (.bx 25 0 (.t 0)),o1 4 (.al 25 [.sl0,.n .i64 0,.n .i64 0,.sl0]),o1 5 (.mv (ci 0))]
abbrev Gi:List AO:=
 [o1 9 (.ld 4 true (.t 2)),
  (o2 10 6 [.t 9]),
  (mt 8 10),o1 11 (.ext 0 (.t 8)),o1 12 (.ext 1 (.t 8)),
  (mt 6 11),
  (mt 7 12)]
abbrev Gh:List AO:=
 [(mt 13 7),o1 14 (.bin .neq (.t 13) (ci 0))]
abbrev Gg:List AO:=
 [o1 15 (.bd [.sl0,.n .i64 0,.n .i64 0,.sl0] []),
  (mt 16 7),
  (o3 (.st 4 (.t 4) (.t 15))),
  (mt 5 16)]
abbrev Gl:List (Nat×AO):=
 [(2,(mt 18 1)),(1,(o1 17 (.ld 4 true (.t 2)))),(1,(o1 19 (.ld 4 true (.t 2)))),(0,⟨some 20,none,.cl (.t 18) [.t 19]⟩),
  (3,(o2 21 29 [.t 17,.t 20])),
  (3,(o3 (.st 4 (.t 4) (.t 21)))),(2,(o1 5 (.mv (ci 0))))]
abbrev Lc:AF:=⟨22,(.seq (.reg Gj) (.seq (.seq (.reg Gi) (.seq (.reg Gh) (.cond (.t 14) (.seq (.reg Gg) .ret) .skip))) (.seq (.mix Gl) .ret))),[.ld 4 true (.t 4),.mv (.t 5)]⟩
theorem Gk:bk Try.prog (ai Try.prog 22) 22=some Lc:=by kernel_rfl
/-! optimizer.copied-/
abbrev Gc:List AO:=
 [o1 2 (.bx 25 0 (.t 0)),o1 4 (.al 25 [.sl0,.n .i64 0,.n .i64 0,.sl0])]
abbrev Gb:List AO:=
 [o1 5 (.fa 0 (.t 2)),o1 6 (.ld 1 false (.t 5)),
  (o2 7 53 [.t 6]),
  (mt 8 1),
  (o2 9 54 [.t 8]),o1 10 (.fa 0 (.t 2)),
  (o3 (.st 1 (.t 10) (.t 7))),o1 11 (.fa 3 (.t 2)),
  (o3 (.st 1 (.t 11) (.t 9)))]
abbrev Ga:List AO:=
 [o1 12 (.ld 4 true (.t 2)),
  (o3 (.st 4 (.t 4) (.t 12)))]
abbrev Lb:AF:=⟨13,(.seq (.reg Gc) (.seq (.reg Gb) (.seq (.reg Ga) .ret))),[.ld 4 true (.t 4)]⟩
theorem Gf:bk Try.prog (ai Try.prog 29) 29=some Lb:=by kernel_rfl
/-! optimizer.Fold-/
abbrev F8:List AO:=
 [o1 1 (.bx 25 0 (.t 0)),o1 2 (.al 25 [.sl0,.n .i64 0,.n .i64 0,.sl0]),o1 3 (.mv (ci 0))]
abbrev F7:List AO:=
 [o1 4 (.ld 4 true (.t 1)),
  (o2 5 22 [.t 4,(.c (.f 23 [] []))]),o1 6 (.ext 0 (.t 5)),o1 7 (.ext 1 (.t 5)),
  (o3 (.st 4 (.t 2) (.t 6))),
  (mt 3 7)]
abbrev La:AF:=⟨8,(.seq (.reg F8) (.seq (.reg F7) .ret)),[.ld 4 true (.t 2),.mv (.t 3)]⟩
theorem F9:bk Try.prog (ai Try.prog 11) 11=some La:=by kernel_rfl
/-! compactorref24.writes-/
/-! compactorref24.copyKnown-/
/-! compactorref24.forget-/
/-! compactorref24.bothKnown-/
/-! compactorref24.folded-/
/-! compactorref24.Fold-/
/-! compactorref23.Uses-/
/-! compactorref23.Parts-/
/-! slices.Clone[[]api.Array,api.Array]-/
abbrev F5:List AO:=
 [o1 2 (.mv (.c .sl0))]
abbrev F4:List AO:=
 [(mt 3 0),⟨some 4,none,.sn false (.t 3)⟩]
abbrev F3:List AO:=
 [o1 2 (.mv (.c .sl0))]
abbrev F2:List AO:=
 [o1 5 (.bs 43 2 0 [] []),
  (mt 6 0),o1 7 (.app 43 2 16 (.t 5) (.t 6)),
  (mt 2 7)]
abbrev K9:AF:=⟨8,(.seq (.reg F5) (.seq (.seq (.reg F4) (.cond (.t 4) (.seq (.reg F3) .ret) .skip)) (.seq (.reg F2) .ret))),[.mv (.t 2)]⟩
theorem F6:bk Try.prog (ai Try.prog 53) 53=some K9:=by kernel_rfl
/-! slices.Clone[[]api.RegInstr,api.RegInstr]-/
abbrev F0:List AO:=
 [o1 2 (.mv (.c .sl0))]
abbrev FZ:List AO:=
 [(mt 3 0),⟨some 4,none,.sn false (.t 3)⟩]
abbrev FY:List AO:=
 [o1 2 (.mv (.c .sl0))]
abbrev FX:List AO:=
 [o1 5 (.bs 38 5 0 [] []),
  (mt 6 0),o1 7 (.app 38 5 40 (.t 5) (.t 6)),
  (mt 2 7)]
abbrev K8:AF:=⟨8,(.seq (.reg F0) (.seq (.seq (.reg FZ) (.cond (.t 4) (.seq (.reg FY) .ret) .skip)) (.seq (.reg FX) .ret))),[.mv (.t 2)]⟩
theorem F1:bk Try.prog (ai Try.prog 54) 54=some K8:=by kernel_rfl
/-! compactorref23.Same-/
abbrev FT:List AO:=
 [o1 2 (.bx 25 0 (.t 0)),o1 3 (.bx 25 0 (.t 1)),o1 4 (.mv (.c (.b false)))]
abbrev FS:List AO:=
 [o1 6 (.fa 1 (.t 2)),o1 7 (.ld 1 false (.t 6)),o1 8 (.fa 1 (.t 3)),o1 9 (.ld 1 false (.t 8)),o1 10 (.bin .neq (.t 7) (.t 9)),
  (mt 11 10),
  (o4 12 11 (.fa 2 (.t 2))),
  (o4 13 11 (.ld 1 false (.t 12))),
  (o4 14 11 (.fa 2 (.t 3))),
  (o4 15 11 (.ld 1 false (.t 14))),
  (o4 16 11 (.bin .neq (.t 13) (.t 15))),o1 17 (.pick (.t 11) (.c (.b true)) (.t 16)),
  (mt 18 17),
  (o4 19 18 (.fa 0 (.t 2))),
  (o4 20 18 (.ld 1 false (.t 19))),
  (o4 21 18 (.fa 0 (.t 3))),
  (o4 22 18 (.ld 1 false (.t 21))),⟨some 23,some (18,false),.cl (.c (.f 25 [] [])) [.t 20,.t 22]⟩,
  (o4 24 18 (.un .not (.t 23))),o1 25 (.pick (.t 18) (.c (.b true)) (.t 24)),
  (mt 26 25),
  (o4 27 26 (.fa 3 (.t 2))),
  (o4 28 26 (.ld 1 false (.t 27))),
  (o4 29 26 (.len (.t 28))),
  (o4 30 26 (.fa 3 (.t 3))),
  (o4 31 26 (.ld 1 false (.t 30))),
  (o4 32 26 (.len (.t 31))),
  (o4 33 26 (.bin .neq (.t 29) (.t 32))),o1 34 (.pick (.t 26) (.c (.b true)) (.t 33))]
abbrev FR:List AO:=
 [o1 4 (.mv (.c (.b false)))]
abbrev FQ:List AO:=
 [o1 5 (.mv (ci 0))]
abbrev FP:List AO:=
 [(mt 35 5),o1 36 (.fa 3 (.t 2)),o1 37 (.ld 1 false (.t 36)),o1 38 (.len (.t 37)),o1 39 (.bin .lss (.t 35) (.t 38))]
abbrev FU:List (Nat×AO):=
 [(2,(o1 42 (.fa 3 (.t 2)))),
  (2,(mt 44 5)),(2,(o1 47 (.fa 3 (.t 3)))),
  (2,(mt 49 5)),(1,(o1 43 (.ld 1 false (.t 42)))),(2,(o1 45 (.ia 5 (.t 43) (.t 44)))),(1,(o1 46 (.ld 5 true (.t 45)))),(1,(o1 48 (.ld 1 false (.t 47)))),(2,(o1 50 (.ia 5 (.t 48) (.t 49)))),(1,(o1 51 (.ld 5 true (.t 50)))),(2,(o1 52 (.eq true (.st [(0,1,.n),(1,1,.n),(2,1,.n),(3,1,.n),(4,1,.n)]) (.t 46) (.t 51))))]
abbrev FO:List AO:=
 [o1 4 (.mv (.c (.b false)))]
abbrev FV:AC:=
 (.seq (.mix FU) (.cond (.t 52) (.seq (.reg FO) .ret) .skip))
abbrev FN:List AO:=
 [(mt 40 5),o1 41 (.bin .add (.t 40) (ci 1)),
  (mt 5 41)]
abbrev FW:AC:=
 (.seq (.seq (.reg FP) (.cond (.t 39) .skip (.exit 0))) (.seq (.block 1 FV) (.reg FN)))
abbrev ye:AC:=
 (.loop FW)
abbrev yd:List AO:=
 [o1 4 (.mv (.c (.b true)))]
abbrev K7:AF:=⟨53,(.seq (.reg FT) (.seq (.seq (.reg FS) (.cond (.t 34) (.seq (.reg FR) .ret) .skip)) (.seq (.seq (.reg FQ) (.block 0 ye)) (.seq (.reg yd) .ret)))),[.mv (.t 4)]⟩
theorem ve:bk Try.prog (ai Try.prog 13) 13=some K7:=by kernel_rfl
/-! compactorref15.SameArrays-/
abbrev FI:List AO:=
 [o1 4 (.mv (.c (.b false)))]
abbrev FH:List AO:=
 [(mt 6 0),o1 7 (.len (.t 6)),
  (mt 8 1),o1 9 (.len (.t 8)),o1 10 (.bin .neq (.t 7) (.t 9))]
abbrev FG:List AO:=
 [o1 4 (.mv (.c (.b false)))]
abbrev FF:List AO:=
 [o1 5 (.mv (ci 0))]
abbrev FE:List AO:=
 [(mt 11 5),
  (mt 12 0),o1 13 (.len (.t 12)),o1 14 (.bin .lss (.t 11) (.t 13))]
abbrev FK:List (Nat×AO):=
 [(2,(mt 17 0)),
  (2,(mt 18 5)),(2,(o1 19 (.ia 2 (.t 17) (.t 18)))),
  (2,(mt 21 1)),
  (2,(mt 22 5)),(2,(o1 23 (.ia 2 (.t 21) (.t 22)))),(1,(o1 20 (.ld 2 true (.t 19)))),(1,(o1 24 (.ld 2 true (.t 23)))),(2,(o1 25 (.eq true (.st [(0,1,.b),(1,1,.n)]) (.t 20) (.t 24))))]
abbrev FD:List AO:=
 [o1 4 (.mv (.c (.b false)))]
abbrev FL:AC:=
 (.seq (.mix FK) (.cond (.t 25) (.seq (.reg FD) .ret) .skip))
abbrev FC:List AO:=
 [(mt 15 5),o1 16 (.bin .add (.t 15) (ci 1)),
  (mt 5 16)]
abbrev FM:AC:=
 (.seq (.seq (.reg FE) (.cond (.t 14) .skip (.exit 0))) (.seq (.block 1 FL) (.reg FC)))
abbrev yc:AC:=
 (.loop FM)
abbrev x9:List AO:=
 [o1 4 (.mv (.c (.b true)))]
abbrev K6:AF:=⟨26,(.seq (.reg FI) (.seq (.seq (.reg FH) (.cond (.t 10) (.seq (.reg FG) .ret) .skip)) (.seq (.seq (.reg FF) (.block 0 yc)) (.seq (.reg x9) .ret)))),[.mv (.t 4)]⟩
theorem FJ:bk Try.prog (ai Try.prog 25) 25=some K6:=by kernel_rfl
/-! compactorref24.Few-/
abbrev FA:List AO:=
 [o1 1 (.bx 25 0 (.t 0)),o1 2 (.mv (.c (.b false)))]
abbrev Fy:List AO:=
 [o1 3 (.ld 4 true (.t 1)),
  (o2 4 8 [.t 3]),
  (mt 5 4),
  (o5 6 5 (.fa 1 (.t 1))),
  (o5 7 5 (.ld 1 false (.t 6))),
  (o5 8 5 (.bin .leq (.t 7) (ci 60))),
  (o5 9 5 (.mv (.t 8))),
  (o4 10 9 (.fa 1 (.t 1))),
  (o4 11 9 (.ld 1 false (.t 10))),
  (o4 12 9 (.bin .gtr (.t 11) (ci 1024))),
  (o5 13 5 (.pick (.t 9) (.c (.b true)) (.t 12))),o1 14 (.pick (.t 5) (.t 13) (.c (.b false))),
  (mt 2 14)]
abbrev K5:AF:=⟨15,(.seq (.reg FA) (.seq (.reg Fy) .ret)),[.mv (.t 2)]⟩
theorem FB:bk Try.prog (ai Try.prog 4) 4=some K5:=by kernel_rfl
/-! compactorref23.Few-/
abbrev Fw:List AO:=
 [o1 1 (.bx 25 0 (.t 0)),o1 2 (.mv (.c (.b false)))]
abbrev Fv:List AO:=
 [o1 3 (.fa 0 (.t 1)),o1 4 (.ld 1 false (.t 3)),o1 5 (.len (.t 4)),o1 6 (.bin .leq (.t 5) (ci 20)),
  (mt 7 6),
  (o5 8 7 (.fa 3 (.t 1))),
  (o5 9 7 (.ld 1 false (.t 8))),
  (o5 10 7 (.len (.t 9))),
  (o5 11 7 (.bin .leq (.t 10) (ci 300))),o1 12 (.pick (.t 7) (.t 11) (.c (.b false))),
  (mt 2 12)]
abbrev K4:AF:=⟨13,(.seq (.reg Fw) (.seq (.reg Fv) .ret)),[.mv (.t 2)]⟩
theorem Fx:bk Try.prog (ai Try.prog 8) 8=some K4:=by kernel_rfl
/-! compactorlaw24.OptimizerFolds-/
/-! lower.shapes-/
/-! optimizer.Copies-/
abbrev Ft:List AO:=
 [o1 1 (.bx 25 0 (.t 0)),o1 2 (.al 25 [.sl0,.n .i64 0,.n .i64 0,.sl0]),o1 3 (.mv (ci 0))]
abbrev Fs:List AO:=
 [o1 4 (.ld 4 true (.t 1)),
  (o2 5 22 [.t 4,(.c (.f 26 [] []))]),o1 6 (.ext 0 (.t 5)),o1 7 (.ext 1 (.t 5)),
  (o3 (.st 4 (.t 2) (.t 6))),
  (mt 3 7)]
abbrev KS:AF:=⟨8,(.seq (.reg Ft) (.seq (.reg Fs) .ret)),[.ld 4 true (.t 2),.mv (.t 3)]⟩
theorem Fu:bk Try.prog (ai Try.prog 14) 14=some KS:=by kernel_rfl
/-! optimizer.copies-/
abbrev Fp:List AO:=
 [o1 1 (.bx 25 0 (.t 0)),o1 2 (.mv (.c .sl0))]
abbrev Fo:List AO:=
 [o1 3 (.fa 3 (.t 1)),o1 4 (.ld 1 false (.t 3)),o1 5 (.bd [.f0,.f0] [(0,1,(.c (.f 44 [] []))),(1,1,(.c (.f 45 [] [])))]),
  (o2 6 43 [.t 4,(.c .sl0),.t 5]),
  (mt 2 6)]
abbrev KR:AF:=⟨7,(.seq (.reg Fp) (.seq (.reg Fo) .ret)),[.mv (.t 2)]⟩
theorem Fq:bk Try.prog (ai Try.prog 26) 26=some KR:=by kernel_rfl
/-! optimizer.walk[optimizer.same]-/
abbrev Fl:List AO:=
 [o1 5 (.bx 88 0 (.t 2)),o1 6 (.mv (.c .sl0))]
abbrev Fk:List AO:=
 [(mt 16 0),
  (o2 17 55 [.t 16]),
  (mt 7 17)]
abbrev Fj:List AO:=
 [o1 8 (.mv (.c .sl0))]
abbrev Fh:List AO:=
 [o1 9 (.mv (.c .sl0))]
abbrev Fg:List AO:=
 [(mt 18 0),o1 19 (.len (.t 18)),o1 20 (.mv (ci 0))]
abbrev Ff:List AO:=
 [o1 21 (.bin .lss (.t 20) (.t 19))]
abbrev Fe:List AO:=
 [(mt 22 20),o1 23 (.ia 5 (.t 18) (.t 20)),o1 24 (.ld 5 true (.t 23)),o1 11 (.al 38 [.n .i64 0,.n .i64 0,.n .i64 0,.n .i64 0,.n .u32 0]),
  (mt 10 22),
  (o3 (.st 5 (.t 11) (.t 24)))]
abbrev Fd:List AO:=
 [o1 26 (.fa 1 (.t 5)),o1 27 (.ld 1 false (.t 26)),o1 28 (.ld 5 true (.t 11)),
  (mt 29 1),⟨some 30,none,.cl (.t 27) [.t 28,.t 29]⟩,
  (mt 25 30),o1 31 (.ext 0 (.t 25)),o1 32 (.ext 1 (.t 25)),o1 33 (.ext 2 (.t 25)),o1 12 (.al 38 [.n .i64 0,.n .i64 0,.n .i64 0,.n .i64 0,.n .u32 0]),
  (o3 (.st 5 (.t 12) (.t 31))),
  (mt 13 32),
  (mt 14 33)]
abbrev Fc:List AO:=
 [(mt 34 13),o1 35 (.un .not (.t 34))]
abbrev Fb:List AO:=
 [(mt 36 9),o1 37 (.len (.t 36)),o1 38 (.bin .sub (.t 37) (ci 1)),
  (mt 15 38)]
abbrev xX:List AO:=
 [o1 40 (.fa 0 (.t 11)),o1 41 (.ld 1 false (.t 40)),o1 42 (.bin .eql (.t 41) (ci 27)),
  (mt 39 42)]
abbrev xW:List AO:=
 [(mt 43 9),
  (mt 44 1),o1 45 (.bs 84 1 1 [.sl0] [(0,1,(.t 44))]),o1 46 (.app 84 1 24 (.t 43) (.t 45)),
  (mt 9 46)]
abbrev xV:List AO:=
 [o1 48 (.fa 0 (.t 11)),o1 49 (.ld 1 false (.t 48)),o1 50 (.bin .eql (.t 49) (ci 28)),
  (mt 47 50)]
abbrev xU:List AO:=
 [(mt 51 9),
  (mt 52 15),
  (mt 53 1),
  (mt 54 9),
  (mt 55 15),o1 56 (.ia 1 (.t 54) (.t 55)),o1 57 (.ld 1 false (.t 56)),o1 58 (.ia 1 (.t 51) (.t 52)),
  (o3 (.st 1 (.t 58) (.t 53))),
  (mt 1 57)]
abbrev xT:List AO:=
 [o1 60 (.fa 0 (.t 11)),o1 61 (.ld 1 false (.t 60)),o1 62 (.bin .eql (.t 61) (ci 29)),
  (mt 59 62)]
abbrev x4:List (Nat×AO):=
 [(2,(mt 63 1)),
  (2,(mt 65 0)),
  (2,(mt 66 10)),
  (2,(mt 67 7)),
  (2,(mt 68 10)),(2,(o1 69 (.ia 1 (.t 67) (.t 68)))),(1,(o1 64 (.ld 2 true (.t 5)))),(1,(o1 70 (.ld 1 false (.t 69)))),(2,(o1 71 (.sl 5 (.t 65) (some (.t 66)) (some (.t 70))))),
  (3,(o2 72 65 [.t 63,.t 64,.t 71])),
  (2,(mt 1 72))]
abbrev xS:List AO:=
 [o1 74 (.fa 0 (.t 11)),o1 75 (.ld 1 false (.t 74)),o1 76 (.bin .eql (.t 75) (ci 31)),
  (mt 77 76),
  (o5 78 77 (.mv (.t 0))),
  (o5 79 77 (.mv (.t 7))),
  (o5 80 77 (.mv (.t 10))),
  (o5 81 77 (.ia 1 (.t 79) (.t 80))),
  (o5 82 77 (.ld 1 false (.t 81))),
  (o5 83 77 (.ia 5 (.t 78) (.t 82))),
  (o5 84 77 (.fa 0 (.t 83))),
  (o5 85 77 (.ld 1 false (.t 84))),
  (o5 86 77 (.bin .eql (.t 85) (ci 29))),o1 87 (.pick (.t 77) (.t 86) (.c (.b false))),
  (mt 73 87)]
abbrev xZ:List (Nat×AO):=
 [(2,(mt 88 1)),
  (2,(mt 90 0)),
  (2,(mt 91 7)),
  (2,(mt 92 10)),(2,(o1 93 (.ia 1 (.t 91) (.t 92)))),
  (2,(mt 95 10)),(1,(o1 89 (.ld 2 true (.t 5)))),(1,(o1 94 (.ld 1 false (.t 93)))),(2,(o1 96 (.sl 5 (.t 90) (some (.t 94)) (some (.t 95))))),
  (3,(o2 97 65 [.t 88,.t 89,.t 96])),
  (2,(mt 1 97))]
abbrev xR:List AO:=
 [o1 99 (.fa 0 (.t 11)),o1 100 (.ld 1 false (.t 99)),o1 101 (.bin .eql (.t 100) (ci 31)),
  (mt 98 101)]
abbrev xY:List (Nat×AO):=
 [(2,(mt 102 1)),
  (2,(mt 103 9)),
  (2,(mt 104 15)),(2,(o1 105 (.ia 1 (.t 103) (.t 104)))),
  (2,(mt 108 9)),
  (2,(mt 109 15)),(2,(o1 110 (.sl 1 (.t 108) none (some (.t 109))))),(1,(o1 106 (.ld 1 false (.t 105)))),
  (3,(o2 107 66 [.t 102,.t 106])),
  (2,(mt 1 107)),
  (2,(mt 9 110))]
abbrev x7:AC:=
 (.seq (.reg xX) (.cond (.t 39) (.reg xW) (.seq (.reg xV) (.cond (.t 47) (.reg xU) (.seq (.reg xT) (.cond (.t 59) (.mix x4) (.seq (.reg xS) (.cond (.t 73) (.mix xZ) (.seq (.reg xR) (.cond (.t 98) (.mix xY) .skip))))))))))
abbrev xQ:List AO:=
 [(mt 111 1),o1 112 (.ld 2 true (.t 5)),o1 113 (.ld 5 true (.t 12)),o1 114 (.bs 38 5 1 [.n .i64 0,.n .i64 0,.n .i64 0,.n .i64 0,.n .u32 0] [(0,5,(.t 113))]),
  (o2 115 65 [.t 111,.t 112,.t 114]),
  (mt 116 14),o1 117 (.app 82 2 16 (.t 115) (.t 116)),
  (mt 1 117)]
abbrev xP:List AO:=
 [(mt 118 8),o1 119 (.ld 5 true (.t 12)),o1 120 (.bs 38 5 1 [.n .i64 0,.n .i64 0,.n .i64 0,.n .i64 0,.n .u32 0] [(0,5,(.t 119))]),o1 121 (.app 38 5 40 (.t 118) (.t 120)),
  (mt 8 121)]
abbrev x6:AC:=
 (.seq (.reg Fe) (.seq (.reg Fd) (.seq (.seq (.reg Fc) (.cond (.t 35) (.exit 1) .skip)) (.seq (.reg Fb) (.seq (.block 2 x7) (.seq (.reg xQ) (.reg xP)))))))
abbrev xO:List AO:=
 [o1 122 (.bin .add (.t 20) (ci 1)),
  (mt 20 122)]
abbrev x8:AC:=
 (.seq (.reg Ff) (.seq (.cond (.t 21) .skip (.exit 0)) (.seq (.block 1 x6) (.reg xO))))
abbrev x5:AC:=
 (.loop x8)
abbrev xN:List AO:=
 [(mt 123 8),
  (mt 6 123)]
abbrev KQ:AF:=⟨124,(.seq (.reg Fl) (.seq (.reg Fk) (.seq (.reg Fj) (.seq (.reg Fh) (.seq (.seq (.reg Fg) (.block 0 x5)) (.seq (.reg xN) .ret)))))),[.mv (.t 6)]⟩
theorem Fm:bk Try.prog (ai Try.prog 43) 43=some KQ:=by kernel_rfl
/-! optimizer.copies$1-/
abbrev E9:List AO:=
 [o1 2 (.bx 38 0 (.t 0)),o1 3 (.bx 82 0 (.t 1)),o1 4 (.mv (.c (.b false)))]
abbrev E8:List AO:=
 [o1 6 (.ld 5 true (.t 2)),
  (o2 7 36 [.t 6]),
  (mt 5 7)]
abbrev E7:List AO:=
 [(mt 8 5),o1 9 (.fa 0 (.t 3)),o1 10 (.ld 1 false (.t 9)),o1 11 (.bin .eql (.t 8) (.t 10)),
  (mt 12 11),
  (o4 13 12 (.mv (.t 5))),
  (o4 14 12 (.fa 1 (.t 3))),
  (o4 15 12 (.ld 1 false (.t 14))),
  (o4 16 12 (.bin .eql (.t 13) (.t 15))),o1 17 (.pick (.t 12) (.c (.b true)) (.t 16)),
  (mt 4 17)]
abbrev KP:AF:=⟨18,(.seq (.reg E9) (.seq (.reg E8) (.seq (.reg E7) .ret))),[.mv (.t 4)]⟩
theorem Fa:bk Try.prog (ai Try.prog 44) 44=some KP:=by kernel_rfl
/-! optimizer.copies$2-/
abbrev E3:List AO:=
 [o1 2 (.bx 38 0 (.t 0)),o1 4 (.al 38 [.n .i64 0,.n .i64 0,.n .i64 0,.n .i64 0,.n .u32 0]),o1 5 (.mv (.c (.b false))),o1 6 (.mv (.c .sl0))]
abbrev E5:List (Nat×AO):=
 [(2,(mt 7 1)),(2,(o1 8 (.fa 2 (.t 2)))),
  (2,(mt 11 1)),(2,(o1 12 (.fa 3 (.t 2)))),(1,(o1 9 (.ld 1 false (.t 8)))),(1,(o1 13 (.ld 1 false (.t 12)))),
  (0,(o2 10 46 [.t 7,.t 9])),(2,(o1 15 (.fa 2 (.t 2)))),
  (3,(o2 14 46 [.t 11,.t 13])),
  (3,(o3 (.st 1 (.t 15) (.t 10)))),(2,(o1 16 (.fa 3 (.t 2)))),
  (3,(o3 (.st 1 (.t 16) (.t 14))))]
abbrev E2:List AO:=
 [o1 18 (.fa 0 (.t 2)),o1 19 (.ld 1 false (.t 18)),o1 20 (.bin .neq (.t 19) (ci 36)),
  (mt 17 20)]
abbrev E1:List AO:=
 [o1 21 (.ld 5 true (.t 2)),
  (o3 (.st 5 (.t 4) (.t 21))),o1 5 (.mv (.c (.b true))),o1 6 (.mv (.c .sl0))]
abbrev E0:List AO:=
 [o1 23 (.fa 2 (.t 2)),o1 24 (.ld 1 false (.t 23)),o1 25 (.fa 1 (.t 2)),o1 26 (.ld 1 false (.t 25)),o1 27 (.bin .eql (.t 24) (.t 26)),
  (mt 22 27)]
abbrev EZ:List AO:=
 [o1 28 (.ld 5 true (.t 2)),
  (o3 (.st 5 (.t 4) (.t 28))),o1 5 (.mv (.c (.b false))),o1 6 (.mv (.c .sl0))]
abbrev E6:AC:=
 (.seq (.reg E2) (.cond (.t 17) (.seq (.reg E1) .ret) (.seq (.reg E0) (.cond (.t 22) (.seq (.reg EZ) .ret) .skip))))
abbrev E4:List (Nat×AO):=
 [(1,(o1 29 (.ld 5 true (.t 2)))),(2,(o1 30 (.fa 1 (.t 2)))),(1,(o1 31 (.ld 1 false (.t 30)))),(2,(o1 32 (.fa 2 (.t 2)))),(1,(o1 33 (.ld 1 false (.t 32)))),(2,(o1 34 (.bd [.n .i64 0,.n .i64 0] [(0,1,(.t 31)),(1,1,(.t 33))])))]
abbrev EY:AT:=
 (.alt (o1 35 (.bs 82 2 1 [.n .i64 0,.n .i64 0] [(0,2,(.t 34))])) (.alt (o3 (.st 5 (.t 4) (.t 29))) (.alt (o1 5 (.mv (.c (.b true)))) (.alt (mt 6 35) .fin .none) .none) .none) (.alt (o3 (.st 5 (.t 4) (.t 29))) (.alt (o1 35 (.bs 82 2 1 [.n .i64 0,.n .i64 0] [(0,2,(.t 34))])) (.alt (o1 5 (.mv (.c (.b true)))) (.alt (mt 6 35) .fin .none) .none) (.alt (o1 5 (.mv (.c (.b true)))) (.alt (o1 35 (.bs 82 2 1 [.n .i64 0,.n .i64 0] [(0,2,(.t 34))])) (.alt (mt 6 35) .fin .none) .none) .none)) .none))
abbrev KO:AF:=⟨36,(.seq (.reg E3) (.seq (.mix E5) (.seq (.block 0 E6) (.seq (.frk E4 EY) .ret)))),[.ld 5 true (.t 4),.mv (.t 5),.mv (.t 6)]⟩
theorem qG:bk Try.prog (ai Try.prog 45) 45=some KO:=by kernel_rfl
/-! optimizer.without[optimizer.same]-/
abbrev EU:List AO:=
 [o1 4 (.bx 88 0 (.t 1)),o1 6 (.mv (.c .sl0))]
abbrev ET:List AO:=
 [o1 7 (.mv (.c .sl0))]
abbrev ES:List AO:=
 [(mt 10 0),o1 11 (.len (.t 10)),o1 12 (.mv (ci 0))]
abbrev EP:List AO:=
 [o1 13 (.bin .lss (.t 12) (.t 11))]
abbrev EO:List AO:=
 [o1 14 (.ia 2 (.t 10) (.t 12)),o1 15 (.ld 2 true (.t 14)),o1 9 (.al 82 [.n .i64 0,.n .i64 0]),
  (o3 (.st 2 (.t 9) (.t 15)))]
abbrev EM:List AO:=
 [(mt 16 2),o1 17 (.mf 76 [] [.t 4,.t 9]),
  (o2 18 69 [.t 16,.t 17]),o1 19 (.un .not (.t 18))]
abbrev EL:List AO:=
 [(mt 20 7),o1 21 (.ld 2 true (.t 9)),o1 22 (.bs 82 2 1 [.n .i64 0,.n .i64 0] [(0,2,(.t 21))]),o1 23 (.app 82 2 16 (.t 20) (.t 22)),
  (mt 7 23)]
abbrev EW:AC:=
 (.seq (.reg EO) (.seq (.reg EM) (.cond (.t 19) (.reg EL) .skip)))
abbrev EJ:List AO:=
 [o1 24 (.bin .add (.t 12) (ci 1)),
  (mt 12 24)]
abbrev EX:AC:=
 (.seq (.reg EP) (.seq (.cond (.t 13) .skip (.exit 0)) (.seq (.block 1 EW) (.reg EJ))))
abbrev xM:AC:=
 (.loop EX)
abbrev xL:List AO:=
 [(mt 25 7),
  (mt 6 25)]
abbrev KN:AF:=⟨26,(.seq (.reg EU) (.seq (.reg ET) (.seq (.seq (.reg ES) (.block 0 xM)) (.seq (.reg xL) .ret)))),[.mv (.t 6)]⟩
theorem EV:bk Try.prog (ai Try.prog 65) 65=some KN:=by kernel_rfl
/-! optimizer.both[optimizer.same]-/
abbrev EF:List AO:=
 [o1 4 (.mv (.c .sl0))]
abbrev EE:List AO:=
 [o1 5 (.mv (.c .sl0))]
abbrev ED:List AO:=
 [(mt 8 0),o1 9 (.len (.t 8)),o1 10 (.mv (ci 0))]
abbrev EC:List AO:=
 [o1 11 (.bin .lss (.t 10) (.t 9))]
abbrev EB:List AO:=
 [o1 12 (.ia 2 (.t 8) (.t 10)),o1 13 (.ld 2 true (.t 12)),o1 7 (.al 82 [.n .i64 0,.n .i64 0]),
  (o3 (.st 2 (.t 7) (.t 13)))]
abbrev EA:List AO:=
 [(mt 14 1),o1 15 (.ld 2 true (.t 7)),
  (o2 16 77 [.t 14,.t 15])]
abbrev Ez:List AO:=
 [(mt 17 5),o1 18 (.ld 2 true (.t 7)),o1 19 (.bs 82 2 1 [.n .i64 0,.n .i64 0] [(0,2,(.t 18))]),o1 20 (.app 82 2 16 (.t 17) (.t 19)),
  (mt 5 20)]
abbrev EH:AC:=
 (.seq (.reg EB) (.seq (.reg EA) (.cond (.t 16) (.reg Ez) .skip)))
abbrev Ey:List AO:=
 [o1 21 (.bin .add (.t 10) (ci 1)),
  (mt 10 21)]
abbrev EI:AC:=
 (.seq (.reg EC) (.seq (.cond (.t 11) .skip (.exit 0)) (.seq (.block 1 EH) (.reg Ey))))
abbrev xK:AC:=
 (.loop EI)
abbrev xJ:List AO:=
 [(mt 22 5),
  (mt 4 22)]
abbrev KM:AF:=⟨23,(.seq (.reg EF) (.seq (.reg EE) (.seq (.seq (.reg ED) (.block 0 xK)) (.seq (.reg xJ) .ret)))),[.mv (.t 4)]⟩
theorem EG:bk Try.prog (ai Try.prog 66) 66=some KM:=by kernel_rfl
/-! optimizer.without[optimizer.same]$1-/
abbrev Ew:List AO:=
 [o1 3 (.bx 38 0 (.t 0)),o1 4 (.mv (.c (.b false)))]
abbrev Ev:List AO:=
 [o1 5 (.fa 0 (.t 1)),o1 6 (.ld 1 false (.t 5)),o1 7 (.ld 5 true (.t 3)),o1 8 (.ld 2 true (.t 2)),⟨some 9,none,.cl (.t 6) [.t 7,.t 8]⟩,
  (mt 4 9)]
abbrev KL:AF:=⟨10,(.seq (.reg Ew) (.seq (.reg Ev) .ret)),[.mv (.t 4)]⟩
theorem Ex:bk Try.prog (ai Try.prog 76) 76=some KL:=by kernel_rfl
/-! slices.Contains[[]optimizer.same,optimizer.same]-/
abbrev Et:List AO:=
 [o1 3 (.bx 82 0 (.t 1)),o1 4 (.mv (.c (.b false)))]
abbrev Es:List AO:=
 [(mt 5 0),o1 6 (.ld 2 true (.t 3)),
  (o2 7 102 [.t 5,.t 6]),o1 8 (.bin .geq (.t 7) (ci 0)),
  (mt 4 8)]
abbrev KK:AF:=⟨9,(.seq (.reg Et) (.seq (.reg Es) .ret)),[.mv (.t 4)]⟩
theorem Eu:bk Try.prog (ai Try.prog 77) 77=some KK:=by kernel_rfl
/-! slices.Index[[]optimizer.same,optimizer.same]-/
abbrev El:List AO:=
 [o1 3 (.bx 82 0 (.t 1)),o1 4 (.mv (ci 0))]
abbrev Ek:List AO:=
 [(mt 6 0),o1 7 (.len (.t 6)),o1 8 (.mv (ci 0))]
abbrev Ej:List AO:=
 [o1 9 (.bin .lss (.t 8) (.t 7))]
abbrev Ei:List AO:=
 [(mt 10 8),
  (mt 5 10)]
abbrev En:List (Nat×AO):=
 [(2,(mt 12 0)),
  (2,(mt 13 5)),(2,(o1 14 (.ia 2 (.t 12) (.t 13)))),(1,(o1 11 (.ld 2 true (.t 3)))),(1,(o1 15 (.ld 2 true (.t 14)))),(2,(o1 16 (.eq false (.st [(0,1,.n),(1,1,.n)]) (.t 11) (.t 15))))]
abbrev Eh:List AO:=
 [(mt 17 5),
  (mt 4 17)]
abbrev Ep:AC:=
 (.seq (.reg Ei) (.seq (.mix En) (.cond (.t 16) (.seq (.reg Eh) .ret) .skip)))
abbrev Eg:List AO:=
 [o1 18 (.bin .add (.t 8) (ci 1)),
  (mt 8 18)]
abbrev Er:AC:=
 (.seq (.reg Ej) (.seq (.cond (.t 9) .skip (.exit 0)) (.seq (.block 1 Ep) (.reg Eg))))
abbrev Eo:AC:=
 (.loop Er)
abbrev xI:List AO:=
 [o1 4 (.mv (.c (.n .i64 (-1))))]
abbrev KJ:AF:=⟨19,(.seq (.reg El) (.seq (.seq (.reg Ek) (.block 0 Eo)) (.seq (.reg xI) .ret))),[.mv (.t 4)]⟩
theorem Em:bk Try.prog (ai Try.prog 102) 102=some KJ:=by kernel_rfl
/-! compactorref24.Copies-/
/-! compactorref24.source-/
/-! compactorref24.withoutSources-/
/-! compactorref24.bothSources-/
/-! compactorref24.only-/
/-! compactorref23.Copy-/
/-! compactorlaw24.OptimizerCopies-/
/-! optimizer.Prune-/
abbrev Ee:List AO:=
 [o1 1 (.bx 25 0 (.t 0)),o1 2 (.al 25 [.sl0,.n .i64 0,.n .i64 0,.sl0]),o1 3 (.mv (ci 0))]
abbrev Ed:List AO:=
 [o1 4 (.ld 4 true (.t 1)),
  (o2 5 22 [.t 4,(.c (.f 24 [] []))]),o1 6 (.ext 0 (.t 5)),o1 7 (.ext 1 (.t 5)),
  (o3 (.st 4 (.t 2) (.t 6))),
  (mt 3 7)]
abbrev KE:AF:=⟨8,(.seq (.reg Ee) (.seq (.reg Ed) .ret)),[.ld 4 true (.t 2),.mv (.t 3)]⟩
theorem Ef:bk Try.prog (ai Try.prog 12) 12=some KE:=by kernel_rfl
/-! optimizer.prune-/
abbrev D9:List AO:=
 [o1 1 (.bx 25 0 (.t 0)),o1 2 (.mv (.c .sl0))]
abbrev D8:List AO:=
 [o1 11 (.ld 4 true (.t 1)),
  (o2 12 39 [.t 11]),
  (mt 3 12)]
abbrev D7:List AO:=
 [o1 4 (.mv (.c .sl0))]
abbrev D6:List AO:=
 [o1 13 (.fa 3 (.t 1)),o1 14 (.ld 1 false (.t 13)),o1 15 (.len (.t 14)),o1 16 (.mv (ci 0))]
abbrev D5:List AO:=
 [o1 17 (.bin .lss (.t 16) (.t 15))]
abbrev D4:List AO:=
 [(mt 18 16),o1 19 (.ia 5 (.t 14) (.t 16)),o1 20 (.ld 5 true (.t 19)),o1 6 (.al 38 [.n .i64 0,.n .i64 0,.n .i64 0,.n .i64 0,.n .u32 0]),
  (mt 5 18),
  (o3 (.st 5 (.t 6) (.t 20)))]
abbrev D3:List AO:=
 [o1 21 (.fa 0 (.t 6)),o1 22 (.ld 1 false (.t 21)),
  (o2 23 40 [.t 22]),
  (mt 24 23),
  (o4 25 24 (.fa 0 (.t 6))),
  (o4 26 24 (.ld 1 false (.t 25))),
  (o4 27 24 (.bin .eql (.t 26) (ci 0))),o1 28 (.pick (.t 24) (.c (.b true)) (.t 27)),
  (mt 29 28),
  (o4 30 29 (.fa 0 (.t 6))),
  (o4 31 29 (.ld 1 false (.t 30))),
  (o4 32 29 (.bin .eql (.t 31) (ci 36))),o1 33 (.pick (.t 29) (.c (.b true)) (.t 32)),
  (mt 34 33),
  (o4 35 34 (.fa 0 (.t 6))),
  (o4 36 34 (.ld 1 false (.t 35))),
  (o4 37 34 (.bin .eql (.t 36) (ci 38))),o1 38 (.pick (.t 34) (.c (.b true)) (.t 37)),
  (mt 7 38)]
abbrev Eb:List (Nat×AO):=
 [(2,(mt 39 7)),(2,(o1 40 (.un .not (.t 39)))),
  (2,(mt 41 40)),
  (2,(o4 42 41 (.mv (.t 3)))),
  (2,(o4 43 41 (.mv (.t 5)))),
  (2,(o4 44 41 (.bin .add (.t 43) (ci 1)))),
  (2,(o4 45 41 (.ia 1 (.t 42) (.t 44)))),
  (2,(o4 47 41 (.fa 1 (.t 6)))),
  (1,(o4 46 41 (.ld 1 false (.t 45)))),
  (1,(o4 48 41 (.ld 1 false (.t 47)))),
  (2,(o4 49 41 (.ia 1 (.t 46) (.t 48)))),
  (1,(o4 50 41 (.ld 1 false (.t 49)))),(2,(o1 51 (.pick (.t 41) (.c (.b true)) (.t 50))))]
abbrev D2:List AO:=
 [(mt 52 4),o1 53 (.ld 5 true (.t 6)),o1 54 (.bs 38 5 1 [.n .i64 0,.n .i64 0,.n .i64 0,.n .i64 0,.n .u32 0] [(0,5,(.t 53))]),o1 55 (.app 38 5 40 (.t 52) (.t 54)),
  (mt 4 55)]
abbrev Ec:AC:=
 (.seq (.reg D4) (.seq (.reg D3) (.seq (.mix Eb) (.cond (.t 51) (.reg D2) .skip))))
abbrev xC:List AO:=
 [o1 56 (.bin .add (.t 16) (ci 1)),
  (mt 16 56)]
abbrev xH:AC:=
 (.seq (.reg D5) (.seq (.cond (.t 17) .skip (.exit 0)) (.seq (.block 1 Ec) (.reg xC))))
abbrev xF:AC:=
 (.loop xH)
abbrev xB:List AO:=
 [(mt 58 4),
  (o2 59 41 [.t 58]),
  (mt 57 59),o1 60 (.ext 0 (.t 57)),o1 61 (.ext 1 (.t 57)),
  (mt 8 60),
  (mt 9 61)]
abbrev xA:List AO:=
 [(mt 62 9),o1 63 (.un .not (.t 62))]
abbrev xz:List AO:=
 [(mt 64 4),
  (mt 2 64)]
abbrev xy:List AO:=
 [o1 10 (.mv (ci 2))]
abbrev xw:List AO:=
 [(mt 65 4),
  (mt 66 8),o1 67 (.ia 5 (.t 65) (.t 66)),o1 68 (.fa 0 (.t 67)),o1 69 (.ld 1 false (.t 68)),o1 70 (.bin .eql (.t 69) (ci 28))]
abbrev xv:List AO:=
 [o1 10 (.mv (ci 1))]
abbrev xu:List AO:=
 [(mt 71 4),
  (mt 72 8),
  (mt 73 8),
  (mt 74 10),o1 75 (.bin .add (.t 73) (.t 74)),
  (o2 76 42 [.t 71,.t 72,.t 75]),
  (mt 4 76)]
abbrev xE:AC:=
 (.seq (.reg xB) (.seq (.seq (.reg xA) (.cond (.t 63) (.seq (.reg xz) .ret) .skip)) (.seq (.reg xy) (.seq (.seq (.reg xw) (.cond (.t 70) (.reg xv) .skip)) (.reg xu)))))
abbrev xG:AC:=
 (.block 3 xE)
abbrev xD:AC:=
 (.loop xG)
abbrev KD:AF:=⟨77,(.seq (.reg D9) (.seq (.reg D8) (.seq (.reg D7) (.seq (.seq (.reg D6) (.block 0 xF)) (.block 2 xD))))),[.mv (.t 2)]⟩
theorem Ea:bk Try.prog (ai Try.prog 24) 24=some KD:=by kernel_rfl
/-! optimizer.live-/
abbrev DY:List AO:=
 [o1 1 (.bx 25 0 (.t 0)),o1 2 (.mv (.c .sl0))]
abbrev DX:List AO:=
 [o1 17 (.fa 3 (.t 1)),o1 18 (.ld 1 false (.t 17)),
  (o2 19 55 [.t 18]),
  (mt 3 19)]
abbrev DW:List AO:=
 [o1 20 (.fa 3 (.t 1)),o1 21 (.ld 1 false (.t 20)),o1 22 (.len (.t 21)),o1 23 (.bin .add (.t 22) (ci 1)),o1 24 (.ms 78 1 24 [.sl0] (.t 23) (.t 23)),
  (mt 4 24)]
abbrev DV:List AO:=
 [(mt 25 4),o1 26 (.len (.t 25)),o1 27 (.mv (ci 0))]
abbrev DU:List AO:=
 [o1 28 (.bin .lss (.t 27) (.t 26))]
abbrev DT:List AO:=
 [(mt 29 27),
  (mt 5 29)]
abbrev DS:List AO:=
 [(mt 30 4),
  (mt 31 5),o1 32 (.fa 1 (.t 1)),o1 33 (.ld 1 false (.t 32)),o1 34 (.ms 4 1 1 [.b false] (.t 33) (.t 33)),o1 35 (.ia 1 (.t 30) (.t 31)),
  (o3 (.st 1 (.t 35) (.t 34)))]
abbrev D0:AC:=
 (.seq (.reg DT) (.reg DS))
abbrev DR:List AO:=
 [o1 36 (.bin .add (.t 27) (ci 1)),
  (mt 27 36)]
abbrev D1:AC:=
 (.seq (.reg DU) (.seq (.cond (.t 28) .skip (.exit 0)) (.seq (.block 1 D0) (.reg DR))))
abbrev xn:AC:=
 (.loop D1)
abbrev xc:List AO:=
 [o1 6 (.mv (.c (.b true)))]
abbrev xa:List AO:=
 [(mt 37 6)]
abbrev w8:List AO:=
 [o1 6 (.mv (.c (.b false)))]
abbrev w7:List AO:=
 [o1 38 (.fa 3 (.t 1)),o1 39 (.ld 1 false (.t 38)),o1 40 (.len (.t 39)),o1 41 (.bin .sub (.t 40) (ci 1)),
  (mt 7 41)]
abbrev w6:List AO:=
 [(mt 42 7),o1 43 (.bin .geq (.t 42) (ci 0))]
abbrev w5:List AO:=
 [o1 47 (.fa 3 (.t 1)),o1 48 (.ld 1 false (.t 47)),
  (mt 49 7),o1 50 (.ia 5 (.t 48) (.t 49)),o1 51 (.ld 5 true (.t 50)),
  (o2 52 58 [.t 51]),
  (mt 46 52),o1 53 (.ext 0 (.t 46)),o1 54 (.ext 1 (.t 46)),
  (mt 8 53),
  (mt 9 54)]
abbrev w3:List AO:=
 [(mt 55 4),
  (mt 56 7),o1 57 (.ia 1 (.t 55) (.t 56)),o1 58 (.ld 1 false (.t 57)),
  (o2 59 62 [.t 58]),
  (mt 10 59)]
abbrev wZ:List AO:=
 [o1 60 (.fa 3 (.t 1)),o1 61 (.ld 1 false (.t 60)),
  (mt 62 3),
  (mt 63 7),
  (o2 64 63 [.t 61,.t 62,.t 63]),o1 65 (.len (.t 64)),o1 66 (.mv (ci 0))]
abbrev wY:List AO:=
 [o1 67 (.bin .lss (.t 66) (.t 65))]
abbrev wX:List AO:=
 [o1 68 (.ia 1 (.t 64) (.t 66)),o1 69 (.ld 1 false (.t 68)),
  (mt 12 69)]
abbrev wW:List AO:=
 [(mt 70 4),
  (mt 71 12),o1 72 (.ia 1 (.t 70) (.t 71)),o1 73 (.ld 1 false (.t 72)),o1 74 (.len (.t 73)),o1 75 (.mv (ci 0))]
abbrev wV:List AO:=
 [o1 76 (.bin .lss (.t 75) (.t 74))]
abbrev wU:List AO:=
 [(mt 77 75),o1 78 (.ia 1 (.t 73) (.t 75)),o1 79 (.ld 1 false (.t 78)),
  (mt 13 77),
  (mt 14 79)]
abbrev wT:List AO:=
 [(mt 80 10),
  (mt 81 13),
  (mt 82 10),
  (mt 83 13),o1 84 (.ia 1 (.t 82) (.t 83)),o1 85 (.ld 1 false (.t 84)),
  (mt 86 85),
  (o4 87 86 (.mv (.t 14))),
  (o4 88 86 (.mv (.t 87))),
  (o5 89 88 (.mv (.t 13))),
  (o5 90 88 (.mv (.t 9))),
  (o5 91 88 (.bin .neq (.t 89) (.t 90))),
  (o4 92 86 (.pick (.t 88) (.t 91) (.c (.b false)))),o1 93 (.pick (.t 86) (.c (.b true)) (.t 92)),o1 94 (.ia 1 (.t 80) (.t 81)),
  (o3 (.st 1 (.t 94) (.t 93)))]
abbrev xm:AC:=
 (.seq (.reg wU) (.reg wT))
abbrev wS:List AO:=
 [o1 95 (.bin .add (.t 75) (ci 1)),
  (mt 75 95)]
abbrev xt:AC:=
 (.seq (.reg wV) (.seq (.cond (.t 76) .skip (.exit 8)) (.seq (.block 9 xm) (.reg wS))))
abbrev xl:AC:=
 (.loop xt)
abbrev xk:AC:=
 (.seq (.reg wX) (.seq (.reg wW) (.block 8 xl)))
abbrev wR:List AO:=
 [o1 96 (.bin .add (.t 66) (ci 1)),
  (mt 66 96)]
abbrev xr:AC:=
 (.seq (.reg wY) (.seq (.cond (.t 67) .skip (.exit 6)) (.seq (.block 7 xk) (.reg wR))))
abbrev xj:AC:=
 (.loop xr)
abbrev wQ:List AO:=
 [(mt 97 8),o1 98 (.len (.t 97)),o1 99 (.mv (ci 0))]
abbrev wP:List AO:=
 [o1 100 (.bin .lss (.t 99) (.t 98))]
abbrev wO:List AO:=
 [o1 101 (.ia 1 (.t 97) (.t 99)),o1 102 (.ld 1 false (.t 101)),
  (mt 16 102)]
abbrev wN:List AO:=
 [(mt 103 10),
  (mt 104 16),o1 105 (.ia 1 (.t 103) (.t 104)),
  (o3 (.st 1 (.t 105) (.c (.b true))))]
abbrev xi:AC:=
 (.seq (.reg wO) (.reg wN))
abbrev wM:List AO:=
 [o1 106 (.bin .add (.t 99) (ci 1)),
  (mt 99 106)]
abbrev xq:AC:=
 (.seq (.reg wP) (.seq (.cond (.t 100) .skip (.exit 10)) (.seq (.block 11 xi) (.reg wM))))
abbrev xh:AC:=
 (.loop xq)
abbrev wL:List AO:=
 [(mt 107 10),
  (mt 108 4),
  (mt 109 7),o1 110 (.ia 1 (.t 108) (.t 109)),o1 111 (.ld 1 false (.t 110)),
  (o2 112 64 [.t 107,.t 111]),o1 113 (.un .not (.t 112))]
abbrev wK:List AO:=
 [(mt 114 4),
  (mt 115 7),
  (mt 116 10),o1 117 (.ia 1 (.t 114) (.t 115)),
  (o3 (.st 1 (.t 117) (.t 116))),o1 6 (.mv (.c (.b true)))]
abbrev xg:AC:=
 (.seq (.reg w5) (.seq (.reg w3) (.seq (.seq (.reg wZ) (.block 6 xj)) (.seq (.seq (.reg wQ) (.block 10 xh)) (.seq (.reg wL) (.cond (.t 113) (.reg wK) .skip))))))
abbrev wJ:List AO:=
 [(mt 44 7),o1 45 (.bin .sub (.t 44) (ci 1)),
  (mt 7 45)]
abbrev xp:AC:=
 (.seq (.seq (.reg w6) (.cond (.t 43) .skip (.exit 4))) (.seq (.block 5 xg) (.reg wJ)))
abbrev xf:AC:=
 (.loop xp)
abbrev xe:AC:=
 (.seq (.reg w8) (.seq (.reg w7) (.block 4 xf)))
abbrev xo:AC:=
 (.seq (.seq (.reg xa) (.cond (.t 37) .skip (.exit 2))) (.block 3 xe))
abbrev xd:AC:=
 (.loop xo)
abbrev wI:List AO:=
 [(mt 118 4),
  (mt 2 118)]
abbrev KC:AF:=⟨119,(.seq (.reg DY) (.seq (.reg DX) (.seq (.reg DW) (.seq (.seq (.reg DV) (.block 0 xn)) (.seq (.seq (.reg xc) (.block 2 xd)) (.seq (.reg wI) .ret)))))),[.mv (.t 2)]⟩
theorem DZ:bk Try.prog (ai Try.prog 39) 39=some KC:=by kernel_rfl
/-! optimizer.hollow-/
abbrev DL:List AO:=
 [o1 2 (.mv (ci 0)),o1 3 (.mv (.c (.b false)))]
abbrev DJ:List AO:=
 [o1 4 (.mv (ci 0))]
abbrev DI:List AO:=
 [(mt 6 4),o1 7 (.bin .add (.t 6) (ci 1)),
  (mt 8 0),o1 9 (.len (.t 8)),o1 10 (.bin .lss (.t 7) (.t 9))]
abbrev DH:List AO:=
 [(mt 13 0),
  (mt 14 4),o1 15 (.ia 5 (.t 13) (.t 14)),o1 16 (.fa 0 (.t 15)),o1 17 (.ld 1 false (.t 16)),
  (mt 5 17)]
abbrev DG:List AO:=
 [(mt 18 0),
  (mt 19 4),o1 20 (.bin .add (.t 19) (ci 1)),o1 21 (.ia 5 (.t 18) (.t 20)),o1 22 (.fa 0 (.t 21)),o1 23 (.ld 1 false (.t 22)),o1 24 (.bin .eql (.t 23) (ci 31)),
  (mt 25 24),
  (o5 26 25 (.mv (.t 5))),
  (o5 27 25 (.bin .eql (.t 26) (ci 27))),
  (o5 28 25 (.mv (.t 27))),
  (o4 29 28 (.mv (.t 5))),
  (o4 30 28 (.bin .eql (.t 29) (ci 29))),
  (o5 31 25 (.pick (.t 28) (.c (.b true)) (.t 30))),
  (o5 32 25 (.mv (.t 31))),
  (o4 33 32 (.mv (.t 5))),
  (o4 34 32 (.bin .eql (.t 33) (ci 28))),
  (o5 35 25 (.pick (.t 32) (.c (.b true)) (.t 34))),o1 36 (.pick (.t 25) (.t 35) (.c (.b false)))]
abbrev DF:List AO:=
 [(mt 37 4),
  (mt 2 37),o1 3 (.mv (.c (.b true)))]
abbrev DP:AC:=
 (.seq (.reg DH) (.seq (.reg DG) (.cond (.t 36) (.seq (.reg DF) .ret) .skip)))
abbrev DE:List AO:=
 [(mt 11 4),o1 12 (.bin .add (.t 11) (ci 1)),
  (mt 4 12)]
abbrev DQ:AC:=
 (.seq (.seq (.reg DI) (.cond (.t 10) .skip (.exit 0))) (.seq (.block 1 DP) (.reg DE)))
abbrev DN:AC:=
 (.loop DQ)
abbrev wH:List AO:=
 [o1 2 (.mv (ci 0)),o1 3 (.mv (.c (.b false)))]
abbrev KB:AF:=⟨38,(.seq (.reg DL) (.seq (.seq (.reg DJ) (.block 0 DN)) (.seq (.reg wH) .ret))),[.mv (.t 2),.mv (.t 3)]⟩
theorem DM:bk Try.prog (ai Try.prog 41) 41=some KB:=by kernel_rfl
/-! slices.Clone[[]bool,bool]-/
abbrev DC:List AO:=
 [o1 2 (.mv (.c .sl0))]
abbrev DB:List AO:=
 [(mt 3 0),⟨some 4,none,.sn false (.t 3)⟩]
abbrev DA:List AO:=
 [o1 2 (.mv (.c .sl0))]
abbrev Dz:List AO:=
 [o1 5 (.bs 4 1 0 [] []),
  (mt 6 0),o1 7 (.app 4 1 1 (.t 5) (.t 6)),
  (mt 2 7)]
abbrev KA:AF:=⟨8,(.seq (.reg DC) (.seq (.seq (.reg DB) (.cond (.t 4) (.seq (.reg DA) .ret) .skip)) (.seq (.reg Dz) .ret))),[.mv (.t 2)]⟩
theorem DD:bk Try.prog (ai Try.prog 62) 62=some KA:=by kernel_rfl
/-! optimizer.following-/
abbrev Dw:List AO:=
 [o1 6 (.mv (.c .sl0))]
abbrev Dv:List AO:=
 [(mt 9 1),
  (mt 10 2),o1 11 (.ia 1 (.t 9) (.t 10)),o1 12 (.ld 1 false (.t 11)),
  (mt 7 12)]
abbrev Du:List AO:=
 [(mt 13 0),
  (mt 14 2),o1 15 (.ia 5 (.t 13) (.t 14)),o1 16 (.fa 0 (.t 15)),o1 17 (.ld 1 false (.t 16)),
  (mt 8 17)]
abbrev Dt:List AO:=
 [(mt 19 8),o1 20 (.bin .eql (.t 19) (ci 28)),
  (mt 18 20)]
abbrev Ds:List AO:=
 [(mt 21 7),o1 22 (.bin .add (.t 21) (ci 1)),o1 23 (.bs 3 1 1 [.n .i64 0] [(0,1,(.t 22))]),
  (mt 6 23)]
abbrev Dr:List AO:=
 [(mt 25 8),o1 26 (.bin .eql (.t 25) (ci 27)),
  (mt 27 26),
  (o4 28 27 (.mv (.t 8))),
  (o4 29 27 (.bin .eql (.t 28) (ci 29))),o1 30 (.pick (.t 27) (.c (.b true)) (.t 29)),
  (mt 31 30),
  (o4 32 31 (.mv (.t 8))),
  (o4 33 31 (.bin .eql (.t 32) (ci 30))),o1 34 (.pick (.t 31) (.c (.b true)) (.t 33)),
  (mt 35 34),
  (o4 36 35 (.mv (.t 8))),
  (o4 37 35 (.bin .eql (.t 36) (ci 31))),
  (o4 38 35 (.mv (.t 37))),
  (o5 39 38 (.mv (.t 0))),
  (o5 40 38 (.mv (.t 7))),
  (o5 41 38 (.ia 5 (.t 39) (.t 40))),
  (o5 42 38 (.fa 0 (.t 41))),
  (o5 43 38 (.ld 1 false (.t 42))),
  (o5 44 38 (.bin .eql (.t 43) (ci 29))),
  (o4 45 35 (.pick (.t 38) (.t 44) (.c (.b false)))),o1 46 (.pick (.t 35) (.c (.b true)) (.t 45)),
  (mt 24 46)]
abbrev Dq:List AO:=
 [(mt 47 2),o1 48 (.bin .add (.t 47) (ci 1)),
  (mt 49 7),o1 50 (.bin .add (.t 49) (ci 1)),o1 51 (.bs 3 1 2 [.n .i64 0,.n .i64 0] [(0,1,(.t 48)),(1,1,(.t 50))]),
  (mt 6 51)]
abbrev Dy:AC:=
 (.seq (.reg Dt) (.cond (.t 18) (.seq (.reg Ds) .ret) (.seq (.reg Dr) (.cond (.t 24) (.seq (.reg Dq) .ret) .skip))))
abbrev Dp:List AO:=
 [(mt 52 2),o1 53 (.bin .add (.t 52) (ci 1)),o1 54 (.bs 3 1 1 [.n .i64 0] [(0,1,(.t 53))]),
  (mt 6 54)]
abbrev Kz:AF:=⟨55,(.seq (.reg Dw) (.seq (.reg Dv) (.seq (.seq (.reg Du) (.block 0 Dy)) (.seq (.reg Dp) .ret)))),[.mv (.t 6)]⟩
theorem Dx:bk Try.prog (ai Try.prog 63) 63=some Kz:=by kernel_rfl
/-! slices.Equal[[]bool,bool]-/
abbrev Dk:List AO:=
 [o1 4 (.mv (.c (.b false)))]
abbrev Dj:List AO:=
 [(mt 6 0),o1 7 (.len (.t 6)),
  (mt 8 1),o1 9 (.len (.t 8)),o1 10 (.bin .neq (.t 7) (.t 9))]
abbrev Di:List AO:=
 [o1 4 (.mv (.c (.b false)))]
abbrev Dh:List AO:=
 [(mt 11 0),o1 12 (.len (.t 11)),o1 13 (.mv (ci 0))]
abbrev Dg:List AO:=
 [o1 14 (.bin .lss (.t 13) (.t 12))]
abbrev Df:List AO:=
 [(mt 15 13),
  (mt 5 15)]
abbrev Dm:List (Nat×AO):=
 [(2,(mt 16 0)),
  (2,(mt 17 5)),(2,(o1 18 (.ia 1 (.t 16) (.t 17)))),
  (2,(mt 20 1)),
  (2,(mt 21 5)),(2,(o1 22 (.ia 1 (.t 20) (.t 21)))),(1,(o1 19 (.ld 1 false (.t 18)))),(1,(o1 23 (.ld 1 false (.t 22)))),(2,(o1 24 (.eq true .b (.t 19) (.t 23))))]
abbrev De:List AO:=
 [o1 4 (.mv (.c (.b false)))]
abbrev Dn:AC:=
 (.seq (.reg Df) (.seq (.mix Dm) (.cond (.t 24) (.seq (.reg De) .ret) .skip)))
abbrev Dd:List AO:=
 [o1 25 (.bin .add (.t 13) (ci 1)),
  (mt 13 25)]
abbrev wG:AC:=
 (.seq (.reg Dg) (.seq (.cond (.t 14) .skip (.exit 0)) (.seq (.block 1 Dn) (.reg Dd))))
abbrev wF:AC:=
 (.loop wG)
abbrev wE:List AO:=
 [o1 4 (.mv (.c (.b true)))]
abbrev Ky:AF:=⟨26,(.seq (.reg Dk) (.seq (.seq (.reg Dj) (.cond (.t 10) (.seq (.reg Di) .ret) .skip)) (.seq (.seq (.reg Dh) (.block 0 wF)) (.seq (.reg wE) .ret)))),[.mv (.t 4)]⟩
theorem Dl:bk Try.prog (ai Try.prog 64) 64=some Ky:=by kernel_rfl
/-! compactorref24.Prune-/
/-! compactorref24.live-/
/-! compactorref24.idle-/
/-! compactorref24.empty-/
/-! compactorref24.successors-/
/-! compactorlaw24.OptimizerPrunes-/
/-! optimizer.Share-/
abbrev Db:List AO:=
 [o1 1 (.bx 25 0 (.t 0)),o1 2 (.al 25 [.sl0,.n .i64 0,.n .i64 0,.sl0]),o1 3 (.mv (ci 0))]
abbrev Da:List AO:=
 [o1 4 (.ld 4 true (.t 1)),
  (o2 5 22 [.t 4,(.c (.f 27 [] []))]),o1 6 (.ext 0 (.t 5)),o1 7 (.ext 1 (.t 5)),
  (o3 (.st 4 (.t 2) (.t 6))),
  (mt 3 7)]
abbrev Kx:AF:=⟨8,(.seq (.reg Db) (.seq (.reg Da) .ret)),[.ld 4 true (.t 2),.mv (.t 3)]⟩
theorem Dc:bk Try.prog (ai Try.prog 15) 15=some Kx:=by kernel_rfl
/-! optimizer.share-/
abbrev C8:List AO:=
 [o1 1 (.bx 25 0 (.t 0)),o1 2 (.mv (.c .sl0))]
abbrev C7:List AO:=
 [o1 3 (.fa 3 (.t 1)),o1 4 (.ld 1 false (.t 3)),o1 5 (.bd [.f0,.f0] [(0,1,(.c (.f 48 [] []))),(1,1,(.c (.f 49 [] [])))]),
  (o2 6 47 [.t 4,(.c .sl0),.t 5]),
  (mt 2 6)]
abbrev Kw:AF:=⟨7,(.seq (.reg C8) (.seq (.reg C7) .ret)),[.mv (.t 2)]⟩
theorem C9:bk Try.prog (ai Try.prog 27) 27=some Kw:=by kernel_rfl
/-! optimizer.walk[optimizer.value]-/
abbrev C5:List AO:=
 [o1 5 (.bx 99 0 (.t 2)),o1 6 (.mv (.c .sl0))]
abbrev C4:List AO:=
 [(mt 16 0),
  (o2 17 55 [.t 16]),
  (mt 7 17)]
abbrev C3:List AO:=
 [o1 8 (.mv (.c .sl0))]
abbrev C2:List AO:=
 [o1 9 (.mv (.c .sl0))]
abbrev C1:List AO:=
 [(mt 18 0),o1 19 (.len (.t 18)),o1 20 (.mv (ci 0))]
abbrev C0:List AO:=
 [o1 21 (.bin .lss (.t 20) (.t 19))]
abbrev CZ:List AO:=
 [(mt 22 20),o1 23 (.ia 5 (.t 18) (.t 20)),o1 24 (.ld 5 true (.t 23)),o1 11 (.al 38 [.n .i64 0,.n .i64 0,.n .i64 0,.n .i64 0,.n .u32 0]),
  (mt 10 22),
  (o3 (.st 5 (.t 11) (.t 24)))]
abbrev CY:List AO:=
 [o1 26 (.fa 1 (.t 5)),o1 27 (.ld 1 false (.t 26)),o1 28 (.ld 5 true (.t 11)),
  (mt 29 1),⟨some 30,none,.cl (.t 27) [.t 28,.t 29]⟩,
  (mt 25 30),o1 31 (.ext 0 (.t 25)),o1 32 (.ext 1 (.t 25)),o1 33 (.ext 2 (.t 25)),o1 12 (.al 38 [.n .i64 0,.n .i64 0,.n .i64 0,.n .i64 0,.n .u32 0]),
  (o3 (.st 5 (.t 12) (.t 31))),
  (mt 13 32),
  (mt 14 33)]
abbrev CX:List AO:=
 [(mt 34 13),o1 35 (.un .not (.t 34))]
abbrev CW:List AO:=
 [(mt 36 9),o1 37 (.len (.t 36)),o1 38 (.bin .sub (.t 37) (ci 1)),
  (mt 15 38)]
abbrev ww:List AO:=
 [o1 40 (.fa 0 (.t 11)),o1 41 (.ld 1 false (.t 40)),o1 42 (.bin .eql (.t 41) (ci 27)),
  (mt 39 42)]
abbrev wv:List AO:=
 [(mt 43 9),
  (mt 44 1),o1 45 (.bs 93 1 1 [.sl0] [(0,1,(.t 44))]),o1 46 (.app 93 1 24 (.t 43) (.t 45)),
  (mt 9 46)]
abbrev wu:List AO:=
 [o1 48 (.fa 0 (.t 11)),o1 49 (.ld 1 false (.t 48)),o1 50 (.bin .eql (.t 49) (ci 28)),
  (mt 47 50)]
abbrev wt:List AO:=
 [(mt 51 9),
  (mt 52 15),
  (mt 53 1),
  (mt 54 9),
  (mt 55 15),o1 56 (.ia 1 (.t 54) (.t 55)),o1 57 (.ld 1 false (.t 56)),o1 58 (.ia 1 (.t 51) (.t 52)),
  (o3 (.st 1 (.t 58) (.t 53))),
  (mt 1 57)]
abbrev wq:List AO:=
 [o1 60 (.fa 0 (.t 11)),o1 61 (.ld 1 false (.t 60)),o1 62 (.bin .eql (.t 61) (ci 29)),
  (mt 59 62)]
abbrev wz:List (Nat×AO):=
 [(2,(mt 63 1)),
  (2,(mt 65 0)),
  (2,(mt 66 10)),
  (2,(mt 67 7)),
  (2,(mt 68 10)),(2,(o1 69 (.ia 1 (.t 67) (.t 68)))),(1,(o1 64 (.ld 2 true (.t 5)))),(1,(o1 70 (.ld 1 false (.t 69)))),(2,(o1 71 (.sl 5 (.t 65) (some (.t 66)) (some (.t 70))))),
  (3,(o2 72 67 [.t 63,.t 64,.t 71])),
  (2,(mt 1 72))]
abbrev wm:List AO:=
 [o1 74 (.fa 0 (.t 11)),o1 75 (.ld 1 false (.t 74)),o1 76 (.bin .eql (.t 75) (ci 31)),
  (mt 77 76),
  (o5 78 77 (.mv (.t 0))),
  (o5 79 77 (.mv (.t 7))),
  (o5 80 77 (.mv (.t 10))),
  (o5 81 77 (.ia 1 (.t 79) (.t 80))),
  (o5 82 77 (.ld 1 false (.t 81))),
  (o5 83 77 (.ia 5 (.t 78) (.t 82))),
  (o5 84 77 (.fa 0 (.t 83))),
  (o5 85 77 (.ld 1 false (.t 84))),
  (o5 86 77 (.bin .eql (.t 85) (ci 29))),o1 87 (.pick (.t 77) (.t 86) (.c (.b false))),
  (mt 73 87)]
abbrev wy:List (Nat×AO):=
 [(2,(mt 88 1)),
  (2,(mt 90 0)),
  (2,(mt 91 7)),
  (2,(mt 92 10)),(2,(o1 93 (.ia 1 (.t 91) (.t 92)))),
  (2,(mt 95 10)),(1,(o1 89 (.ld 2 true (.t 5)))),(1,(o1 94 (.ld 1 false (.t 93)))),(2,(o1 96 (.sl 5 (.t 90) (some (.t 94)) (some (.t 95))))),
  (3,(o2 97 67 [.t 88,.t 89,.t 96])),
  (2,(mt 1 97))]
abbrev wl:List AO:=
 [o1 99 (.fa 0 (.t 11)),o1 100 (.ld 1 false (.t 99)),o1 101 (.bin .eql (.t 100) (ci 31)),
  (mt 98 101)]
abbrev wx:List (Nat×AO):=
 [(2,(mt 102 1)),
  (2,(mt 103 9)),
  (2,(mt 104 15)),(2,(o1 105 (.ia 1 (.t 103) (.t 104)))),
  (2,(mt 108 9)),
  (2,(mt 109 15)),(2,(o1 110 (.sl 1 (.t 108) none (some (.t 109))))),(1,(o1 106 (.ld 1 false (.t 105)))),
  (3,(o2 107 68 [.t 102,.t 106])),
  (2,(mt 1 107)),
  (2,(mt 9 110))]
abbrev wC:AC:=
 (.seq (.reg ww) (.cond (.t 39) (.reg wv) (.seq (.reg wu) (.cond (.t 47) (.reg wt) (.seq (.reg wq) (.cond (.t 59) (.mix wz) (.seq (.reg wm) (.cond (.t 73) (.mix wy) (.seq (.reg wl) (.cond (.t 98) (.mix wx) .skip))))))))))
abbrev wj:List AO:=
 [(mt 111 1),o1 112 (.ld 2 true (.t 5)),o1 113 (.ld 5 true (.t 12)),o1 114 (.bs 38 5 1 [.n .i64 0,.n .i64 0,.n .i64 0,.n .i64 0,.n .u32 0] [(0,5,(.t 113))]),
  (o2 115 67 [.t 111,.t 112,.t 114]),
  (mt 116 14),o1 117 (.app 91 5 40 (.t 115) (.t 116)),
  (mt 1 117)]
abbrev wi:List AO:=
 [(mt 118 8),o1 119 (.ld 5 true (.t 12)),o1 120 (.bs 38 5 1 [.n .i64 0,.n .i64 0,.n .i64 0,.n .i64 0,.n .u32 0] [(0,5,(.t 119))]),o1 121 (.app 38 5 40 (.t 118) (.t 120)),
  (mt 8 121)]
abbrev wB:AC:=
 (.seq (.reg CZ) (.seq (.reg CY) (.seq (.seq (.reg CX) (.cond (.t 35) (.exit 1) .skip)) (.seq (.reg CW) (.seq (.block 2 wC) (.seq (.reg wj) (.reg wi)))))))
abbrev wh:List AO:=
 [o1 122 (.bin .add (.t 20) (ci 1)),
  (mt 20 122)]
abbrev wD:AC:=
 (.seq (.reg C0) (.seq (.cond (.t 21) .skip (.exit 0)) (.seq (.block 1 wB) (.reg wh))))
abbrev wA:AC:=
 (.loop wD)
abbrev wg:List AO:=
 [(mt 123 8),
  (mt 6 123)]
abbrev Kv:AF:=⟨124,(.seq (.reg C5) (.seq (.reg C4) (.seq (.reg C3) (.seq (.reg C2) (.seq (.seq (.reg C1) (.block 0 wA)) (.seq (.reg wg) .ret)))))),[.mv (.t 6)]⟩
theorem C6:bk Try.prog (ai Try.prog 47) 47=some Kv:=by kernel_rfl
/-! optimizer.share$1-/
abbrev CT:List AO:=
 [o1 2 (.bx 38 0 (.t 0)),o1 3 (.bx 91 0 (.t 1)),o1 4 (.mv (.c (.b false)))]
abbrev CS:List AO:=
 [o1 6 (.ld 5 true (.t 2)),
  (o2 7 36 [.t 6]),
  (mt 5 7)]
abbrev CR:List AO:=
 [(mt 8 5),o1 9 (.bin .geq (.t 8) (ci 0)),
  (mt 10 9),
  (o5 11 10 (.mv (.t 5))),
  (o5 12 10 (.fa 0 (.t 3))),
  (o5 13 10 (.fa 1 (.t 12))),
  (o5 14 10 (.ld 1 false (.t 13))),
  (o5 15 10 (.bin .eql (.t 11) (.t 14))),
  (o5 16 10 (.mv (.t 15))),
  (o4 17 16 (.mv (.t 5))),
  (o4 18 16 (.fa 0 (.t 3))),
  (o4 19 16 (.fa 2 (.t 18))),
  (o4 20 16 (.ld 1 false (.t 19))),
  (o4 21 16 (.bin .eql (.t 17) (.t 20))),
  (o5 22 10 (.pick (.t 16) (.c (.b true)) (.t 21))),
  (o5 23 10 (.mv (.t 22))),
  (o4 24 23 (.mv (.t 5))),
  (o4 25 23 (.fa 0 (.t 3))),
  (o4 26 23 (.fa 3 (.t 25))),
  (o4 27 23 (.ld 1 false (.t 26))),
  (o4 28 23 (.bin .eql (.t 24) (.t 27))),
  (o5 29 10 (.pick (.t 23) (.c (.b true)) (.t 28))),o1 30 (.pick (.t 10) (.t 29) (.c (.b false)))]
abbrev CQ:List AO:=
 [o1 4 (.mv (.c (.b true)))]
abbrev CP:List AO:=
 [o1 31 (.fa 0 (.t 2)),o1 32 (.ld 1 false (.t 31)),o1 33 (.bin .eql (.t 32) (ci 4)),
  (mt 34 33),
  (o5 35 34 (.fa 0 (.t 3))),
  (o5 36 34 (.fa 0 (.t 35))),
  (o5 37 34 (.ld 1 false (.t 36))),
  (o5 38 34 (.bin .eql (.t 37) (ci 3))),o1 39 (.pick (.t 34) (.t 38) (.c (.b false))),
  (mt 40 39),
  (o5 41 40 (.fa 4 (.t 2))),
  (o5 42 40 (.ld 1 false (.t 41))),
  (o5 43 40 (.fa 0 (.t 3))),
  (o5 44 40 (.fa 4 (.t 43))),
  (o5 45 40 (.ld 1 false (.t 44))),
  (o5 46 40 (.bin .eql (.t 42) (.t 45))),o1 47 (.pick (.t 40) (.t 46) (.c (.b false))),
  (mt 4 47)]
abbrev Kj:AF:=⟨48,(.seq (.reg CT) (.seq (.seq (.reg CS) (.seq (.reg CR) (.cond (.t 30) (.seq (.reg CQ) .ret) .skip))) (.seq (.reg CP) .ret))),[.mv (.t 4)]⟩
theorem CU:bk Try.prog (ai Try.prog 48) 48=some Kj:=by kernel_rfl
/-! optimizer.share$2-/
abbrev CM:List AO:=
 [o1 2 (.bx 38 0 (.t 0)),o1 4 (.al 38 [.n .i64 0,.n .i64 0,.n .i64 0,.n .i64 0,.n .u32 0]),o1 5 (.mv (.c (.b false))),o1 6 (.mv (.c .sl0))]
abbrev CL:List AO:=
 [o1 8 (.fa 0 (.t 2)),o1 9 (.ld 1 false (.t 8)),
  (o2 10 40 [.t 9]),o1 11 (.un .not (.t 10))]
abbrev CK:List AO:=
 [o1 12 (.ld 5 true (.t 2)),
  (o3 (.st 5 (.t 4) (.t 12))),o1 5 (.mv (.c (.b true))),o1 6 (.mv (.c .sl0))]
abbrev CJ:List AO:=
 [(mt 13 1),o1 14 (.mf 51 [] [.t 2]),
  (o2 15 50 [.t 13,.t 14]),
  (mt 7 15)]
abbrev CO:List (Nat×AO):=
 [(2,(mt 17 7)),(2,(o1 18 (.bin .geq (.t 17) (ci 0)))),
  (2,(mt 19 18)),
  (2,(o5 20 19 (.mv (.t 1)))),
  (2,(o5 21 19 (.mv (.t 7)))),
  (2,(o5 22 19 (.ia 5 (.t 20) (.t 21)))),
  (2,(o5 23 19 (.fa 0 (.t 22)))),
  (2,(o5 24 19 (.fa 1 (.t 23)))),
  (2,(o5 26 19 (.fa 1 (.t 2)))),
  (1,(o5 25 19 (.ld 1 false (.t 24)))),
  (1,(o5 27 19 (.ld 1 false (.t 26)))),
  (2,(o5 28 19 (.bin .eql (.t 25) (.t 27)))),(2,(o1 29 (.pick (.t 19) (.t 28) (.c (.b false))))),
  (2,(mt 16 29))]
abbrev CI:List AO:=
 [o1 30 (.ld 5 true (.t 2)),
  (o3 (.st 5 (.t 4) (.t 30))),o1 5 (.mv (.c (.b false))),o1 6 (.mv (.c .sl0))]
abbrev CH:List AO:=
 [(mt 32 7),o1 33 (.bin .geq (.t 32) (ci 0)),
  (mt 31 33)]
abbrev CN:List (Nat×AO):=
 [(2,(o1 34 (.fa 1 (.t 2)))),
  (2,(mt 36 1)),
  (2,(mt 37 7)),(2,(o1 38 (.ia 5 (.t 36) (.t 37)))),(2,(o1 39 (.fa 0 (.t 38)))),(2,(o1 40 (.fa 1 (.t 39)))),(1,(o1 35 (.ld 1 false (.t 34)))),(1,(o1 41 (.ld 1 false (.t 40)))),(2,(o1 42 (.bd [.n .i64 0,.n .i64 0,.n .i64 0,.n .i64 0,.n .u32 0] [(0,1,(ci 36)),(1,1,(.t 35)),(2,1,(.t 41)),(3,1,(.c (.n .i64 (-1))))]))),
  (3,(o3 (.st 5 (.t 4) (.t 42)))),(2,(o1 5 (.mv (.c (.b true))))),(2,(o1 6 (.mv (.c .sl0))))]
abbrev CG:List AO:=
 [o1 44 (.fa 1 (.t 2)),o1 45 (.ld 1 false (.t 44)),o1 46 (.fa 2 (.t 2)),o1 47 (.ld 1 false (.t 46)),o1 48 (.bin .eql (.t 45) (.t 47)),
  (mt 49 48),
  (o4 50 49 (.fa 1 (.t 2))),
  (o4 51 49 (.ld 1 false (.t 50))),
  (o4 52 49 (.fa 3 (.t 2))),
  (o4 53 49 (.ld 1 false (.t 52))),
  (o4 54 49 (.bin .eql (.t 51) (.t 53))),o1 55 (.pick (.t 49) (.c (.b true)) (.t 54)),
  (mt 43 55)]
abbrev CF:List AO:=
 [o1 56 (.ld 5 true (.t 2)),
  (o3 (.st 5 (.t 4) (.t 56))),o1 5 (.mv (.c (.b true))),o1 6 (.mv (.c .sl0))]
abbrev we:AC:=
 (.seq (.mix CO) (.cond (.t 16) (.seq (.reg CI) .ret) (.seq (.reg CH) (.cond (.t 31) (.seq (.mix CN) .ret) (.seq (.reg CG) (.cond (.t 43) (.seq (.reg CF) .ret) .skip))))))
abbrev wc:List (Nat×AO):=
 [(1,(o1 57 (.ld 5 true (.t 2)))),(1,(o1 58 (.ld 5 true (.t 2)))),(2,(o1 59 (.bd [.n .i64 0,.n .i64 0,.n .i64 0,.n .i64 0,.n .u32 0] [(0,5,(.t 58))])))]
abbrev wb:AT:=
 (.alt (o1 60 (.bs 91 5 1 [.n .i64 0,.n .i64 0,.n .i64 0,.n .i64 0,.n .u32 0] [(0,5,(.t 59))])) (.alt (o3 (.st 5 (.t 4) (.t 57))) (.alt (o1 5 (.mv (.c (.b true)))) (.alt (mt 6 60) .fin .none) .none) .none) (.alt (o3 (.st 5 (.t 4) (.t 57))) (.alt (o1 60 (.bs 91 5 1 [.n .i64 0,.n .i64 0,.n .i64 0,.n .i64 0,.n .u32 0] [(0,5,(.t 59))])) (.alt (o1 5 (.mv (.c (.b true)))) (.alt (mt 6 60) .fin .none) .none) (.alt (o1 5 (.mv (.c (.b true)))) (.alt (o1 60 (.bs 91 5 1 [.n .i64 0,.n .i64 0,.n .i64 0,.n .i64 0,.n .u32 0] [(0,5,(.t 59))])) (.alt (mt 6 60) .fin .none) .none) .none)) .none))
abbrev Ki:AF:=⟨61,(.seq (.reg CM) (.seq (.seq (.reg CL) (.cond (.t 11) (.seq (.reg CK) .ret) .skip)) (.seq (.reg CJ) (.seq (.block 0 we) (.seq (.frk wc wb) .ret))))),[.ld 5 true (.t 4),.mv (.t 5),.mv (.t 6)]⟩
theorem mj:bk Try.prog (ai Try.prog 49) 49=some Ki:=by kernel_rfl
/-! optimizer.expression-/
abbrev CD:List AO:=
 [o1 2 (.mv (.c (.b false)))]
abbrev CC:List AO:=
 [(mt 3 0),
  (o2 4 59 [.t 3]),
  (mt 5 4),
  (o4 6 5 (.mv (.t 0))),
  (o4 7 5 (.bin .eql (.t 6) (ci 3))),o1 8 (.pick (.t 5) (.c (.b true)) (.t 7)),
  (mt 9 8),
  (o4 10 9 (.mv (.t 0))),
  (o4 11 9 (.bin .eql (.t 10) (ci 32))),o1 12 (.pick (.t 9) (.c (.b true)) (.t 11)),
  (mt 13 12),
  (o4 14 13 (.mv (.t 0))),
  (o4 15 13 (.bin .eql (.t 14) (ci 33))),o1 16 (.pick (.t 13) (.c (.b true)) (.t 15)),
  (mt 2 16)]
abbrev Kh:AF:=⟨17,(.seq (.reg CD) (.seq (.reg CC) .ret)),[.mv (.t 2)]⟩
theorem CE:bk Try.prog (ai Try.prog 40) 40=some Kh:=by kernel_rfl
/-! slices.IndexFunc[[]optimizer.value,optimizer.value]-/
abbrev Cx:List AO:=
 [o1 4 (.mv (ci 0))]
abbrev Cw:List AO:=
 [(mt 6 0),o1 7 (.len (.t 6)),o1 8 (.mv (ci 0))]
abbrev Cu:List AO:=
 [o1 9 (.bin .lss (.t 8) (.t 7))]
abbrev Ct:List AO:=
 [(mt 10 8),
  (mt 5 10)]
abbrev Cs:List AO:=
 [(mt 11 1),
  (mt 12 0),
  (mt 13 5),o1 14 (.ia 5 (.t 12) (.t 13)),o1 15 (.ld 5 true (.t 14)),⟨some 16,none,.cl (.t 11) [.t 15]⟩]
abbrev Cr:List AO:=
 [(mt 17 5),
  (mt 4 17)]
abbrev CA:AC:=
 (.seq (.reg Ct) (.seq (.reg Cs) (.cond (.t 16) (.seq (.reg Cr) .ret) .skip)))
abbrev Cq:List AO:=
 [o1 18 (.bin .add (.t 8) (ci 1)),
  (mt 8 18)]
abbrev CB:AC:=
 (.seq (.reg Cu) (.seq (.cond (.t 9) .skip (.exit 0)) (.seq (.block 1 CA) (.reg Cq))))
abbrev Cz:AC:=
 (.loop CB)
abbrev wa:List AO:=
 [o1 4 (.mv (.c (.n .i64 (-1))))]
abbrev Kg:AF:=⟨19,(.seq (.reg Cx) (.seq (.seq (.reg Cw) (.block 0 Cz)) (.seq (.reg wa) .ret))),[.mv (.t 4)]⟩
theorem Cy:bk Try.prog (ai Try.prog 50) 50=some Kg:=by kernel_rfl
/-! optimizer.share$2$1-/
abbrev Co:List AO:=
 [o1 2 (.bx 91 0 (.t 0)),o1 3 (.mv (.c (.b false)))]
abbrev Cn:List AO:=
 [o1 4 (.ld 5 true (.t 2)),o1 5 (.ld 5 true (.t 1)),
  (o2 6 52 [.t 4,.t 5]),
  (mt 3 6)]
abbrev Kf:AF:=⟨7,(.seq (.reg Co) (.seq (.reg Cn) .ret)),[.mv (.t 3)]⟩
theorem Cp:bk Try.prog (ai Try.prog 51) 51=some Kf:=by kernel_rfl
/-! optimizer.value.computes-/
abbrev Cl:List AO:=
 [o1 2 (.bx 91 0 (.t 0)),o1 3 (.bx 38 0 (.t 1)),o1 4 (.mv (.c (.b false)))]
abbrev Ck:List AO:=
 [o1 5 (.fa 0 (.t 2)),o1 6 (.fa 1 (.t 5)),o1 7 (.ld 1 false (.t 6)),o1 8 (.fa 1 (.t 3)),
  (o3 (.st 1 (.t 8) (.t 7)))]
abbrev Cj:List AO:=
 [o1 9 (.fa 0 (.t 2)),o1 10 (.ld 5 true (.t 9)),o1 11 (.ld 5 true (.t 3)),o1 12 (.eq false (.st [(0,1,.n),(1,1,.n),(2,1,.n),(3,1,.n),(4,1,.n)]) (.t 10) (.t 11)),
  (mt 4 12)]
abbrev Ke:AF:=⟨13,(.seq (.reg Cl) (.seq (.reg Ck) (.seq (.reg Cj) .ret))),[.mv (.t 4)]⟩
theorem Cm:bk Try.prog (ai Try.prog 52) 52=some Ke:=by kernel_rfl
/-! optimizer.without[optimizer.value]-/
abbrev Cf:List AO:=
 [o1 4 (.bx 99 0 (.t 1)),o1 6 (.mv (.c .sl0))]
abbrev Ce:List AO:=
 [o1 7 (.mv (.c .sl0))]
abbrev Cd:List AO:=
 [(mt 10 0),o1 11 (.len (.t 10)),o1 12 (.mv (ci 0))]
abbrev Cc:List AO:=
 [o1 13 (.bin .lss (.t 12) (.t 11))]
abbrev Cb:List AO:=
 [o1 14 (.ia 5 (.t 10) (.t 12)),o1 15 (.ld 5 true (.t 14)),o1 9 (.al 91 [.n .i64 0,.n .i64 0,.n .i64 0,.n .i64 0,.n .u32 0]),
  (o3 (.st 5 (.t 9) (.t 15)))]
abbrev Ca:List AO:=
 [(mt 16 2),o1 17 (.mf 78 [] [.t 4,.t 9]),
  (o2 18 69 [.t 16,.t 17]),o1 19 (.un .not (.t 18))]
abbrev B9:List AO:=
 [(mt 20 7),o1 21 (.ld 5 true (.t 9)),o1 22 (.bs 91 5 1 [.n .i64 0,.n .i64 0,.n .i64 0,.n .i64 0,.n .u32 0] [(0,5,(.t 21))]),o1 23 (.app 91 5 40 (.t 20) (.t 22)),
  (mt 7 23)]
abbrev Ch:AC:=
 (.seq (.reg Cb) (.seq (.reg Ca) (.cond (.t 19) (.reg B9) .skip)))
abbrev B8:List AO:=
 [o1 24 (.bin .add (.t 12) (ci 1)),
  (mt 12 24)]
abbrev Ci:AC:=
 (.seq (.reg Cc) (.seq (.cond (.t 13) .skip (.exit 0)) (.seq (.block 1 Ch) (.reg B8))))
abbrev v9:AC:=
 (.loop Ci)
abbrev v8:List AO:=
 [(mt 25 7),
  (mt 6 25)]
abbrev Kd:AF:=⟨26,(.seq (.reg Cf) (.seq (.reg Ce) (.seq (.seq (.reg Cd) (.block 0 v9)) (.seq (.reg v8) .ret)))),[.mv (.t 6)]⟩
theorem Cg:bk Try.prog (ai Try.prog 67) 67=some Kd:=by kernel_rfl
/-! optimizer.both[optimizer.value]-/
abbrev B4:List AO:=
 [o1 4 (.mv (.c .sl0))]
abbrev B3:List AO:=
 [o1 5 (.mv (.c .sl0))]
abbrev B2:List AO:=
 [(mt 8 0),o1 9 (.len (.t 8)),o1 10 (.mv (ci 0))]
abbrev B1:List AO:=
 [o1 11 (.bin .lss (.t 10) (.t 9))]
abbrev B0:List AO:=
 [o1 12 (.ia 5 (.t 8) (.t 10)),o1 13 (.ld 5 true (.t 12)),o1 7 (.al 91 [.n .i64 0,.n .i64 0,.n .i64 0,.n .i64 0,.n .u32 0]),
  (o3 (.st 5 (.t 7) (.t 13)))]
abbrev BZ:List AO:=
 [(mt 14 1),o1 15 (.ld 5 true (.t 7)),
  (o2 16 79 [.t 14,.t 15])]
abbrev BW:List AO:=
 [(mt 17 5),o1 18 (.ld 5 true (.t 7)),o1 19 (.bs 91 5 1 [.n .i64 0,.n .i64 0,.n .i64 0,.n .i64 0,.n .u32 0] [(0,5,(.t 18))]),o1 20 (.app 91 5 40 (.t 17) (.t 19)),
  (mt 5 20)]
abbrev B6:AC:=
 (.seq (.reg B0) (.seq (.reg BZ) (.cond (.t 16) (.reg BW) .skip)))
abbrev BV:List AO:=
 [o1 21 (.bin .add (.t 10) (ci 1)),
  (mt 10 21)]
abbrev B7:AC:=
 (.seq (.reg B1) (.seq (.cond (.t 11) .skip (.exit 0)) (.seq (.block 1 B6) (.reg BV))))
abbrev v7:AC:=
 (.loop B7)
abbrev v6:List AO:=
 [(mt 22 5),
  (mt 4 22)]
abbrev Kc:AF:=⟨23,(.seq (.reg B4) (.seq (.reg B3) (.seq (.seq (.reg B2) (.block 0 v7)) (.seq (.reg v6) .ret)))),[.mv (.t 4)]⟩
theorem B5:bk Try.prog (ai Try.prog 68) 68=some Kc:=by kernel_rfl
/-! optimizer.without[optimizer.value]$1-/
abbrev BT:List AO:=
 [o1 3 (.bx 38 0 (.t 0)),o1 4 (.mv (.c (.b false)))]
abbrev BS:List AO:=
 [o1 5 (.fa 0 (.t 1)),o1 6 (.ld 1 false (.t 5)),o1 7 (.ld 5 true (.t 3)),o1 8 (.ld 5 true (.t 2)),⟨some 9,none,.cl (.t 6) [.t 7,.t 8]⟩,
  (mt 4 9)]
abbrev Kb:AF:=⟨10,(.seq (.reg BT) (.seq (.reg BS) .ret)),[.mv (.t 4)]⟩
theorem BU:bk Try.prog (ai Try.prog 78) 78=some Kb:=by kernel_rfl
/-! slices.Contains[[]optimizer.value,optimizer.value]-/
abbrev BP:List AO:=
 [o1 3 (.bx 91 0 (.t 1)),o1 4 (.mv (.c (.b false)))]
abbrev BO:List AO:=
 [(mt 5 0),o1 6 (.ld 5 true (.t 3)),
  (o2 7 103 [.t 5,.t 6]),o1 8 (.bin .geq (.t 7) (ci 0)),
  (mt 4 8)]
abbrev Ka:AF:=⟨9,(.seq (.reg BP) (.seq (.reg BO) .ret)),[.mv (.t 4)]⟩
theorem BQ:bk Try.prog (ai Try.prog 79) 79=some Ka:=by kernel_rfl
/-! slices.Index[[]optimizer.value,optimizer.value]-/
abbrev BH:List AO:=
 [o1 3 (.bx 91 0 (.t 1)),o1 4 (.mv (ci 0))]
abbrev BG:List AO:=
 [(mt 6 0),o1 7 (.len (.t 6)),o1 8 (.mv (ci 0))]
abbrev BF:List AO:=
 [o1 9 (.bin .lss (.t 8) (.t 7))]
abbrev BE:List AO:=
 [(mt 10 8),
  (mt 5 10)]
abbrev BJ:List (Nat×AO):=
 [(2,(mt 12 0)),
  (2,(mt 13 5)),(2,(o1 14 (.ia 5 (.t 12) (.t 13)))),(1,(o1 11 (.ld 5 true (.t 3)))),(1,(o1 15 (.ld 5 true (.t 14)))),(2,(o1 16 (.eq false (.st [(0,5,.st [(0,1,.n),(1,1,.n),(2,1,.n),(3,1,.n),(4,1,.n)])]) (.t 11) (.t 15))))]
abbrev BD:List AO:=
 [(mt 17 5),
  (mt 4 17)]
abbrev BL:AC:=
 (.seq (.reg BE) (.seq (.mix BJ) (.cond (.t 16) (.seq (.reg BD) .ret) .skip)))
abbrev BC:List AO:=
 [o1 18 (.bin .add (.t 8) (ci 1)),
  (mt 8 18)]
abbrev BM:AC:=
 (.seq (.reg BF) (.seq (.cond (.t 9) .skip (.exit 0)) (.seq (.block 1 BL) (.reg BC))))
abbrev BK:AC:=
 (.loop BM)
abbrev v5:List AO:=
 [o1 4 (.mv (.c (.n .i64 (-1))))]
abbrev JY:AF:=⟨19,(.seq (.reg BH) (.seq (.seq (.reg BG) (.block 0 BK)) (.seq (.reg v5) .ret))),[.mv (.t 4)]⟩
theorem BI:bk Try.prog (ai Try.prog 103) 103=some JY:=by kernel_rfl
/-! compactorref24.Share-/
/-! compactorref24.keep-/
/-! compactorref24.changes-/
/-! compactorref24.bothFacts-/
/-! compactorref24.expression-/
/-! compactorref24.find-/
/-! compactorlaw24.OptimizerShares-/
/-! optimizer.Optimize-/
abbrev BA:List AO:=
 [o1 1 (.bx 25 0 (.t 0)),o1 2 (.al 25 [.sl0,.n .i64 0,.n .i64 0,.sl0]),o1 3 (.mv (ci 0))]
abbrev Bz:List AO:=
 [o1 4 (.ld 4 true (.t 1)),
  (o2 5 22 [.t 4,(.c (.f 28 [] []))]),o1 6 (.ext 0 (.t 5)),o1 7 (.ext 1 (.t 5)),
  (o3 (.st 4 (.t 2) (.t 6))),
  (mt 3 7)]
abbrev JX:AF:=⟨8,(.seq (.reg BA) (.seq (.reg Bz) .ret)),[.ld 4 true (.t 2),.mv (.t 3)]⟩
theorem BB:bk Try.prog (ai Try.prog 16) 16=some JX:=by kernel_rfl
/-! compactorref24.Optimize-/
/-! optimizer.Optimize$1-/
abbrev Bu:List AO:=
 [o1 1 (.bx 25 0 (.t 0)),o1 2 (.mv (.c .sl0))]
abbrev Bt:List AO:=
 [o1 6 (.mv (ci 0))]
abbrev Bs:List AO:=
 [o1 7 (.bin .lss (.t 6) (ci 8))]
abbrev Br:List AO:=
 [o1 8 (.ld 4 true (.t 1)),o1 3 (.al 25 [.sl0,.n .i64 0,.n .i64 0,.sl0]),
  (o3 (.st 4 (.t 3) (.t 8)))]
abbrev Bq:List AO:=
 [o1 9 (.bs 55 1 4 [.f0,.f0,.f0,.f0] [(0,1,(.c (.f 23 [] []))),(1,1,(.c (.f 26 [] []))),(2,1,(.c (.f 27 [] []))),(3,1,(.c (.f 24 [] [])))]),o1 10 (.len (.t 9)),o1 11 (.mv (ci 0))]
abbrev Bp:List AO:=
 [o1 12 (.bin .lss (.t 11) (.t 10))]
abbrev Bo:List AO:=
 [o1 13 (.ia 1 (.t 9) (.t 11)),o1 14 (.ld 1 false (.t 13)),
  (mt 5 14)]
abbrev Bw:List (Nat×AO):=
 [(2,(mt 16 5)),(1,(o1 15 (.ld 4 true (.t 3)))),(1,(o1 17 (.ld 4 true (.t 3)))),(0,⟨some 18,none,.cl (.t 16) [.t 17]⟩),
  (3,(o2 19 29 [.t 15,.t 18])),
  (3,(o3 (.st 4 (.t 3) (.t 19))))]
abbrev Bx:AC:=
 (.seq (.reg Bo) (.mix Bw))
abbrev Bn:List AO:=
 [o1 20 (.bin .add (.t 11) (ci 1)),
  (mt 11 20)]
abbrev v4:AC:=
 (.seq (.reg Bp) (.seq (.cond (.t 12) .skip (.exit 2)) (.seq (.block 3 Bx) (.reg Bn))))
abbrev vY:AC:=
 (.loop v4)
abbrev vV:List AO:=
 [o1 21 (.fa 3 (.t 1)),o1 22 (.ld 1 false (.t 21)),o1 23 (.fa 3 (.t 3)),o1 24 (.ld 1 false (.t 23)),
  (o2 25 30 [.t 22,.t 24])]
abbrev vU:List AO:=
 [o1 26 (.ld 4 true (.t 3)),
  (o3 (.st 4 (.t 1) (.t 26)))]
abbrev vX:AC:=
 (.seq (.reg Br) (.seq (.seq (.reg Bq) (.block 2 vY)) (.seq (.seq (.reg vV) (.cond (.t 25) (.exit 0) .skip)) (.reg vU))))
abbrev vT:List AO:=
 [o1 27 (.bin .add (.t 6) (ci 1)),
  (mt 6 27)]
abbrev vZ:AC:=
 (.seq (.reg Bs) (.seq (.cond (.t 7) .skip (.exit 0)) (.seq (.block 1 vX) (.reg vT))))
abbrev vW:AC:=
 (.loop vZ)
abbrev vS:List AO:=
 [o1 28 (.fa 3 (.t 1)),o1 29 (.ld 1 false (.t 28)),
  (mt 2 29)]
abbrev JW:AF:=⟨30,(.seq (.reg Bu) (.seq (.seq (.reg Bt) (.block 0 vW)) (.seq (.reg vS) .ret))),[.mv (.t 2)]⟩
theorem Bv:bk Try.prog (ai Try.prog 28) 28=some JW:=by kernel_rfl
/-! slices.Equal[[]api.RegInstr,api.RegInstr]-/
abbrev Bk:List AO:=
 [o1 4 (.mv (.c (.b false)))]
abbrev Bj:List AO:=
 [(mt 6 0),o1 7 (.len (.t 6)),
  (mt 8 1),o1 9 (.len (.t 8)),o1 10 (.bin .neq (.t 7) (.t 9))]
abbrev Bi:List AO:=
 [o1 4 (.mv (.c (.b false)))]
abbrev Bh:List AO:=
 [(mt 11 0),o1 12 (.len (.t 11)),o1 13 (.mv (ci 0))]
abbrev Bg:List AO:=
 [o1 14 (.bin .lss (.t 13) (.t 12))]
abbrev Bf:List AO:=
 [(mt 15 13),
  (mt 5 15)]
abbrev Bl:List (Nat×AO):=
 [(2,(mt 16 0)),
  (2,(mt 17 5)),(2,(o1 18 (.ia 5 (.t 16) (.t 17)))),
  (2,(mt 20 1)),
  (2,(mt 21 5)),(2,(o1 22 (.ia 5 (.t 20) (.t 21)))),(1,(o1 19 (.ld 5 true (.t 18)))),(1,(o1 23 (.ld 5 true (.t 22)))),(2,(o1 24 (.eq true (.st [(0,1,.n),(1,1,.n),(2,1,.n),(3,1,.n),(4,1,.n)]) (.t 19) (.t 23))))]
abbrev Be:List AO:=
 [o1 4 (.mv (.c (.b false)))]
abbrev Bm:AC:=
 (.seq (.reg Bf) (.seq (.mix Bl) (.cond (.t 24) (.seq (.reg Be) .ret) .skip)))
abbrev Bd:List AO:=
 [o1 25 (.bin .add (.t 13) (ci 1)),
  (mt 13 25)]
abbrev vR:AC:=
 (.seq (.reg Bg) (.seq (.cond (.t 14) .skip (.exit 0)) (.seq (.block 1 Bm) (.reg Bd))))
abbrev vQ:AC:=
 (.loop vR)
abbrev vP:List AO:=
 [o1 4 (.mv (.c (.b true)))]
abbrev JV:AF:=⟨26,(.seq (.reg Bk) (.seq (.seq (.reg Bj) (.cond (.t 10) (.seq (.reg Bi) .ret) .skip)) (.seq (.seq (.reg Bh) (.block 0 vQ)) (.seq (.reg vP) .ret)))),[.mv (.t 4)]⟩
theorem vd:bk Try.prog (ai Try.prog 30) 30=some JV:=by kernel_rfl
/-! compactorlaw24.OptimizerOptimizes-/
/-! compactorlaw24.code-/
abbrev Bb:List AO:=
 [o1 2 (.al 25 [.sl0,.n .i64 0,.n .i64 0,.sl0])]
abbrev Ba:List AO:=
 [(mt 3 0),o1 4 (.bd [.sl0,.n .i64 0,.n .i64 0,.sl0] [(1,1,(ci 4)),(3,1,(.t 3))]),
  (o3 (.st 4 (.t 2) (.t 4)))]
abbrev JU:AF:=⟨5,(.seq (.reg Bb) (.seq (.reg Ba) .ret)),[.ld 4 true (.t 2)]⟩
theorem Bc:bk Try.prog (ai Try.prog 9) 9=some JU:=by kernel_rfl
/-! compactorlaw24.i-/
abbrev A8:List AO:=
 [o1 10 (.al 38 [.n .i64 0,.n .i64 0,.n .i64 0,.n .i64 0,.n .u32 0])]
abbrev A7:List AO:=
 [(mt 11 0),
  (mt 12 1),
  (mt 13 2),
  (mt 14 3),
  (mt 15 4),o1 16 (.bd [.n .i64 0,.n .i64 0,.n .i64 0,.n .i64 0,.n .u32 0] [(0,1,(.t 11)),(1,1,(.t 12)),(2,1,(.t 13)),(3,1,(.t 14)),(4,1,(.t 15))]),
  (o3 (.st 5 (.t 10) (.t 16)))]
abbrev JT:AF:=⟨17,(.seq (.reg A8) (.seq (.reg A7) .ret)),[.ld 5 true (.t 10)]⟩
theorem A9:bk Try.prog (ai Try.prog 10) 10=some JT:=by kernel_rfl
/-! compactorlaw24.pass-/
abbrev AR:List AO:=
 [o1 2 (.bx 25 0 (.t 0)),o1 4 (.al 25 [.sl0,.n .i64 0,.n .i64 0,.sl0]),o1 5 (.mv (ci 0))]
abbrev AQ:List AO:=
 [(mt 6 1),o1 7 (.bin .rem (.t 6) (.c (.n .u8 5)))]
abbrev AN:List AO:=
 [o1 9 (.bin .eql (.t 7) (.c (.n .u8 0))),
  (mt 8 9)]
abbrev AM:List AO:=
 [o1 10 (.ld 4 true (.t 2)),
  (o2 11 11 [.t 10]),o1 12 (.ext 0 (.t 11)),o1 13 (.ext 1 (.t 11)),
  (o3 (.st 4 (.t 4) (.t 12))),
  (mt 5 13)]
abbrev AL:List AO:=
 [o1 15 (.bin .eql (.t 7) (.c (.n .u8 1))),
  (mt 14 15)]
abbrev AJ:List AO:=
 [o1 16 (.ld 4 true (.t 2)),
  (o2 17 14 [.t 16]),o1 18 (.ext 0 (.t 17)),o1 19 (.ext 1 (.t 17)),
  (o3 (.st 4 (.t 4) (.t 18))),
  (mt 5 19)]
abbrev AG:List AO:=
 [o1 21 (.bin .eql (.t 7) (.c (.n .u8 2))),
  (mt 20 21)]
abbrev AD:List AO:=
 [o1 22 (.ld 4 true (.t 2)),
  (o2 23 15 [.t 22]),o1 24 (.ext 0 (.t 23)),o1 25 (.ext 1 (.t 23)),
  (o3 (.st 4 (.t 4) (.t 24))),
  (mt 5 25)]
abbrev AA:List AO:=
 [o1 27 (.bin .eql (.t 7) (.c (.n .u8 3))),
  (mt 26 27)]
abbrev Az:List AO:=
 [o1 28 (.ld 4 true (.t 2)),
  (o2 29 12 [.t 28]),o1 30 (.ext 0 (.t 29)),o1 31 (.ext 1 (.t 29)),
  (o3 (.st 4 (.t 4) (.t 30))),
  (mt 5 31)]
abbrev vF:AC:=
 (.seq (.reg AN) (.cond (.t 8) (.seq (.reg AM) .ret) (.seq (.reg AL) (.cond (.t 14) (.seq (.reg AJ) .ret) (.seq (.reg AG) (.cond (.t 20) (.seq (.reg AD) .ret) (.seq (.reg AA) (.cond (.t 26) (.seq (.reg Az) .ret) .skip))))))))
abbrev vE:List AO:=
 [o1 32 (.ld 4 true (.t 2)),
  (o2 33 16 [.t 32]),o1 34 (.ext 0 (.t 33)),o1 35 (.ext 1 (.t 33)),
  (o3 (.st 4 (.t 4) (.t 34))),
  (mt 5 35)]
abbrev JR:AF:=⟨36,(.seq (.reg AR) (.seq (.seq (.reg AQ) (.block 0 vF)) (.seq (.reg vE) .ret))),[.ld 4 true (.t 4),.mv (.t 5)]⟩
theorem mi:bk Try.prog (ai Try.prog 7) 7=some JR:=by kernel_rfl
/-! compactorlaw24.OptimizerShortens-/
abbrev Ax:List AO:=
 [o1 2 (.bx 25 0 (.t 0)),o1 4 (.mv (.c (.b false)))]
abbrev Aw:List AO:=
 [o1 12 (.ld 4 true (.t 2)),
  (o2 13 4 [.t 12]),o1 14 (.un .not (.t 13)),
  (mt 15 14),
  (o4 16 15 (.mv (.t 1))),
  (o4 17 15 (.len (.t 16))),
  (o4 18 15 (.bin .gtr (.t 17) (ci 12))),o1 19 (.pick (.t 15) (.c (.b true)) (.t 18))]
abbrev Av:List AO:=
 [(o2 20 5 []),
  (mt 4 20)]
abbrev Au:List AO:=
 [o1 22 (.ld 4 true (.t 2)),
  (o2 23 6 [.t 22]),
  (mt 21 23),o1 24 (.ext 0 (.t 21)),o1 25 (.ext 1 (.t 21)),
  (mt 5 24),
  (mt 6 25)]
abbrev Aq:List AO:=
 [(mt 26 6),o1 27 (.bin .neq (.t 26) (ci 0))]
abbrev Ap:List AO:=
 [(o2 28 5 []),
  (mt 4 28)]
abbrev Ao:List AO:=
 [o1 7 (.mv (ci 0))]
abbrev An:List AO:=
 [(mt 29 7),
  (mt 30 1),o1 31 (.len (.t 30)),o1 32 (.bin .lss (.t 29) (.t 31))]
abbrev Ay:List (Nat×AO):=
 [(1,(o1 36 (.ld 4 true (.t 2)))),
  (2,(mt 37 1)),
  (2,(mt 38 7)),(2,(o1 39 (.ia 1 (.t 37) (.t 38)))),(1,(o1 40 (.ld 1 false (.t 39))))]
abbrev Am:AT:=
 (.alt (o2 41 7 [.t 36,.t 40]) (.alt (mt 35 41) (.alt (o1 42 (.ext 0 (.t 35))) (.alt (o1 43 (.ext 1 (.t 35))) (.alt (o1 8 (.al 25 [.sl0,.n .i64 0,.n .i64 0,.sl0])) (.alt (o3 (.st 4 (.t 8) (.t 42))) (.alt (mt 9 43) .fin .none) .none) .none) (.alt (o1 8 (.al 25 [.sl0,.n .i64 0,.n .i64 0,.sl0])) (.alt (o1 43 (.ext 1 (.t 35))) (.alt (o3 (.st 4 (.t 8) (.t 42))) (.alt (mt 9 43) .fin .none) .none) (.alt (o3 (.st 4 (.t 8) (.t 42))) (.alt (o1 43 (.ext 1 (.t 35))) (.alt (mt 9 43) .fin .none) .none) .none)) .none)) (.alt (o1 43 (.ext 1 (.t 35))) (.alt (o1 42 (.ext 0 (.t 35))) (.alt (o1 8 (.al 25 [.sl0,.n .i64 0,.n .i64 0,.sl0])) (.alt (o3 (.st 4 (.t 8) (.t 42))) (.alt (mt 9 43) .fin .none) .none) .none) (.alt (o1 8 (.al 25 [.sl0,.n .i64 0,.n .i64 0,.sl0])) (.alt (o1 42 (.ext 0 (.t 35))) (.alt (o3 (.st 4 (.t 8) (.t 42))) (.alt (mt 9 43) .fin .none) .none) .none) .none)) (.alt (o1 8 (.al 25 [.sl0,.n .i64 0,.n .i64 0,.sl0])) (.alt (o1 42 (.ext 0 (.t 35))) (.alt (o1 43 (.ext 1 (.t 35))) (.alt (o3 (.st 4 (.t 8) (.t 42))) (.alt (mt 9 43) .fin .none) .none) (.alt (o3 (.st 4 (.t 8) (.t 42))) (.alt (o1 43 (.ext 1 (.t 35))) (.alt (mt 9 43) .fin .none) .none) .none)) (.alt (o1 43 (.ext 1 (.t 35))) (.alt (o1 42 (.ext 0 (.t 35))) (.alt (o3 (.st 4 (.t 8) (.t 42))) (.alt (mt 9 43) .fin .none) .none) .none) .none)) .none))) (.alt (o1 8 (.al 25 [.sl0,.n .i64 0,.n .i64 0,.sl0])) (.alt (mt 35 41) (.alt (o1 42 (.ext 0 (.t 35))) (.alt (o1 43 (.ext 1 (.t 35))) (.alt (o3 (.st 4 (.t 8) (.t 42))) (.alt (mt 9 43) .fin .none) .none) (.alt (o3 (.st 4 (.t 8) (.t 42))) (.alt (o1 43 (.ext 1 (.t 35))) (.alt (mt 9 43) .fin .none) .none) .none)) (.alt (o1 43 (.ext 1 (.t 35))) (.alt (o1 42 (.ext 0 (.t 35))) (.alt (o3 (.st 4 (.t 8) (.t 42))) (.alt (mt 9 43) .fin .none) .none) .none) .none)) .none) .none)) (.alt (o1 8 (.al 25 [.sl0,.n .i64 0,.n .i64 0,.sl0])) (.alt (o2 41 7 [.t 36,.t 40]) (.alt (mt 35 41) (.alt (o1 42 (.ext 0 (.t 35))) (.alt (o1 43 (.ext 1 (.t 35))) (.alt (o3 (.st 4 (.t 8) (.t 42))) (.alt (mt 9 43) .fin .none) .none) (.alt (o3 (.st 4 (.t 8) (.t 42))) (.alt (o1 43 (.ext 1 (.t 35))) (.alt (mt 9 43) .fin .none) .none) .none)) (.alt (o1 43 (.ext 1 (.t 35))) (.alt (o1 42 (.ext 0 (.t 35))) (.alt (o3 (.st 4 (.t 8) (.t 42))) (.alt (mt 9 43) .fin .none) .none) .none) .none)) .none) .none) .none))
abbrev vA:List AO:=
 [(mt 44 9),o1 45 (.bin .neq (.t 44) (ci 0)),
  (mt 46 45),
  (o4 47 46 (.fa 3 (.t 8))),
  (o4 48 46 (.ld 1 false (.t 47))),
  (o4 49 46 (.len (.t 48))),
  (o4 50 46 (.fa 3 (.t 2))),
  (o4 51 46 (.ld 1 false (.t 50))),
  (o4 52 46 (.len (.t 51))),
  (o4 53 46 (.bin .gtr (.t 49) (.t 52))),o1 54 (.pick (.t 46) (.c (.b true)) (.t 53)),
  (mt 55 54),
  (o4 56 55 (.fa 1 (.t 8))),
  (o4 57 55 (.ld 1 false (.t 56))),
  (o4 58 55 (.fa 1 (.t 2))),
  (o4 59 55 (.ld 1 false (.t 58))),
  (o4 60 55 (.bin .neq (.t 57) (.t 59))),o1 61 (.pick (.t 55) (.c (.b true)) (.t 60)),
  (mt 62 61),
  (o4 63 62 (.fa 2 (.t 8))),
  (o4 64 62 (.ld 1 false (.t 63))),
  (o4 65 62 (.fa 2 (.t 2))),
  (o4 66 62 (.ld 1 false (.t 65))),
  (o4 67 62 (.bin .neq (.t 64) (.t 66))),o1 68 (.pick (.t 62) (.c (.b true)) (.t 67)),
  (mt 69 68),
  (o4 70 69 (.fa 0 (.t 8))),
  (o4 71 69 (.ld 1 false (.t 70))),
  (o4 72 69 (.len (.t 71))),
  (o4 73 69 (.fa 0 (.t 2))),
  (o4 74 69 (.ld 1 false (.t 73))),
  (o4 75 69 (.len (.t 74))),
  (o4 76 69 (.bin .neq (.t 72) (.t 75))),o1 77 (.pick (.t 69) (.c (.b true)) (.t 76))]
abbrev vz:List AO:=
 [o1 4 (.mv (.c (.b false)))]
abbrev vy:List AO:=
 [o1 79 (.ld 4 true (.t 8)),
  (o2 80 6 [.t 79]),
  (mt 78 80),o1 81 (.ext 0 (.t 78)),o1 82 (.ext 1 (.t 78)),
  (mt 10 81),
  (mt 11 82)]
abbrev vx:List AO:=
 [(mt 83 11),o1 84 (.bin .neq (.t 83) (ci 0))]
abbrev vw:List AO:=
 [o1 4 (.mv (.c (.b false)))]
abbrev vu:List AO:=
 [o1 85 (.ld 4 true (.t 8)),
  (o3 (.st 4 (.t 2) (.t 85)))]
abbrev vC:AC:=
 (.seq (.frk Ay Am) (.seq (.seq (.reg vA) (.cond (.t 77) (.seq (.reg vz) .ret) .skip)) (.seq (.seq (.reg vy) (.seq (.reg vx) (.cond (.t 84) (.seq (.reg vw) .ret) .skip))) (.reg vu))))
abbrev vt:List AO:=
 [(mt 33 7),o1 34 (.bin .add (.t 33) (ci 1)),
  (mt 7 34)]
abbrev vD:AC:=
 (.seq (.seq (.reg An) (.cond (.t 32) .skip (.exit 0))) (.seq (.block 1 vC) (.reg vt)))
abbrev vB:AC:=
 (.loop vD)
abbrev vr:List AO:=
 [(o2 86 5 []),
  (mt 4 86)]
abbrev JQ:AF:=⟨87,(.seq (.reg Ax) (.seq (.seq (.reg Aw) (.cond (.t 19) (.seq (.reg Av) .ret) .skip)) (.seq (.seq (.reg Au) (.seq (.reg Aq) (.cond (.t 27) (.seq (.reg Ap) .ret) .skip))) (.seq (.seq (.reg Ao) (.block 0 vB)) (.seq (.reg vr) .ret))))),[.mv (.t 4)]⟩
theorem oG:bk Try.prog (ai Try.prog 3) 3=some JQ:=by kernel_rfl
end Go.Proofs.Ytidhfimbnjaceaa