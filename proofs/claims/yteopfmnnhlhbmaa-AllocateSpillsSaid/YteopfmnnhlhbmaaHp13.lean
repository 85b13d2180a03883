/- A part of the proof of AllocateSpills: AcA AcB AcAlA AcAlI AcAlD AcAlE AcAlG AcAlF AcD AcC AcE AcAlH AcAlJ. No condition. -/
import Derived.Test.YteopfmnnhlhbmaaHp12
import Derived.Test.YteopfmnnhlhbmaaProg
set_option linter.unusedSimpArgs false
set_option linter.unusedVariables false
set_option linter.constructorNameAsVariable false
set_option maxRecDepth 100000
set_option maxHeartbeats 4000000
namespace Go.Proofs.Yteopfmnnhlhbmaa
open Go.RowKit
/-! optimizer.numbers-/
/-! lower.Uses-/
abbrev TV:List AO:=
 [o1 1 (.bx 60 0 (.t 0)),o1 2 (.mv (.c .sl0)),o1 3 (.mv (ci 0))]
abbrev TU:List AO:=
 [o1 6 (.fa 0 (.t 1)),o1 7 (.ld 1 false (.t 6)),
  (o2 8 88 [.t 7]),o1 4 (.al 104 [.b false,.b false,.b false,.b false]),
  (o3 (.st 4 (.t 4) (.t 8)))]
abbrev TT:List AO:=
 [o1 5 (.mv (.c .sl0))]
abbrev TS:List AO:=
 [o1 9 (.fa 2 (.t 4)),o1 10 (.ld 1 false (.t 9))]
abbrev TR:List AO:=
 [(mt 11 5),o1 12 (.fa 2 (.t 1)),o1 13 (.ld 1 false (.t 12)),o1 14 (.bs 3 1 1 [.n .i64 0] [(0,1,(.t 13))]),o1 15 (.app 3 1 8 (.t 11) (.t 14)),
  (mt 5 15)]
abbrev TQ:List AO:=
 [o1 16 (.fa 3 (.t 4)),o1 17 (.ld 1 false (.t 16))]
abbrev TP:List AO:=
 [(mt 18 5),o1 19 (.fa 3 (.t 1)),o1 20 (.ld 1 false (.t 19)),o1 21 (.bs 3 1 1 [.n .i64 0] [(0,1,(.t 20))]),o1 22 (.app 3 1 8 (.t 18) (.t 21)),
  (mt 5 22)]
abbrev TN:List AO:=
 [o1 23 (.fa 1 (.t 4)),o1 24 (.ld 1 false (.t 23)),o1 25 (.un .not (.t 24))]
abbrev TM:List AO:=
 [(mt 26 5),
  (mt 2 26),o1 3 (.mv (.c (.n .i64 (-1))))]
abbrev TX:List (Nat×AO):=
 [(2,(mt 27 5)),(2,(o1 28 (.fa 1 (.t 1)))),
  (2,(mt 2 27)),(1,(o1 29 (.ld 1 false (.t 28)))),
  (2,(mt 3 29))]
abbrev x1F:AF:=⟨30,(.seq (.reg TV) (.seq (.reg TU) (.seq (.reg TT) (.seq (.seq (.reg TS) (.cond (.t 10) (.reg TR) .skip)) (.seq (.seq (.reg TQ) (.cond (.t 17) (.reg TP) .skip)) (.seq (.seq (.reg TN) (.cond (.t 25) (.seq (.reg TM) .ret) .skip)) (.seq (.mix TX) .ret))))))),[.mv (.t 2),.mv (.t 3)]⟩
theorem TW:bD Try.prog (aE Try.prog 68) 68=some x1F:=by kernel_rfl
/-! lower.shape-/
/-! optimizer.written-/
/-! optimizer.source-/
/-! slices.Index[[]optimizer.known,optimizer.known]-/
/-! slices.Contains[[]optimizer.known,optimizer.known]-/
/-! slices.IndexFunc[[]optimizer.known,optimizer.known]-/
/-! optimizer.numbers$1-/
/-! optimizer.both[optimizer.known]-/
/-! optimizer.without[optimizer.known]-/
/-! optimizer.without[optimizer.known]$1-/
/-! slices.ContainsFunc[[]api.RegInstr,api.RegInstr]-/
/-! slices.IndexFunc[[]api.RegInstr,api.RegInstr]-/
/-! optimizer.arithmetic-/
/-! optimizer.folded-/
/-! optimizer.fold$1-/
/-! optimizer.fold$2-/
/-! optimizer.pairs-/
/-! optimizer.walk[optimizer.known]-/
/-! optimizer.fold-/
/-! optimizer.checked-/
/-! optimizer.copied-/
/-! optimizer.Fold-/
/-! compactorref24.writes-/
/-! compactorref24.copyKnown-/
/-! compactorref24.forget-/
/-! compactorref24.bothKnown-/
/-! compactorref24.folded-/
/-! compactorref24.Fold-/
/-! compactorref23.Uses-/
abbrev Tz:List AO:=
 [o1 1 (.bx 60 0 (.t 0)),o1 2 (.mv (.c .sl0)),o1 3 (.mv (ci 0))]
abbrev Ty:List AO:=
 [o1 10 (.fa 0 (.t 1)),o1 11 (.ld 1 false (.t 10)),
  (o2 12 82 [.t 11]),
  (mt 9 12),o1 13 (.ext 0 (.t 9)),o1 14 (.ext 1 (.t 9)),o1 15 (.ext 2 (.t 9)),o1 16 (.ext 3 (.t 9)),
  (mt 4 13),
  (mt 5 14),
  (mt 6 15),
  (mt 7 16)]
abbrev Tx:List AO:=
 [o1 8 (.mv (.c .sl0))]
abbrev Tw:List AO:=
 [(mt 17 5)]
abbrev Tv:List AO:=
 [(mt 18 8),o1 19 (.fa 2 (.t 1)),o1 20 (.ld 1 false (.t 19)),o1 21 (.bs 3 1 1 [.n .i64 0] [(0,1,(.t 20))]),o1 22 (.app 3 1 8 (.t 18) (.t 21)),
  (mt 8 22)]
abbrev Tu:List AO:=
 [(mt 23 6)]
abbrev Tt:List AO:=
 [(mt 24 8),o1 25 (.fa 3 (.t 1)),o1 26 (.ld 1 false (.t 25)),o1 27 (.bs 3 1 1 [.n .i64 0] [(0,1,(.t 26))]),o1 28 (.app 3 1 8 (.t 24) (.t 27)),
  (mt 8 28)]
abbrev Ts:List AO:=
 [(mt 29 4)]
abbrev TB:List (Nat×AO):=
 [(2,(mt 30 8)),(2,(o1 31 (.fa 1 (.t 1)))),
  (2,(mt 2 30)),(1,(o1 32 (.ld 1 false (.t 31)))),
  (2,(mt 3 32))]
abbrev Tq:List AO:=
 [(mt 33 8),
  (mt 2 33),o1 3 (.mv (.c (.n .i64 (-1))))]
abbrev x2F:AF:=⟨34,(.seq (.reg Tz) (.seq (.reg Ty) (.seq (.reg Tx) (.seq (.seq (.reg Tw) (.cond (.t 17) (.reg Tv) .skip)) (.seq (.seq (.reg Tu) (.cond (.t 23) (.reg Tt) .skip)) (.seq (.seq (.reg Ts) (.cond (.t 29) (.seq (.mix TB) .ret) .skip)) (.seq (.reg Tq) .ret))))))),[.mv (.t 2),.mv (.t 3)]⟩
theorem TA:bD Try.prog (aE Try.prog 57) 57=some x2F:=by kernel_rfl
/-! compactorref23.Parts-/
/-! slices.Clone[[]api.Array,api.Array]-/
abbrev Td:List AO:=
 [o1 2 (.mv (.c .sl0))]
abbrev Tc:List AO:=
 [(mt 3 0),⟨some 4,none,.sn false (.t 3)⟩]
abbrev Tb:List AO:=
 [o1 2 (.mv (.c .sl0))]
abbrev Ta:List AO:=
 [o1 5 (.bs 102 2 0 [] []),
  (mt 6 0),o1 7 (.app 102 2 16 (.t 5) (.t 6)),
  (mt 2 7)]
abbrev x3F:AF:=⟨8,(.seq (.reg Td) (.seq (.seq (.reg Tc) (.cond (.t 4) (.seq (.reg Tb) .ret) .skip)) (.seq (.reg Ta) .ret))),[.mv (.t 2)]⟩
theorem Te:bD Try.prog (aE Try.prog 75) 75=some x3F:=by kernel_rfl
/-! slices.Clone[[]api.RegInstr,api.RegInstr]-/
abbrev SW:List AO:=
 [o1 2 (.mv (.c .sl0))]
abbrev SV:List AO:=
 [(mt 3 0),⟨some 4,none,.sn false (.t 3)⟩]
abbrev SU:List AO:=
 [o1 2 (.mv (.c .sl0))]
abbrev SS:List AO:=
 [o1 5 (.bs 60 5 0 [] []),
  (mt 6 0),o1 7 (.app 60 5 40 (.t 5) (.t 6)),
  (mt 2 7)]
abbrev x4F:AF:=⟨8,(.seq (.reg SW) (.seq (.seq (.reg SV) (.cond (.t 4) (.seq (.reg SU) .ret) .skip)) (.seq (.reg SS) .ret))),[.mv (.t 2)]⟩
theorem SX:bD Try.prog (aE Try.prog 29) 29=some x4F:=by kernel_rfl
/-! compactorref23.Same-/
abbrev SM:List AO:=
 [o1 2 (.bx 25 0 (.t 0)),o1 3 (.bx 25 0 (.t 1)),o1 4 (.mv (.c (.b false)))]
abbrev SL:List AO:=
 [o1 6 (.fa 1 (.t 2)),o1 7 (.ld 1 false (.t 6)),o1 8 (.fa 1 (.t 3)),o1 9 (.ld 1 false (.t 8)),o1 10 (.bin .neq (.t 7) (.t 9)),
  (mt 11 10),
  (o4 12 11 (.fa 2 (.t 2))),
  (o4 13 11 (.ld 1 false (.t 12))),
  (o4 14 11 (.fa 2 (.t 3))),
  (o4 15 11 (.ld 1 false (.t 14))),
  (o4 16 11 (.bin .neq (.t 13) (.t 15))),o1 17 (.pick (.t 11) (.c (.b true)) (.t 16)),
  (mt 18 17),
  (o4 19 18 (.fa 0 (.t 2))),
  (o4 20 18 (.ld 1 false (.t 19))),
  (o4 21 18 (.fa 0 (.t 3))),
  (o4 22 18 (.ld 1 false (.t 21))),⟨some 23,some (18,false),.cl (.c (.f 51 [] [])) [.t 20,.t 22]⟩,
  (o4 24 18 (.un .not (.t 23))),o1 25 (.pick (.t 18) (.c (.b true)) (.t 24)),
  (mt 26 25),
  (o4 27 26 (.fa 3 (.t 2))),
  (o4 28 26 (.ld 1 false (.t 27))),
  (o4 29 26 (.len (.t 28))),
  (o4 30 26 (.fa 3 (.t 3))),
  (o4 31 26 (.ld 1 false (.t 30))),
  (o4 32 26 (.len (.t 31))),
  (o4 33 26 (.bin .neq (.t 29) (.t 32))),o1 34 (.pick (.t 26) (.c (.b true)) (.t 33))]
abbrev SK:List AO:=
 [o1 4 (.mv (.c (.b false)))]
abbrev SJ:List AO:=
 [o1 5 (.mv (ci 0))]
abbrev SI:List AO:=
 [(mt 35 5),o1 36 (.fa 3 (.t 2)),o1 37 (.ld 1 false (.t 36)),o1 38 (.len (.t 37)),o1 39 (.bin .lss (.t 35) (.t 38))]
abbrev SO:List (Nat×AO):=
 [(2,(o1 42 (.fa 3 (.t 2)))),
  (2,(mt 44 5)),(2,(o1 47 (.fa 3 (.t 3)))),
  (2,(mt 49 5)),(1,(o1 43 (.ld 1 false (.t 42)))),(2,(o1 45 (.ia 5 (.t 43) (.t 44)))),(1,(o1 46 (.ld 5 true (.t 45)))),(1,(o1 48 (.ld 1 false (.t 47)))),(2,(o1 50 (.ia 5 (.t 48) (.t 49)))),(1,(o1 51 (.ld 5 true (.t 50)))),(2,(o1 52 (.eq true (.st [(0,1,.n),(1,1,.n),(2,1,.n),(3,1,.n),(4,1,.n)]) (.t 46) (.t 51))))]
abbrev SG:List AO:=
 [o1 4 (.mv (.c (.b false)))]
abbrev SP:AC:=
 (.seq (.mix SO) (.cond (.t 52) (.seq (.reg SG) .ret) .skip))
abbrev SF:List AO:=
 [(mt 40 5),o1 41 (.bin .add (.t 40) (ci 1)),
  (mt 5 41)]
abbrev SQ:AC:=
 (.seq (.seq (.reg SI) (.cond (.t 39) .skip (.exit 0))) (.seq (.block 1 SP) (.reg SF)))
abbrev KC:AC:=
 (.loop SQ)
abbrev KA:List AO:=
 [o1 4 (.mv (.c (.b true)))]
abbrev x5F:AF:=⟨53,(.seq (.reg SM) (.seq (.seq (.reg SL) (.cond (.t 34) (.seq (.reg SK) .ret) .skip)) (.seq (.seq (.reg SJ) (.block 0 KC)) (.seq (.reg KA) .ret)))),[.mv (.t 4)]⟩
theorem KB:bD Try.prog (aE Try.prog 19) 19=some x5F:=by kernel_rfl
/-! compactorref15.SameArrays-/
abbrev Sz:List AO:=
 [o1 4 (.mv (.c (.b false)))]
abbrev Sy:List AO:=
 [(mt 6 0),o1 7 (.len (.t 6)),
  (mt 8 1),o1 9 (.len (.t 8)),o1 10 (.bin .neq (.t 7) (.t 9))]
abbrev Sx:List AO:=
 [o1 4 (.mv (.c (.b false)))]
abbrev Sw:List AO:=
 [o1 5 (.mv (ci 0))]
abbrev Sv:List AO:=
 [(mt 11 5),
  (mt 12 0),o1 13 (.len (.t 12)),o1 14 (.bin .lss (.t 11) (.t 13))]
abbrev SC:List (Nat×AO):=
 [(2,(mt 17 0)),
  (2,(mt 18 5)),(2,(o1 19 (.ia 2 (.t 17) (.t 18)))),
  (2,(mt 21 1)),
  (2,(mt 22 5)),(2,(o1 23 (.ia 2 (.t 21) (.t 22)))),(1,(o1 20 (.ld 2 true (.t 19)))),(1,(o1 24 (.ld 2 true (.t 23)))),(2,(o1 25 (.eq true (.st [(0,1,.b),(1,1,.n)]) (.t 20) (.t 24))))]
abbrev Su:List AO:=
 [o1 4 (.mv (.c (.b false)))]
abbrev SD:AC:=
 (.seq (.mix SC) (.cond (.t 25) (.seq (.reg Su) .ret) .skip))
abbrev Ss:List AO:=
 [(mt 15 5),o1 16 (.bin .add (.t 15) (ci 1)),
  (mt 5 16)]
abbrev SE:AC:=
 (.seq (.seq (.reg Sv) (.cond (.t 14) .skip (.exit 0))) (.seq (.block 1 SD) (.reg Ss)))
abbrev Kz:AC:=
 (.loop SE)
abbrev Ky:List AO:=
 [o1 4 (.mv (.c (.b true)))]
abbrev x6F:AF:=⟨26,(.seq (.reg Sz) (.seq (.seq (.reg Sy) (.cond (.t 10) (.seq (.reg Sx) .ret) .skip)) (.seq (.seq (.reg Sw) (.block 0 Kz)) (.seq (.reg Ky) .ret)))),[.mv (.t 4)]⟩
theorem SB:bD Try.prog (aE Try.prog 51) 51=some x6F:=by kernel_rfl
/-! compactorref24.Few-/
/-! compactorref23.Few-/
abbrev Sq:List AO:=
 [o1 1 (.bx 25 0 (.t 0)),o1 2 (.mv (.c (.b false)))]
abbrev Sp:List AO:=
 [o1 3 (.fa 0 (.t 1)),o1 4 (.ld 1 false (.t 3)),o1 5 (.len (.t 4)),o1 6 (.bin .leq (.t 5) (ci 20)),
  (mt 7 6),
  (o5 8 7 (.fa 3 (.t 1))),
  (o5 9 7 (.ld 1 false (.t 8))),
  (o5 10 7 (.len (.t 9))),
  (o5 11 7 (.bin .leq (.t 10) (ci 300))),o1 12 (.pick (.t 7) (.t 11) (.c (.b false))),
  (mt 2 12)]
abbrev x7F:AF:=⟨13,(.seq (.reg Sq) (.seq (.reg Sp) .ret)),[.mv (.t 2)]⟩
theorem Sr:bD Try.prog (aE Try.prog 33) 33=some x7F:=by kernel_rfl
/-! compactorlaw24.OptimizerFolds-/
/-! lower.shapes-/
/-! optimizer.Copies-/
/-! optimizer.copies-/
/-! optimizer.walk[optimizer.same]-/
/-! optimizer.copies$1-/
/-! optimizer.copies$2-/
/-! optimizer.without[optimizer.same]-/
/-! optimizer.both[optimizer.same]-/
/-! optimizer.without[optimizer.same]$1-/
/-! slices.Contains[[]optimizer.same,optimizer.same]-/
/-! slices.Index[[]optimizer.same,optimizer.same]-/
/-! compactorref24.Copies-/
/-! compactorref24.source-/
/-! compactorref24.withoutSources-/
/-! compactorref24.bothSources-/
/-! compactorref24.only-/
/-! compactorref23.Copy-/
abbrev Sn:List AO:=
 [o1 1 (.bx 25 0 (.t 0)),o1 2 (.al 25 [.sl0,.n .i64 0,.n .i64 0,.sl0])]
abbrev Sm:List AO:=
 [o1 3 (.bs 102 2 0 [] []),o1 4 (.fa 0 (.t 1)),o1 5 (.ld 1 false (.t 4)),o1 6 (.app 102 2 16 (.t 3) (.t 5)),o1 7 (.fa 0 (.t 1)),
  (o3 (.st 1 (.t 7) (.t 6)))]
abbrev Sl:List AO:=
 [o1 8 (.bs 60 5 0 [] []),o1 9 (.fa 3 (.t 1)),o1 10 (.ld 1 false (.t 9)),o1 11 (.app 60 5 40 (.t 8) (.t 10)),o1 12 (.fa 3 (.t 1)),
  (o3 (.st 1 (.t 12) (.t 11)))]
abbrev Sk:List AO:=
 [o1 13 (.ld 4 true (.t 1)),
  (o3 (.st 4 (.t 2) (.t 13)))]
abbrev x8F:AF:=⟨14,(.seq (.reg Sn) (.seq (.reg Sm) (.seq (.reg Sl) (.seq (.reg Sk) .ret)))),[.ld 4 true (.t 2)]⟩
theorem So:bD Try.prog (aE Try.prog 49) 49=some x8F:=by kernel_rfl
/-! compactorlaw24.OptimizerCopies-/
/-! allocate.blocks-/
abbrev Si:List AO:=
 [o1 2 (.mv (.c (.cv (.map none))))]
abbrev Sf:List AO:=
 [⟨some 14,none,.mo (.mm)⟩,
  (mt 3 14)]
abbrev Se:List AO:=
 [o1 4 (.mv (.c .sl0)),o1 5 (.mv (.c .sl0))]
abbrev Sd:List AO:=
 [o1 6 (.mv (.c .sl0))]
abbrev Sc:List AO:=
 [(mt 15 0),o1 16 (.len (.t 15)),o1 17 (.mv (ci 0))]
abbrev Sb:List AO:=
 [o1 18 (.bin .lss (.t 17) (.t 16))]
abbrev Sa:List AO:=
 [(mt 19 17),o1 20 (.ia 5 (.t 15) (.t 17)),o1 21 (.ld 5 true (.t 20)),o1 8 (.al 60 [.n .i64 0,.n .i64 0,.n .i64 0,.n .i64 0,.n .u32 0]),
  (mt 7 19),
  (o3 (.st 5 (.t 8) (.t 21)))]
abbrev R9:List AO:=
 [o1 22 (.fa 0 (.t 8)),o1 23 (.ld 1 false (.t 22))]
abbrev R8:List AO:=
 [o1 25 (.bin .eql (.t 23) (ci 27)),
  (mt 24 25)]
abbrev R7:List AO:=
 [o1 26 (.bin .eql (.t 23) (ci 29)),
  (mt 24 26)]
abbrev Kp:List AO:=
 [(mt 27 4),
  (mt 28 7),o1 29 (.bs 3 1 1 [.n .i64 0] [(0,1,(.t 28))]),o1 30 (.app 3 1 8 (.t 27) (.t 29)),
  (mt 31 5),
  (mt 32 7),o1 33 (.bs 3 1 1 [.n .i64 0] [(0,1,(.t 32))]),o1 34 (.app 3 1 8 (.t 31) (.t 33)),
  (mt 35 6),o1 36 (.bs 39 1 1 [.sl0] [(0,1,(.c .sl0))]),o1 37 (.app 39 1 24 (.t 35) (.t 36)),
  (mt 4 30),
  (mt 5 34),
  (mt 6 37)]
abbrev Ko:List AO:=
 [o1 39 (.bin .eql (.t 23) (ci 28)),
  (mt 38 39)]
abbrev Kn:List AO:=
 [(mt 40 4),o1 41 (.len (.t 40)),o1 42 (.bin .sub (.t 41) (ci 1)),
  (mt 9 42)]
abbrev Km:List AO:=
 [(mt 43 3),
  (mt 44 4),
  (mt 45 9),o1 46 (.ia 1 (.t 44) (.t 45)),o1 47 (.ld 1 false (.t 46)),
  (mt 48 5),
  (mt 49 9),
  (mt 50 7),
  (mt 51 7),⟨some 52,none,.mo (.me (.n .i64 0) (.t 43) (.t 47))⟩,o1 53 (.ext 1 (.t 52)),⟨none,none,.mo (.es (.t 43) (.t 53) (.t 50))⟩,o1 54 (.ia 1 (.t 48) (.t 49)),
  (o3 (.st 1 (.t 54) (.t 51)))]
abbrev Kl:List AO:=
 [o1 56 (.bin .eql (.t 23) (ci 30)),
  (mt 55 56)]
abbrev CC:List AO:=
 [(mt 57 4),o1 58 (.len (.t 57)),o1 59 (.bin .sub (.t 58) (ci 1)),
  (mt 10 59)]
abbrev Kk:List AO:=
 [(mt 60 0),
  (mt 61 4),
  (mt 62 10),o1 63 (.ia 1 (.t 61) (.t 62)),o1 64 (.ld 1 false (.t 63)),o1 65 (.ia 5 (.t 60) (.t 64)),o1 66 (.fa 0 (.t 65)),o1 67 (.ld 1 false (.t 66)),o1 68 (.bin .neq (.t 67) (ci 29))]
abbrev Kj:List AO:=
 [(mt 69 10),o1 70 (.bin .sub (.t 69) (ci 1)),
  (mt 10 70)]
abbrev Ku:AC:=
 (.reg Kj)
abbrev Kx:AC:=
 (.seq (.seq (.reg Kk) (.cond (.t 68) .skip (.exit 3))) (.block 4 Ku))
abbrev CG:AC:=
 (.loop Kx)
abbrev CB:List AO:=
 [(mt 71 6),
  (mt 72 10),
  (mt 73 6),
  (mt 74 10),o1 75 (.ia 1 (.t 73) (.t 74)),o1 76 (.ld 1 false (.t 75)),
  (mt 77 7),o1 78 (.bs 3 1 1 [.n .i64 0] [(0,1,(.t 77))]),o1 79 (.app 3 1 8 (.t 76) (.t 78)),o1 80 (.ia 1 (.t 71) (.t 72)),
  (o3 (.st 1 (.t 80) (.t 79)))]
abbrev Ki:List AO:=
 [o1 82 (.bin .eql (.t 23) (ci 31)),
  (mt 81 82)]
abbrev CA:List AO:=
 [(mt 83 4),o1 84 (.len (.t 83)),o1 85 (.bin .sub (.t 84) (ci 1)),
  (mt 11 85)]
abbrev CE:List (Nat×AO):=
 [(2,(mt 86 3)),
  (2,(mt 87 5)),
  (2,(mt 88 11)),(2,(o1 89 (.ia 1 (.t 87) (.t 88)))),
  (2,(mt 91 3)),
  (2,(mt 92 7)),
  (2,(mt 93 7)),
  (2,(mt 94 4)),
  (2,(mt 95 11)),(2,(o1 96 (.ia 1 (.t 94) (.t 95)))),(1,(o1 90 (.ld 1 false (.t 89)))),(1,(o1 97 (.ld 1 false (.t 96)))),(3,⟨some 98,none,.mo (.me (.n .i64 0) (.t 86) (.t 90))⟩),(2,(o1 99 (.ext 1 (.t 98)))),(3,⟨none,none,.mo (.es (.t 86) (.t 99) (.t 93))⟩),(3,⟨some 100,none,.mo (.me (.n .i64 0) (.t 91) (.t 92))⟩),(2,(o1 101 (.ext 1 (.t 100)))),(3,⟨none,none,.mo (.es (.t 91) (.t 101) (.t 97))⟩)]
abbrev Cz:List AO:=
 [(mt 102 6),
  (mt 103 11),o1 104 (.ia 1 (.t 102) (.t 103)),o1 105 (.ld 1 false (.t 104)),o1 106 (.len (.t 105)),o1 107 (.mv (ci 0))]
abbrev Kh:List AO:=
 [o1 108 (.bin .lss (.t 107) (.t 106))]
abbrev Kg:List AO:=
 [o1 109 (.ia 1 (.t 105) (.t 107)),o1 110 (.ld 1 false (.t 109)),
  (mt 13 110)]
abbrev Kf:List AO:=
 [(mt 111 3),
  (mt 112 13),
  (mt 113 7),⟨none,none,.mo (.mu (.t 111) (.t 112) (.t 113))⟩]
abbrev Kt:AC:=
 (.seq (.reg Kg) (.reg Kf))
abbrev Ke:List AO:=
 [o1 114 (.bin .add (.t 107) (ci 1)),
  (mt 107 114)]
abbrev Kw:AC:=
 (.seq (.reg Kh) (.seq (.cond (.t 108) .skip (.exit 5)) (.seq (.block 6 Kt) (.reg Ke))))
abbrev CF:AC:=
 (.loop Kw)
abbrev CD:List (Nat×AO):=
 [(2,(mt 115 4)),
  (2,(mt 116 11)),(2,(o1 117 (.sl 1 (.t 115) none (some (.t 116))))),
  (2,(mt 118 5)),
  (2,(mt 119 11)),(2,(o1 120 (.sl 1 (.t 118) none (some (.t 119))))),
  (2,(mt 121 6)),
  (2,(mt 122 11)),(2,(o1 123 (.sl 1 (.t 121) none (some (.t 122))))),
  (2,(mt 4 117)),
  (2,(mt 5 120)),
  (2,(mt 6 123))]
abbrev Ks:AC:=
 (.seq (.seq (.reg R8) (.cond (.t 24) .skip (.reg R7))) (.cond (.t 24) (.reg Kp) (.seq (.reg Ko) (.cond (.t 38) (.seq (.reg Kn) (.reg Km)) (.seq (.reg Kl) (.cond (.t 55) (.seq (.reg CC) (.seq (.block 3 CG) (.reg CB))) (.seq (.reg Ki) (.cond (.t 81) (.seq (.reg CA) (.seq (.mix CE) (.seq (.seq (.reg Cz) (.block 5 CF)) (.mix CD)))) .skip))))))))
abbrev Kr:AC:=
 (.seq (.reg Sa) (.seq (.reg R9) (.block 2 Ks)))
abbrev Kd:List AO:=
 [o1 124 (.bin .add (.t 17) (ci 1)),
  (mt 17 124)]
abbrev Kv:AC:=
 (.seq (.reg Sb) (.seq (.cond (.t 18) .skip (.exit 0)) (.seq (.block 1 Kr) (.reg Kd))))
abbrev Kq:AC:=
 (.loop Kv)
abbrev Kc:List AO:=
 [(mt 125 3),
  (mt 2 125)]
abbrev x9F:AF:=⟨126,(.seq (.reg Si) (.seq (.reg Sf) (.seq (.reg Se) (.seq (.reg Sd) (.seq (.seq (.reg Sc) (.block 0 Kq)) (.seq (.reg Kc) .ret)))))),[.mv (.t 2)]⟩
theorem Sj:bD Try.prog (aE Try.prog 86) 86=some x9F:=by kernel_rfl
/-! allocate.graph-/
abbrev QT:List AO:=
 [o1 2 (.mv (.c .sl0))]
abbrev QS:List AO:=
 [(mt 9 0),
  (o2 10 86 [.t 9]),
  (mt 3 10)]
abbrev QR:List AO:=
 [o1 4 (.mv (.c .sl0))]
abbrev QQ:List AO:=
 [(mt 11 0),o1 12 (.len (.t 11)),o1 13 (.mv (ci 0))]
abbrev QP:List AO:=
 [o1 14 (.bin .lss (.t 13) (.t 12))]
abbrev QO:List AO:=
 [(mt 15 13),o1 16 (.ia 5 (.t 11) (.t 13)),o1 17 (.ld 5 true (.t 16)),o1 6 (.al 60 [.n .i64 0,.n .i64 0,.n .i64 0,.n .i64 0,.n .u32 0]),
  (mt 5 15),
  (o3 (.st 5 (.t 6) (.t 17)))]
abbrev QN:List AO:=
 [(mt 18 5),o1 19 (.bin .add (.t 18) (ci 1)),o1 20 (.bs 3 1 1 [.n .i64 0] [(0,1,(.t 19))]),
  (mt 7 20)]
abbrev QM:List AO:=
 [o1 21 (.fa 0 (.t 6)),o1 22 (.ld 1 false (.t 21))]
abbrev QL:List AO:=
 [o1 24 (.bin .eql (.t 22) (ci 27)),
  (mt 23 24)]
abbrev QK:List AO:=
 [o1 25 (.bin .eql (.t 22) (ci 29)),
  (mt 23 25)]
abbrev Iv:List AO:=
 [o1 26 (.bin .eql (.t 22) (ci 30)),
  (mt 23 26)]
abbrev Iu:List AO:=
 [(mt 27 7),
  (mt 28 3),
  (mt 29 5),⟨some 30,none,.mo (.lk (.n .i64 0) false (.t 28) (.t 29))⟩,o1 31 (.bin .add (.t 30) (ci 1)),o1 32 (.bs 3 1 1 [.n .i64 0] [(0,1,(.t 31))]),o1 33 (.app 3 1 8 (.t 27) (.t 32)),
  (mt 7 33)]
abbrev It:List AO:=
 [o1 34 (.fa 0 (.t 6)),o1 35 (.ld 1 false (.t 34)),o1 36 (.bin .eql (.t 35) (ci 27)),
  (mt 37 36),
  (o5 38 37 (.mv (.t 0))),
  (o5 39 37 (.mv (.t 3))),
  (o5 40 37 (.mv (.t 5))),⟨some 41,some (37,true),.mo (.lk (.n .i64 0) false (.t 39) (.t 40))⟩,
  (o5 42 37 (.ia 5 (.t 38) (.t 41))),
  (o5 43 37 (.fa 0 (.t 42))),
  (o5 44 37 (.ld 1 false (.t 43))),
  (o5 45 37 (.bin .eql (.t 44) (ci 31))),o1 46 (.pick (.t 37) (.t 45) (.c (.b false)))]
abbrev Ir:List AO:=
 [(mt 47 7),
  (mt 48 3),
  (mt 49 5),⟨some 50,none,.mo (.lk (.n .i64 0) false (.t 48) (.t 49))⟩,o1 51 (.ia 1 (.t 47) (ci 1)),
  (o3 (.st 1 (.t 51) (.t 50)))]
abbrev Iq:List AO:=
 [o1 53 (.bin .eql (.t 22) (ci 28)),
  (mt 52 53)]
abbrev Ip:List AO:=
 [(mt 54 7),
  (mt 55 3),
  (mt 56 5),⟨some 57,none,.mo (.lk (.n .i64 0) false (.t 55) (.t 56))⟩,o1 58 (.bin .add (.t 57) (ci 1)),o1 59 (.ia 1 (.t 54) (ci 0)),
  (o3 (.st 1 (.t 59) (.t 58)))]
abbrev Im:List AO:=
 [o1 61 (.bin .eql (.t 22) (ci 31)),
  (mt 60 61)]
abbrev Il:List AO:=
 [(mt 62 3),
  (mt 63 5),⟨some 64,none,.mo (.lk (.n .i64 0) false (.t 62) (.t 63))⟩,
  (mt 8 64)]
abbrev Ik:List AO:=
 [(mt 65 0),
  (mt 66 8),o1 67 (.ia 5 (.t 65) (.t 66)),o1 68 (.fa 0 (.t 67)),o1 69 (.ld 1 false (.t 68)),o1 70 (.bin .eql (.t 69) (ci 29))]
abbrev Ij:List AO:=
 [(mt 71 7),
  (mt 72 8),o1 73 (.bin .add (.t 72) (ci 1)),o1 74 (.bs 3 1 1 [.n .i64 0] [(0,1,(.t 73))]),o1 75 (.app 3 1 8 (.t 71) (.t 74)),
  (mt 7 75)]
abbrev Iy:AC:=
 (.seq (.seq (.reg QL) (.cond (.t 23) .skip (.seq (.reg QK) (.cond (.t 23) .skip (.reg Iv))))) (.cond (.t 23) (.seq (.reg Iu) (.seq (.reg It) (.cond (.t 46) (.reg Ir) .skip))) (.seq (.reg Iq) (.cond (.t 52) (.reg Ip) (.seq (.reg Im) (.cond (.t 60) (.seq (.reg Il) (.seq (.reg Ik) (.cond (.t 70) (.reg Ij) .skip))) .skip))))))
abbrev Ii:List AO:=
 [(mt 76 4),
  (mt 77 7),o1 78 (.bs 39 1 1 [.sl0] [(0,1,(.t 77))]),o1 79 (.app 39 1 24 (.t 76) (.t 78)),
  (mt 4 79)]
abbrev Ix:AC:=
 (.seq (.reg QO) (.seq (.reg QN) (.seq (.seq (.reg QM) (.block 2 Iy)) (.reg Ii))))
abbrev Ih:List AO:=
 [o1 80 (.bin .add (.t 13) (ci 1)),
  (mt 13 80)]
abbrev Iz:AC:=
 (.seq (.reg QP) (.seq (.cond (.t 14) .skip (.exit 0)) (.seq (.block 1 Ix) (.reg Ih))))
abbrev Iw:AC:=
 (.loop Iz)
abbrev Ig:List AO:=
 [(mt 81 4),
  (mt 2 81)]
abbrev T7:AF:=⟨82,(.seq (.reg QT) (.seq (.reg QS) (.seq (.reg QR) (.seq (.seq (.reg QQ) (.block 0 Iw)) (.seq (.reg Ig) .ret))))),[.mv (.t 2)]⟩
theorem QU:bD Try.prog (aE Try.prog 66) 66=some T7:=by kernel_rfl
/-! allocate.occurring-/
abbrev QI:List AO:=
 [o1 2 (.mv (.c .sl0))]
abbrev QH:List AO:=
 [⟨some 10,none,.mo (.mm)⟩,
  (mt 3 10)]
abbrev QG:List AO:=
 [(mt 11 0),o1 12 (.len (.t 11)),o1 13 (.mv (ci 0))]
abbrev QF:List AO:=
 [o1 14 (.bin .lss (.t 13) (.t 12))]
abbrev QE:List AO:=
 [o1 15 (.ia 5 (.t 11) (.t 13)),o1 16 (.ld 5 true (.t 15)),o1 5 (.al 60 [.n .i64 0,.n .i64 0,.n .i64 0,.n .i64 0,.n .u32 0]),
  (o3 (.st 5 (.t 5) (.t 16)))]
abbrev QD:List AO:=
 [o1 18 (.ld 5 true (.t 5)),
  (o2 19 68 [.t 18]),
  (mt 17 19),o1 20 (.ext 0 (.t 17)),o1 21 (.ext 1 (.t 17)),
  (mt 6 20),
  (mt 7 21)]
abbrev QC:List AO:=
 [(mt 22 6),
  (mt 23 7),o1 24 (.bs 3 1 1 [.n .i64 0] [(0,1,(.t 23))]),o1 25 (.app 3 1 8 (.t 22) (.t 24)),o1 26 (.len (.t 25)),o1 27 (.mv (ci 0))]
abbrev QB:List AO:=
 [o1 28 (.bin .lss (.t 27) (.t 26))]
abbrev QA:List AO:=
 [o1 29 (.ia 1 (.t 25) (.t 27)),o1 30 (.ld 1 false (.t 29)),
  (mt 9 30)]
abbrev Qz:List AO:=
 [(mt 31 9),o1 32 (.bin .geq (.t 31) (ci 0))]
abbrev H7:List AO:=
 [(mt 33 3),
  (mt 34 9),⟨none,none,.mo (.mu (.t 33) (.t 34) (.c (.b true)))⟩]
abbrev Ib:AC:=
 (.seq (.reg QA) (.seq (.reg Qz) (.cond (.t 32) (.reg H7) .skip)))
abbrev H6:List AO:=
 [o1 35 (.bin .add (.t 27) (ci 1)),
  (mt 27 35)]
abbrev Ie:AC:=
 (.seq (.reg QB) (.seq (.cond (.t 28) .skip (.exit 2)) (.seq (.block 3 Ib) (.reg H6))))
abbrev Ia:AC:=
 (.loop Ie)
abbrev H9:AC:=
 (.seq (.reg QE) (.seq (.reg QD) (.seq (.reg QC) (.block 2 Ia))))
abbrev H5:List AO:=
 [o1 36 (.bin .add (.t 13) (ci 1)),
  (mt 13 36)]
abbrev Ic:AC:=
 (.seq (.reg QF) (.seq (.cond (.t 14) .skip (.exit 0)) (.seq (.block 1 H9) (.reg H5))))
abbrev H8:AC:=
 (.loop Ic)
abbrev HU:List AO:=
 [(mt 37 3),
  (o2 38 38 [.t 37]),
  (o2 39 37 [.t 38]),
  (mt 2 39)]
abbrev T6:AF:=⟨40,(.seq (.reg QI) (.seq (.reg QH) (.seq (.seq (.reg QG) (.block 0 H8)) (.seq (.reg HU) .ret)))),[.mv (.t 2)]⟩
theorem QJ:bD Try.prog (aE Try.prog 52) 52=some T6:=by kernel_rfl
/-! allocate.replaced-/
abbrev Qv:List AO:=
 [o1 2 (.bx 60 0 (.t 0)),o1 4 (.al 60 [.n .i64 0,.n .i64 0,.n .i64 0,.n .i64 0,.n .u32 0])]
abbrev Qu:List AO:=
 [o1 9 (.fa 1 (.t 2)),o1 10 (.fa 2 (.t 2)),o1 11 (.fa 3 (.t 2)),o1 12 (.bs 120 1 3 [.p0,.p0,.p0] [(0,1,(.t 9)),(1,1,(.t 10)),(2,1,(.t 11))]),o1 13 (.len (.t 12)),o1 14 (.mv (ci 0))]
abbrev Qt:List AO:=
 [o1 15 (.bin .lss (.t 14) (.t 13))]
abbrev Qs:List AO:=
 [o1 16 (.ia 1 (.t 12) (.t 14)),o1 17 (.ld 1 false (.t 16)),
  (mt 6 17)]
abbrev Qr:List AO:=
 [(mt 19 1),
  (mt 20 6),o1 21 (.nc (.t 20)),o1 22 (.ld 1 false (.t 21)),⟨some 23,none,.mo (.lk (.n .i64 0) true (.t 19) (.t 22))⟩,
  (mt 18 23),o1 24 (.ext 0 (.t 18)),o1 25 (.ext 1 (.t 18)),
  (mt 7 24),
  (mt 8 25)]
abbrev Qq:List AO:=
 [(mt 26 8)]
abbrev Qp:List AO:=
 [(mt 27 6),
  (mt 28 7),o1 29 (.nc (.t 27)),
  (o3 (.st 1 (.t 29) (.t 28)))]
abbrev Qx:AC:=
 (.seq (.reg Qs) (.seq (.reg Qr) (.seq (.reg Qq) (.cond (.t 26) (.reg Qp) .skip))))
abbrev Qo:List AO:=
 [o1 30 (.bin .add (.t 14) (ci 1)),
  (mt 14 30)]
abbrev Qy:AC:=
 (.seq (.reg Qt) (.seq (.cond (.t 15) .skip (.exit 0)) (.seq (.block 1 Qx) (.reg Qo))))
abbrev HT:AC:=
 (.loop Qy)
abbrev HQ:List AO:=
 [o1 31 (.ld 5 true (.t 2)),
  (o3 (.st 5 (.t 4) (.t 31)))]
abbrev T5:AF:=⟨32,(.seq (.reg Qv) (.seq (.seq (.reg Qu) (.block 0 HT)) (.seq (.reg HQ) .ret))),[.ld 5 true (.t 4)]⟩
theorem Qw:bD Try.prog (aE Try.prog 46) 46=some T5:=by kernel_rfl
/-! allocate.copied-/
abbrev Ql:List AO:=
 [o1 1 (.bx 25 0 (.t 0)),o1 2 (.al 25 [.sl0,.n .i64 0,.n .i64 0,.sl0])]
abbrev Qn:List (Nat×AO):=
 [(2,(o1 3 (.fa 0 (.t 1)))),(2,(o1 6 (.fa 3 (.t 1)))),(1,(o1 4 (.ld 1 false (.t 3)))),(1,(o1 7 (.ld 1 false (.t 6)))),
  (0,(o2 5 75 [.t 4])),(2,(o1 9 (.fa 0 (.t 1)))),
  (3,(o2 8 29 [.t 7])),
  (3,(o3 (.st 1 (.t 9) (.t 5)))),(2,(o1 10 (.fa 3 (.t 1)))),
  (3,(o3 (.st 1 (.t 10) (.t 8))))]
abbrev Qk:List AO:=
 [o1 11 (.ld 4 true (.t 1)),
  (o3 (.st 4 (.t 2) (.t 11)))]
abbrev T4:AF:=⟨12,(.seq (.reg Ql) (.seq (.mix Qn) (.seq (.reg Qk) .ret))),[.ld 4 true (.t 2)]⟩
theorem Qm:bD Try.prog (aE Try.prog 44) 44=some T4:=by kernel_rfl
/-! allocate.renamed-/
abbrev Qf:List AO:=
 [o1 3 (.bx 25 0 (.t 0)),o1 6 (.al 25 [.sl0,.n .i64 0,.n .i64 0,.sl0])]
abbrev Qe:List AO:=
 [o1 10 (.ld 4 true (.t 3)),
  (o2 11 44 [.t 10]),o1 7 (.al 25 [.sl0,.n .i64 0,.n .i64 0,.sl0]),
  (o3 (.st 4 (.t 7) (.t 11)))]
abbrev Qd:List AO:=
 [(mt 12 2),o1 13 (.fa 1 (.t 7)),
  (o3 (.st 1 (.t 13) (.t 12)))]
abbrev Qc:List AO:=
 [o1 14 (.fa 3 (.t 7)),o1 15 (.ld 1 false (.t 14)),o1 16 (.len (.t 15)),o1 17 (.mv (ci 0))]
abbrev Qb:List AO:=
 [o1 18 (.bin .lss (.t 17) (.t 16))]
abbrev Qa:List AO:=
 [(mt 19 17),o1 20 (.ia 5 (.t 15) (.t 17)),o1 21 (.ld 5 true (.t 20)),o1 9 (.al 60 [.n .i64 0,.n .i64 0,.n .i64 0,.n .i64 0,.n .u32 0]),
  (mt 8 19),
  (o3 (.st 5 (.t 9) (.t 21)))]
abbrev Qh:List (Nat×AO):=
 [(2,(o1 22 (.fa 3 (.t 7)))),
  (2,(mt 24 8)),
  (2,(mt 26 1)),(1,(o1 23 (.ld 1 false (.t 22)))),(1,(o1 25 (.ld 5 true (.t 9)))),
  (0,(o2 27 46 [.t 25,.t 26])),(2,(o1 28 (.ia 5 (.t 23) (.t 24)))),
  (3,(o3 (.st 5 (.t 28) (.t 27))))]
abbrev Qi:AC:=
 (.seq (.reg Qa) (.mix Qh))
abbrev P9:List AO:=
 [o1 29 (.bin .add (.t 17) (ci 1)),
  (mt 17 29)]
abbrev Qj:AC:=
 (.seq (.reg Qb) (.seq (.cond (.t 18) .skip (.exit 0)) (.seq (.block 1 Qi) (.reg P9))))
abbrev HL:AC:=
 (.loop Qj)
abbrev HK:List AO:=
 [o1 30 (.ld 4 true (.t 7)),
  (o3 (.st 4 (.t 6) (.t 30)))]
abbrev T3:AF:=⟨31,(.seq (.reg Qf) (.seq (.reg Qe) (.seq (.reg Qd) (.seq (.seq (.reg Qc) (.block 0 HL)) (.seq (.reg HK) .ret))))),[.ld 4 true (.t 6)]⟩
theorem Qg:bD Try.prog (aE Try.prog 43) 43=some T3:=by kernel_rfl
/-! allocate.Compact-/
abbrev P6:List AO:=
 [o1 1 (.bx 25 0 (.t 0)),o1 2 (.al 25 [.sl0,.n .i64 0,.n .i64 0,.sl0]),o1 3 (.mv (ci 0))]
abbrev P5:List AO:=
 [o1 10 (.ld 4 true (.t 1)),
  (o2 11 27 [.t 10]),
  (mt 9 11),o1 12 (.ext 0 (.t 9)),o1 13 (.ext 1 (.t 9)),
  (mt 4 12),
  (mt 5 13)]
abbrev P4:List AO:=
 [(mt 14 5),o1 15 (.bin .neq (.t 14) (ci 0))]
abbrev P3:List AO:=
 [o1 16 (.bd [.sl0,.n .i64 0,.n .i64 0,.sl0] []),
  (mt 17 5),
  (o3 (.st 4 (.t 2) (.t 16))),
  (mt 3 17)]
abbrev P2:List AO:=
 [⟨some 18,none,.mo (.mm)⟩,
  (mt 6 18)]
abbrev P1:List AO:=
 [o1 19 (.fa 3 (.t 1)),o1 20 (.ld 1 false (.t 19)),
  (o2 21 52 [.t 20]),o1 22 (.len (.t 21)),o1 23 (.mv (ci 0))]
abbrev P0:List AO:=
 [o1 24 (.bin .lss (.t 23) (.t 22))]
abbrev PZ:List AO:=
 [(mt 25 23),o1 26 (.ia 1 (.t 21) (.t 23)),o1 27 (.ld 1 false (.t 26)),
  (mt 7 25),
  (mt 8 27)]
abbrev PY:List AO:=
 [(mt 28 6),
  (mt 29 8),
  (mt 30 7),⟨none,none,.mo (.mu (.t 28) (.t 29) (.t 30))⟩]
abbrev P8:AC:=
 (.seq (.reg PZ) (.reg PY))
abbrev HC:List AO:=
 [o1 31 (.bin .add (.t 23) (ci 1)),
  (mt 23 31)]
abbrev HJ:AC:=
 (.seq (.reg P0) (.seq (.cond (.t 24) .skip (.exit 0)) (.seq (.block 1 P8) (.reg HC))))
abbrev HH:AC:=
 (.loop HJ)
abbrev Hz:List AO:=
 [o1 32 (.ld 4 true (.t 1)),
  (mt 33 6),
  (mt 34 6),⟨some 35,none,.mo (.ln (.t 34))⟩,
  (o2 36 43 [.t 32,.t 33,.t 35]),
  (o3 (.st 4 (.t 2) (.t 36))),o1 3 (.mv (ci 0))]
abbrev T2:AF:=⟨37,(.seq (.reg P6) (.seq (.seq (.reg P5) (.seq (.reg P4) (.cond (.t 15) (.seq (.reg P3) .ret) .skip))) (.seq (.reg P2) (.seq (.seq (.reg P1) (.block 0 HH)) (.seq (.reg Hz) .ret))))),[.ld 4 true (.t 2),.mv (.t 3)]⟩
theorem P7:bD Try.prog (aE Try.prog 20) 20=some T2:=by kernel_rfl
/-! allocate.interference-/
abbrev PV:List AO:=
 [o1 2 (.mv (.c (.cv (.map none))))]
abbrev PU:List AO:=
 [⟨some 16,none,.mo (.mm)⟩,o1 3 (.al 117 [.cv (.map none)]),
  (o3 (.st 1 (.t 3) (.t 16)))]
abbrev PS:List AO:=
 [o1 17 (.mf 94 [] [.t 3]),
  (mt 4 17)]
abbrev PQ:List AO:=
 [(mt 19 0),
  (o2 20 36 [.t 19]),
  (mt 18 20),o1 21 (.ext 0 (.t 18)),o1 22 (.ext 1 (.t 18)),
  (mt 5 21),
  (mt 6 22)]
abbrev PP:List AO:=
 [(mt 23 5),o1 24 (.ia 1 (.t 23) (ci 0)),o1 25 (.ld 1 false (.t 24)),⟨some 26,none,.mo (.rg (.t 25))⟩]
abbrev PO:List AO:=
 [⟨some 27,none,.mo (.nx (.t 26))⟩,o1 28 (.ext 0 (.t 27))]
abbrev PN:List AO:=
 [⟨some 29,none,.mo (.en (.t 26))⟩,o1 30 (.ext 0 (.t 29)),
  (mt 7 30)]
abbrev PL:List AO:=
 [(mt 31 5),o1 32 (.ia 1 (.t 31) (ci 0)),o1 33 (.ld 1 false (.t 32)),⟨some 34,none,.mo (.rg (.t 33))⟩]
abbrev PK:List AO:=
 [⟨some 35,none,.mo (.nx (.t 34))⟩,o1 36 (.ext 0 (.t 35))]
abbrev PJ:List AO:=
 [⟨some 37,none,.mo (.en (.t 34))⟩,o1 38 (.ext 0 (.t 37)),
  (mt 8 38)]
abbrev Hl:List AO:=
 [(mt 39 7),
  (mt 40 8),o1 41 (.bin .neq (.t 39) (.t 40))]
abbrev Hk:List AO:=
 [(mt 42 4),
  (mt 43 7),
  (mt 44 8),⟨some 45,none,.cl (.t 42) [.t 43,.t 44]⟩]
abbrev Ht:AC:=
 (.seq (.reg PJ) (.seq (.reg Hl) (.cond (.t 41) (.reg Hk) .skip)))
abbrev Hy:AC:=
 (.seq (.reg PK) (.seq (.cond (.t 36) .skip (.exit 2)) (.block 3 Ht)))
abbrev Hs:AC:=
 (.loop Hy)
abbrev Hr:AC:=
 (.seq (.reg PN) (.seq (.reg PL) (.block 2 Hs)))
abbrev Hx:AC:=
 (.seq (.reg PO) (.seq (.cond (.t 28) .skip (.exit 0)) (.block 1 Hr)))
abbrev xk:AC:=
 (.loop Hx)
abbrev Hj:List AO:=
 [(mt 46 0),o1 47 (.len (.t 46)),o1 48 (.mv (ci 0))]
abbrev Hi:List AO:=
 [o1 49 (.bin .lss (.t 48) (.t 47))]
abbrev Hh:List AO:=
 [(mt 50 48),o1 51 (.ia 5 (.t 46) (.t 48)),o1 52 (.ld 5 true (.t 51)),o1 10 (.al 60 [.n .i64 0,.n .i64 0,.n .i64 0,.n .i64 0,.n .u32 0]),
  (mt 9 50),
  (o3 (.st 5 (.t 10) (.t 52)))]
abbrev Hg:List AO:=
 [o1 54 (.ld 5 true (.t 10)),
  (o2 55 68 [.t 54]),
  (mt 53 55),o1 56 (.ext 0 (.t 53)),o1 57 (.ext 1 (.t 53)),
  (mt 11 56),
  (mt 12 57)]
abbrev Hf:List AO:=
 [(mt 58 6),
  (mt 59 9),o1 60 (.ia 1 (.t 58) (.t 59)),o1 61 (.ld 1 false (.t 60)),o1 62 (.len (.t 61)),o1 63 (.mv (ci 0))]
abbrev He:List AO:=
 [o1 64 (.bin .lss (.t 63) (.t 62))]
abbrev Hd:List AO:=
 [o1 65 (.ia 1 (.t 61) (.t 63)),o1 66 (.ld 1 false (.t 65)),
  (mt 14 66)]
abbrev Hb:List AO:=
 [(mt 67 5),
  (mt 68 14),o1 69 (.ia 1 (.t 67) (.t 68)),o1 70 (.ld 1 false (.t 69)),⟨some 71,none,.mo (.rg (.t 70))⟩]
abbrev G9:List AO:=
 [⟨some 72,none,.mo (.nx (.t 71))⟩,o1 73 (.ext 0 (.t 72))]
abbrev G8:List AO:=
 [⟨some 74,none,.mo (.en (.t 71))⟩,o1 75 (.ext 0 (.t 74)),
  (mt 15 75)]
abbrev G7:List AO:=
 [(mt 76 12),o1 77 (.bin .geq (.t 76) (ci 0)),
  (mt 78 77),
  (o5 79 78 (.mv (.t 15))),
  (o5 80 78 (.mv (.t 12))),
  (o5 81 78 (.bin .neq (.t 79) (.t 80))),o1 82 (.pick (.t 78) (.t 81) (.c (.b false)))]
abbrev G6:List AO:=
 [(mt 83 4),
  (mt 84 12),
  (mt 85 15),⟨some 86,none,.cl (.t 83) [.t 84,.t 85]⟩]
abbrev Hq:AC:=
 (.seq (.reg G8) (.seq (.reg G7) (.cond (.t 82) (.reg G6) .skip)))
abbrev Hw:AC:=
 (.seq (.reg G9) (.seq (.cond (.t 73) .skip (.exit 8)) (.block 9 Hq)))
abbrev Hp:AC:=
 (.loop Hw)
abbrev Ho:AC:=
 (.seq (.reg Hd) (.seq (.reg Hb) (.block 8 Hp)))
abbrev G5:List AO:=
 [o1 87 (.bin .add (.t 63) (ci 1)),
  (mt 63 87)]
abbrev Hv:AC:=
 (.seq (.reg He) (.seq (.cond (.t 64) .skip (.exit 6)) (.seq (.block 7 Ho) (.reg G5))))
abbrev Hn:AC:=
 (.loop Hv)
abbrev Hm:AC:=
 (.seq (.reg Hh) (.seq (.reg Hg) (.seq (.reg Hf) (.block 6 Hn))))
abbrev G4:List AO:=
 [o1 88 (.bin .add (.t 48) (ci 1)),
  (mt 48 88)]
abbrev Hu:AC:=
 (.seq (.reg Hi) (.seq (.cond (.t 49) .skip (.exit 4)) (.seq (.block 5 Hm) (.reg G4))))
abbrev xj:AC:=
 (.loop Hu)
abbrev G3:List AO:=
 [o1 89 (.ld 1 false (.t 3)),
  (mt 2 89)]
abbrev T1:AF:=⟨90,(.seq (.reg PV) (.seq (.reg PU) (.seq (.reg PS) (.seq (.reg PQ) (.seq (.seq (.reg PP) (.block 0 xk)) (.seq (.seq (.reg Hj) (.block 4 xj)) (.seq (.reg G3) .ret))))))),[.mv (.t 2)]⟩
theorem PW:bD Try.prog (aE Try.prog 74) 74=some T1:=by kernel_rfl
/-! allocate.interference$1-/
abbrev PC:List AO:=
 [(mt 7 0),
  (mt 8 1),o1 9 (.bd [.n .i64 0,.n .i64 0] [(0,1,(.t 7)),(1,1,(.t 8))]),
  (mt 10 1),
  (mt 11 0),o1 12 (.bd [.n .i64 0,.n .i64 0] [(0,1,(.t 10)),(1,1,(.t 11))]),o1 13 (.bs 142 2 2 [.n .i64 0,.n .i64 0,.n .i64 0,.n .i64 0] [(0,2,(.t 9)),(2,2,(.t 12))]),o1 14 (.len (.t 13)),o1 15 (.mv (ci 0))]
abbrev PB:List AO:=
 [o1 16 (.bin .lss (.t 15) (.t 14))]
abbrev PA:List AO:=
 [o1 17 (.ia 2 (.t 13) (.t 15)),o1 18 (.ld 2 true (.t 17)),o1 6 (.al 142 [.n .i64 0,.n .i64 0]),
  (o3 (.st 2 (.t 6) (.t 18)))]
abbrev Pz:List AO:=
 [o1 19 (.ld 1 false (.t 2)),o1 20 (.iaa 2 1 (.t 6) (ci 0)),o1 21 (.ld 1 false (.t 20)),⟨some 22,none,.mo (.lk (.cv (.map none)) false (.t 19) (.t 21))⟩,⟨some 23,none,.mo (.mn false (.t 22))⟩]
abbrev Py:List AO:=
 [o1 24 (.ld 1 false (.t 2)),o1 25 (.iaa 2 1 (.t 6) (ci 0)),o1 26 (.ld 1 false (.t 25)),⟨some 27,none,.mo (.mm)⟩,⟨none,none,.mo (.mu (.t 24) (.t 26) (.t 27))⟩]
abbrev Px:List AO:=
 [o1 28 (.ld 1 false (.t 2)),o1 29 (.iaa 2 1 (.t 6) (ci 0)),o1 30 (.ld 1 false (.t 29)),⟨some 31,none,.mo (.lk (.cv (.map none)) false (.t 28) (.t 30))⟩,o1 32 (.iaa 2 1 (.t 6) (ci 1)),o1 33 (.ld 1 false (.t 32)),⟨none,none,.mo (.mu (.t 31) (.t 33) (.c (.b true)))⟩]
abbrev PG:AC:=
 (.seq (.reg PA) (.seq (.seq (.reg Pz) (.cond (.t 23) (.reg Py) .skip)) (.reg Px)))
abbrev Pw:List AO:=
 [o1 34 (.bin .add (.t 15) (ci 1)),
  (mt 15 34)]
abbrev PH:AC:=
 (.seq (.reg PB) (.seq (.cond (.t 16) .skip (.exit 0)) (.seq (.block 1 PG) (.reg Pw))))
abbrev PF:AC:=
 (.loop PH)
abbrev T0:AF:=⟨35,(.seq (.reg PC) (.block 0 PF)),[]⟩
theorem PD:bD Try.prog (aE Try.prog 94) 94=some T0:=by kernel_rfl
/-! allocate.spiller.cell-/
abbrev Pt:List AO:=
 [o1 2 (.bx 83 0 (.t 0)),o1 4 (.mv (.c (.n .u32 0))),o1 5 (.mv (.c (.b false)))]
abbrev Pv:List (Nat×AO):=
 [(2,(o1 6 (.fa 1 (.t 2)))),
  (2,(mt 8 1)),(2,(o1 10 (.fa 0 (.t 2)))),
  (2,(mt 14 1)),(2,(o1 15 (.fa 0 (.t 2)))),(1,(o1 7 (.ld 1 false (.t 6)))),(2,(o1 9 (.bin .add (.t 7) (.t 8)))),(1,(o1 11 (.ld 1 false (.t 10)))),(2,(o1 12 (.bin .sub (.t 9) (.t 11)))),(2,(o1 13 (.cvi .u32 (.t 12)))),
  (2,(mt 4 13)),(1,(o1 16 (.ld 1 false (.t 15)))),(2,(o1 17 (.bin .geq (.t 14) (.t 16)))),
  (2,(mt 5 17))]
abbrev TZ:AF:=⟨18,(.seq (.reg Pt) (.seq (.mix Pv) .ret)),[.mv (.t 4),.mv (.t 5)]⟩
theorem Pu:bD Try.prog (aE Try.prog 76) 76=some TZ:=by kernel_rfl
/-! allocate.sequence-/
abbrev Pq:List AO:=
 [o1 2 (.mv (.c .sl0))]
abbrev Pp:List AO:=
 [(mt 3 0),
  (mt 2 3)]
abbrev TY:AF:=⟨4,(.seq (.reg Pq) (.seq (.reg Pp) .ret)),[.mv (.t 2)]⟩
theorem Ps:bD Try.prog (aE Try.prog 77) 77=some TY:=by kernel_rfl
/-! allocate.spiller.rewrite-/
abbrev Pk:List AO:=
 [o1 2 (.bx 83 0 (.t 0)),o1 3 (.bx 60 0 (.t 1)),o1 4 (.mv (.c .sl0))]
abbrev Pj:List AO:=
 [o1 5 (.mv (.c .sl0)),o1 6 (.mv (.c .sl0))]
abbrev Ph:List AO:=
 [o1 13 (.fa 2 (.t 3)),o1 14 (.fa 3 (.t 3)),o1 15 (.bs 120 1 2 [.p0,.p0] [(0,1,(.t 13)),(1,1,(.t 14))]),o1 16 (.len (.t 15)),o1 17 (.mv (ci 0))]
abbrev Pg:List AO:=
 [o1 18 (.bin .lss (.t 17) (.t 16))]
abbrev Pf:List AO:=
 [(mt 19 17),o1 20 (.ia 1 (.t 15) (.t 17)),o1 21 (.ld 1 false (.t 20)),
  (mt 7 19),
  (mt 8 21)]
abbrev Pn:List (Nat×AO):=
 [(2,(mt 24 8)),(2,(o1 25 (.nc (.t 24)))),(1,(o1 23 (.ld 2 true (.t 2)))),(1,(o1 26 (.ld 1 false (.t 25)))),
  (3,(o2 27 76 [.t 23,.t 26])),
  (2,(mt 22 27)),(2,(o1 28 (.ext 0 (.t 22)))),(2,(o1 29 (.ext 1 (.t 22)))),
  (2,(mt 9 28)),
  (2,(mt 10 29))]
abbrev Pe:List AO:=
 [(mt 30 10)]
abbrev Pd:List AO:=
 [(mt 31 8),o1 32 (.fa 0 (.t 2)),o1 33 (.ld 1 false (.t 32)),
  (mt 34 7),o1 35 (.bin .add (.t 33) (.t 34)),o1 36 (.nc (.t 31)),
  (o3 (.st 1 (.t 36) (.t 35)))]
abbrev Pc:List AO:=
 [(mt 37 5),
  (mt 38 8),o1 39 (.nc (.t 38)),o1 40 (.ld 1 false (.t 39)),
  (mt 41 9),o1 42 (.bd [.n .i64 0,.n .i64 0,.n .i64 0,.n .i64 0,.n .u32 0] [(0,1,(ci 38)),(1,1,(.t 40)),(2,1,(.c (.n .i64 (-1)))),(3,1,(.c (.n .i64 (-1)))),(4,1,(.t 41))]),o1 43 (.bs 60 5 1 [.n .i64 0,.n .i64 0,.n .i64 0,.n .i64 0,.n .u32 0] [(0,5,(.t 42))]),o1 44 (.app 60 5 40 (.t 37) (.t 43)),
  (mt 5 44)]
abbrev Po:AC:=
 (.seq (.reg Pf) (.seq (.mix Pn) (.seq (.reg Pe) (.cond (.t 30) (.seq (.reg Pd) (.reg Pc)) .skip))))
abbrev G0:List AO:=
 [o1 45 (.bin .add (.t 17) (ci 1)),
  (mt 17 45)]
abbrev G2:AC:=
 (.seq (.reg Pg) (.seq (.cond (.t 18) .skip (.exit 0)) (.seq (.block 1 Po) (.reg G0))))
abbrev G1:AC:=
 (.loop G2)
abbrev GZ:List AO:=
 [o1 47 (.ld 2 true (.t 2)),o1 48 (.fa 1 (.t 3)),o1 49 (.ld 1 false (.t 48)),
  (o2 50 76 [.t 47,.t 49]),
  (mt 46 50),o1 51 (.ext 0 (.t 46)),o1 52 (.ext 1 (.t 46)),
  (mt 11 51),
  (mt 12 52)]
abbrev GY:List AO:=
 [(mt 53 12)]
abbrev GV:List AO:=
 [o1 54 (.fa 0 (.t 2)),o1 55 (.ld 1 false (.t 54)),o1 56 (.bin .add (.t 55) (ci 2)),o1 57 (.fa 1 (.t 3)),
  (o3 (.st 1 (.t 57) (.t 56)))]
abbrev GU:List AO:=
 [o1 58 (.fa 1 (.t 3)),o1 59 (.ld 1 false (.t 58)),
  (mt 60 11),o1 61 (.bd [.n .i64 0,.n .i64 0,.n .i64 0,.n .i64 0,.n .u32 0] [(0,1,(ci 37)),(1,1,(.c (.n .i64 (-1)))),(2,1,(.t 59)),(3,1,(.c (.n .i64 (-1)))),(4,1,(.t 60))]),o1 62 (.bs 60 5 1 [.n .i64 0,.n .i64 0,.n .i64 0,.n .i64 0,.n .u32 0] [(0,5,(.t 61))]),
  (o2 63 77 [.t 62]),
  (mt 6 63)]
abbrev xi:List AO:=
 [(mt 64 5),o1 65 (.ld 5 true (.t 3)),o1 66 (.bs 60 5 1 [.n .i64 0,.n .i64 0,.n .i64 0,.n .i64 0,.n .u32 0] [(0,5,(.t 65))]),
  (o2 67 77 [.t 66]),
  (mt 68 6),o1 69 (.bs 23 1 3 [.sl0,.sl0,.sl0] [(0,1,(.t 64)),(1,1,(.t 67)),(2,1,(.t 68))]),
  (o2 70 78 [.t 69]),
  (mt 4 70)]
abbrev TL:AF:=⟨71,(.seq (.reg Pk) (.seq (.reg Pj) (.seq (.seq (.reg Ph) (.block 0 G1)) (.seq (.seq (.reg GZ) (.seq (.reg GY) (.cond (.t 53) (.seq (.reg GV) (.reg GU)) .skip))) (.seq (.reg xi) .ret))))),[.mv (.t 4)]⟩
theorem Pm:bD Try.prog (aE Try.prog 45) 45=some TL:=by kernel_rfl
/-! allocate.Allocate-/
abbrev Pb:List AO:=
 [o1 2 (.bx 25 0 (.t 0)),o1 4 (.al 25 [.sl0,.n .i64 0,.n .i64 0,.sl0]),o1 5 (.mv (ci 0))]
abbrev Pa:List AO:=
 [o1 15 (.ld 4 true (.t 2)),
  (o2 16 27 [.t 15]),
  (mt 14 16),o1 17 (.ext 0 (.t 14)),o1 18 (.ext 1 (.t 14)),
  (mt 6 17),
  (mt 7 18)]
abbrev O9:List AO:=
 [(mt 19 7),o1 20 (.bin .neq (.t 19) (ci 0))]
abbrev O8:List AO:=
 [o1 21 (.bd [.sl0,.n .i64 0,.n .i64 0,.sl0] []),
  (mt 22 7),
  (o3 (.st 4 (.t 4) (.t 21))),
  (mt 5 22)]
abbrev O7:List AO:=
 [(mt 23 1),o1 24 (.bin .lss (.t 23) (ci 4)),
  (mt 25 24),
  (o4 26 25 (.mv (.t 1))),
  (o4 27 25 (.bin .gtr (.t 26) (ci 1024))),o1 28 (.pick (.t 25) (.c (.b true)) (.t 27))]
abbrev O6:List AO:=
 [o1 29 (.bd [.sl0,.n .i64 0,.n .i64 0,.sl0] []),
  (o3 (.st 4 (.t 4) (.t 29))),o1 5 (.mv (ci 2))]
abbrev O5:List AO:=
 [o1 31 (.fa 3 (.t 2)),o1 32 (.ld 1 false (.t 31)),
  (o2 33 42 [.t 32]),
  (mt 30 33),o1 34 (.ext 0 (.t 30)),o1 35 (.ext 1 (.t 30)),
  (mt 8 34),
  (mt 9 35)]
abbrev O4:List AO:=
 [(mt 36 9),
  (mt 37 1),o1 38 (.bin .leq (.t 36) (.t 37))]
abbrev O3:List AO:=
 [o1 39 (.ld 4 true (.t 2)),
  (mt 40 8),
  (mt 41 9),
  (o2 42 43 [.t 39,.t 40,.t 41]),
  (o3 (.st 4 (.t 4) (.t 42))),o1 5 (.mv (ci 0))]
abbrev O2:List AO:=
 [(mt 43 1),o1 44 (.bin .sub (.t 43) (ci 3)),o1 45 (.fa 2 (.t 2)),o1 46 (.ld 1 false (.t 45)),o1 47 (.bd [.n .i64 0,.n .i64 0] [(0,1,(.t 44)),(1,1,(.t 46))]),o1 10 (.al 83 [.n .i64 0,.n .i64 0]),
  (o3 (.st 2 (.t 10) (.t 47)))]
abbrev GM:List AO:=
 [o1 48 (.ld 4 true (.t 2)),
  (o2 49 44 [.t 48]),o1 11 (.al 25 [.sl0,.n .i64 0,.n .i64 0,.sl0]),
  (o3 (.st 4 (.t 11) (.t 49)))]
abbrev GO:List (Nat×AO):=
 [(2,(mt 50 1)),(2,(o1 51 (.fa 2 (.t 2)))),
  (2,(mt 53 9)),(2,(o1 55 (.fa 0 (.t 10)))),(2,(o1 58 (.fa 1 (.t 11)))),(1,(o1 52 (.ld 1 false (.t 51)))),(2,(o1 54 (.bin .add (.t 52) (.t 53)))),(1,(o1 56 (.ld 1 false (.t 55)))),(2,(o1 57 (.bin .sub (.t 54) (.t 56)))),
  (0,(o3 (.st 1 (.t 58) (.t 50)))),(2,(o1 59 (.fa 2 (.t 11)))),
  (3,(o3 (.st 1 (.t 59) (.t 57)))),(2,(o1 60 (.fa 3 (.t 11)))),
  (3,(o3 (.st 1 (.t 60) (.c .sl0))))]
abbrev GL:List AO:=
 [o1 61 (.fa 3 (.t 2)),o1 62 (.ld 1 false (.t 61)),o1 63 (.len (.t 62)),o1 64 (.mv (ci 0))]
abbrev GK:List AO:=
 [o1 65 (.bin .lss (.t 64) (.t 63))]
abbrev GJ:List AO:=
 [o1 66 (.ia 5 (.t 62) (.t 64)),o1 67 (.ld 5 true (.t 66)),o1 13 (.al 60 [.n .i64 0,.n .i64 0,.n .i64 0,.n .i64 0,.n .u32 0]),
  (o3 (.st 5 (.t 13) (.t 67)))]
abbrev GN:List (Nat×AO):=
 [(2,(o1 68 (.fa 3 (.t 11)))),
  (2,(mt 72 8)),(1,(o1 69 (.ld 1 false (.t 68)))),(1,(o1 70 (.ld 2 true (.t 10)))),(1,(o1 71 (.ld 5 true (.t 13)))),
  (0,(o2 73 46 [.t 71,.t 72])),
  (0,(o2 74 45 [.t 70,.t 73])),(3,(o1 75 (.app 60 5 40 (.t 69) (.t 74)))),(2,(o1 76 (.fa 3 (.t 11)))),
  (3,(o3 (.st 1 (.t 76) (.t 75))))]
abbrev GQ:AC:=
 (.seq (.reg GJ) (.mix GN))
abbrev GI:List AO:=
 [o1 77 (.bin .add (.t 64) (ci 1)),
  (mt 64 77)]
abbrev GR:AC:=
 (.seq (.reg GK) (.seq (.cond (.t 65) .skip (.exit 0)) (.seq (.block 1 GQ) (.reg GI))))
abbrev GP:AC:=
 (.loop GR)
abbrev GH:List AO:=
 [o1 78 (.fa 2 (.t 11)),o1 79 (.ld 1 false (.t 78)),o1 80 (.bin .gtr (.t 79) (ci 1024)),
  (mt 81 80),
  (o4 82 81 (.fa 3 (.t 11))),
  (o4 83 81 (.ld 1 false (.t 82))),
  (o4 84 81 (.len (.t 83))),
  (o4 85 81 (.bin .gtr (.t 84) (ci 16384))),o1 86 (.pick (.t 81) (.c (.b true)) (.t 85))]
abbrev GG:List AO:=
 [o1 87 (.bd [.sl0,.n .i64 0,.n .i64 0,.sl0] []),
  (o3 (.st 4 (.t 4) (.t 87))),o1 5 (.mv (ci 6))]
abbrev GF:List AO:=
 [o1 88 (.ld 4 true (.t 11)),
  (o3 (.st 4 (.t 4) (.t 88))),o1 5 (.mv (ci 0))]
abbrev TK:AF:=⟨89,(.seq (.reg Pb) (.seq (.seq (.reg Pa) (.seq (.reg O9) (.cond (.t 20) (.seq (.reg O8) .ret) .skip))) (.seq (.seq (.reg O7) (.cond (.t 28) (.seq (.reg O6) .ret) .skip)) (.seq (.reg O5) (.seq (.seq (.reg O4) (.cond (.t 38) (.seq (.reg O3) .ret) .skip)) (.seq (.reg O2) (.seq (.reg GM) (.seq (.mix GO) (.seq (.seq (.reg GL) (.block 0 GP)) (.seq (.seq (.reg GH) (.cond (.t 86) (.seq (.reg GG) .ret) .skip)) (.seq (.reg GF) .ret))))))))))),[.ld 4 true (.t 4),.mv (.t 5)]⟩
theorem tD:bD Try.prog (aE Try.prog 17) 17=some TK:=by kernel_rfl
/-! allocate.Live-/
abbrev O1:List AO:=
 [o1 1 (.bx 25 0 (.t 0)),o1 2 (.mv (.c .sl0)),o1 3 (.mv (ci 0))]
abbrev O0:List AO:=
 [o1 12 (.ld 4 true (.t 1)),
  (o2 13 27 [.t 12]),
  (mt 11 13),o1 14 (.ext 0 (.t 11)),o1 15 (.ext 1 (.t 11)),
  (mt 4 14),
  (mt 5 15)]
abbrev OZ:List AO:=
 [(mt 16 5),o1 17 (.bin .neq (.t 16) (ci 0))]
abbrev OY:List AO:=
 [(mt 18 5),o1 2 (.mv (.c .sl0)),
  (mt 3 18)]
abbrev OX:List AO:=
 [o1 20 (.fa 3 (.t 1)),o1 21 (.ld 1 false (.t 20)),
  (o2 22 36 [.t 21]),
  (mt 19 22),o1 23 (.ext 0 (.t 19)),o1 24 (.ext 1 (.t 19)),
  (mt 6 23),
  (mt 7 24)]
abbrev OW:List AO:=
 [o1 8 (.mv (.c .sl0))]
abbrev OV:List AO:=
 [(mt 25 6),o1 26 (.len (.t 25)),o1 27 (.mv (ci 0))]
abbrev OU:List AO:=
 [o1 28 (.bin .lss (.t 27) (.t 26))]
abbrev OT:List AO:=
 [o1 29 (.ia 1 (.t 25) (.t 27)),o1 30 (.ld 1 false (.t 29)),
  (mt 10 30)]
abbrev OS:List AO:=
 [(mt 31 8),
  (mt 32 10),
  (o2 33 38 [.t 32]),
  (o2 34 37 [.t 33]),o1 35 (.bs 39 1 1 [.sl0] [(0,1,(.t 34))]),o1 36 (.app 39 1 24 (.t 31) (.t 35)),
  (mt 8 36)]
abbrev GC:AC:=
 (.seq (.reg OT) (.reg OS))
abbrev Gz:List AO:=
 [o1 37 (.bin .add (.t 27) (ci 1)),
  (mt 27 37)]
abbrev GD:AC:=
 (.seq (.reg OU) (.seq (.cond (.t 28) .skip (.exit 0)) (.seq (.block 1 GC) (.reg Gz))))
abbrev GB:AC:=
 (.loop GD)
abbrev Gy:List AO:=
 [(mt 38 8),
  (mt 2 38),o1 3 (.mv (ci 0))]
abbrev TJ:AF:=⟨39,(.seq (.reg O1) (.seq (.seq (.reg O0) (.seq (.reg OZ) (.cond (.t 17) (.seq (.reg OY) .ret) .skip))) (.seq (.reg OX) (.seq (.reg OW) (.seq (.seq (.reg OV) (.block 0 GB)) (.seq (.reg Gy) .ret)))))),[.mv (.t 2),.mv (.t 3)]⟩
theorem CP:bD Try.prog (aE Try.prog 11) 11=some TJ:=by kernel_rfl
/-! slices.Concat[[]api.RegInstr,api.RegInstr]-/
abbrev OM:List AO:=
 [o1 2 (.mv (.c .sl0))]
abbrev OL:List AO:=
 [o1 3 (.mv (ci 0))]
abbrev OK:List AO:=
 [(mt 9 0),o1 10 (.len (.t 9)),o1 11 (.mv (ci 0))]
abbrev OJ:List AO:=
 [o1 12 (.bin .lss (.t 11) (.t 10))]
abbrev OI:List AO:=
 [o1 13 (.ia 1 (.t 9) (.t 11)),o1 14 (.ld 1 false (.t 13)),
  (mt 5 14)]
abbrev OH:List AO:=
 [(mt 15 3),
  (mt 16 5),o1 17 (.len (.t 16)),o1 18 (.bin .add (.t 15) (.t 17)),
  (mt 3 18)]
abbrev OG:List AO:=
 [(mt 19 3),o1 20 (.bin .lss (.t 19) (ci 0))]
abbrev OP:AC:=
 (.seq (.reg OI) (.seq (.reg OH) (.seq (.reg OG) (.cond (.t 20) .die .skip))))
abbrev OE:List AO:=
 [o1 22 (.bin .add (.t 11) (ci 1)),
  (mt 11 22)]
abbrev OQ:AC:=
 (.seq (.reg OJ) (.seq (.cond (.t 12) .skip (.exit 0)) (.seq (.block 1 OP) (.reg OE))))
abbrev Gw:AC:=
 (.loop OQ)
abbrev Gs:List AO:=
 [(mt 23 3),
  (o2 24 95 [(.c .sl0),.t 23]),
  (mt 6 24)]
abbrev Gr:List AO:=
 [(mt 25 0),o1 26 (.len (.t 25)),o1 27 (.mv (ci 0))]
abbrev Gq:List AO:=
 [o1 28 (.bin .lss (.t 27) (.t 26))]
abbrev Gp:List AO:=
 [o1 29 (.ia 1 (.t 25) (.t 27)),o1 30 (.ld 1 false (.t 29)),
  (mt 8 30)]
abbrev Gn:List AO:=
 [(mt 31 6),
  (mt 32 8),o1 33 (.app 60 5 40 (.t 31) (.t 32)),
  (mt 6 33)]
abbrev Gv:AC:=
 (.seq (.reg Gp) (.reg Gn))
abbrev Gm:List AO:=
 [o1 34 (.bin .add (.t 27) (ci 1)),
  (mt 27 34)]
abbrev Gx:AC:=
 (.seq (.reg Gq) (.seq (.cond (.t 28) .skip (.exit 2)) (.seq (.block 3 Gv) (.reg Gm))))
abbrev Gu:AC:=
 (.loop Gx)
abbrev Gl:List AO:=
 [(mt 35 6),
  (mt 2 35)]
abbrev TI:AF:=⟨36,(.seq (.reg OM) (.seq (.reg OL) (.seq (.seq (.reg OK) (.block 0 Gw)) (.seq (.reg Gs) (.seq (.seq (.reg Gr) (.block 2 Gu)) (.seq (.reg Gl) .ret)))))),[.mv (.t 2)]⟩
theorem OO:bD Try.prog (aE Try.prog 78) 78=some TI:=by kernel_rfl
/-! slices.Grow[[]api.RegInstr,api.RegInstr]-/
abbrev OC:List AO:=
 [o1 4 (.mv (.c .sl0))]
abbrev OA:List AO:=
 [(mt 5 1),o1 6 (.bin .lss (.t 5) (ci 0))]
abbrev Oz:List AO:=
 [(mt 8 1),
  (mt 9 0),o1 10 (.cpc (.t 9)),
  (mt 11 0),o1 12 (.len (.t 11)),o1 13 (.bin .sub (.t 10) (.t 12)),o1 14 (.bin .sub (.t 8) (.t 13)),
  (mt 1 14)]
abbrev Oy:List AO:=
 [(mt 15 1),o1 16 (.bin .gtr (.t 15) (ci 0))]
abbrev Ox:List AO:=
 [(mt 17 0),
  (mt 18 0),o1 19 (.cpc (.t 18)),o1 20 (.sl 5 (.t 17) none (some (.t 19))),
  (mt 21 1),o1 22 (.apm 60 5 40 [.n .i64 0,.n .i64 0,.n .i64 0,.n .i64 0,.n .u32 0] (.t 20) (.t 21)),
  (mt 23 0),o1 24 (.len (.t 23)),o1 25 (.sl 5 (.t 22) none (some (.t 24))),
  (mt 0 25)]
abbrev Ow:List AO:=
 [(mt 26 0),
  (mt 4 26)]
abbrev TH:AF:=⟨27,(.seq (.reg OC) (.seq (.seq (.reg OA) (.cond (.t 6) .die .skip)) (.seq (.seq (.reg Oz) (.seq (.reg Oy) (.cond (.t 16) (.reg Ox) .skip))) (.seq (.reg Ow) .ret)))),[.mv (.t 4)]⟩
theorem OD:bD Try.prog (aE Try.prog 95) 95=some TH:=by kernel_rfl
/-! slices.DeleteFunc[[]api.RegInstr,api.RegInstr]-/
/-! allocate.liveness-/
abbrev Oq:List AO:=
 [o1 2 (.mv (.c .sl0)),o1 3 (.mv (.c .sl0))]
abbrev Oo:List AO:=
 [(mt 18 0),
  (o2 19 66 [.t 18]),o1 4 (.al 28 [.sl0]),
  (o3 (.st 1 (.t 4) (.t 19)))]
abbrev Om:List AO:=
 [(mt 20 0),o1 21 (.len (.t 20)),o1 22 (.bin .add (.t 21) (ci 1)),o1 23 (.ms 70 1 8 [.cv (.map none)] (.t 22) (.t 22)),o1 5 (.al 66 [.sl0]),
  (o3 (.st 1 (.t 5) (.t 23)))]
abbrev Ol:List AO:=
 [o1 24 (.ld 1 false (.t 5)),o1 25 (.len (.t 24)),o1 26 (.mv (ci 0))]
abbrev Ok:List AO:=
 [o1 27 (.bin .lss (.t 26) (.t 25))]
abbrev Oj:List AO:=
 [(mt 28 26),
  (mt 6 28)]
abbrev Oi:List AO:=
 [o1 29 (.ld 1 false (.t 5)),
  (mt 30 6),⟨some 31,none,.mo (.mm)⟩,o1 32 (.ia 1 (.t 29) (.t 30)),
  (o3 (.st 1 (.t 32) (.t 31)))]
abbrev Ou:AC:=
 (.seq (.reg Oj) (.reg Oi))
abbrev Oh:List AO:=
 [o1 33 (.bin .add (.t 26) (ci 1)),
  (mt 26 33)]
abbrev Ov:AC:=
 (.seq (.reg Ok) (.seq (.cond (.t 27) .skip (.exit 0)) (.seq (.block 1 Ou) (.reg Oh))))
abbrev Gg:AC:=
 (.loop Ov)
abbrev F3:List AO:=
 [o1 7 (.al 4 [.b false]),
  (o3 (.st 1 (.t 7) (.c (.b true))))]
abbrev F2:List AO:=
 [o1 34 (.ld 1 false (.t 7))]
abbrev F1:List AO:=
 [(o3 (.st 1 (.t 7) (.c (.b false))))]
abbrev F0:List AO:=
 [(mt 35 0),
  (o2 36 67 [.t 35])]
abbrev FZ:List AO:=
 [(mt 8 37)]
abbrev FY:List AO:=
 [o1 9 (.al 60 [.n .i64 0,.n .i64 0,.n .i64 0,.n .i64 0,.n .u32 0]),
  (o3 (.st 5 (.t 9) (.t 38)))]
abbrev FX:List AO:=
 [o1 39 (.ld 1 false (.t 5)),
  (mt 40 8),o1 41 (.ia 1 (.t 39) (.t 40)),o1 42 (.ld 1 false (.t 41)),⟨some 43,none,.mo (.ln (.t 42))⟩,
  (mt 10 43)]
abbrev FW:List AO:=
 [o1 45 (.ld 5 true (.t 9)),
  (o2 46 68 [.t 45]),
  (mt 44 46),o1 47 (.ext 0 (.t 44)),o1 48 (.ext 1 (.t 44)),
  (mt 11 47),
  (mt 12 48)]
abbrev FV:List AO:=
 [o1 49 (.ld 1 false (.t 4)),
  (mt 50 8),o1 51 (.ia 1 (.t 49) (.t 50)),o1 52 (.ld 1 false (.t 51)),o1 53 (.len (.t 52)),o1 54 (.mv (ci 0))]
abbrev FU:List AO:=
 [o1 55 (.bin .lss (.t 54) (.t 53))]
abbrev FT:List AO:=
 [o1 56 (.ia 1 (.t 52) (.t 54)),o1 57 (.ld 1 false (.t 56)),
  (mt 14 57)]
abbrev FS:List AO:=
 [o1 58 (.ld 1 false (.t 5)),
  (mt 59 14),o1 60 (.ia 1 (.t 58) (.t 59)),o1 61 (.ld 1 false (.t 60)),⟨some 62,none,.mo (.rg (.t 61))⟩]
abbrev FR:List AO:=
 [⟨some 63,none,.mo (.nx (.t 62))⟩,o1 64 (.ext 0 (.t 63))]
abbrev FQ:List AO:=
 [⟨some 65,none,.mo (.en (.t 62))⟩,o1 66 (.ext 0 (.t 65)),
  (mt 15 66)]
abbrev FP:List AO:=
 [(mt 67 15),
  (mt 68 12),o1 69 (.bin .neq (.t 67) (.t 68))]
abbrev FO:List AO:=
 [o1 70 (.ld 1 false (.t 5)),
  (mt 71 8),o1 72 (.ia 1 (.t 70) (.t 71)),o1 73 (.ld 1 false (.t 72)),
  (mt 74 15),⟨none,none,.mo (.mu (.t 73) (.t 74) (.c (.b true)))⟩]
abbrev Gf:AC:=
 (.seq (.reg FQ) (.seq (.reg FP) (.cond (.t 69) (.reg FO) .skip)))
abbrev Gk:AC:=
 (.seq (.reg FR) (.seq (.cond (.t 64) .skip (.exit 8)) (.block 9 Gf)))
abbrev Gd:AC:=
 (.loop Gk)
abbrev Gc:AC:=
 (.seq (.reg FT) (.seq (.reg FS) (.block 8 Gd)))
abbrev FN:List AO:=
 [o1 75 (.bin .add (.t 54) (ci 1)),
  (mt 54 75)]
abbrev Gj:AC:=
 (.seq (.reg FU) (.seq (.cond (.t 55) .skip (.exit 6)) (.seq (.block 7 Gc) (.reg FN))))
abbrev Gb:AC:=
 (.loop Gj)
abbrev FM:List AO:=
 [(mt 76 11),o1 77 (.len (.t 76)),o1 78 (.mv (ci 0))]
abbrev FL:List AO:=
 [o1 79 (.bin .lss (.t 78) (.t 77))]
abbrev FK:List AO:=
 [o1 80 (.ia 1 (.t 76) (.t 78)),o1 81 (.ld 1 false (.t 80)),
  (mt 17 81)]
abbrev FJ:List AO:=
 [o1 82 (.ld 1 false (.t 5)),
  (mt 83 8),o1 84 (.ia 1 (.t 82) (.t 83)),o1 85 (.ld 1 false (.t 84)),
  (mt 86 17),⟨none,none,.mo (.mu (.t 85) (.t 86) (.c (.b true)))⟩]
abbrev Ga:AC:=
 (.seq (.reg FK) (.reg FJ))
abbrev FI:List AO:=
 [o1 87 (.bin .add (.t 78) (ci 1)),
  (mt 78 87)]
abbrev Gi:AC:=
 (.seq (.reg FL) (.seq (.cond (.t 79) .skip (.exit 10)) (.seq (.block 11 Ga) (.reg FI))))
abbrev F9:AC:=
 (.loop Gi)
abbrev FH:List AO:=
 [o1 88 (.ld 1 false (.t 7)),
  (mt 89 88),
  (o4 90 89 (.ld 1 false (.t 5))),
  (o4 91 89 (.mv (.t 8))),
  (o4 92 89 (.ia 1 (.t 90) (.t 91))),
  (o4 93 89 (.ld 1 false (.t 92))),⟨some 94,some (89,false),.mo (.ln (.t 93))⟩,
  (o4 95 89 (.mv (.t 10))),
  (o4 96 89 (.bin .gtr (.t 94) (.t 95))),o1 97 (.pick (.t 89) (.c (.b true)) (.t 96)),
  (o3 (.st 1 (.t 7) (.t 97)))]
abbrev F8:AC:=
 (.seq (.reg FX) (.seq (.reg FW) (.seq (.seq (.reg FV) (.block 6 Gb)) (.seq (.seq (.reg FM) (.block 10 F9)) (.reg FH)))))
abbrev xh:AC:=
 (.block 5 F8)
abbrev F7:AC:=
 (.rf (.t 36) 37 38 (.seq (.reg FZ) (.reg FY)) xh)
abbrev F6:AC:=
 (.seq (.reg F1) (.seq (.reg F0) (.block 4 F7)))
abbrev FG:List AO:=
 [o1 98 (.ld 1 false (.t 7))]
abbrev FF:List AO:=
 [o1 7 (.al 4 [.b false]),
  (o3 (.st 1 (.t 7) (.t 98)))]
abbrev Gh:AC:=
 (.seq (.seq (.reg F2) (.cond (.t 34) .skip (.exit 2))) (.seq (.block 3 F6) (.seq (.reg FG) (.reg FF))))
abbrev F5:AC:=
 (.loop Gh)
abbrev F4:List (Nat×AO):=
 [(1,(o1 99 (.ld 1 false (.t 5)))),
  (2,(mt 2 99)),(1,(o1 100 (.ld 1 false (.t 4)))),
  (2,(mt 3 100))]
abbrev TG:AF:=⟨101,(.seq (.reg Oq) (.seq (.reg Oo) (.seq (.reg Om) (.seq (.seq (.reg Ol) (.block 0 Gg)) (.seq (.seq (.reg F3) (.block 2 F5)) (.seq (.mix F4) .ret)))))),[.mv (.t 2),.mv (.t 3)]⟩
theorem Ot:bD Try.prog (aE Try.prog 36) 36=some TG:=by kernel_rfl
/-! slices.Backward[[]api.RegInstr,api.RegInstr]-/
abbrev Oe:List AO:=
 [o1 1 (.bx 23 0 (.t 0)),o1 2 (.mv (.c .f0))]
abbrev Od:List AO:=
 [o1 3 (.mf 87 [] [.t 1]),
  (mt 2 3)]
abbrev TF:AF:=⟨4,(.seq (.reg Oe) (.seq (.reg Od) .ret)),[.mv (.t 2)]⟩
theorem Og:bD Try.prog (aE Try.prog 67) 67=some TF:=by kernel_rfl
/-! maps.Keys[allocate.set,int,bool]-/
abbrev Ob:List AO:=
 [o1 1 (.bx 70 0 (.t 0)),o1 2 (.mv (.c .f0))]
abbrev Oa:List AO:=
 [o1 3 (.mf 71 [] [.t 1]),
  (mt 2 3)]
abbrev TE:AF:=⟨4,(.seq (.reg Ob) (.seq (.reg Oa) .ret)),[.mv (.t 2)]⟩
theorem Oc:bD Try.prog (aE Try.prog 38) 38=some TE:=by kernel_rfl
/-! allocate.Pressure-/
abbrev N6:List AO:=
 [o1 1 (.bx 25 0 (.t 0)),o1 2 (.mv (ci 0)),o1 3 (.mv (ci 0))]
abbrev N5:List AO:=
 [o1 10 (.ld 4 true (.t 1)),
  (o2 11 11 [.t 10]),
  (mt 9 11),o1 12 (.ext 0 (.t 9)),o1 13 (.ext 1 (.t 9)),
  (mt 4 12),
  (mt 5 13)]
abbrev N4:List AO:=
 [o1 6 (.mv (ci 0))]
abbrev N3:List AO:=
 [(mt 14 4),o1 15 (.len (.t 14)),o1 16 (.mv (ci 0))]
abbrev N1:List AO:=
 [o1 17 (.bin .lss (.t 16) (.t 15))]
abbrev N0:List AO:=
 [o1 18 (.ia 1 (.t 14) (.t 16)),o1 19 (.ld 1 false (.t 18)),
  (mt 8 19)]
abbrev NZ:List AO:=
 [(mt 20 6),
  (mt 21 8),o1 22 (.len (.t 21)),⟨some 23,none,.mo (.mx (.t 20) (.t 22))⟩,
  (mt 6 23)]
abbrev N8:AC:=
 (.seq (.reg N0) (.reg NZ))
abbrev NY:List AO:=
 [o1 24 (.bin .add (.t 16) (ci 1)),
  (mt 16 24)]
abbrev N9:AC:=
 (.seq (.reg N1) (.seq (.cond (.t 17) .skip (.exit 0)) (.seq (.block 1 N8) (.reg NY))))
abbrev FE:AC:=
 (.loop N9)
abbrev FD:List AO:=
 [(mt 25 6),
  (mt 26 5),
  (mt 2 25),
  (mt 3 26)]
abbrev TD:AF:=⟨27,(.seq (.reg N6) (.seq (.reg N5) (.seq (.reg N4) (.seq (.seq (.reg N3) (.block 0 FE)) (.seq (.reg FD) .ret))))),[.mv (.t 2),.mv (.t 3)]⟩
theorem N7:bD Try.prog (aE Try.prog 13) 13=some TD:=by kernel_rfl
/-! allocate.colors-/
abbrev NV:List AO:=
 [o1 2 (.mv (.c (.cv (.map none)))),o1 3 (.mv (ci 0))]
abbrev NU:List AO:=
 [(mt 14 0),
  (o2 15 74 [.t 14]),
  (mt 4 15)]
abbrev NT:List AO:=
 [⟨some 16,none,.mo (.mm)⟩,
  (mt 5 16)]
abbrev NS:List AO:=
 [o1 6 (.mv (ci 0))]
abbrev NQ:List AO:=
 [(mt 17 0),
  (o2 18 52 [.t 17]),o1 19 (.len (.t 18)),o1 20 (.mv (ci 0))]
abbrev NP:List AO:=
 [o1 21 (.bin .lss (.t 20) (.t 19))]
abbrev NN:List AO:=
 [o1 22 (.ia 1 (.t 18) (.t 20)),o1 23 (.ld 1 false (.t 22)),
  (mt 8 23)]
abbrev NM:List AO:=
 [⟨some 24,none,.mo (.mm)⟩,
  (mt 9 24)]
abbrev NL:List AO:=
 [(mt 25 4),
  (mt 26 8),⟨some 27,none,.mo (.lk (.cv (.map none)) false (.t 25) (.t 26))⟩,⟨some 28,none,.mo (.rg (.t 27))⟩]
abbrev NK:List AO:=
 [⟨some 29,none,.mo (.nx (.t 28))⟩,o1 30 (.ext 0 (.t 29))]
abbrev Ft:List AO:=
 [⟨some 31,none,.mo (.en (.t 28))⟩,o1 32 (.ext 0 (.t 31)),
  (mt 10 32)]
abbrev Fs:List AO:=
 [(mt 34 5),
  (mt 35 10),⟨some 36,none,.mo (.lk (.n .i64 0) true (.t 34) (.t 35))⟩,
  (mt 33 36),o1 37 (.ext 0 (.t 33)),o1 38 (.ext 1 (.t 33)),
  (mt 11 37),
  (mt 12 38)]
abbrev Fq:List AO:=
 [(mt 39 12)]
abbrev Fp:List AO:=
 [(mt 40 9),
  (mt 41 11),⟨none,none,.mo (.mu (.t 40) (.t 41) (.c (.b true)))⟩]
abbrev Fy:AC:=
 (.seq (.reg Ft) (.seq (.reg Fs) (.seq (.reg Fq) (.cond (.t 39) (.reg Fp) .skip))))
abbrev FC:AC:=
 (.seq (.reg NK) (.seq (.cond (.t 30) .skip (.exit 2)) (.block 3 Fy)))
abbrev Fx:AC:=
 (.loop FC)
abbrev Fo:List AO:=
 [o1 13 (.mv (ci 0))]
abbrev Fm:List AO:=
 [(mt 42 9),
  (mt 43 13),⟨some 44,none,.mo (.lk (.b false) false (.t 42) (.t 43))⟩]
abbrev Fl:List AO:=
 [(mt 45 13),o1 46 (.bin .add (.t 45) (ci 1)),
  (mt 13 46)]
abbrev Fw:AC:=
 (.reg Fl)
abbrev FB:AC:=
 (.seq (.seq (.reg Fm) (.cond (.t 44) .skip (.exit 4))) (.block 5 Fw))
abbrev xg:AC:=
 (.loop FB)
abbrev xf:List AO:=
 [(mt 47 5),
  (mt 48 8),
  (mt 49 13),⟨none,none,.mo (.mu (.t 47) (.t 48) (.t 49))⟩]
abbrev xe:List AO:=
 [(mt 50 6),
  (mt 51 13),o1 52 (.bin .add (.t 51) (ci 1)),⟨some 53,none,.mo (.mx (.t 50) (.t 52))⟩,
  (mt 6 53)]
abbrev Fv:AC:=
 (.seq (.reg NN) (.seq (.reg NM) (.seq (.seq (.reg NL) (.block 2 Fx)) (.seq (.reg Fo) (.seq (.block 4 xg) (.seq (.reg xf) (.reg xe)))))))
abbrev Fk:List AO:=
 [o1 54 (.bin .add (.t 20) (ci 1)),
  (mt 20 54)]
abbrev FA:AC:=
 (.seq (.reg NP) (.seq (.cond (.t 21) .skip (.exit 0)) (.seq (.block 1 Fv) (.reg Fk))))
abbrev Fu:AC:=
 (.loop FA)
abbrev Fj:List AO:=
 [(mt 55 5),
  (mt 56 6),
  (mt 2 55),
  (mt 3 56)]
abbrev TC:AF:=⟨57,(.seq (.reg NV) (.seq (.reg NU) (.seq (.reg NT) (.seq (.reg NS) (.seq (.seq (.reg NQ) (.block 0 Fu)) (.seq (.reg Fj) .ret)))))),[.mv (.t 2),.mv (.t 3)]⟩
theorem NW:bD Try.prog (aE Try.prog 42) 42=some TC:=by kernel_rfl
/-! compactorref25.Few-/
abbrev NI:List AO:=
 [o1 1 (.bx 25 0 (.t 0)),o1 2 (.mv (.c (.b false)))]
abbrev NH:List AO:=
 [o1 3 (.ld 4 true (.t 1)),
  (o2 4 33 [.t 3]),
  (mt 5 4),
  (o5 6 5 (.fa 1 (.t 1))),
  (o5 7 5 (.ld 1 false (.t 6))),
  (o5 8 5 (.bin .leq (.t 7) (ci 60))),
  (o5 9 5 (.mv (.t 8))),
  (o4 10 9 (.fa 1 (.t 1))),
  (o4 11 9 (.ld 1 false (.t 10))),
  (o4 12 9 (.bin .gtr (.t 11) (ci 1024))),
  (o5 13 5 (.pick (.t 9) (.c (.b true)) (.t 12))),o1 14 (.pick (.t 5) (.t 13) (.c (.b false))),
  (mt 2 14)]
abbrev Tp:AF:=⟨15,(.seq (.reg NI) (.seq (.reg NH) .ret)),[.mv (.t 2)]⟩
theorem NJ:bD Try.prog (aE Try.prog 9) 9=some Tp:=by kernel_rfl
/-! compactorref25.Live-/
abbrev NF:List AO:=
 [o1 1 (.bx 25 0 (.t 0)),o1 2 (.mv (.c .sl0)),o1 3 (.mv (ci 0))]
abbrev ND:List AO:=
 [o1 10 (.ld 4 true (.t 1)),
  (o2 11 39 [.t 10]),
  (mt 9 11),o1 12 (.ext 0 (.t 9)),o1 13 (.ext 1 (.t 9)),
  (mt 4 12),
  (mt 5 13)]
abbrev NC:List AO:=
 [(mt 14 5),o1 15 (.bin .neq (.t 14) (ci 0))]
abbrev Nz:List AO:=
 [(mt 16 5),o1 2 (.mv (.c .sl0)),
  (mt 3 16)]
abbrev Ny:List AO:=
 [o1 17 (.ld 4 true (.t 1)),
  (o2 18 40 [.t 17]),
  (mt 6 18)]
abbrev Nx:List AO:=
 [o1 7 (.mv (.c .sl0))]
abbrev Nw:List AO:=
 [o1 8 (.mv (ci 0))]
abbrev Nv:List AO:=
 [(mt 19 8),
  (mt 20 6),o1 21 (.len (.t 20)),o1 22 (.bin .lss (.t 19) (.t 21))]
abbrev Nu:List AO:=
 [(mt 25 7),
  (mt 26 6),
  (mt 27 8),o1 28 (.ia 1 (.t 26) (.t 27)),o1 29 (.ld 1 false (.t 28)),
  (o2 30 41 [.t 29]),o1 31 (.bs 39 1 1 [.sl0] [(0,1,(.t 30))]),o1 32 (.app 39 1 24 (.t 25) (.t 31)),
  (mt 7 32)]
abbrev NG:AC:=
 (.reg Nu)
abbrev Fg:List AO:=
 [(mt 23 8),o1 24 (.bin .add (.t 23) (ci 1)),
  (mt 8 24)]
abbrev Fi:AC:=
 (.seq (.seq (.reg Nv) (.cond (.t 22) .skip (.exit 0))) (.seq (.block 1 NG) (.reg Fg)))
abbrev Fh:AC:=
 (.loop Fi)
abbrev Ff:List AO:=
 [(mt 33 7),
  (mt 2 33),o1 3 (.mv (ci 0))]
abbrev Tn:AF:=⟨34,(.seq (.reg NF) (.seq (.seq (.reg ND) (.seq (.reg NC) (.cond (.t 15) (.seq (.reg Nz) .ret) .skip))) (.seq (.reg Ny) (.seq (.reg Nx) (.seq (.seq (.reg Nw) (.block 0 Fh)) (.seq (.reg Ff) .ret)))))),[.mv (.t 2),.mv (.t 3)]⟩
theorem CO:bD Try.prog (aE Try.prog 12) 12=some Tn:=by kernel_rfl
/-! compactorref25.Pressure-/
abbrev Ns:List AO:=
 [o1 1 (.bx 25 0 (.t 0)),o1 2 (.mv (ci 0)),o1 3 (.mv (ci 0))]
abbrev Nr:List AO:=
 [o1 9 (.ld 4 true (.t 1)),
  (o2 10 12 [.t 9]),
  (mt 8 10),o1 11 (.ext 0 (.t 8)),o1 12 (.ext 1 (.t 8)),
  (mt 4 11),
  (mt 5 12)]
abbrev Nq:List AO:=
 [(mt 13 5),o1 14 (.bin .neq (.t 13) (ci 0))]
abbrev Np:List AO:=
 [(mt 15 5),o1 2 (.mv (ci 0)),
  (mt 3 15)]
abbrev Nn:List AO:=
 [o1 6 (.mv (ci 0))]
abbrev Nm:List AO:=
 [o1 7 (.mv (ci 0))]
abbrev Nl:List AO:=
 [(mt 16 7),
  (mt 17 4),o1 18 (.len (.t 17)),o1 19 (.bin .lss (.t 16) (.t 18))]
abbrev Nk:List AO:=
 [(mt 22 6),
  (mt 23 4),
  (mt 24 7),o1 25 (.ia 1 (.t 23) (.t 24)),o1 26 (.ld 1 false (.t 25)),o1 27 (.len (.t 26)),⟨some 28,none,.mo (.mx (.t 22) (.t 27))⟩,
  (mt 6 28)]
abbrev Nt:AC:=
 (.reg Nk)
abbrev Nj:List AO:=
 [(mt 20 7),o1 21 (.bin .add (.t 20) (ci 1)),
  (mt 7 21)]
abbrev Fe:AC:=
 (.seq (.seq (.reg Nl) (.cond (.t 19) .skip (.exit 0))) (.seq (.block 1 Nt) (.reg Nj)))
abbrev Fd:AC:=
 (.loop Fe)
abbrev Fc:List AO:=
 [(mt 29 6),
  (mt 2 29),o1 3 (.mv (ci 0))]
abbrev Tm:AF:=⟨30,(.seq (.reg Ns) (.seq (.reg Nr) (.seq (.seq (.reg Nq) (.cond (.t 14) (.seq (.reg Np) .ret) .skip)) (.seq (.reg Nn) (.seq (.seq (.reg Nm) (.block 0 Fd)) (.seq (.reg Fc) .ret)))))),[.mv (.t 2),.mv (.t 3)]⟩
theorem CN:bD Try.prog (aE Try.prog 14) 14=some Tm:=by kernel_rfl
/-! compactorref25.Allocate-/
abbrev Ni:List AO:=
 [o1 2 (.bx 25 0 (.t 0)),o1 4 (.al 25 [.sl0,.n .i64 0,.n .i64 0,.sl0]),o1 5 (.mv (ci 0))]
abbrev Nh:List AO:=
 [o1 17 (.ld 4 true (.t 2)),
  (o2 18 39 [.t 17]),
  (mt 16 18),o1 19 (.ext 0 (.t 16)),o1 20 (.ext 1 (.t 16)),
  (mt 6 19),
  (mt 7 20)]
abbrev Ng:List AO:=
 [(mt 21 7),o1 22 (.bin .neq (.t 21) (ci 0))]
abbrev Nf:List AO:=
 [o1 23 (.bd [.sl0,.n .i64 0,.n .i64 0,.sl0] []),
  (mt 24 7),
  (o3 (.st 4 (.t 4) (.t 23))),
  (mt 5 24)]
abbrev Nd:List AO:=
 [(mt 25 1),o1 26 (.bin .lss (.t 25) (ci 4)),
  (mt 27 26),
  (o4 28 27 (.mv (.t 1))),
  (o4 29 27 (.bin .gtr (.t 28) (ci 1024))),o1 30 (.pick (.t 27) (.c (.b true)) (.t 29))]
abbrev Nc:List AO:=
 [o1 31 (.bd [.sl0,.n .i64 0,.n .i64 0,.sl0] []),
  (o3 (.st 4 (.t 4) (.t 31))),o1 5 (.mv (ci 2))]
abbrev Nb:List AO:=
 [o1 33 (.ld 4 true (.t 2)),
  (o2 34 47 [.t 33]),
  (mt 32 34),o1 35 (.ext 0 (.t 32)),o1 36 (.ext 1 (.t 32)),
  (mt 8 35),
  (mt 9 36)]
abbrev Na:List AO:=
 [(mt 37 9),
  (mt 38 1),o1 39 (.bin .leq (.t 37) (.t 38))]
abbrev M9:List AO:=
 [o1 40 (.ld 4 true (.t 2)),
  (mt 41 8),
  (mt 42 9),
  (o2 43 48 [.t 40,.t 41,.t 42]),
  (o3 (.st 4 (.t 4) (.t 43))),o1 5 (.mv (ci 0))]
abbrev M8:List AO:=
 [(mt 44 1),o1 45 (.bin .sub (.t 44) (ci 3)),
  (mt 10 45)]
abbrev E7:List AO:=
 [o1 46 (.ld 4 true (.t 2)),
  (o2 47 49 [.t 46]),o1 11 (.al 25 [.sl0,.n .i64 0,.n .i64 0,.sl0]),
  (o3 (.st 4 (.t 11) (.t 47)))]
abbrev E8:List (Nat×AO):=
 [(2,(mt 48 1)),(2,(o1 49 (.fa 2 (.t 2)))),
  (2,(mt 51 9)),
  (2,(mt 53 10)),(2,(o1 55 (.fa 1 (.t 11)))),(1,(o1 50 (.ld 1 false (.t 49)))),(2,(o1 52 (.bin .add (.t 50) (.t 51)))),(2,(o1 54 (.bin .sub (.t 52) (.t 53)))),
  (0,(o3 (.st 1 (.t 55) (.t 48)))),(2,(o1 56 (.fa 2 (.t 11)))),
  (3,(o3 (.st 1 (.t 56) (.t 54)))),(2,(o1 57 (.fa 3 (.t 11)))),
  (3,(o3 (.st 1 (.t 57) (.c .sl0))))]
abbrev E6:List AO:=
 [o1 12 (.mv (ci 0))]
abbrev E5:List AO:=
 [(mt 58 12),o1 59 (.fa 3 (.t 2)),o1 60 (.ld 1 false (.t 59)),o1 61 (.len (.t 60)),o1 62 (.bin .lss (.t 58) (.t 61))]
abbrev E4:List AO:=
 [o1 65 (.fa 3 (.t 2)),o1 66 (.ld 1 false (.t 65)),
  (mt 67 12),o1 68 (.ia 5 (.t 66) (.t 67)),o1 69 (.ld 5 true (.t 68)),
  (mt 70 8),
  (o2 71 50 [.t 69,.t 70]),o1 13 (.al 60 [.n .i64 0,.n .i64 0,.n .i64 0,.n .i64 0,.n .u32 0]),
  (o3 (.st 5 (.t 13) (.t 71)))]
abbrev xd:List AO:=
 [o1 72 (.fa 2 (.t 13)),o1 73 (.ld 1 false (.t 72)),
  (mt 74 10),o1 75 (.bin .geq (.t 73) (.t 74))]
abbrev xc:List AO:=
 [o1 76 (.fa 3 (.t 11)),o1 77 (.ld 1 false (.t 76)),
  (mt 78 10),o1 79 (.fa 2 (.t 2)),o1 80 (.ld 1 false (.t 79)),o1 81 (.fa 2 (.t 13)),o1 82 (.ld 1 false (.t 81)),o1 83 (.bin .add (.t 80) (.t 82)),
  (mt 84 10),o1 85 (.bin .sub (.t 83) (.t 84)),o1 86 (.cvi .u32 (.t 85)),o1 87 (.bd [.n .i64 0,.n .i64 0,.n .i64 0,.n .i64 0,.n .u32 0] [(0,1,(ci 38)),(1,1,(.t 78)),(2,1,(.c (.n .i64 (-1)))),(3,1,(.c (.n .i64 (-1)))),(4,1,(.t 86))]),o1 88 (.bs 60 5 1 [.n .i64 0,.n .i64 0,.n .i64 0,.n .i64 0,.n .u32 0] [(0,5,(.t 87))]),o1 89 (.app 60 5 40 (.t 77) (.t 88)),o1 90 (.fa 3 (.t 11)),
  (o3 (.st 1 (.t 90) (.t 89)))]
abbrev xa:List AO:=
 [(mt 91 10),o1 92 (.fa 2 (.t 13)),
  (o3 (.st 1 (.t 92) (.t 91)))]
abbrev w8:List AO:=
 [o1 93 (.fa 3 (.t 13)),o1 94 (.ld 1 false (.t 93)),
  (mt 95 10),o1 96 (.bin .geq (.t 94) (.t 95))]
abbrev w7:List AO:=
 [o1 97 (.fa 3 (.t 11)),o1 98 (.ld 1 false (.t 97)),
  (mt 99 10),o1 100 (.bin .add (.t 99) (ci 1)),o1 101 (.fa 2 (.t 2)),o1 102 (.ld 1 false (.t 101)),o1 103 (.fa 3 (.t 13)),o1 104 (.ld 1 false (.t 103)),o1 105 (.bin .add (.t 102) (.t 104)),
  (mt 106 10),o1 107 (.bin .sub (.t 105) (.t 106)),o1 108 (.cvi .u32 (.t 107)),o1 109 (.bd [.n .i64 0,.n .i64 0,.n .i64 0,.n .i64 0,.n .u32 0] [(0,1,(ci 38)),(1,1,(.t 100)),(2,1,(.c (.n .i64 (-1)))),(3,1,(.c (.n .i64 (-1)))),(4,1,(.t 108))]),o1 110 (.bs 60 5 1 [.n .i64 0,.n .i64 0,.n .i64 0,.n .i64 0,.n .u32 0] [(0,5,(.t 109))]),o1 111 (.app 60 5 40 (.t 98) (.t 110)),o1 112 (.fa 3 (.t 11)),
  (o3 (.st 1 (.t 112) (.t 111)))]
abbrev w6:List AO:=
 [(mt 113 10),o1 114 (.bin .add (.t 113) (ci 1)),o1 115 (.fa 3 (.t 13)),
  (o3 (.st 1 (.t 115) (.t 114)))]
abbrev w5:List AO:=
 [o1 116 (.fa 2 (.t 2)),o1 117 (.ld 1 false (.t 116)),o1 118 (.fa 1 (.t 13)),o1 119 (.ld 1 false (.t 118)),o1 120 (.bin .add (.t 117) (.t 119)),
  (mt 121 10),o1 122 (.bin .sub (.t 120) (.t 121)),
  (mt 14 122)]
abbrev wZ:List AO:=
 [o1 123 (.fa 1 (.t 13)),o1 124 (.ld 1 false (.t 123)),
  (mt 125 10),o1 126 (.bin .geq (.t 124) (.t 125)),
  (mt 15 126)]
abbrev wY:List AO:=
 [(mt 127 15)]
abbrev wX:List AO:=
 [(mt 128 10),o1 129 (.bin .add (.t 128) (ci 2)),o1 130 (.fa 1 (.t 13)),
  (o3 (.st 1 (.t 130) (.t 129)))]
abbrev wW:List AO:=
 [o1 131 (.fa 3 (.t 11)),o1 132 (.ld 1 false (.t 131)),o1 133 (.ld 5 true (.t 13)),o1 134 (.bs 60 5 1 [.n .i64 0,.n .i64 0,.n .i64 0,.n .i64 0,.n .u32 0] [(0,5,(.t 133))]),o1 135 (.app 60 5 40 (.t 132) (.t 134)),o1 136 (.fa 3 (.t 11)),
  (o3 (.st 1 (.t 136) (.t 135)))]
abbrev wV:List AO:=
 [(mt 137 15)]
abbrev wU:List AO:=
 [o1 138 (.fa 3 (.t 11)),o1 139 (.ld 1 false (.t 138)),
  (mt 140 10),o1 141 (.bin .add (.t 140) (ci 2)),
  (mt 142 14),o1 143 (.cvi .u32 (.t 142)),o1 144 (.bd [.n .i64 0,.n .i64 0,.n .i64 0,.n .i64 0,.n .u32 0] [(0,1,(ci 37)),(1,1,(.c (.n .i64 (-1)))),(2,1,(.t 141)),(3,1,(.c (.n .i64 (-1)))),(4,1,(.t 143))]),o1 145 (.bs 60 5 1 [.n .i64 0,.n .i64 0,.n .i64 0,.n .i64 0,.n .u32 0] [(0,5,(.t 144))]),o1 146 (.app 60 5 40 (.t 139) (.t 145)),o1 147 (.fa 3 (.t 11)),
  (o3 (.st 1 (.t 147) (.t 146)))]
abbrev Fa:AC:=
 (.seq (.reg E4) (.seq (.seq (.reg xd) (.cond (.t 75) (.seq (.reg xc) (.reg xa)) .skip)) (.seq (.seq (.reg w8) (.cond (.t 96) (.seq (.reg w7) (.reg w6)) .skip)) (.seq (.reg w5) (.seq (.reg wZ) (.seq (.seq (.reg wY) (.cond (.t 127) (.reg wX) .skip)) (.seq (.reg wW) (.seq (.reg wV) (.cond (.t 137) (.reg wU) .skip)))))))))
abbrev E3:List AO:=
 [(mt 63 12),o1 64 (.bin .add (.t 63) (ci 1)),
  (mt 12 64)]
abbrev Fb:AC:=
 (.seq (.seq (.reg E5) (.cond (.t 62) .skip (.exit 0))) (.seq (.block 1 Fa) (.reg E3)))
abbrev E9:AC:=
 (.loop Fb)
abbrev E1:List AO:=
 [o1 148 (.fa 2 (.t 11)),o1 149 (.ld 1 false (.t 148)),o1 150 (.bin .gtr (.t 149) (ci 1024)),
  (mt 151 150),
  (o4 152 151 (.fa 3 (.t 11))),
  (o4 153 151 (.ld 1 false (.t 152))),
  (o4 154 151 (.len (.t 153))),
  (o4 155 151 (.bin .gtr (.t 154) (ci 16384))),o1 156 (.pick (.t 151) (.c (.b true)) (.t 155))]
abbrev E0:List AO:=
 [o1 157 (.bd [.sl0,.n .i64 0,.n .i64 0,.sl0] []),
  (o3 (.st 4 (.t 4) (.t 157))),o1 5 (.mv (ci 6))]
abbrev EZ:List AO:=
 [o1 158 (.ld 4 true (.t 11)),
  (o3 (.st 4 (.t 4) (.t 158))),o1 5 (.mv (ci 0))]
abbrev Tl:AF:=⟨159,(.seq (.reg Ni) (.seq (.seq (.reg Nh) (.seq (.reg Ng) (.cond (.t 22) (.seq (.reg Nf) .ret) .skip))) (.seq (.seq (.reg Nd) (.cond (.t 30) (.seq (.reg Nc) .ret) .skip)) (.seq (.reg Nb) (.seq (.seq (.reg Na) (.cond (.t 39) (.seq (.reg M9) .ret) .skip)) (.seq (.reg M8) (.seq (.reg E7) (.seq (.mix E8) (.seq (.seq (.reg E6) (.block 0 E9)) (.seq (.seq (.reg E1) (.cond (.t 156) (.seq (.reg E0) .ret) .skip)) (.seq (.reg EZ) .ret))))))))))),[.ld 4 true (.t 4),.mv (.t 5)]⟩
theorem tC:bD Try.prog (aE Try.prog 18) 18=some Tl:=by kernel_rfl
/-! compactorref25.Compact-/
/-! compactorref25.live-/
abbrev M4:List AO:=
 [o1 1 (.bx 25 0 (.t 0)),o1 2 (.mv (.c .sl0))]
abbrev M3:List AO:=
 [o1 18 (.fa 3 (.t 1)),o1 19 (.ld 1 false (.t 18)),
  (o2 20 23 [.t 19]),
  (mt 17 20),o1 21 (.ext 0 (.t 17)),o1 22 (.ext 1 (.t 17)),o1 23 (.ext 2 (.t 17)),
  (mt 3 21),
  (mt 4 22),
  (mt 5 23)]
abbrev M2:List AO:=
 [o1 24 (.fa 3 (.t 1)),o1 25 (.ld 1 false (.t 24)),o1 26 (.len (.t 25)),
  (mt 6 26)]
abbrev M1:List AO:=
 [o1 7 (.mv (.c .sl0))]
abbrev M0:List AO:=
 [o1 8 (.mv (ci 0))]
abbrev MZ:List AO:=
 [(mt 27 8),
  (mt 28 6),o1 29 (.bin .leq (.t 27) (.t 28))]
abbrev MY:List AO:=
 [(mt 32 7),o1 33 (.fa 1 (.t 1)),o1 34 (.ld 1 false (.t 33)),o1 35 (.ms 4 1 1 [.b false] (.t 34) (.t 34)),o1 36 (.bs 55 1 1 [.sl0] [(0,1,(.t 35))]),o1 37 (.app 55 1 24 (.t 32) (.t 36)),
  (mt 7 37)]
abbrev M6:AC:=
 (.reg MY)
abbrev MX:List AO:=
 [(mt 30 8),o1 31 (.bin .add (.t 30) (ci 1)),
  (mt 8 31)]
abbrev M7:AC:=
 (.seq (.seq (.reg MZ) (.cond (.t 29) .skip (.exit 0))) (.seq (.block 1 M6) (.reg MX)))
abbrev EU:AC:=
 (.loop M7)
abbrev EJ:List AO:=
 [o1 9 (.mv (.c (.b true)))]
abbrev EI:List AO:=
 [(mt 38 9)]
abbrev EH:List AO:=
 [o1 9 (.mv (.c (.b false)))]
abbrev EG:List AO:=
 [(mt 39 6),o1 40 (.bin .sub (.t 39) (ci 1)),
  (mt 10 40)]
abbrev EF:List AO:=
 [(mt 41 10),o1 42 (.bin .geq (.t 41) (ci 0))]
abbrev EE:List AO:=
 [o1 46 (.fa 3 (.t 1)),o1 47 (.ld 1 false (.t 46)),
  (mt 48 10),o1 49 (.ia 5 (.t 47) (.t 48)),o1 50 (.ld 5 true (.t 49)),
  (o2 51 57 [.t 50]),
  (mt 45 51),o1 52 (.ext 0 (.t 45)),o1 53 (.ext 1 (.t 45)),
  (mt 11 52),
  (mt 12 53)]
abbrev ED:List AO:=
 [o1 54 (.fa 3 (.t 1)),o1 55 (.ld 1 false (.t 54)),
  (mt 56 3),
  (mt 57 10),
  (o2 58 59 [.t 55,.t 56,.t 57]),
  (mt 13 58)]
abbrev EC:List AO:=
 [o1 14 (.mv (ci 0))]
abbrev EB:List AO:=
 [(mt 59 14),o1 60 (.fa 1 (.t 1)),o1 61 (.ld 1 false (.t 60)),o1 62 (.bin .lss (.t 59) (.t 61))]
abbrev EA:List AO:=
 [(mt 65 11),
  (mt 66 14),
  (o2 67 73 [.t 65,.t 66]),
  (mt 15 67)]
abbrev Ez:List AO:=
 [o1 16 (.mv (ci 0))]
abbrev Ey:List AO:=
 [(mt 68 16),
  (mt 69 13),o1 70 (.len (.t 69)),o1 71 (.bin .lss (.t 68) (.t 70))]
abbrev Ex:List AO:=
 [(mt 74 15),
  (mt 75 74),
  (o4 76 75 (.mv (.t 7))),
  (o4 77 75 (.mv (.t 13))),
  (o4 78 75 (.mv (.t 16))),
  (o4 79 75 (.ia 1 (.t 77) (.t 78))),
  (o4 80 75 (.ld 1 false (.t 79))),
  (o4 81 75 (.ia 1 (.t 76) (.t 80))),
  (o4 82 75 (.ld 1 false (.t 81))),
  (o4 83 75 (.mv (.t 14))),
  (o4 84 75 (.ia 1 (.t 82) (.t 83))),
  (o4 85 75 (.ld 1 false (.t 84))),
  (o4 86 75 (.mv (.t 85))),
  (o5 87 86 (.mv (.t 14))),
  (o5 88 86 (.mv (.t 12))),
  (o5 89 86 (.bin .neq (.t 87) (.t 88))),
  (o4 90 75 (.pick (.t 86) (.t 89) (.c (.b false)))),o1 91 (.pick (.t 75) (.c (.b true)) (.t 90)),
  (mt 15 91)]
abbrev ET:AC:=
 (.reg Ex)
abbrev Ew:List AO:=
 [(mt 72 16),o1 73 (.bin .add (.t 72) (ci 1)),
  (mt 16 73)]
abbrev EY:AC:=
 (.seq (.seq (.reg Ey) (.cond (.t 71) .skip (.exit 8))) (.seq (.block 9 ET) (.reg Ew)))
abbrev ES:AC:=
 (.loop EY)
abbrev Ev:List AO:=
 [(mt 92 15),
  (mt 93 92),
  (o5 94 93 (.mv (.t 7))),
  (o5 95 93 (.mv (.t 10))),
  (o5 96 93 (.ia 1 (.t 94) (.t 95))),
  (o5 97 93 (.ld 1 false (.t 96))),
  (o5 98 93 (.mv (.t 14))),
  (o5 99 93 (.ia 1 (.t 97) (.t 98))),
  (o5 100 93 (.ld 1 false (.t 99))),
  (o5 101 93 (.un .not (.t 100))),o1 102 (.pick (.t 93) (.t 101) (.c (.b false)))]
abbrev Eu:List AO:=
 [(mt 103 7),
  (mt 104 10),o1 105 (.ia 1 (.t 103) (.t 104)),o1 106 (.ld 1 false (.t 105)),
  (mt 107 14),o1 108 (.ia 1 (.t 106) (.t 107)),
  (o3 (.st 1 (.t 108) (.c (.b true))))]
abbrev Et:List AO:=
 [o1 9 (.mv (.c (.b true)))]
abbrev wT:AC:=
 (.seq (.reg EA) (.seq (.seq (.reg Ez) (.block 8 ES)) (.seq (.reg Ev) (.cond (.t 102) (.seq (.reg Eu) (.reg Et)) .skip))))
abbrev Es:List AO:=
 [(mt 63 14),o1 64 (.bin .add (.t 63) (ci 1)),
  (mt 14 64)]
abbrev EX:AC:=
 (.seq (.seq (.reg EB) (.cond (.t 62) .skip (.exit 6))) (.seq (.block 7 wT) (.reg Es)))
abbrev EP:AC:=
 (.loop EX)
abbrev EO:AC:=
 (.seq (.reg EE) (.seq (.reg ED) (.seq (.reg EC) (.block 6 EP))))
abbrev Er:List AO:=
 [(mt 43 10),o1 44 (.bin .sub (.t 43) (ci 1)),
  (mt 10 44)]
abbrev EW:AC:=
 (.seq (.seq (.reg EF) (.cond (.t 42) .skip (.exit 4))) (.seq (.block 5 EO) (.reg Er)))
abbrev EM:AC:=
 (.loop EW)
abbrev EL:AC:=
 (.seq (.reg EH) (.seq (.reg EG) (.block 4 EM)))
abbrev EV:AC:=
 (.seq (.seq (.reg EI) (.cond (.t 38) .skip (.exit 2))) (.block 3 EL))
abbrev EK:AC:=
 (.loop EV)
abbrev Ep:List AO:=
 [(mt 109 7),
  (mt 2 109)]
abbrev Tk:AF:=⟨110,(.seq (.reg M4) (.seq (.reg M3) (.seq (.reg M2) (.seq (.reg M1) (.seq (.seq (.reg M0) (.block 0 EU)) (.seq (.reg EJ) (.seq (.block 2 EK) (.seq (.reg Ep) .ret)))))))),[.mv (.t 2)]⟩
theorem M5:bD Try.prog (aE Try.prog 40) 40=some Tk:=by kernel_rfl
/-! compactorref25.members-/
abbrev MS:List AO:=
 [o1 2 (.mv (.c .sl0))]
abbrev MR:List AO:=
 [o1 3 (.mv (.c .sl0))]
abbrev MQ:List AO:=
 [o1 4 (.mv (ci 0))]
abbrev MP:List AO:=
 [(mt 5 4),
  (mt 6 0),o1 7 (.len (.t 6)),o1 8 (.bin .lss (.t 5) (.t 7))]
abbrev MN:List AO:=
 [(mt 11 0),
  (mt 12 4),o1 13 (.ia 1 (.t 11) (.t 12)),o1 14 (.ld 1 false (.t 13))]
abbrev MM:List AO:=
 [(mt 15 3),
  (mt 16 4),o1 17 (.bs 3 1 1 [.n .i64 0] [(0,1,(.t 16))]),o1 18 (.app 3 1 8 (.t 15) (.t 17)),
  (mt 3 18)]
abbrev MV:AC:=
 (.seq (.reg MN) (.cond (.t 14) (.reg MM) .skip))
abbrev ML:List AO:=
 [(mt 9 4),o1 10 (.bin .add (.t 9) (ci 1)),
  (mt 4 10)]
abbrev MW:AC:=
 (.seq (.seq (.reg MP) (.cond (.t 8) .skip (.exit 0))) (.seq (.block 1 MV) (.reg ML)))
abbrev MU:AC:=
 (.loop MW)
abbrev Eo:List AO:=
 [(mt 19 3),
  (mt 2 19)]
abbrev Tj:AF:=⟨20,(.seq (.reg MS) (.seq (.reg MR) (.seq (.seq (.reg MQ) (.block 0 MU)) (.seq (.reg Eo) .ret)))),[.mv (.t 2)]⟩
theorem MT:bD Try.prog (aE Try.prog 41) 41=some Tj:=by kernel_rfl
/-! compactorref25.Colors-/
abbrev MH:List AO:=
 [o1 1 (.bx 25 0 (.t 0)),o1 2 (.mv (.c .sl0)),o1 3 (.mv (ci 0))]
abbrev MJ:List (Nat×AO):=
 [(1,(o1 11 (.ld 4 true (.t 1)))),(1,(o1 13 (.ld 4 true (.t 1)))),
  (0,(o2 12 53 [.t 11])),
  (3,(o2 14 79 [.t 13])),
  (2,(mt 4 12)),
  (2,(mt 5 14))]
abbrev MG:List AO:=
 [o1 15 (.fa 1 (.t 1)),o1 16 (.ld 1 false (.t 15)),o1 17 (.ms 3 1 8 [.n .i64 0] (.t 16) (.t 16)),
  (mt 6 17)]
abbrev MF:List AO:=
 [o1 7 (.mv (ci 0))]
abbrev ME:List AO:=
 [o1 8 (.mv (ci 0))]
abbrev MD:List AO:=
 [(mt 18 8),o1 19 (.fa 1 (.t 1)),o1 20 (.ld 1 false (.t 19)),o1 21 (.bin .lss (.t 18) (.t 20))]
abbrev MC:List AO:=
 [(mt 24 4),
  (mt 25 8),o1 26 (.ia 1 (.t 24) (.t 25)),o1 27 (.ld 1 false (.t 26)),o1 28 (.un .not (.t 27))]
abbrev CM:List AO:=
 [o1 9 (.mv (.c .sl0))]
abbrev CL:List AO:=
 [o1 10 (.mv (ci 0))]
abbrev MB:List AO:=
 [(mt 29 10),
  (mt 30 8),o1 31 (.bin .lss (.t 29) (.t 30))]
abbrev Eg:List AO:=
 [(mt 34 4),
  (mt 35 10),o1 36 (.ia 1 (.t 34) (.t 35)),o1 37 (.ld 1 false (.t 36)),
  (mt 38 37),
  (o5 39 38 (.mv (.t 5))),
  (o5 40 38 (.mv (.t 8))),
  (o5 41 38 (.ia 1 (.t 39) (.t 40))),
  (o5 42 38 (.ld 1 false (.t 41))),
  (o5 43 38 (.mv (.t 10))),
  (o5 44 38 (.ia 1 (.t 42) (.t 43))),
  (o5 45 38 (.ld 1 false (.t 44))),o1 46 (.pick (.t 38) (.t 45) (.c (.b false)))]
abbrev Ef:List AO:=
 [(mt 47 9),
  (mt 48 6),
  (mt 49 10),o1 50 (.ia 1 (.t 48) (.t 49)),o1 51 (.ld 1 false (.t 50)),o1 52 (.bs 3 1 1 [.n .i64 0] [(0,1,(.t 51))]),o1 53 (.app 3 1 8 (.t 47) (.t 52)),
  (mt 9 53)]
abbrev Ek:AC:=
 (.seq (.reg Eg) (.cond (.t 46) (.reg Ef) .skip))
abbrev Ee:List AO:=
 [(mt 32 10),o1 33 (.bin .add (.t 32) (ci 1)),
  (mt 10 33)]
abbrev En:AC:=
 (.seq (.seq (.reg MB) (.cond (.t 31) .skip (.exit 2))) (.seq (.block 3 Ek) (.reg Ee)))
abbrev wS:AC:=
 (.loop En)
abbrev Ed:List AO:=
 [(mt 54 9),
  (mt 55 6),
  (mt 56 8),o1 57 (.ia 1 (.t 55) (.t 56)),o1 58 (.ld 1 false (.t 57)),
  (o2 59 73 [.t 54,.t 58])]
abbrev Ec:List AO:=
 [(mt 60 6),
  (mt 61 8),o1 62 (.ia 1 (.t 60) (.t 61)),o1 63 (.ld 1 false (.t 62)),o1 64 (.bin .add (.t 63) (ci 1)),o1 65 (.ia 1 (.t 60) (.t 61)),
  (o3 (.st 1 (.t 65) (.t 64)))]
abbrev Ej:AC:=
 (.reg Ec)
abbrev Em:AC:=
 (.seq (.seq (.reg Ed) (.cond (.t 59) .skip (.exit 4))) (.block 5 Ej))
abbrev ox:AC:=
 (.loop Em)
abbrev ow:List AO:=
 [(mt 66 7),
  (mt 67 6),
  (mt 68 8),o1 69 (.ia 1 (.t 67) (.t 68)),o1 70 (.ld 1 false (.t 69)),o1 71 (.bin .add (.t 70) (ci 1)),⟨some 72,none,.mo (.mx (.t 66) (.t 71))⟩,
  (mt 7 72)]
abbrev Ei:AC:=
 (.seq (.seq (.reg MC) (.cond (.t 28) (.exit 1) .skip)) (.seq (.reg CM) (.seq (.seq (.reg CL) (.block 2 wS)) (.seq (.block 4 ox) (.reg ow)))))
abbrev Eb:List AO:=
 [(mt 22 8),o1 23 (.bin .add (.t 22) (ci 1)),
  (mt 8 23)]
abbrev El:AC:=
 (.seq (.seq (.reg MD) (.cond (.t 21) .skip (.exit 0))) (.seq (.block 1 Ei) (.reg Eb)))
abbrev Eh:AC:=
 (.loop El)
abbrev Ea:List AO:=
 [(mt 73 6),
  (mt 74 7),
  (mt 2 73),
  (mt 3 74)]
abbrev Ti:AF:=⟨75,(.seq (.reg MH) (.seq (.mix MJ) (.seq (.reg MG) (.seq (.reg MF) (.seq (.seq (.reg ME) (.block 0 Eh)) (.seq (.reg Ea) .ret)))))),[.mv (.t 2),.mv (.t 3)]⟩
theorem MI:bD Try.prog (aE Try.prog 47) 47=some Ti:=by kernel_rfl
/-! compactorref25.replace-/
abbrev Mv:List AO:=
 [o1 3 (.bx 25 0 (.t 0)),o1 6 (.al 25 [.sl0,.n .i64 0,.n .i64 0,.sl0])]
abbrev Mu:List AO:=
 [o1 9 (.ld 4 true (.t 3)),
  (o2 10 49 [.t 9]),o1 7 (.al 25 [.sl0,.n .i64 0,.n .i64 0,.sl0]),
  (o3 (.st 4 (.t 7) (.t 10)))]
abbrev Mt:List AO:=
 [(mt 11 2),o1 12 (.fa 1 (.t 7)),
  (o3 (.st 1 (.t 12) (.t 11)))]
abbrev Ms:List AO:=
 [o1 8 (.mv (ci 0))]
abbrev Mr:List AO:=
 [(mt 13 8),o1 14 (.fa 3 (.t 7)),o1 15 (.ld 1 false (.t 14)),o1 16 (.len (.t 15)),o1 17 (.bin .lss (.t 13) (.t 16))]
abbrev Mx:List (Nat×AO):=
 [(2,(o1 20 (.fa 3 (.t 7)))),
  (2,(mt 22 8)),(2,(o1 23 (.fa 3 (.t 7)))),
  (2,(mt 25 8)),
  (2,(mt 28 1)),(1,(o1 21 (.ld 1 false (.t 20)))),(1,(o1 24 (.ld 1 false (.t 23)))),(2,(o1 26 (.ia 5 (.t 24) (.t 25)))),(1,(o1 27 (.ld 5 true (.t 26)))),
  (0,(o2 29 50 [.t 27,.t 28])),(2,(o1 30 (.ia 5 (.t 21) (.t 22)))),
  (3,(o3 (.st 5 (.t 30) (.t 29))))]
abbrev Mz:AC:=
 (.mix Mx)
abbrev Mq:List AO:=
 [(mt 18 8),o1 19 (.bin .add (.t 18) (ci 1)),
  (mt 8 19)]
abbrev MA:AC:=
 (.seq (.seq (.reg Mr) (.cond (.t 17) .skip (.exit 0))) (.seq (.block 1 Mz) (.reg Mq)))
abbrev My:AC:=
 (.loop MA)
abbrev D9:List AO:=
 [o1 31 (.ld 4 true (.t 7)),
  (o3 (.st 4 (.t 6) (.t 31)))]
abbrev Th:AF:=⟨32,(.seq (.reg Mv) (.seq (.reg Mu) (.seq (.reg Mt) (.seq (.seq (.reg Ms) (.block 0 My)) (.seq (.reg D9) .ret))))),[.ld 4 true (.t 6)]⟩
theorem Mw:bD Try.prog (aE Try.prog 48) 48=some Th:=by kernel_rfl
/-! compactorref25.renamed-/
abbrev Mn:List AO:=
 [o1 2 (.bx 60 0 (.t 0)),o1 4 (.al 60 [.n .i64 0,.n .i64 0,.n .i64 0,.n .i64 0,.n .u32 0])]
abbrev Mp:List (Nat×AO):=
 [(2,(o1 5 (.fa 0 (.t 2)))),
  (2,(mt 7 1)),(2,(o1 8 (.fa 1 (.t 2)))),
  (2,(mt 11 1)),(2,(o1 12 (.fa 2 (.t 2)))),
  (2,(mt 15 1)),(2,(o1 16 (.fa 3 (.t 2)))),(2,(o1 19 (.fa 4 (.t 2)))),(1,(o1 6 (.ld 1 false (.t 5)))),(1,(o1 9 (.ld 1 false (.t 8)))),(1,(o1 13 (.ld 1 false (.t 12)))),(1,(o1 17 (.ld 1 false (.t 16)))),(1,(o1 20 (.ld 1 false (.t 19)))),
  (0,(o2 10 80 [.t 7,.t 9])),
  (0,(o2 14 80 [.t 11,.t 13])),
  (0,(o2 18 80 [.t 15,.t 17])),(2,(o1 21 (.bd [.n .i64 0,.n .i64 0,.n .i64 0,.n .i64 0,.n .u32 0] [(0,1,(.t 6)),(1,1,(.t 10)),(2,1,(.t 14)),(3,1,(.t 18)),(4,1,(.t 20))]))),
  (3,(o3 (.st 5 (.t 4) (.t 21))))]
abbrev Tg:AF:=⟨22,(.seq (.reg Mn) (.seq (.mix Mp) .ret)),[.ld 5 true (.t 4)]⟩
theorem Mo:bD Try.prog (aE Try.prog 50) 50=some Tg:=by kernel_rfl
/-! compactorref25.occurring-/
abbrev Mj:List AO:=
 [o1 1 (.bx 25 0 (.t 0)),o1 2 (.mv (.c .sl0))]
abbrev Mi:List AO:=
 [o1 8 (.fa 1 (.t 1)),o1 9 (.ld 1 false (.t 8)),o1 10 (.ms 4 1 1 [.b false] (.t 9) (.t 9)),
  (mt 3 10)]
abbrev Mh:List AO:=
 [o1 4 (.mv (ci 0))]
abbrev Mg:List AO:=
 [(mt 11 4),o1 12 (.fa 3 (.t 1)),o1 13 (.ld 1 false (.t 12)),o1 14 (.len (.t 13)),o1 15 (.bin .lss (.t 11) (.t 14))]
abbrev Mf:List AO:=
 [o1 19 (.fa 3 (.t 1)),o1 20 (.ld 1 false (.t 19)),
  (mt 21 4),o1 22 (.ia 5 (.t 20) (.t 21)),o1 23 (.ld 5 true (.t 22)),
  (o2 24 57 [.t 23]),
  (mt 18 24),o1 25 (.ext 0 (.t 18)),o1 26 (.ext 1 (.t 18)),
  (mt 5 25),
  (mt 6 26)]
abbrev Me:List AO:=
 [o1 7 (.mv (ci 0))]
abbrev Md:List AO:=
 [(mt 27 7),
  (mt 28 5),o1 29 (.len (.t 28)),o1 30 (.bin .lss (.t 27) (.t 29))]
abbrev Mc:List AO:=
 [(mt 33 3),
  (mt 34 5),
  (mt 35 7),o1 36 (.ia 1 (.t 34) (.t 35)),o1 37 (.ld 1 false (.t 36)),o1 38 (.ia 1 (.t 33) (.t 37)),
  (o3 (.st 1 (.t 38) (.c (.b true))))]
abbrev Mm:AC:=
 (.reg Mc)
abbrev Mb:List AO:=
 [(mt 31 7),o1 32 (.bin .add (.t 31) (ci 1)),
  (mt 7 32)]
abbrev D8:AC:=
 (.seq (.seq (.reg Md) (.cond (.t 30) .skip (.exit 2))) (.seq (.block 3 Mm) (.reg Mb)))
abbrev D6:AC:=
 (.loop D8)
abbrev D3:List AO:=
 [(mt 39 6),o1 40 (.bin .geq (.t 39) (ci 0))]
abbrev D2:List AO:=
 [(mt 41 3),
  (mt 42 6),o1 43 (.ia 1 (.t 41) (.t 42)),
  (o3 (.st 1 (.t 43) (.c (.b true))))]
abbrev D5:AC:=
 (.seq (.reg Mf) (.seq (.seq (.reg Me) (.block 2 D6)) (.seq (.reg D3) (.cond (.t 40) (.reg D2) .skip))))
abbrev D1:List AO:=
 [(mt 16 4),o1 17 (.bin .add (.t 16) (ci 1)),
  (mt 4 17)]
abbrev D7:AC:=
 (.seq (.seq (.reg Mg) (.cond (.t 15) .skip (.exit 0))) (.seq (.block 1 D5) (.reg D1)))
abbrev D4:AC:=
 (.loop D7)
abbrev DZ:List AO:=
 [(mt 44 3),
  (mt 2 44)]
abbrev Tf:AF:=⟨45,(.seq (.reg Mj) (.seq (.reg Mi) (.seq (.seq (.reg Mh) (.block 0 D4)) (.seq (.reg DZ) .ret)))),[.mv (.t 2)]⟩
theorem Ml:bD Try.prog (aE Try.prog 53) 53=some Tf:=by kernel_rfl
/-! compactorref25.Successors-/
abbrev L9:List AO:=
 [o1 6 (.mv (.c .sl0))]
abbrev L8:List AO:=
 [(mt 8 1),
  (mt 9 2),o1 10 (.ia 1 (.t 8) (.t 9)),o1 11 (.ld 1 false (.t 10)),
  (mt 7 11)]
abbrev L7:List AO:=
 [(mt 12 0),
  (mt 13 2),o1 14 (.ia 5 (.t 12) (.t 13)),o1 15 (.fa 0 (.t 14)),o1 16 (.ld 1 false (.t 15))]
abbrev L6:List AO:=
 [o1 18 (.bin .eql (.t 16) (ci 27)),
  (mt 17 18)]
abbrev L5:List AO:=
 [o1 19 (.bin .eql (.t 16) (ci 29)),
  (mt 17 19)]
abbrev L4:List AO:=
 [o1 20 (.bin .eql (.t 16) (ci 30)),
  (mt 17 20)]
abbrev L3:List AO:=
 [(mt 21 2),o1 22 (.bin .add (.t 21) (ci 1)),
  (mt 23 7),o1 24 (.bin .add (.t 23) (ci 1)),o1 25 (.bs 3 1 2 [.n .i64 0,.n .i64 0] [(0,1,(.t 22)),(1,1,(.t 24))]),
  (mt 6 25)]
abbrev L2:List AO:=
 [o1 27 (.bin .eql (.t 16) (ci 28)),
  (mt 26 27)]
abbrev L1:List AO:=
 [(mt 28 7),o1 29 (.bin .add (.t 28) (ci 1)),o1 30 (.bs 3 1 1 [.n .i64 0] [(0,1,(.t 29))]),
  (mt 6 30)]
abbrev L0:List AO:=
 [o1 32 (.bin .eql (.t 16) (ci 31)),
  (mt 31 32)]
abbrev DX:List AO:=
 [(mt 33 0),
  (mt 34 7),o1 35 (.ia 5 (.t 33) (.t 34)),o1 36 (.fa 0 (.t 35)),o1 37 (.ld 1 false (.t 36)),o1 38 (.bin .eql (.t 37) (ci 29))]
abbrev DW:List AO:=
 [(mt 39 7),o1 40 (.bin .add (.t 39) (ci 1)),
  (mt 41 2),o1 42 (.bin .add (.t 41) (ci 1)),o1 43 (.bs 3 1 2 [.n .i64 0,.n .i64 0] [(0,1,(.t 40)),(1,1,(.t 42))]),
  (mt 6 43)]
abbrev DY:AC:=
 (.seq (.seq (.reg L6) (.cond (.t 17) .skip (.seq (.reg L5) (.cond (.t 17) .skip (.reg L4))))) (.cond (.t 17) (.seq (.reg L3) .ret) (.seq (.reg L2) (.cond (.t 26) (.seq (.reg L1) .ret) (.seq (.reg L0) (.cond (.t 31) (.seq (.reg DX) (.cond (.t 38) (.seq (.reg DW) .ret) .skip)) .skip))))))
abbrev DV:List AO:=
 [(mt 44 2),o1 45 (.bin .add (.t 44) (ci 1)),o1 46 (.bs 3 1 1 [.n .i64 0] [(0,1,(.t 45))]),
  (mt 6 46)]
abbrev S9:AF:=⟨47,(.seq (.reg L9) (.seq (.reg L8) (.seq (.seq (.reg L7) (.block 0 DY)) (.seq (.reg DV) .ret)))),[.mv (.t 6)]⟩
theorem Ma:bD Try.prog (aE Try.prog 59) 59=some S9:=by kernel_rfl
/-! compactorref25.has-/
abbrev LV:List AO:=
 [o1 4 (.mv (.c (.b false)))]
abbrev LU:List AO:=
 [o1 5 (.mv (ci 0))]
abbrev LS:List AO:=
 [(mt 6 5),
  (mt 7 0),o1 8 (.len (.t 7)),o1 9 (.bin .lss (.t 6) (.t 8))]
abbrev LR:List AO:=
 [(mt 12 0),
  (mt 13 5),o1 14 (.ia 1 (.t 12) (.t 13)),o1 15 (.ld 1 false (.t 14)),
  (mt 16 1),o1 17 (.bin .eql (.t 15) (.t 16))]
abbrev LQ:List AO:=
 [o1 4 (.mv (.c (.b true)))]
abbrev LY:AC:=
 (.seq (.reg LR) (.cond (.t 17) (.seq (.reg LQ) .ret) .skip))
abbrev LP:List AO:=
 [(mt 10 5),o1 11 (.bin .add (.t 10) (ci 1)),
  (mt 5 11)]
abbrev LZ:AC:=
 (.seq (.seq (.reg LS) (.cond (.t 9) .skip (.exit 0))) (.seq (.block 1 LY) (.reg LP)))
abbrev LX:AC:=
 (.loop LZ)
abbrev LO:List AO:=
 [o1 4 (.mv (.c (.b false)))]
abbrev S8:AF:=⟨18,(.seq (.reg LV) (.seq (.seq (.reg LU) (.block 0 LX)) (.seq (.reg LO) .ret))),[.mv (.t 4)]⟩
theorem LW:bD Try.prog (aE Try.prog 73) 73=some S8:=by kernel_rfl
/-! compactorref25.interfering-/
abbrev LL:List AO:=
 [o1 1 (.bx 25 0 (.t 0)),o1 2 (.mv (.c .sl0))]
abbrev LK:List AO:=
 [o1 16 (.ld 4 true (.t 1)),
  (o2 17 40 [.t 16]),
  (mt 3 17)]
abbrev LJ:List AO:=
 [o1 19 (.fa 3 (.t 1)),o1 20 (.ld 1 false (.t 19)),
  (o2 21 23 [.t 20]),
  (mt 18 21),o1 22 (.ext 0 (.t 18)),o1 23 (.ext 1 (.t 18)),o1 24 (.ext 2 (.t 18)),
  (mt 4 22),
  (mt 5 23),
  (mt 6 24)]
abbrev LI:List AO:=
 [o1 7 (.mv (.c .sl0))]
abbrev LH:List AO:=
 [o1 8 (.mv (ci 0))]
abbrev LG:List AO:=
 [(mt 25 8),o1 26 (.fa 1 (.t 1)),o1 27 (.ld 1 false (.t 26)),o1 28 (.bin .lss (.t 25) (.t 27))]
abbrev LF:List AO:=
 [(mt 31 7),o1 32 (.fa 1 (.t 1)),o1 33 (.ld 1 false (.t 32)),o1 34 (.ms 4 1 1 [.b false] (.t 33) (.t 33)),o1 35 (.bs 55 1 1 [.sl0] [(0,1,(.t 34))]),o1 36 (.app 55 1 24 (.t 31) (.t 35)),
  (mt 7 36)]
abbrev LD:List AO:=
 [o1 9 (.mv (ci 0))]
abbrev LC:List AO:=
 [(mt 37 9),o1 38 (.fa 1 (.t 1)),o1 39 (.ld 1 false (.t 38)),o1 40 (.bin .lss (.t 37) (.t 39))]
abbrev LN:List (Nat×AO):=
 [(2,(mt 43 7)),
  (2,(mt 44 8)),(2,(o1 45 (.ia 1 (.t 43) (.t 44)))),
  (2,(mt 47 9)),
  (2,(mt 48 8)),
  (2,(mt 49 9)),(2,(o1 50 (.bin .neq (.t 48) (.t 49)))),
  (2,(mt 51 50)),
  (2,(o5 52 51 (.mv (.t 3)))),
  (2,(o5 53 51 (.ia 1 (.t 52) (ci 0)))),
  (2,(o5 55 51 (.mv (.t 8)))),(1,(o1 46 (.ld 1 false (.t 45)))),
  (1,(o5 54 51 (.ld 1 false (.t 53)))),
  (2,(o5 56 51 (.ia 1 (.t 54) (.t 55)))),
  (1,(o5 57 51 (.ld 1 false (.t 56)))),(2,(o1 58 (.pick (.t 51) (.t 57) (.c (.b false))))),
  (2,(mt 59 58)),
  (2,(o5 60 59 (.mv (.t 3)))),
  (2,(o5 61 59 (.ia 1 (.t 60) (ci 0)))),
  (2,(o5 63 59 (.mv (.t 9)))),
  (1,(o5 62 59 (.ld 1 false (.t 61)))),
  (2,(o5 64 59 (.ia 1 (.t 62) (.t 63)))),
  (1,(o5 65 59 (.ld 1 false (.t 64)))),(2,(o1 66 (.pick (.t 59) (.t 65) (.c (.b false))))),(2,(o1 67 (.ia 1 (.t 46) (.t 47)))),
  (3,(o3 (.st 1 (.t 67) (.t 66))))]
abbrev wR:AC:=
 (.mix LN)
abbrev DE:List AO:=
 [(mt 41 9),o1 42 (.bin .add (.t 41) (ci 1)),
  (mt 9 42)]
abbrev DU:AC:=
 (.seq (.seq (.reg LC) (.cond (.t 40) .skip (.exit 2))) (.seq (.block 3 wR) (.reg DE)))
abbrev DN:AC:=
 (.loop DU)
abbrev DM:AC:=
 (.seq (.reg LF) (.seq (.reg LD) (.block 2 DN)))
abbrev DD:List AO:=
 [(mt 29 8),o1 30 (.bin .add (.t 29) (ci 1)),
  (mt 8 30)]
abbrev DT:AC:=
 (.seq (.seq (.reg LG) (.cond (.t 28) .skip (.exit 0))) (.seq (.block 1 DM) (.reg DD)))
abbrev DL:AC:=
 (.loop DT)
abbrev DC:List AO:=
 [o1 10 (.mv (ci 0))]
abbrev DB:List AO:=
 [(mt 68 10),o1 69 (.fa 3 (.t 1)),o1 70 (.ld 1 false (.t 69)),o1 71 (.len (.t 70)),o1 72 (.bin .lss (.t 68) (.t 71))]
abbrev DA:List AO:=
 [o1 76 (.fa 3 (.t 1)),o1 77 (.ld 1 false (.t 76)),
  (mt 78 10),o1 79 (.ia 5 (.t 77) (.t 78)),o1 80 (.ld 5 true (.t 79)),
  (o2 81 57 [.t 80]),
  (mt 75 81),o1 82 (.ext 0 (.t 75)),o1 83 (.ext 1 (.t 75)),
  (mt 11 82),
  (mt 12 83)]
abbrev Dz:List AO:=
 [o1 84 (.fa 3 (.t 1)),o1 85 (.ld 1 false (.t 84)),
  (mt 86 4),
  (mt 87 10),
  (o2 88 59 [.t 85,.t 86,.t 87]),
  (mt 13 88)]
abbrev Dy:List AO:=
 [o1 14 (.mv (ci 0))]
abbrev Dx:List AO:=
 [(mt 89 14),
  (mt 90 13),o1 91 (.len (.t 90)),o1 92 (.bin .lss (.t 89) (.t 91)),
  (mt 93 92),
  (o5 94 93 (.mv (.t 12))),
  (o5 95 93 (.bin .geq (.t 94) (ci 0))),o1 96 (.pick (.t 93) (.t 95) (.c (.b false)))]
abbrev Dw:List AO:=
 [o1 15 (.mv (ci 0))]
abbrev Dv:List AO:=
 [(mt 99 15),o1 100 (.fa 1 (.t 1)),o1 101 (.ld 1 false (.t 100)),o1 102 (.bin .lss (.t 99) (.t 101))]
abbrev Du:List AO:=
 [(mt 105 15),
  (mt 106 12),o1 107 (.bin .neq (.t 105) (.t 106)),
  (mt 108 107),
  (o5 109 108 (.mv (.t 3))),
  (o5 110 108 (.mv (.t 13))),
  (o5 111 108 (.mv (.t 14))),
  (o5 112 108 (.ia 1 (.t 110) (.t 111))),
  (o5 113 108 (.ld 1 false (.t 112))),
  (o5 114 108 (.ia 1 (.t 109) (.t 113))),
  (o5 115 108 (.ld 1 false (.t 114))),
  (o5 116 108 (.mv (.t 15))),
  (o5 117 108 (.ia 1 (.t 115) (.t 116))),
  (o5 118 108 (.ld 1 false (.t 117))),o1 119 (.pick (.t 108) (.t 118) (.c (.b false)))]
abbrev DF:List (Nat×AO):=
 [(2,(mt 120 7)),
  (2,(mt 121 12)),(2,(o1 122 (.ia 1 (.t 120) (.t 121)))),
  (2,(mt 124 15)),
  (2,(mt 125 7)),
  (2,(mt 126 15)),(2,(o1 127 (.ia 1 (.t 125) (.t 126)))),
  (2,(mt 129 12)),(1,(o1 123 (.ld 1 false (.t 122)))),(1,(o1 128 (.ld 1 false (.t 127)))),(2,(o1 130 (.ia 1 (.t 123) (.t 124)))),
  (3,(o3 (.st 1 (.t 130) (.c (.b true))))),(2,(o1 131 (.ia 1 (.t 128) (.t 129)))),
  (3,(o3 (.st 1 (.t 131) (.c (.b true)))))]
abbrev wQ:AC:=
 (.seq (.reg Du) (.cond (.t 119) (.mix DF) .skip))
abbrev Dt:List AO:=
 [(mt 103 15),o1 104 (.bin .add (.t 103) (ci 1)),
  (mt 15 104)]
abbrev DS:AC:=
 (.seq (.seq (.reg Dv) (.cond (.t 102) .skip (.exit 8))) (.seq (.block 9 wQ) (.reg Dt)))
abbrev DK:AC:=
 (.loop DS)
abbrev DJ:AC:=
 (.seq (.reg Dw) (.block 8 DK))
abbrev Ds:List AO:=
 [(mt 97 14),o1 98 (.bin .add (.t 97) (ci 1)),
  (mt 14 98)]
abbrev DQ:AC:=
 (.seq (.seq (.reg Dx) (.cond (.t 96) .skip (.exit 6))) (.seq (.block 7 DJ) (.reg Ds)))
abbrev DI:AC:=
 (.loop DQ)
abbrev DH:AC:=
 (.seq (.reg DA) (.seq (.reg Dz) (.seq (.reg Dy) (.block 6 DI))))
abbrev Dr:List AO:=
 [(mt 73 10),o1 74 (.bin .add (.t 73) (ci 1)),
  (mt 10 74)]
abbrev DP:AC:=
 (.seq (.seq (.reg DB) (.cond (.t 72) .skip (.exit 4))) (.seq (.block 5 DH) (.reg Dr)))
abbrev DG:AC:=
 (.loop DP)
abbrev Dq:List AO:=
 [(mt 132 7),
  (mt 2 132)]
abbrev S7:AF:=⟨133,(.seq (.reg LL) (.seq (.reg LK) (.seq (.reg LJ) (.seq (.reg LI) (.seq (.seq (.reg LH) (.block 0 DL)) (.seq (.seq (.reg DC) (.block 4 DG)) (.seq (.reg Dq) .ret))))))),[.mv (.t 2)]⟩
theorem LM:bD Try.prog (aE Try.prog 79) 79=some S7:=by kernel_rfl
/-! compactorref25.rename-/
abbrev LA:List AO:=
 [o1 4 (.mv (ci 0))]
abbrev Lz:List AO:=
 [(mt 5 1),o1 6 (.bin .lss (.t 5) (ci 0))]
abbrev Ly:List AO:=
 [o1 4 (.mv (.c (.n .i64 (-1))))]
abbrev Lx:List AO:=
 [(mt 7 0),
  (mt 8 1),o1 9 (.ia 1 (.t 7) (.t 8)),o1 10 (.ld 1 false (.t 9)),
  (mt 4 10)]
abbrev S6:AF:=⟨11,(.seq (.reg LA) (.seq (.seq (.reg Lz) (.cond (.t 6) (.seq (.reg Ly) .ret) .skip)) (.seq (.reg Lx) .ret))),[.mv (.t 4)]⟩
theorem LB:bD Try.prog (aE Try.prog 80) 80=some S6:=by kernel_rfl
/-! compactorlaw25.push-/
abbrev Lu:List AO:=
 [o1 2 (.al 60 [.n .i64 0,.n .i64 0,.n .i64 0,.n .i64 0,.n .u32 0])]
abbrev Ls:List AO:=
 [(mt 3 0),
  (mt 4 0),o1 5 (.bin .add (.t 4) (ci 5)),o1 6 (.cvi .u32 (.t 5)),o1 7 (.bd [.n .i64 0,.n .i64 0,.n .i64 0,.n .i64 0,.n .u32 0] [(0,1,(ci 0)),(1,1,(.t 3)),(2,1,(.c (.n .i64 (-1)))),(3,1,(.c (.n .i64 (-1)))),(4,1,(.t 6))]),
  (o3 (.st 5 (.t 2) (.t 7)))]
abbrev S5:AF:=⟨8,(.seq (.reg Lu) (.seq (.reg Ls) .ret)),[.ld 5 true (.t 2)]⟩
theorem Lw:bD Try.prog (aE Try.prog 34) 34=some S5:=by kernel_rfl
/-! compactorlaw25.emit-/
abbrev Lq:List AO:=
 [o1 2 (.al 60 [.n .i64 0,.n .i64 0,.n .i64 0,.n .i64 0,.n .u32 0])]
abbrev Lp:List AO:=
 [(mt 3 0),o1 4 (.bd [.n .i64 0,.n .i64 0,.n .i64 0,.n .i64 0,.n .u32 0] [(0,1,(ci 34)),(1,1,(.c (.n .i64 (-1)))),(2,1,(.t 3)),(3,1,(.c (.n .i64 (-1))))]),
  (o3 (.st 5 (.t 2) (.t 4)))]
abbrev S4:AF:=⟨5,(.seq (.reg Lq) (.seq (.reg Lp) .ret)),[.ld 5 true (.t 2)]⟩
theorem Lr:bD Try.prog (aE Try.prog 35) 35=some S4:=by kernel_rfl
/-! compactorlaw25.awake-/
abbrev Ln:List AO:=
 [o1 0 (.mv (.c (.b false)))]
abbrev Lm:List AO:=
 [(o2 13 34 [(ci 0)]),
  (o2 14 34 [(ci 1)]),o1 15 (.bd [.n .i64 0,.n .i64 0,.n .i64 0,.n .i64 0,.n .u32 0] [(0,1,(ci 8)),(1,1,(ci 2)),(2,1,(ci 0)),(3,1,(ci 1))]),
  (o2 16 35 [(ci 2)]),o1 17 (.bs 60 5 4 [.n .i64 0,.n .i64 0,.n .i64 0,.n .i64 0,.n .u32 0,.n .i64 0,.n .i64 0,.n .i64 0,.n .i64 0,.n .u32 0,.n .i64 0,.n .i64 0,.n .i64 0,.n .i64 0,.n .u32 0,.n .i64 0,.n .i64 0,.n .i64 0,.n .i64 0,.n .u32 0] [(0,5,(.t 13)),(5,5,(.t 14)),(10,5,(.t 15)),(15,5,(.t 16))]),o1 18 (.bd [.sl0,.n .i64 0,.n .i64 0,.sl0] [(1,1,(ci 3)),(3,1,(.t 17))]),o1 1 (.al 25 [.sl0,.n .i64 0,.n .i64 0,.sl0]),
  (o3 (.st 4 (.t 1) (.t 18)))]
abbrev Ll:List AO:=
 [o1 20 (.ld 4 true (.t 1)),
  (o2 21 11 [.t 20]),
  (mt 19 21),o1 22 (.ext 0 (.t 19)),o1 23 (.ext 1 (.t 19)),
  (mt 2 22),
  (mt 3 23)]
abbrev Lk:List AO:=
 [o1 25 (.ld 4 true (.t 1)),
  (o2 26 13 [.t 25]),
  (mt 24 26),o1 27 (.ext 0 (.t 24)),o1 28 (.ext 1 (.t 24)),
  (mt 4 27),
  (mt 5 28)]
abbrev Lj:List AO:=
 [o1 30 (.ld 4 true (.t 1)),
  (o2 31 17 [.t 30,(ci 4)]),
  (mt 29 31),o1 32 (.ext 0 (.t 29)),o1 33 (.ext 1 (.t 29)),o1 6 (.al 25 [.sl0,.n .i64 0,.n .i64 0,.sl0]),
  (o3 (.st 4 (.t 6) (.t 32))),
  (mt 7 33)]
abbrev Li:List AO:=
 [(mt 34 3),
  (mt 35 5),o1 36 (.bin .add (.t 34) (.t 35)),
  (mt 37 7),o1 38 (.bin .add (.t 36) (.t 37)),o1 39 (.bin .neq (.t 38) (ci 0)),
  (mt 40 39),
  (o4 41 40 (.mv (.t 2))),
  (o4 42 40 (.bs 3 1 1 [.n .i64 0] [(0,1,(ci 0))])),
  (o4 43 40 (.bs 3 1 2 [.n .i64 0,.n .i64 0] [(0,1,(ci 0)),(1,1,(ci 1))])),
  (o4 44 40 (.bs 3 1 1 [.n .i64 0] [(0,1,(ci 2))])),
  (o4 45 40 (.bs 39 1 5 [.sl0,.sl0,.sl0,.sl0,.sl0] [(0,1,(.c .sl0)),(1,1,(.t 42)),(2,1,(.t 43)),(3,1,(.t 44)),(4,1,(.c .sl0))])),⟨some 46,some (40,false),.cl (.c (.f 15 [] [])) [.t 41,.t 45,(.c (.f 16 [] []))]⟩,
  (o4 47 40 (.un .not (.t 46))),o1 48 (.pick (.t 40) (.c (.b true)) (.t 47)),
  (mt 49 48),
  (o4 50 49 (.mv (.t 4))),
  (o4 51 49 (.bin .neq (.t 50) (ci 2))),o1 52 (.pick (.t 49) (.c (.b true)) (.t 51)),
  (mt 53 52),
  (o4 54 53 (.fa 1 (.t 6))),
  (o4 55 53 (.ld 1 false (.t 54))),
  (o4 56 53 (.bin .neq (.t 55) (ci 2))),o1 57 (.pick (.t 53) (.c (.b true)) (.t 56)),
  (mt 58 57),
  (o4 59 58 (.fa 3 (.t 6))),
  (o4 60 58 (.ld 1 false (.t 59))),
  (o4 61 58 (.len (.t 60))),
  (o4 62 58 (.bin .neq (.t 61) (ci 4))),o1 63 (.pick (.t 58) (.c (.b true)) (.t 62)),
  (mt 64 63),
  (o4 65 64 (.fa 3 (.t 6))),
  (o4 66 64 (.ld 1 false (.t 65))),
  (o4 67 64 (.ia 5 (.t 66) (ci 2))),
  (o4 68 64 (.fa 1 (.t 67))),
  (o4 69 64 (.ld 1 false (.t 68))),
  (o4 70 64 (.bin .neq (.t 69) (ci 0))),o1 71 (.pick (.t 64) (.c (.b true)) (.t 70))]
abbrev Lh:List AO:=
 [o1 0 (.mv (.c (.b false)))]
abbrev CK:List AO:=
 [o1 72 (.bd [.sl0,.n .i64 0,.n .i64 0,.sl0] [(1,1,(ci 5))]),o1 8 (.al 25 [.sl0,.n .i64 0,.n .i64 0,.sl0]),
  (o3 (.st 4 (.t 8) (.t 72)))]
abbrev CJ:List AO:=
 [o1 73 (.mv (ci 0))]
abbrev Lg:List AO:=
 [o1 74 (.bin .lss (.t 73) (ci 5))]
abbrev Di:List AO:=
 [(mt 75 73),
  (mt 9 75)]
abbrev Dk:List (Nat×AO):=
 [(2,(o1 76 (.fa 3 (.t 8)))),
  (2,(mt 78 9)),(1,(o1 77 (.ld 1 false (.t 76)))),
  (0,(o2 79 34 [.t 78])),(0,(o1 80 (.bs 60 5 1 [.n .i64 0,.n .i64 0,.n .i64 0,.n .i64 0,.n .u32 0] [(0,5,(.t 79))]))),(3,(o1 81 (.app 60 5 40 (.t 77) (.t 80)))),(2,(o1 82 (.fa 3 (.t 8)))),
  (3,(o3 (.st 1 (.t 82) (.t 81))))]
abbrev Dm:AC:=
 (.seq (.reg Di) (.mix Dk))
abbrev Dh:List AO:=
 [o1 83 (.bin .add (.t 73) (ci 1)),
  (mt 73 83)]
abbrev Dp:AC:=
 (.seq (.reg Lg) (.seq (.cond (.t 74) .skip (.exit 0)) (.seq (.block 1 Dm) (.reg Dh))))
abbrev wP:AC:=
 (.loop Dp)
abbrev wM:List AO:=
 [o1 84 (.mv (ci 0))]
abbrev Dg:List AO:=
 [o1 85 (.bin .lss (.t 84) (ci 5))]
abbrev Df:List AO:=
 [(mt 86 84),
  (mt 10 86)]
abbrev Dj:List (Nat×AO):=
 [(2,(o1 87 (.fa 3 (.t 8)))),
  (2,(mt 89 10)),(1,(o1 88 (.ld 1 false (.t 87)))),
  (0,(o2 90 35 [.t 89])),(0,(o1 91 (.bs 60 5 1 [.n .i64 0,.n .i64 0,.n .i64 0,.n .i64 0,.n .u32 0] [(0,5,(.t 90))]))),(3,(o1 92 (.app 60 5 40 (.t 88) (.t 91)))),(2,(o1 93 (.fa 3 (.t 8)))),
  (3,(o3 (.st 1 (.t 93) (.t 92))))]
abbrev Dl:AC:=
 (.seq (.reg Df) (.mix Dj))
abbrev De:List AO:=
 [o1 94 (.bin .add (.t 84) (ci 1)),
  (mt 84 94)]
abbrev Dn:AC:=
 (.seq (.reg Dg) (.seq (.cond (.t 85) .skip (.exit 2)) (.seq (.block 3 Dl) (.reg De))))
abbrev wO:AC:=
 (.loop Dn)
abbrev wL:List AO:=
 [o1 96 (.ld 4 true (.t 8)),
  (o2 97 17 [.t 96,(ci 4)]),
  (mt 95 97),o1 98 (.ext 0 (.t 95)),o1 99 (.ext 1 (.t 95)),o1 11 (.al 25 [.sl0,.n .i64 0,.n .i64 0,.sl0]),
  (o3 (.st 4 (.t 11) (.t 98))),
  (mt 12 99)]
abbrev wN:List (Nat×AO):=
 [(2,(mt 100 12)),(2,(o1 101 (.bin .eql (.t 100) (ci 0)))),
  (2,(mt 102 101)),
  (2,(o5 103 102 (.fa 1 (.t 11)))),
  (1,(o5 104 102 (.ld 1 false (.t 103)))),
  (2,(o5 105 102 (.bin .eql (.t 104) (ci 4)))),(2,(o1 106 (.pick (.t 102) (.t 105) (.c (.b false))))),
  (2,(mt 107 106)),
  (2,(o5 108 107 (.fa 2 (.t 11)))),
  (1,(o5 109 107 (.ld 1 false (.t 108)))),
  (2,(o5 110 107 (.bin .eql (.t 109) (ci 4)))),(2,(o1 111 (.pick (.t 107) (.t 110) (.c (.b false))))),
  (2,(mt 112 111)),
  (2,(o5 113 112 (.fa 3 (.t 11)))),
  (1,(o5 114 112 (.ld 1 false (.t 113)))),
  (2,(o5 115 112 (.len (.t 114)))),
  (2,(o5 116 112 (.bin .eql (.t 115) (ci 18)))),(2,(o1 117 (.pick (.t 112) (.t 116) (.c (.b false))))),
  (2,(mt 118 117)),
  (2,(o5 119 118 (.fa 3 (.t 11)))),
  (1,(o5 120 118 (.ld 1 false (.t 119)))),
  (2,(o5 121 118 (.ia 5 (.t 120) (ci 0)))),
  (1,(o5 122 118 (.ld 5 true (.t 121)))),(0,⟨some 123,some (118,true),.cl (.c (.f 34 [] [])) [(ci 0)]⟩),
  (2,(o5 124 118 (.eq false (.st [(0,1,.n),(1,1,.n),(2,1,.n),(3,1,.n),(4,1,.n)]) (.t 122) (.t 123)))),(2,(o1 125 (.pick (.t 118) (.t 124) (.c (.b false))))),
  (2,(mt 0 125))]
abbrev S3:AF:=⟨126,(.seq (.reg Ln) (.seq (.reg Lm) (.seq (.reg Ll) (.seq (.reg Lk) (.seq (.reg Lj) (.seq (.seq (.reg Li) (.cond (.t 71) (.seq (.reg Lh) .ret) .skip)) (.seq (.reg CK) (.seq (.seq (.reg CJ) (.block 0 wP)) (.seq (.seq (.reg wM) (.block 2 wO)) (.seq (.reg wL) (.seq (.mix wN) .ret))))))))))),[.mv (.t 0)]⟩
theorem Lo:bD Try.prog (aE Try.prog 10) 10=some S3:=by kernel_rfl
/-! compactorlaw25.good-/
/-! compactorlaw25.reached-/
/-! compactorlaw25.reached$1-/
/-! compactorlaw25.AllocateFits$1-/
/-! compactorlaw25.AllocateFits$2-/
/-! optimizer.Prune-/
/-! optimizer.prune-/
/-! optimizer.live-/
/-! optimizer.hollow-/
/-! slices.Clone[[]bool,bool]-/
/-! optimizer.following-/
/-! slices.Equal[[]bool,bool]-/
/-! compactorref24.Prune-/
/-! compactorref24.live-/
/-! compactorref24.idle-/
/-! compactorref24.empty-/
/-! compactorref24.successors-/
/-! compactorlaw24.OptimizerPrunes-/
/-! optimizer.Share-/
/-! optimizer.share-/
/-! optimizer.walk[optimizer.value]-/
/-! optimizer.share$1-/
/-! optimizer.share$2-/
/-! optimizer.expression-/
/-! slices.IndexFunc[[]optimizer.value,optimizer.value]-/
/-! optimizer.share$2$1-/
/-! optimizer.value.computes-/
/-! optimizer.without[optimizer.value]-/
/-! optimizer.both[optimizer.value]-/
/-! optimizer.without[optimizer.value]$1-/
/-! slices.Contains[[]optimizer.value,optimizer.value]-/
/-! slices.Index[[]optimizer.value,optimizer.value]-/
/-! compactorref24.Share-/
/-! compactorref24.keep-/
/-! compactorref24.changes-/
/-! compactorref24.bothFacts-/
/-! compactorref24.expression-/
/-! compactorref24.find-/
/-! compactorlaw24.OptimizerShares-/
/-! optimizer.Optimize-/
/-! compactorref24.Optimize-/
/-! optimizer.Optimize$1-/
/-! slices.Equal[[]api.RegInstr,api.RegInstr]-/
/-! compactorlaw24.OptimizerOptimizes-/
/-! slices.EqualFunc[[][]int,[][]int,[]int,[]int]-/
abbrev Lc:List AO:=
 [o1 6 (.mv (.c (.b false)))]
abbrev Lb:List AO:=
 [(mt 10 0),o1 11 (.len (.t 10)),
  (mt 12 1),o1 13 (.len (.t 12)),o1 14 (.bin .neq (.t 11) (.t 13))]
abbrev La:List AO:=
 [o1 6 (.mv (.c (.b false)))]
abbrev K9:List AO:=
 [(mt 15 0),o1 16 (.len (.t 15)),o1 17 (.mv (ci 0))]
abbrev K8:List AO:=
 [o1 18 (.bin .lss (.t 17) (.t 16))]
abbrev K7:List AO:=
 [(mt 19 17),o1 20 (.ia 1 (.t 15) (.t 17)),o1 21 (.ld 1 false (.t 20)),
  (mt 7 19),
  (mt 8 21)]
abbrev K6:List AO:=
 [(mt 22 1),
  (mt 23 7),o1 24 (.ia 1 (.t 22) (.t 23)),o1 25 (.ld 1 false (.t 24)),
  (mt 9 25)]
abbrev K5:List AO:=
 [(mt 26 2),
  (mt 27 8),
  (mt 28 9),⟨some 29,none,.cl (.t 26) [.t 27,.t 28]⟩,o1 30 (.un .not (.t 29))]
abbrev K4:List AO:=
 [o1 6 (.mv (.c (.b false)))]
abbrev Lf:AC:=
 (.seq (.reg K7) (.seq (.reg K6) (.seq (.reg K5) (.cond (.t 30) (.seq (.reg K4) .ret) .skip))))
abbrev Db:List AO:=
 [o1 31 (.bin .add (.t 17) (ci 1)),
  (mt 17 31)]
abbrev Dd:AC:=
 (.seq (.reg K8) (.seq (.cond (.t 18) .skip (.exit 0)) (.seq (.block 1 Lf) (.reg Db))))
abbrev Dc:AC:=
 (.loop Dd)
abbrev Da:List AO:=
 [o1 6 (.mv (.c (.b true)))]
abbrev S1:AF:=⟨32,(.seq (.reg Lc) (.seq (.seq (.reg Lb) (.cond (.t 14) (.seq (.reg La) .ret) .skip)) (.seq (.seq (.reg K9) (.block 0 Dc)) (.seq (.reg Da) .ret)))),[.mv (.t 6)]⟩
theorem Ld:bD Try.prog (aE Try.prog 15) 15=some S1:=by kernel_rfl
/-! slices.Equal[[]int,int]-/
abbrev KZ:List AO:=
 [o1 4 (.mv (.c (.b false)))]
abbrev KY:List AO:=
 [(mt 6 0),o1 7 (.len (.t 6)),
  (mt 8 1),o1 9 (.len (.t 8)),o1 10 (.bin .neq (.t 7) (.t 9))]
abbrev KX:List AO:=
 [o1 4 (.mv (.c (.b false)))]
abbrev KW:List AO:=
 [(mt 11 0),o1 12 (.len (.t 11)),o1 13 (.mv (ci 0))]
abbrev KV:List AO:=
 [o1 14 (.bin .lss (.t 13) (.t 12))]
abbrev KU:List AO:=
 [(mt 15 13),
  (mt 5 15)]
abbrev K2:List (Nat×AO):=
 [(2,(mt 16 0)),
  (2,(mt 17 5)),(2,(o1 18 (.ia 1 (.t 16) (.t 17)))),
  (2,(mt 20 1)),
  (2,(mt 21 5)),(2,(o1 22 (.ia 1 (.t 20) (.t 21)))),(1,(o1 19 (.ld 1 false (.t 18)))),(1,(o1 23 (.ld 1 false (.t 22)))),(2,(o1 24 (.bin .neq (.t 19) (.t 23))))]
abbrev KS:List AO:=
 [o1 4 (.mv (.c (.b false)))]
abbrev K3:AC:=
 (.seq (.reg KU) (.seq (.mix K2) (.cond (.t 24) (.seq (.reg KS) .ret) .skip)))
abbrev KR:List AO:=
 [o1 25 (.bin .add (.t 13) (ci 1)),
  (mt 13 25)]
abbrev C9:AC:=
 (.seq (.reg KV) (.seq (.cond (.t 14) .skip (.exit 0)) (.seq (.block 1 K3) (.reg KR))))
abbrev C8:AC:=
 (.loop C9)
abbrev C7:List AO:=
 [o1 4 (.mv (.c (.b true)))]
abbrev SZ:AF:=⟨26,(.seq (.reg KZ) (.seq (.seq (.reg KY) (.cond (.t 10) (.seq (.reg KX) .ret) .skip)) (.seq (.seq (.reg KW) (.block 0 C8)) (.seq (.reg C7) .ret)))),[.mv (.t 4)]⟩
theorem K1:bD Try.prog (aE Try.prog 16) 16=some SZ:=by kernel_rfl
/-! slices.IsSorted[[]int,int]-/
/-! slices.Contains[[]int,int]-/
/-! slices.EqualFunc[[]api.RegInstr,[]api.RegInstr,api.RegInstr,api.RegInstr]-/
/-! slices.Index[[]int,int]-/
/-! slices.ContainsFunc[[]int,int]-/
/-! slices.IndexFunc[[]int,int]-/
/-! cmp.Less[int]-/
/-! cmp.isNaN[int]-/
/-! compactorlaw25.AllocateLives-/
abbrev KQ:List AO:=
 [o1 1 (.bx 25 0 (.t 0)),o1 2 (.mv (.c (.b false)))]
abbrev KP:List AO:=
 [o1 11 (.ld 4 true (.t 1)),
  (o2 12 9 [.t 11]),o1 13 (.un .not (.t 12))]
abbrev KO:List AO:=
 [(o2 14 10 []),
  (mt 2 14)]
abbrev KN:List AO:=
 [o1 16 (.ld 4 true (.t 1)),
  (o2 17 11 [.t 16]),
  (mt 15 17),o1 18 (.ext 0 (.t 15)),o1 19 (.ext 1 (.t 15)),
  (mt 3 18),
  (mt 4 19)]
abbrev KM:List AO:=
 [o1 21 (.ld 4 true (.t 1)),
  (o2 22 12 [.t 21]),
  (mt 20 22),o1 23 (.ext 0 (.t 20)),o1 24 (.ext 1 (.t 20)),
  (mt 5 23),
  (mt 6 24)]
abbrev KL:List AO:=
 [o1 26 (.ld 4 true (.t 1)),
  (o2 27 13 [.t 26]),
  (mt 25 27),o1 28 (.ext 0 (.t 25)),o1 29 (.ext 1 (.t 25)),
  (mt 7 28),
  (mt 8 29)]
abbrev KK:List AO:=
 [o1 31 (.ld 4 true (.t 1)),
  (o2 32 14 [.t 31]),
  (mt 30 32),o1 33 (.ext 0 (.t 30)),o1 34 (.ext 1 (.t 30)),
  (mt 9 33),
  (mt 10 34)]
abbrev KJ:List AO:=
 [(mt 35 3),
  (mt 36 5),
  (o2 37 15 [.t 35,.t 36,(.c (.f 16 [] []))]),
  (mt 38 37),
  (o5 39 38 (.mv (.t 4))),
  (o5 40 38 (.mv (.t 6))),
  (o5 41 38 (.bin .eql (.t 39) (.t 40))),o1 42 (.pick (.t 38) (.t 41) (.c (.b false))),
  (mt 43 42),
  (o5 44 43 (.mv (.t 7))),
  (o5 45 43 (.mv (.t 9))),
  (o5 46 43 (.bin .eql (.t 44) (.t 45))),o1 47 (.pick (.t 43) (.t 46) (.c (.b false))),
  (mt 48 47),
  (o5 49 48 (.mv (.t 8))),
  (o5 50 48 (.mv (.t 10))),
  (o5 51 48 (.bin .eql (.t 49) (.t 50))),o1 52 (.pick (.t 48) (.t 51) (.c (.b false))),
  (mt 53 52),⟨some 54,some (53,true),.cl (.c (.f 10 [] [])) []⟩,o1 55 (.pick (.t 53) (.t 54) (.c (.b false))),
  (mt 2 55)]
abbrev SY:AF:=⟨56,(.seq (.reg KQ) (.seq (.seq (.reg KP) (.cond (.t 13) (.seq (.reg KO) .ret) .skip)) (.seq (.reg KN) (.seq (.reg KM) (.seq (.reg KL) (.seq (.reg KK) (.seq (.reg KJ) .ret))))))),[.mv (.t 2)]⟩
theorem CI:bD Try.prog (aE Try.prog 3) 3=some SY:=by kernel_rfl
/-! compactorlaw25.AllocateSpills-/
abbrev KI:List AO:=
 [o1 2 (.bx 25 0 (.t 0)),o1 4 (.mv (.c (.b false)))]
abbrev KH:List AO:=
 [o1 9 (.ld 4 true (.t 2)),
  (o2 10 9 [.t 9]),o1 11 (.un .not (.t 10))]
abbrev KG:List AO:=
 [(o2 12 10 []),
  (mt 4 12)]
abbrev KF:List AO:=
 [o1 14 (.ld 4 true (.t 2)),
  (mt 15 1),
  (o2 16 17 [.t 14,.t 15]),
  (mt 13 16),o1 17 (.ext 0 (.t 13)),o1 18 (.ext 1 (.t 13)),o1 5 (.al 25 [.sl0,.n .i64 0,.n .i64 0,.sl0]),
  (o3 (.st 4 (.t 5) (.t 17))),
  (mt 6 18)]
abbrev KE:List AO:=
 [o1 20 (.ld 4 true (.t 2)),
  (mt 21 1),
  (o2 22 18 [.t 20,.t 21]),
  (mt 19 22),o1 23 (.ext 0 (.t 19)),o1 24 (.ext 1 (.t 19)),o1 7 (.al 25 [.sl0,.n .i64 0,.n .i64 0,.sl0]),
  (o3 (.st 4 (.t 7) (.t 23))),
  (mt 8 24)]
abbrev KD:List AO:=
 [o1 25 (.ld 4 true (.t 5)),o1 26 (.ld 4 true (.t 7)),
  (o2 27 19 [.t 25,.t 26]),
  (mt 28 27),
  (o5 29 28 (.mv (.t 6))),
  (o5 30 28 (.mv (.t 8))),
  (o5 31 28 (.bin .eql (.t 29) (.t 30))),o1 32 (.pick (.t 28) (.t 31) (.c (.b false))),
  (mt 33 32),⟨some 34,some (33,true),.cl (.c (.f 10 [] [])) []⟩,o1 35 (.pick (.t 33) (.t 34) (.c (.b false))),
  (mt 4 35)]
abbrev SR:AF:=⟨36,(.seq (.reg KI) (.seq (.seq (.reg KH) (.cond (.t 11) (.seq (.reg KG) .ret) .skip)) (.seq (.reg KF) (.seq (.reg KE) (.seq (.reg KD) .ret))))),[.mv (.t 4)]⟩
theorem CH:bD Try.prog (aE Try.prog 4) 4=some SR:=by kernel_rfl
/-! compactorlaw25.AllocateCompacts-/
/-! compactorlaw25.AllocateSettles-/
/-! compactorlaw25.AllocateNeeds-/
/-! compactorlaw25.AllocateFits-/
end Go.Proofs.Yteopfmnnhlhbmaa