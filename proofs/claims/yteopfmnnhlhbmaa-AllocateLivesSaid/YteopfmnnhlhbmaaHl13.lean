/- A part of the proof of AllocateLives: AcA AcB AcAlA AcAlI AcAlD AcAlE AcAlG AcAlF AcD AcC AcE AcAlH AcAlJ. No condition. -/
import Derived.Test.YteopfmnnhlhbmaaHl12
import Derived.Test.YteopfmnnhlhbmaaProg
set_option linter.unusedSimpArgs false
set_option linter.unusedVariables false
set_option linter.constructorNameAsVariable false
set_option maxRecDepth 100000
set_option maxHeartbeats 4000000
namespace Go.Proofs.Yteopfmnnhlhbmaa
open Go.RowKit
/-! optimizer.numbers-/
/-! lower.Uses-/
abbrev Pd:List AO:=
 [o1 1 (.bx 60 0 (.t 0)),o1 2 (.mv (.c .sl0)),o1 3 (.mv (ci 0))]
abbrev Pc:List AO:=
 [o1 6 (.fa 0 (.t 1)),o1 7 (.ld 1 false (.t 6)),
  (o2 8 88 [.t 7]),o1 4 (.al 104 [.b false,.b false,.b false,.b false]),
  (o3 (.st 4 (.t 4) (.t 8)))]
abbrev Pb:List AO:=
 [o1 5 (.mv (.c .sl0))]
abbrev Pa:List AO:=
 [o1 9 (.fa 2 (.t 4)),o1 10 (.ld 1 false (.t 9))]
abbrev O9:List AO:=
 [(mt 11 5),o1 12 (.fa 2 (.t 1)),o1 13 (.ld 1 false (.t 12)),o1 14 (.bs 3 1 1 [.n .i64 0] [(0,1,(.t 13))]),o1 15 (.app 3 1 8 (.t 11) (.t 14)),
  (mt 5 15)]
abbrev O8:List AO:=
 [o1 16 (.fa 3 (.t 4)),o1 17 (.ld 1 false (.t 16))]
abbrev O7:List AO:=
 [(mt 18 5),o1 19 (.fa 3 (.t 1)),o1 20 (.ld 1 false (.t 19)),o1 21 (.bs 3 1 1 [.n .i64 0] [(0,1,(.t 20))]),o1 22 (.app 3 1 8 (.t 18) (.t 21)),
  (mt 5 22)]
abbrev O6:List AO:=
 [o1 23 (.fa 1 (.t 4)),o1 24 (.ld 1 false (.t 23)),o1 25 (.un .not (.t 24))]
abbrev O5:List AO:=
 [(mt 26 5),
  (mt 2 26),o1 3 (.mv (.c (.n .i64 (-1))))]
abbrev Pf:List (Nat×AO):=
 [(2,(mt 27 5)),(2,(o1 28 (.fa 1 (.t 1)))),
  (2,(mt 2 27)),(1,(o1 29 (.ld 1 false (.t 28)))),
  (2,(mt 3 29))]
abbrev x1F:AF:=⟨30,(.seq (.reg Pd) (.seq (.reg Pc) (.seq (.reg Pb) (.seq (.seq (.reg Pa) (.cond (.t 10) (.reg O9) .skip)) (.seq (.seq (.reg O8) (.cond (.t 17) (.reg O7) .skip)) (.seq (.seq (.reg O6) (.cond (.t 25) (.seq (.reg O5) .ret) .skip)) (.seq (.mix Pf) .ret))))))),[.mv (.t 2),.mv (.t 3)]⟩
theorem Pe:bI Try.prog (aK Try.prog 68) 68=some x1F:=by kernel_rfl
/-! lower.shape-/
/-! optimizer.written-/
/-! optimizer.source-/
/-! slices.Index[[]optimizer.known,optimizer.known]-/
/-! slices.Contains[[]optimizer.known,optimizer.known]-/
/-! slices.IndexFunc[[]optimizer.known,optimizer.known]-/
/-! optimizer.numbers$1-/
/-! optimizer.both[optimizer.known]-/
/-! optimizer.without[optimizer.known]-/
/-! optimizer.without[optimizer.known]$1-/
/-! slices.ContainsFunc[[]api.RegInstr,api.RegInstr]-/
/-! slices.IndexFunc[[]api.RegInstr,api.RegInstr]-/
/-! optimizer.arithmetic-/
/-! optimizer.folded-/
/-! optimizer.fold$1-/
/-! optimizer.fold$2-/
/-! optimizer.pairs-/
/-! optimizer.walk[optimizer.known]-/
/-! optimizer.fold-/
/-! optimizer.checked-/
/-! optimizer.copied-/
/-! optimizer.Fold-/
/-! compactorref24.writes-/
/-! compactorref24.copyKnown-/
/-! compactorref24.forget-/
/-! compactorref24.bothKnown-/
/-! compactorref24.folded-/
/-! compactorref24.Fold-/
/-! compactorref23.Uses-/
abbrev OS:List AO:=
 [o1 1 (.bx 60 0 (.t 0)),o1 2 (.mv (.c .sl0)),o1 3 (.mv (ci 0))]
abbrev OQ:List AO:=
 [o1 10 (.fa 0 (.t 1)),o1 11 (.ld 1 false (.t 10)),
  (o2 12 82 [.t 11]),
  (mt 9 12),o1 13 (.ext 0 (.t 9)),o1 14 (.ext 1 (.t 9)),o1 15 (.ext 2 (.t 9)),o1 16 (.ext 3 (.t 9)),
  (mt 4 13),
  (mt 5 14),
  (mt 6 15),
  (mt 7 16)]
abbrev OP:List AO:=
 [o1 8 (.mv (.c .sl0))]
abbrev OO:List AO:=
 [(mt 17 5)]
abbrev OM:List AO:=
 [(mt 18 8),o1 19 (.fa 2 (.t 1)),o1 20 (.ld 1 false (.t 19)),o1 21 (.bs 3 1 1 [.n .i64 0] [(0,1,(.t 20))]),o1 22 (.app 3 1 8 (.t 18) (.t 21)),
  (mt 8 22)]
abbrev OL:List AO:=
 [(mt 23 6)]
abbrev OK:List AO:=
 [(mt 24 8),o1 25 (.fa 3 (.t 1)),o1 26 (.ld 1 false (.t 25)),o1 27 (.bs 3 1 1 [.n .i64 0] [(0,1,(.t 26))]),o1 28 (.app 3 1 8 (.t 24) (.t 27)),
  (mt 8 28)]
abbrev OJ:List AO:=
 [(mt 29 4)]
abbrev OU:List (Nat×AO):=
 [(2,(mt 30 8)),(2,(o1 31 (.fa 1 (.t 1)))),
  (2,(mt 2 30)),(1,(o1 32 (.ld 1 false (.t 31)))),
  (2,(mt 3 32))]
abbrev OI:List AO:=
 [(mt 33 8),
  (mt 2 33),o1 3 (.mv (.c (.n .i64 (-1))))]
abbrev x2F:AF:=⟨34,(.seq (.reg OS) (.seq (.reg OQ) (.seq (.reg OP) (.seq (.seq (.reg OO) (.cond (.t 17) (.reg OM) .skip)) (.seq (.seq (.reg OL) (.cond (.t 23) (.reg OK) .skip)) (.seq (.seq (.reg OJ) (.cond (.t 29) (.seq (.mix OU) .ret) .skip)) (.seq (.reg OI) .ret))))))),[.mv (.t 2),.mv (.t 3)]⟩
theorem OT:bI Try.prog (aK Try.prog 57) 57=some x2F:=by kernel_rfl
/-! compactorref23.Parts-/
/-! slices.Clone[[]api.Array,api.Array]-/
abbrev Ou:List AO:=
 [o1 2 (.mv (.c .sl0))]
abbrev Ot:List AO:=
 [(mt 3 0),⟨some 4,none,.sn false (.t 3)⟩]
abbrev Oq:List AO:=
 [o1 2 (.mv (.c .sl0))]
abbrev Oo:List AO:=
 [o1 5 (.bs 102 2 0 [] []),
  (mt 6 0),o1 7 (.app 102 2 16 (.t 5) (.t 6)),
  (mt 2 7)]
abbrev x3F:AF:=⟨8,(.seq (.reg Ou) (.seq (.seq (.reg Ot) (.cond (.t 4) (.seq (.reg Oq) .ret) .skip)) (.seq (.reg Oo) .ret))),[.mv (.t 2)]⟩
theorem Ov:bI Try.prog (aK Try.prog 75) 75=some x3F:=by kernel_rfl
/-! slices.Clone[[]api.RegInstr,api.RegInstr]-/
abbrev Ol:List AO:=
 [o1 2 (.mv (.c .sl0))]
abbrev Ok:List AO:=
 [(mt 3 0),⟨some 4,none,.sn false (.t 3)⟩]
abbrev Oj:List AO:=
 [o1 2 (.mv (.c .sl0))]
abbrev Oi:List AO:=
 [o1 5 (.bs 60 5 0 [] []),
  (mt 6 0),o1 7 (.app 60 5 40 (.t 5) (.t 6)),
  (mt 2 7)]
abbrev x4F:AF:=⟨8,(.seq (.reg Ol) (.seq (.seq (.reg Ok) (.cond (.t 4) (.seq (.reg Oj) .ret) .skip)) (.seq (.reg Oi) .ret))),[.mv (.t 2)]⟩
theorem Om:bI Try.prog (aK Try.prog 29) 29=some x4F:=by kernel_rfl
/-! compactorref23.Same-/
/-! compactorref15.SameArrays-/
/-! compactorref24.Few-/
/-! compactorref23.Few-/
abbrev Og:List AO:=
 [o1 1 (.bx 25 0 (.t 0)),o1 2 (.mv (.c (.b false)))]
abbrev Oe:List AO:=
 [o1 3 (.fa 0 (.t 1)),o1 4 (.ld 1 false (.t 3)),o1 5 (.len (.t 4)),o1 6 (.bin .leq (.t 5) (ci 20)),
  (mt 7 6),
  (o5 8 7 (.fa 3 (.t 1))),
  (o5 9 7 (.ld 1 false (.t 8))),
  (o5 10 7 (.len (.t 9))),
  (o5 11 7 (.bin .leq (.t 10) (ci 300))),o1 12 (.pick (.t 7) (.t 11) (.c (.b false))),
  (mt 2 12)]
abbrev x5F:AF:=⟨13,(.seq (.reg Og) (.seq (.reg Oe) .ret)),[.mv (.t 2)]⟩
theorem Oh:bI Try.prog (aK Try.prog 33) 33=some x5F:=by kernel_rfl
/-! compactorlaw24.OptimizerFolds-/
/-! lower.shapes-/
/-! optimizer.Copies-/
/-! optimizer.copies-/
/-! optimizer.walk[optimizer.same]-/
/-! optimizer.copies$1-/
/-! optimizer.copies$2-/
/-! optimizer.without[optimizer.same]-/
/-! optimizer.both[optimizer.same]-/
/-! optimizer.without[optimizer.same]$1-/
/-! slices.Contains[[]optimizer.same,optimizer.same]-/
/-! slices.Index[[]optimizer.same,optimizer.same]-/
/-! compactorref24.Copies-/
/-! compactorref24.source-/
/-! compactorref24.withoutSources-/
/-! compactorref24.bothSources-/
/-! compactorref24.only-/
/-! compactorref23.Copy-/
/-! compactorlaw24.OptimizerCopies-/
/-! allocate.blocks-/
abbrev Oc:List AO:=
 [o1 2 (.mv (.c (.cv (.map none))))]
abbrev Ob:List AO:=
 [⟨some 14,none,.mo (.mm)⟩,
  (mt 3 14)]
abbrev Oa:List AO:=
 [o1 4 (.mv (.c .sl0)),o1 5 (.mv (.c .sl0))]
abbrev N9:List AO:=
 [o1 6 (.mv (.c .sl0))]
abbrev N8:List AO:=
 [(mt 15 0),o1 16 (.len (.t 15)),o1 17 (.mv (ci 0))]
abbrev N7:List AO:=
 [o1 18 (.bin .lss (.t 17) (.t 16))]
abbrev N6:List AO:=
 [(mt 19 17),o1 20 (.ia 5 (.t 15) (.t 17)),o1 21 (.ld 5 true (.t 20)),o1 8 (.al 60 [.n .i64 0,.n .i64 0,.n .i64 0,.n .i64 0,.n .u32 0]),
  (mt 7 19),
  (o3 (.st 5 (.t 8) (.t 21)))]
abbrev N5:List AO:=
 [o1 22 (.fa 0 (.t 8)),o1 23 (.ld 1 false (.t 22))]
abbrev N4:List AO:=
 [o1 25 (.bin .eql (.t 23) (ci 27)),
  (mt 24 25)]
abbrev N3:List AO:=
 [o1 26 (.bin .eql (.t 23) (ci 29)),
  (mt 24 26)]
abbrev Ho:List AO:=
 [(mt 27 4),
  (mt 28 7),o1 29 (.bs 3 1 1 [.n .i64 0] [(0,1,(.t 28))]),o1 30 (.app 3 1 8 (.t 27) (.t 29)),
  (mt 31 5),
  (mt 32 7),o1 33 (.bs 3 1 1 [.n .i64 0] [(0,1,(.t 32))]),o1 34 (.app 3 1 8 (.t 31) (.t 33)),
  (mt 35 6),o1 36 (.bs 39 1 1 [.sl0] [(0,1,(.c .sl0))]),o1 37 (.app 39 1 24 (.t 35) (.t 36)),
  (mt 4 30),
  (mt 5 34),
  (mt 6 37)]
abbrev Hn:List AO:=
 [o1 39 (.bin .eql (.t 23) (ci 28)),
  (mt 38 39)]
abbrev Hm:List AO:=
 [(mt 40 4),o1 41 (.len (.t 40)),o1 42 (.bin .sub (.t 41) (ci 1)),
  (mt 9 42)]
abbrev Hl:List AO:=
 [(mt 43 3),
  (mt 44 4),
  (mt 45 9),o1 46 (.ia 1 (.t 44) (.t 45)),o1 47 (.ld 1 false (.t 46)),
  (mt 48 5),
  (mt 49 9),
  (mt 50 7),
  (mt 51 7),⟨some 52,none,.mo (.me (.n .i64 0) (.t 43) (.t 47))⟩,o1 53 (.ext 1 (.t 52)),⟨none,none,.mo (.es (.t 43) (.t 53) (.t 50))⟩,o1 54 (.ia 1 (.t 48) (.t 49)),
  (o3 (.st 1 (.t 54) (.t 51)))]
abbrev Hk:List AO:=
 [o1 56 (.bin .eql (.t 23) (ci 30)),
  (mt 55 56)]
abbrev A3:List AO:=
 [(mt 57 4),o1 58 (.len (.t 57)),o1 59 (.bin .sub (.t 58) (ci 1)),
  (mt 10 59)]
abbrev Hj:List AO:=
 [(mt 60 0),
  (mt 61 4),
  (mt 62 10),o1 63 (.ia 1 (.t 61) (.t 62)),o1 64 (.ld 1 false (.t 63)),o1 65 (.ia 5 (.t 60) (.t 64)),o1 66 (.fa 0 (.t 65)),o1 67 (.ld 1 false (.t 66)),o1 68 (.bin .neq (.t 67) (ci 29))]
abbrev Hi:List AO:=
 [(mt 69 10),o1 70 (.bin .sub (.t 69) (ci 1)),
  (mt 10 70)]
abbrev Ht:AC:=
 (.reg Hi)
abbrev Hw:AC:=
 (.seq (.seq (.reg Hj) (.cond (.t 68) .skip (.exit 3))) (.block 4 Ht))
abbrev A7:AC:=
 (.loop Hw)
abbrev A2:List AO:=
 [(mt 71 6),
  (mt 72 10),
  (mt 73 6),
  (mt 74 10),o1 75 (.ia 1 (.t 73) (.t 74)),o1 76 (.ld 1 false (.t 75)),
  (mt 77 7),o1 78 (.bs 3 1 1 [.n .i64 0] [(0,1,(.t 77))]),o1 79 (.app 3 1 8 (.t 76) (.t 78)),o1 80 (.ia 1 (.t 71) (.t 72)),
  (o3 (.st 1 (.t 80) (.t 79)))]
abbrev Hh:List AO:=
 [o1 82 (.bin .eql (.t 23) (ci 31)),
  (mt 81 82)]
abbrev A1:List AO:=
 [(mt 83 4),o1 84 (.len (.t 83)),o1 85 (.bin .sub (.t 84) (ci 1)),
  (mt 11 85)]
abbrev A5:List (Nat×AO):=
 [(2,(mt 86 3)),
  (2,(mt 87 5)),
  (2,(mt 88 11)),(2,(o1 89 (.ia 1 (.t 87) (.t 88)))),
  (2,(mt 91 3)),
  (2,(mt 92 7)),
  (2,(mt 93 7)),
  (2,(mt 94 4)),
  (2,(mt 95 11)),(2,(o1 96 (.ia 1 (.t 94) (.t 95)))),(1,(o1 90 (.ld 1 false (.t 89)))),(1,(o1 97 (.ld 1 false (.t 96)))),(3,⟨some 98,none,.mo (.me (.n .i64 0) (.t 86) (.t 90))⟩),(2,(o1 99 (.ext 1 (.t 98)))),(3,⟨none,none,.mo (.es (.t 86) (.t 99) (.t 93))⟩),(3,⟨some 100,none,.mo (.me (.n .i64 0) (.t 91) (.t 92))⟩),(2,(o1 101 (.ext 1 (.t 100)))),(3,⟨none,none,.mo (.es (.t 91) (.t 101) (.t 97))⟩)]
abbrev A0:List AO:=
 [(mt 102 6),
  (mt 103 11),o1 104 (.ia 1 (.t 102) (.t 103)),o1 105 (.ld 1 false (.t 104)),o1 106 (.len (.t 105)),o1 107 (.mv (ci 0))]
abbrev Hg:List AO:=
 [o1 108 (.bin .lss (.t 107) (.t 106))]
abbrev Hf:List AO:=
 [o1 109 (.ia 1 (.t 105) (.t 107)),o1 110 (.ld 1 false (.t 109)),
  (mt 13 110)]
abbrev He:List AO:=
 [(mt 111 3),
  (mt 112 13),
  (mt 113 7),⟨none,none,.mo (.mu (.t 111) (.t 112) (.t 113))⟩]
abbrev Hs:AC:=
 (.seq (.reg Hf) (.reg He))
abbrev Hd:List AO:=
 [o1 114 (.bin .add (.t 107) (ci 1)),
  (mt 107 114)]
abbrev Hv:AC:=
 (.seq (.reg Hg) (.seq (.cond (.t 108) .skip (.exit 5)) (.seq (.block 6 Hs) (.reg Hd))))
abbrev A6:AC:=
 (.loop Hv)
abbrev A4:List (Nat×AO):=
 [(2,(mt 115 4)),
  (2,(mt 116 11)),(2,(o1 117 (.sl 1 (.t 115) none (some (.t 116))))),
  (2,(mt 118 5)),
  (2,(mt 119 11)),(2,(o1 120 (.sl 1 (.t 118) none (some (.t 119))))),
  (2,(mt 121 6)),
  (2,(mt 122 11)),(2,(o1 123 (.sl 1 (.t 121) none (some (.t 122))))),
  (2,(mt 4 117)),
  (2,(mt 5 120)),
  (2,(mt 6 123))]
abbrev Hr:AC:=
 (.seq (.seq (.reg N4) (.cond (.t 24) .skip (.reg N3))) (.cond (.t 24) (.reg Ho) (.seq (.reg Hn) (.cond (.t 38) (.seq (.reg Hm) (.reg Hl)) (.seq (.reg Hk) (.cond (.t 55) (.seq (.reg A3) (.seq (.block 3 A7) (.reg A2))) (.seq (.reg Hh) (.cond (.t 81) (.seq (.reg A1) (.seq (.mix A5) (.seq (.seq (.reg A0) (.block 5 A6)) (.mix A4)))) .skip))))))))
abbrev Hq:AC:=
 (.seq (.reg N6) (.seq (.reg N5) (.block 2 Hr)))
abbrev Hb:List AO:=
 [o1 124 (.bin .add (.t 17) (ci 1)),
  (mt 17 124)]
abbrev Hu:AC:=
 (.seq (.reg N7) (.seq (.cond (.t 18) .skip (.exit 0)) (.seq (.block 1 Hq) (.reg Hb))))
abbrev Hp:AC:=
 (.loop Hu)
abbrev G9:List AO:=
 [(mt 125 3),
  (mt 2 125)]
abbrev x6F:AF:=⟨126,(.seq (.reg Oc) (.seq (.reg Ob) (.seq (.reg Oa) (.seq (.reg N9) (.seq (.seq (.reg N8) (.block 0 Hp)) (.seq (.reg G9) .ret)))))),[.mv (.t 2)]⟩
theorem Od:bI Try.prog (aK Try.prog 86) 86=some x6F:=by kernel_rfl
/-! allocate.graph-/
abbrev N0:List AO:=
 [o1 2 (.mv (.c .sl0))]
abbrev NZ:List AO:=
 [(mt 9 0),
  (o2 10 86 [.t 9]),
  (mt 3 10)]
abbrev NY:List AO:=
 [o1 4 (.mv (.c .sl0))]
abbrev NW:List AO:=
 [(mt 11 0),o1 12 (.len (.t 11)),o1 13 (.mv (ci 0))]
abbrev NV:List AO:=
 [o1 14 (.bin .lss (.t 13) (.t 12))]
abbrev NU:List AO:=
 [(mt 15 13),o1 16 (.ia 5 (.t 11) (.t 13)),o1 17 (.ld 5 true (.t 16)),o1 6 (.al 60 [.n .i64 0,.n .i64 0,.n .i64 0,.n .i64 0,.n .u32 0]),
  (mt 5 15),
  (o3 (.st 5 (.t 6) (.t 17)))]
abbrev NT:List AO:=
 [(mt 18 5),o1 19 (.bin .add (.t 18) (ci 1)),o1 20 (.bs 3 1 1 [.n .i64 0] [(0,1,(.t 19))]),
  (mt 7 20)]
abbrev NS:List AO:=
 [o1 21 (.fa 0 (.t 6)),o1 22 (.ld 1 false (.t 21))]
abbrev NQ:List AO:=
 [o1 24 (.bin .eql (.t 22) (ci 27)),
  (mt 23 24)]
abbrev NP:List AO:=
 [o1 25 (.bin .eql (.t 22) (ci 29)),
  (mt 23 25)]
abbrev G4:List AO:=
 [o1 26 (.bin .eql (.t 22) (ci 30)),
  (mt 23 26)]
abbrev G3:List AO:=
 [(mt 27 7),
  (mt 28 3),
  (mt 29 5),⟨some 30,none,.mo (.lk (.n .i64 0) false (.t 28) (.t 29))⟩,o1 31 (.bin .add (.t 30) (ci 1)),o1 32 (.bs 3 1 1 [.n .i64 0] [(0,1,(.t 31))]),o1 33 (.app 3 1 8 (.t 27) (.t 32)),
  (mt 7 33)]
abbrev G2:List AO:=
 [o1 34 (.fa 0 (.t 6)),o1 35 (.ld 1 false (.t 34)),o1 36 (.bin .eql (.t 35) (ci 27)),
  (mt 37 36),
  (o5 38 37 (.mv (.t 0))),
  (o5 39 37 (.mv (.t 3))),
  (o5 40 37 (.mv (.t 5))),⟨some 41,some (37,true),.mo (.lk (.n .i64 0) false (.t 39) (.t 40))⟩,
  (o5 42 37 (.ia 5 (.t 38) (.t 41))),
  (o5 43 37 (.fa 0 (.t 42))),
  (o5 44 37 (.ld 1 false (.t 43))),
  (o5 45 37 (.bin .eql (.t 44) (ci 31))),o1 46 (.pick (.t 37) (.t 45) (.c (.b false)))]
abbrev G1:List AO:=
 [(mt 47 7),
  (mt 48 3),
  (mt 49 5),⟨some 50,none,.mo (.lk (.n .i64 0) false (.t 48) (.t 49))⟩,o1 51 (.ia 1 (.t 47) (ci 1)),
  (o3 (.st 1 (.t 51) (.t 50)))]
abbrev G0:List AO:=
 [o1 53 (.bin .eql (.t 22) (ci 28)),
  (mt 52 53)]
abbrev GZ:List AO:=
 [(mt 54 7),
  (mt 55 3),
  (mt 56 5),⟨some 57,none,.mo (.lk (.n .i64 0) false (.t 55) (.t 56))⟩,o1 58 (.bin .add (.t 57) (ci 1)),o1 59 (.ia 1 (.t 54) (ci 0)),
  (o3 (.st 1 (.t 59) (.t 58)))]
abbrev GY:List AO:=
 [o1 61 (.bin .eql (.t 22) (ci 31)),
  (mt 60 61)]
abbrev GV:List AO:=
 [(mt 62 3),
  (mt 63 5),⟨some 64,none,.mo (.lk (.n .i64 0) false (.t 62) (.t 63))⟩,
  (mt 8 64)]
abbrev GU:List AO:=
 [(mt 65 0),
  (mt 66 8),o1 67 (.ia 5 (.t 65) (.t 66)),o1 68 (.fa 0 (.t 67)),o1 69 (.ld 1 false (.t 68)),o1 70 (.bin .eql (.t 69) (ci 29))]
abbrev GR:List AO:=
 [(mt 71 7),
  (mt 72 8),o1 73 (.bin .add (.t 72) (ci 1)),o1 74 (.bs 3 1 1 [.n .i64 0] [(0,1,(.t 73))]),o1 75 (.app 3 1 8 (.t 71) (.t 74)),
  (mt 7 75)]
abbrev G7:AC:=
 (.seq (.seq (.reg NQ) (.cond (.t 23) .skip (.seq (.reg NP) (.cond (.t 23) .skip (.reg G4))))) (.cond (.t 23) (.seq (.reg G3) (.seq (.reg G2) (.cond (.t 46) (.reg G1) .skip))) (.seq (.reg G0) (.cond (.t 52) (.reg GZ) (.seq (.reg GY) (.cond (.t 60) (.seq (.reg GV) (.seq (.reg GU) (.cond (.t 70) (.reg GR) .skip))) .skip))))))
abbrev GQ:List AO:=
 [(mt 76 4),
  (mt 77 7),o1 78 (.bs 39 1 1 [.sl0] [(0,1,(.t 77))]),o1 79 (.app 39 1 24 (.t 76) (.t 78)),
  (mt 4 79)]
abbrev G6:AC:=
 (.seq (.reg NU) (.seq (.reg NT) (.seq (.seq (.reg NS) (.block 2 G7)) (.reg GQ))))
abbrev GP:List AO:=
 [o1 80 (.bin .add (.t 13) (ci 1)),
  (mt 13 80)]
abbrev G8:AC:=
 (.seq (.reg NV) (.seq (.cond (.t 14) .skip (.exit 0)) (.seq (.block 1 G6) (.reg GP))))
abbrev G5:AC:=
 (.loop G8)
abbrev GO:List AO:=
 [(mt 81 4),
  (mt 2 81)]
abbrev x7F:AF:=⟨82,(.seq (.reg N0) (.seq (.reg NZ) (.seq (.reg NY) (.seq (.seq (.reg NW) (.block 0 G5)) (.seq (.reg GO) .ret))))),[.mv (.t 2)]⟩
theorem N1:bI Try.prog (aK Try.prog 66) 66=some x7F:=by kernel_rfl
/-! allocate.occurring-/
abbrev NM:List AO:=
 [o1 2 (.mv (.c .sl0))]
abbrev NL:List AO:=
 [⟨some 10,none,.mo (.mm)⟩,
  (mt 3 10)]
abbrev NK:List AO:=
 [(mt 11 0),o1 12 (.len (.t 11)),o1 13 (.mv (ci 0))]
abbrev NJ:List AO:=
 [o1 14 (.bin .lss (.t 13) (.t 12))]
abbrev NI:List AO:=
 [o1 15 (.ia 5 (.t 11) (.t 13)),o1 16 (.ld 5 true (.t 15)),o1 5 (.al 60 [.n .i64 0,.n .i64 0,.n .i64 0,.n .i64 0,.n .u32 0]),
  (o3 (.st 5 (.t 5) (.t 16)))]
abbrev NH:List AO:=
 [o1 18 (.ld 5 true (.t 5)),
  (o2 19 68 [.t 18]),
  (mt 17 19),o1 20 (.ext 0 (.t 17)),o1 21 (.ext 1 (.t 17)),
  (mt 6 20),
  (mt 7 21)]
abbrev NG:List AO:=
 [(mt 22 6),
  (mt 23 7),o1 24 (.bs 3 1 1 [.n .i64 0] [(0,1,(.t 23))]),o1 25 (.app 3 1 8 (.t 22) (.t 24)),o1 26 (.len (.t 25)),o1 27 (.mv (ci 0))]
abbrev NF:List AO:=
 [o1 28 (.bin .lss (.t 27) (.t 26))]
abbrev ND:List AO:=
 [o1 29 (.ia 1 (.t 25) (.t 27)),o1 30 (.ld 1 false (.t 29)),
  (mt 9 30)]
abbrev NC:List AO:=
 [(mt 31 9),o1 32 (.bin .geq (.t 31) (ci 0))]
abbrev GH:List AO:=
 [(mt 33 3),
  (mt 34 9),⟨none,none,.mo (.mu (.t 33) (.t 34) (.c (.b true)))⟩]
abbrev GL:AC:=
 (.seq (.reg ND) (.seq (.reg NC) (.cond (.t 32) (.reg GH) .skip)))
abbrev GG:List AO:=
 [o1 35 (.bin .add (.t 27) (ci 1)),
  (mt 27 35)]
abbrev GN:AC:=
 (.seq (.reg NF) (.seq (.cond (.t 28) .skip (.exit 2)) (.seq (.block 3 GL) (.reg GG))))
abbrev GK:AC:=
 (.loop GN)
abbrev GJ:AC:=
 (.seq (.reg NI) (.seq (.reg NH) (.seq (.reg NG) (.block 2 GK))))
abbrev GF:List AO:=
 [o1 36 (.bin .add (.t 13) (ci 1)),
  (mt 13 36)]
abbrev GM:AC:=
 (.seq (.reg NJ) (.seq (.cond (.t 14) .skip (.exit 0)) (.seq (.block 1 GJ) (.reg GF))))
abbrev GI:AC:=
 (.loop GM)
abbrev GD:List AO:=
 [(mt 37 3),
  (o2 38 38 [.t 37]),
  (o2 39 37 [.t 38]),
  (mt 2 39)]
abbrev x8F:AF:=⟨40,(.seq (.reg NM) (.seq (.reg NL) (.seq (.seq (.reg NK) (.block 0 GI)) (.seq (.reg GD) .ret)))),[.mv (.t 2)]⟩
theorem NN:bI Try.prog (aK Try.prog 52) 52=some x8F:=by kernel_rfl
/-! allocate.replaced-/
abbrev Nw:List AO:=
 [o1 2 (.bx 60 0 (.t 0)),o1 4 (.al 60 [.n .i64 0,.n .i64 0,.n .i64 0,.n .i64 0,.n .u32 0])]
abbrev Nv:List AO:=
 [o1 9 (.fa 1 (.t 2)),o1 10 (.fa 2 (.t 2)),o1 11 (.fa 3 (.t 2)),o1 12 (.bs 120 1 3 [.p0,.p0,.p0] [(0,1,(.t 9)),(1,1,(.t 10)),(2,1,(.t 11))]),o1 13 (.len (.t 12)),o1 14 (.mv (ci 0))]
abbrev Nu:List AO:=
 [o1 15 (.bin .lss (.t 14) (.t 13))]
abbrev Nt:List AO:=
 [o1 16 (.ia 1 (.t 12) (.t 14)),o1 17 (.ld 1 false (.t 16)),
  (mt 6 17)]
abbrev Ns:List AO:=
 [(mt 19 1),
  (mt 20 6),o1 21 (.nc (.t 20)),o1 22 (.ld 1 false (.t 21)),⟨some 23,none,.mo (.lk (.n .i64 0) true (.t 19) (.t 22))⟩,
  (mt 18 23),o1 24 (.ext 0 (.t 18)),o1 25 (.ext 1 (.t 18)),
  (mt 7 24),
  (mt 8 25)]
abbrev Nr:List AO:=
 [(mt 26 8)]
abbrev Nq:List AO:=
 [(mt 27 6),
  (mt 28 7),o1 29 (.nc (.t 27)),
  (o3 (.st 1 (.t 29) (.t 28)))]
abbrev Ny:AC:=
 (.seq (.reg Nt) (.seq (.reg Ns) (.seq (.reg Nr) (.cond (.t 26) (.reg Nq) .skip))))
abbrev Np:List AO:=
 [o1 30 (.bin .add (.t 14) (ci 1)),
  (mt 14 30)]
abbrev Nz:AC:=
 (.seq (.reg Nu) (.seq (.cond (.t 15) .skip (.exit 0)) (.seq (.block 1 Ny) (.reg Np))))
abbrev GC:AC:=
 (.loop Nz)
abbrev GB:List AO:=
 [o1 31 (.ld 5 true (.t 2)),
  (o3 (.st 5 (.t 4) (.t 31)))]
abbrev x9F:AF:=⟨32,(.seq (.reg Nw) (.seq (.seq (.reg Nv) (.block 0 GC)) (.seq (.reg GB) .ret))),[.ld 5 true (.t 4)]⟩
theorem Nx:bI Try.prog (aK Try.prog 46) 46=some x9F:=by kernel_rfl
/-! allocate.copied-/
abbrev Mg:List AO:=
 [o1 1 (.bx 25 0 (.t 0)),o1 2 (.al 25 [.sl0,.n .i64 0,.n .i64 0,.sl0])]
abbrev Mi:List (Nat×AO):=
 [(2,(o1 3 (.fa 0 (.t 1)))),(2,(o1 6 (.fa 3 (.t 1)))),(1,(o1 4 (.ld 1 false (.t 3)))),(1,(o1 7 (.ld 1 false (.t 6)))),
  (0,(o2 5 75 [.t 4])),(2,(o1 9 (.fa 0 (.t 1)))),
  (3,(o2 8 29 [.t 7])),
  (3,(o3 (.st 1 (.t 9) (.t 5)))),(2,(o1 10 (.fa 3 (.t 1)))),
  (3,(o3 (.st 1 (.t 10) (.t 8))))]
abbrev Mf:List AO:=
 [o1 11 (.ld 4 true (.t 1)),
  (o3 (.st 4 (.t 2) (.t 11)))]
abbrev Ps:AF:=⟨12,(.seq (.reg Mg) (.seq (.mix Mi) (.seq (.reg Mf) .ret))),[.ld 4 true (.t 2)]⟩
theorem Mh:bI Try.prog (aK Try.prog 44) 44=some Ps:=by kernel_rfl
/-! allocate.renamed-/
abbrev Ma:List AO:=
 [o1 3 (.bx 25 0 (.t 0)),o1 6 (.al 25 [.sl0,.n .i64 0,.n .i64 0,.sl0])]
abbrev L9:List AO:=
 [o1 10 (.ld 4 true (.t 3)),
  (o2 11 44 [.t 10]),o1 7 (.al 25 [.sl0,.n .i64 0,.n .i64 0,.sl0]),
  (o3 (.st 4 (.t 7) (.t 11)))]
abbrev L8:List AO:=
 [(mt 12 2),o1 13 (.fa 1 (.t 7)),
  (o3 (.st 1 (.t 13) (.t 12)))]
abbrev L7:List AO:=
 [o1 14 (.fa 3 (.t 7)),o1 15 (.ld 1 false (.t 14)),o1 16 (.len (.t 15)),o1 17 (.mv (ci 0))]
abbrev L6:List AO:=
 [o1 18 (.bin .lss (.t 17) (.t 16))]
abbrev L5:List AO:=
 [(mt 19 17),o1 20 (.ia 5 (.t 15) (.t 17)),o1 21 (.ld 5 true (.t 20)),o1 9 (.al 60 [.n .i64 0,.n .i64 0,.n .i64 0,.n .i64 0,.n .u32 0]),
  (mt 8 19),
  (o3 (.st 5 (.t 9) (.t 21)))]
abbrev Mc:List (Nat×AO):=
 [(2,(o1 22 (.fa 3 (.t 7)))),
  (2,(mt 24 8)),
  (2,(mt 26 1)),(1,(o1 23 (.ld 1 false (.t 22)))),(1,(o1 25 (.ld 5 true (.t 9)))),
  (0,(o2 27 46 [.t 25,.t 26])),(2,(o1 28 (.ia 5 (.t 23) (.t 24)))),
  (3,(o3 (.st 5 (.t 28) (.t 27))))]
abbrev Md:AC:=
 (.seq (.reg L5) (.mix Mc))
abbrev L4:List AO:=
 [o1 29 (.bin .add (.t 17) (ci 1)),
  (mt 17 29)]
abbrev Me:AC:=
 (.seq (.reg L6) (.seq (.cond (.t 18) .skip (.exit 0)) (.seq (.block 1 Md) (.reg L4))))
abbrev ES:AC:=
 (.loop Me)
abbrev EP:List AO:=
 [o1 30 (.ld 4 true (.t 7)),
  (o3 (.st 4 (.t 6) (.t 30)))]
abbrev Pq:AF:=⟨31,(.seq (.reg Ma) (.seq (.reg L9) (.seq (.reg L8) (.seq (.seq (.reg L7) (.block 0 ES)) (.seq (.reg EP) .ret))))),[.ld 4 true (.t 6)]⟩
theorem Mb:bI Try.prog (aK Try.prog 43) 43=some Pq:=by kernel_rfl
/-! allocate.Compact-/
abbrev L1:List AO:=
 [o1 1 (.bx 25 0 (.t 0)),o1 2 (.al 25 [.sl0,.n .i64 0,.n .i64 0,.sl0]),o1 3 (.mv (ci 0))]
abbrev L0:List AO:=
 [o1 10 (.ld 4 true (.t 1)),
  (o2 11 27 [.t 10]),
  (mt 9 11),o1 12 (.ext 0 (.t 9)),o1 13 (.ext 1 (.t 9)),
  (mt 4 12),
  (mt 5 13)]
abbrev LZ:List AO:=
 [(mt 14 5),o1 15 (.bin .neq (.t 14) (ci 0))]
abbrev LY:List AO:=
 [o1 16 (.bd [.sl0,.n .i64 0,.n .i64 0,.sl0] []),
  (mt 17 5),
  (o3 (.st 4 (.t 2) (.t 16))),
  (mt 3 17)]
abbrev LX:List AO:=
 [⟨some 18,none,.mo (.mm)⟩,
  (mt 6 18)]
abbrev LW:List AO:=
 [o1 19 (.fa 3 (.t 1)),o1 20 (.ld 1 false (.t 19)),
  (o2 21 52 [.t 20]),o1 22 (.len (.t 21)),o1 23 (.mv (ci 0))]
abbrev LV:List AO:=
 [o1 24 (.bin .lss (.t 23) (.t 22))]
abbrev LU:List AO:=
 [(mt 25 23),o1 26 (.ia 1 (.t 21) (.t 23)),o1 27 (.ld 1 false (.t 26)),
  (mt 7 25),
  (mt 8 27)]
abbrev LS:List AO:=
 [(mt 28 6),
  (mt 29 8),
  (mt 30 7),⟨none,none,.mo (.mu (.t 28) (.t 29) (.t 30))⟩]
abbrev L3:AC:=
 (.seq (.reg LU) (.reg LS))
abbrev EL:List AO:=
 [o1 31 (.bin .add (.t 23) (ci 1)),
  (mt 23 31)]
abbrev EO:AC:=
 (.seq (.reg LV) (.seq (.cond (.t 24) .skip (.exit 0)) (.seq (.block 1 L3) (.reg EL))))
abbrev EM:AC:=
 (.loop EO)
abbrev EK:List AO:=
 [o1 32 (.ld 4 true (.t 1)),
  (mt 33 6),
  (mt 34 6),⟨some 35,none,.mo (.ln (.t 34))⟩,
  (o2 36 43 [.t 32,.t 33,.t 35]),
  (o3 (.st 4 (.t 2) (.t 36))),o1 3 (.mv (ci 0))]
abbrev Pp:AF:=⟨37,(.seq (.reg L1) (.seq (.seq (.reg L0) (.seq (.reg LZ) (.cond (.t 15) (.seq (.reg LY) .ret) .skip))) (.seq (.reg LX) (.seq (.seq (.reg LW) (.block 0 EM)) (.seq (.reg EK) .ret))))),[.ld 4 true (.t 2),.mv (.t 3)]⟩
theorem L2:bI Try.prog (aK Try.prog 20) 20=some Pp:=by kernel_rfl
/-! allocate.interference-/
abbrev LQ:List AO:=
 [o1 2 (.mv (.c (.cv (.map none))))]
abbrev LP:List AO:=
 [⟨some 16,none,.mo (.mm)⟩,o1 3 (.al 117 [.cv (.map none)]),
  (o3 (.st 1 (.t 3) (.t 16)))]
abbrev LO:List AO:=
 [o1 17 (.mf 94 [] [.t 3]),
  (mt 4 17)]
abbrev LN:List AO:=
 [(mt 19 0),
  (o2 20 36 [.t 19]),
  (mt 18 20),o1 21 (.ext 0 (.t 18)),o1 22 (.ext 1 (.t 18)),
  (mt 5 21),
  (mt 6 22)]
abbrev LM:List AO:=
 [(mt 23 5),o1 24 (.ia 1 (.t 23) (ci 0)),o1 25 (.ld 1 false (.t 24)),⟨some 26,none,.mo (.rg (.t 25))⟩]
abbrev LL:List AO:=
 [⟨some 27,none,.mo (.nx (.t 26))⟩,o1 28 (.ext 0 (.t 27))]
abbrev LK:List AO:=
 [⟨some 29,none,.mo (.en (.t 26))⟩,o1 30 (.ext 0 (.t 29)),
  (mt 7 30)]
abbrev LJ:List AO:=
 [(mt 31 5),o1 32 (.ia 1 (.t 31) (ci 0)),o1 33 (.ld 1 false (.t 32)),⟨some 34,none,.mo (.rg (.t 33))⟩]
abbrev LI:List AO:=
 [⟨some 35,none,.mo (.nx (.t 34))⟩,o1 36 (.ext 0 (.t 35))]
abbrev LH:List AO:=
 [⟨some 37,none,.mo (.en (.t 34))⟩,o1 38 (.ext 0 (.t 37)),
  (mt 8 38)]
abbrev Ew:List AO:=
 [(mt 39 7),
  (mt 40 8),o1 41 (.bin .neq (.t 39) (.t 40))]
abbrev Ev:List AO:=
 [(mt 42 4),
  (mt 43 7),
  (mt 44 8),⟨some 45,none,.cl (.t 42) [.t 43,.t 44]⟩]
abbrev EE:AC:=
 (.seq (.reg LH) (.seq (.reg Ew) (.cond (.t 41) (.reg Ev) .skip)))
abbrev EJ:AC:=
 (.seq (.reg LI) (.seq (.cond (.t 36) .skip (.exit 2)) (.block 3 EE)))
abbrev ED:AC:=
 (.loop EJ)
abbrev EC:AC:=
 (.seq (.reg LK) (.seq (.reg LJ) (.block 2 ED)))
abbrev EI:AC:=
 (.seq (.reg LL) (.seq (.cond (.t 28) .skip (.exit 0)) (.block 1 EC)))
abbrev vu:AC:=
 (.loop EI)
abbrev Eu:List AO:=
 [(mt 46 0),o1 47 (.len (.t 46)),o1 48 (.mv (ci 0))]
abbrev Et:List AO:=
 [o1 49 (.bin .lss (.t 48) (.t 47))]
abbrev Es:List AO:=
 [(mt 50 48),o1 51 (.ia 5 (.t 46) (.t 48)),o1 52 (.ld 5 true (.t 51)),o1 10 (.al 60 [.n .i64 0,.n .i64 0,.n .i64 0,.n .i64 0,.n .u32 0]),
  (mt 9 50),
  (o3 (.st 5 (.t 10) (.t 52)))]
abbrev Er:List AO:=
 [o1 54 (.ld 5 true (.t 10)),
  (o2 55 68 [.t 54]),
  (mt 53 55),o1 56 (.ext 0 (.t 53)),o1 57 (.ext 1 (.t 53)),
  (mt 11 56),
  (mt 12 57)]
abbrev Ep:List AO:=
 [(mt 58 6),
  (mt 59 9),o1 60 (.ia 1 (.t 58) (.t 59)),o1 61 (.ld 1 false (.t 60)),o1 62 (.len (.t 61)),o1 63 (.mv (ci 0))]
abbrev Eo:List AO:=
 [o1 64 (.bin .lss (.t 63) (.t 62))]
abbrev En:List AO:=
 [o1 65 (.ia 1 (.t 61) (.t 63)),o1 66 (.ld 1 false (.t 65)),
  (mt 14 66)]
abbrev Em:List AO:=
 [(mt 67 5),
  (mt 68 14),o1 69 (.ia 1 (.t 67) (.t 68)),o1 70 (.ld 1 false (.t 69)),⟨some 71,none,.mo (.rg (.t 70))⟩]
abbrev El:List AO:=
 [⟨some 72,none,.mo (.nx (.t 71))⟩,o1 73 (.ext 0 (.t 72))]
abbrev Ek:List AO:=
 [⟨some 74,none,.mo (.en (.t 71))⟩,o1 75 (.ext 0 (.t 74)),
  (mt 15 75)]
abbrev Ej:List AO:=
 [(mt 76 12),o1 77 (.bin .geq (.t 76) (ci 0)),
  (mt 78 77),
  (o5 79 78 (.mv (.t 15))),
  (o5 80 78 (.mv (.t 12))),
  (o5 81 78 (.bin .neq (.t 79) (.t 80))),o1 82 (.pick (.t 78) (.t 81) (.c (.b false)))]
abbrev Ei:List AO:=
 [(mt 83 4),
  (mt 84 12),
  (mt 85 15),⟨some 86,none,.cl (.t 83) [.t 84,.t 85]⟩]
abbrev EB:AC:=
 (.seq (.reg Ek) (.seq (.reg Ej) (.cond (.t 82) (.reg Ei) .skip)))
abbrev EH:AC:=
 (.seq (.reg El) (.seq (.cond (.t 73) .skip (.exit 8)) (.block 9 EB)))
abbrev EA:AC:=
 (.loop EH)
abbrev Ez:AC:=
 (.seq (.reg En) (.seq (.reg Em) (.block 8 EA)))
abbrev Eh:List AO:=
 [o1 87 (.bin .add (.t 63) (ci 1)),
  (mt 63 87)]
abbrev EG:AC:=
 (.seq (.reg Eo) (.seq (.cond (.t 64) .skip (.exit 6)) (.seq (.block 7 Ez) (.reg Eh))))
abbrev Ey:AC:=
 (.loop EG)
abbrev Ex:AC:=
 (.seq (.reg Es) (.seq (.reg Er) (.seq (.reg Ep) (.block 6 Ey))))
abbrev Eg:List AO:=
 [o1 88 (.bin .add (.t 48) (ci 1)),
  (mt 48 88)]
abbrev EF:AC:=
 (.seq (.reg Et) (.seq (.cond (.t 49) .skip (.exit 4)) (.seq (.block 5 Ex) (.reg Eg))))
abbrev vt:AC:=
 (.loop EF)
abbrev Ef:List AO:=
 [o1 89 (.ld 1 false (.t 3)),
  (mt 2 89)]
abbrev Po:AF:=⟨90,(.seq (.reg LQ) (.seq (.reg LP) (.seq (.reg LO) (.seq (.reg LN) (.seq (.seq (.reg LM) (.block 0 vu)) (.seq (.seq (.reg Eu) (.block 4 vt)) (.seq (.reg Ef) .ret))))))),[.mv (.t 2)]⟩
theorem LR:bI Try.prog (aK Try.prog 74) 74=some Po:=by kernel_rfl
/-! allocate.interference$1-/
abbrev LB:List AO:=
 [(mt 7 0),
  (mt 8 1),o1 9 (.bd [.n .i64 0,.n .i64 0] [(0,1,(.t 7)),(1,1,(.t 8))]),
  (mt 10 1),
  (mt 11 0),o1 12 (.bd [.n .i64 0,.n .i64 0] [(0,1,(.t 10)),(1,1,(.t 11))]),o1 13 (.bs 142 2 2 [.n .i64 0,.n .i64 0,.n .i64 0,.n .i64 0] [(0,2,(.t 9)),(2,2,(.t 12))]),o1 14 (.len (.t 13)),o1 15 (.mv (ci 0))]
abbrev LA:List AO:=
 [o1 16 (.bin .lss (.t 15) (.t 14))]
abbrev Lz:List AO:=
 [o1 17 (.ia 2 (.t 13) (.t 15)),o1 18 (.ld 2 true (.t 17)),o1 6 (.al 142 [.n .i64 0,.n .i64 0]),
  (o3 (.st 2 (.t 6) (.t 18)))]
abbrev Ly:List AO:=
 [o1 19 (.ld 1 false (.t 2)),o1 20 (.iaa 2 1 (.t 6) (ci 0)),o1 21 (.ld 1 false (.t 20)),⟨some 22,none,.mo (.lk (.cv (.map none)) false (.t 19) (.t 21))⟩,⟨some 23,none,.mo (.mn false (.t 22))⟩]
abbrev Lx:List AO:=
 [o1 24 (.ld 1 false (.t 2)),o1 25 (.iaa 2 1 (.t 6) (ci 0)),o1 26 (.ld 1 false (.t 25)),⟨some 27,none,.mo (.mm)⟩,⟨none,none,.mo (.mu (.t 24) (.t 26) (.t 27))⟩]
abbrev Lw:List AO:=
 [o1 28 (.ld 1 false (.t 2)),o1 29 (.iaa 2 1 (.t 6) (ci 0)),o1 30 (.ld 1 false (.t 29)),⟨some 31,none,.mo (.lk (.cv (.map none)) false (.t 28) (.t 30))⟩,o1 32 (.iaa 2 1 (.t 6) (ci 1)),o1 33 (.ld 1 false (.t 32)),⟨none,none,.mo (.mu (.t 31) (.t 33) (.c (.b true)))⟩]
abbrev LF:AC:=
 (.seq (.reg Lz) (.seq (.seq (.reg Ly) (.cond (.t 23) (.reg Lx) .skip)) (.reg Lw)))
abbrev Lu:List AO:=
 [o1 34 (.bin .add (.t 15) (ci 1)),
  (mt 15 34)]
abbrev LG:AC:=
 (.seq (.reg LA) (.seq (.cond (.t 16) .skip (.exit 0)) (.seq (.block 1 LF) (.reg Lu))))
abbrev LD:AC:=
 (.loop LG)
abbrev Pn:AF:=⟨35,(.seq (.reg LB) (.block 0 LD)),[]⟩
theorem LC:bI Try.prog (aK Try.prog 94) 94=some Pn:=by kernel_rfl
/-! allocate.spiller.cell-/
abbrev Lq:List AO:=
 [o1 2 (.bx 83 0 (.t 0)),o1 4 (.mv (.c (.n .u32 0))),o1 5 (.mv (.c (.b false)))]
abbrev Ls:List (Nat×AO):=
 [(2,(o1 6 (.fa 1 (.t 2)))),
  (2,(mt 8 1)),(2,(o1 10 (.fa 0 (.t 2)))),
  (2,(mt 14 1)),(2,(o1 15 (.fa 0 (.t 2)))),(1,(o1 7 (.ld 1 false (.t 6)))),(2,(o1 9 (.bin .add (.t 7) (.t 8)))),(1,(o1 11 (.ld 1 false (.t 10)))),(2,(o1 12 (.bin .sub (.t 9) (.t 11)))),(2,(o1 13 (.cvi .u32 (.t 12)))),
  (2,(mt 4 13)),(1,(o1 16 (.ld 1 false (.t 15)))),(2,(o1 17 (.bin .geq (.t 14) (.t 16)))),
  (2,(mt 5 17))]
abbrev Pm:AF:=⟨18,(.seq (.reg Lq) (.seq (.mix Ls) .ret)),[.mv (.t 4),.mv (.t 5)]⟩
theorem Lr:bI Try.prog (aK Try.prog 76) 76=some Pm:=by kernel_rfl
/-! allocate.sequence-/
abbrev Lo:List AO:=
 [o1 2 (.mv (.c .sl0))]
abbrev Ln:List AO:=
 [(mt 3 0),
  (mt 2 3)]
abbrev Pk:AF:=⟨4,(.seq (.reg Lo) (.seq (.reg Ln) .ret)),[.mv (.t 2)]⟩
theorem Lp:bI Try.prog (aK Try.prog 77) 77=some Pk:=by kernel_rfl
/-! allocate.spiller.rewrite-/
abbrev Lj:List AO:=
 [o1 2 (.bx 83 0 (.t 0)),o1 3 (.bx 60 0 (.t 1)),o1 4 (.mv (.c .sl0))]
abbrev Li:List AO:=
 [o1 5 (.mv (.c .sl0)),o1 6 (.mv (.c .sl0))]
abbrev Lh:List AO:=
 [o1 13 (.fa 2 (.t 3)),o1 14 (.fa 3 (.t 3)),o1 15 (.bs 120 1 2 [.p0,.p0] [(0,1,(.t 13)),(1,1,(.t 14))]),o1 16 (.len (.t 15)),o1 17 (.mv (ci 0))]
abbrev Lg:List AO:=
 [o1 18 (.bin .lss (.t 17) (.t 16))]
abbrev Lf:List AO:=
 [(mt 19 17),o1 20 (.ia 1 (.t 15) (.t 17)),o1 21 (.ld 1 false (.t 20)),
  (mt 7 19),
  (mt 8 21)]
abbrev Ll:List (Nat×AO):=
 [(2,(mt 24 8)),(2,(o1 25 (.nc (.t 24)))),(1,(o1 23 (.ld 2 true (.t 2)))),(1,(o1 26 (.ld 1 false (.t 25)))),
  (3,(o2 27 76 [.t 23,.t 26])),
  (2,(mt 22 27)),(2,(o1 28 (.ext 0 (.t 22)))),(2,(o1 29 (.ext 1 (.t 22)))),
  (2,(mt 9 28)),
  (2,(mt 10 29))]
abbrev Ld:List AO:=
 [(mt 30 10)]
abbrev Lc:List AO:=
 [(mt 31 8),o1 32 (.fa 0 (.t 2)),o1 33 (.ld 1 false (.t 32)),
  (mt 34 7),o1 35 (.bin .add (.t 33) (.t 34)),o1 36 (.nc (.t 31)),
  (o3 (.st 1 (.t 36) (.t 35)))]
abbrev Lb:List AO:=
 [(mt 37 5),
  (mt 38 8),o1 39 (.nc (.t 38)),o1 40 (.ld 1 false (.t 39)),
  (mt 41 9),o1 42 (.bd [.n .i64 0,.n .i64 0,.n .i64 0,.n .i64 0,.n .u32 0] [(0,1,(ci 38)),(1,1,(.t 40)),(2,1,(.c (.n .i64 (-1)))),(3,1,(.c (.n .i64 (-1)))),(4,1,(.t 41))]),o1 43 (.bs 60 5 1 [.n .i64 0,.n .i64 0,.n .i64 0,.n .i64 0,.n .u32 0] [(0,5,(.t 42))]),o1 44 (.app 60 5 40 (.t 37) (.t 43)),
  (mt 5 44)]
abbrev Lm:AC:=
 (.seq (.reg Lf) (.seq (.mix Ll) (.seq (.reg Ld) (.cond (.t 30) (.seq (.reg Lc) (.reg Lb)) .skip))))
abbrev Ec:List AO:=
 [o1 45 (.bin .add (.t 17) (ci 1)),
  (mt 17 45)]
abbrev Ee:AC:=
 (.seq (.reg Lg) (.seq (.cond (.t 18) .skip (.exit 0)) (.seq (.block 1 Lm) (.reg Ec))))
abbrev Ed:AC:=
 (.loop Ee)
abbrev Eb:List AO:=
 [o1 47 (.ld 2 true (.t 2)),o1 48 (.fa 1 (.t 3)),o1 49 (.ld 1 false (.t 48)),
  (o2 50 76 [.t 47,.t 49]),
  (mt 46 50),o1 51 (.ext 0 (.t 46)),o1 52 (.ext 1 (.t 46)),
  (mt 11 51),
  (mt 12 52)]
abbrev Ea:List AO:=
 [(mt 53 12)]
abbrev D9:List AO:=
 [o1 54 (.fa 0 (.t 2)),o1 55 (.ld 1 false (.t 54)),o1 56 (.bin .add (.t 55) (ci 2)),o1 57 (.fa 1 (.t 3)),
  (o3 (.st 1 (.t 57) (.t 56)))]
abbrev D8:List AO:=
 [o1 58 (.fa 1 (.t 3)),o1 59 (.ld 1 false (.t 58)),
  (mt 60 11),o1 61 (.bd [.n .i64 0,.n .i64 0,.n .i64 0,.n .i64 0,.n .u32 0] [(0,1,(ci 37)),(1,1,(.c (.n .i64 (-1)))),(2,1,(.t 59)),(3,1,(.c (.n .i64 (-1)))),(4,1,(.t 60))]),o1 62 (.bs 60 5 1 [.n .i64 0,.n .i64 0,.n .i64 0,.n .i64 0,.n .u32 0] [(0,5,(.t 61))]),
  (o2 63 77 [.t 62]),
  (mt 6 63)]
abbrev vr:List AO:=
 [(mt 64 5),o1 65 (.ld 5 true (.t 3)),o1 66 (.bs 60 5 1 [.n .i64 0,.n .i64 0,.n .i64 0,.n .i64 0,.n .u32 0] [(0,5,(.t 65))]),
  (o2 67 77 [.t 66]),
  (mt 68 6),o1 69 (.bs 23 1 3 [.sl0,.sl0,.sl0] [(0,1,(.t 64)),(1,1,(.t 67)),(2,1,(.t 68))]),
  (o2 70 78 [.t 69]),
  (mt 4 70)]
abbrev Pj:AF:=⟨71,(.seq (.reg Lj) (.seq (.reg Li) (.seq (.seq (.reg Lh) (.block 0 Ed)) (.seq (.seq (.reg Eb) (.seq (.reg Ea) (.cond (.t 53) (.seq (.reg D9) (.reg D8)) .skip))) (.seq (.reg vr) .ret))))),[.mv (.t 4)]⟩
theorem Lk:bI Try.prog (aK Try.prog 45) 45=some Pj:=by kernel_rfl
/-! allocate.Allocate-/
abbrev La:List AO:=
 [o1 2 (.bx 25 0 (.t 0)),o1 4 (.al 25 [.sl0,.n .i64 0,.n .i64 0,.sl0]),o1 5 (.mv (ci 0))]
abbrev K9:List AO:=
 [o1 15 (.ld 4 true (.t 2)),
  (o2 16 27 [.t 15]),
  (mt 14 16),o1 17 (.ext 0 (.t 14)),o1 18 (.ext 1 (.t 14)),
  (mt 6 17),
  (mt 7 18)]
abbrev K8:List AO:=
 [(mt 19 7),o1 20 (.bin .neq (.t 19) (ci 0))]
abbrev K7:List AO:=
 [o1 21 (.bd [.sl0,.n .i64 0,.n .i64 0,.sl0] []),
  (mt 22 7),
  (o3 (.st 4 (.t 4) (.t 21))),
  (mt 5 22)]
abbrev K6:List AO:=
 [(mt 23 1),o1 24 (.bin .lss (.t 23) (ci 4)),
  (mt 25 24),
  (o4 26 25 (.mv (.t 1))),
  (o4 27 25 (.bin .gtr (.t 26) (ci 1024))),o1 28 (.pick (.t 25) (.c (.b true)) (.t 27))]
abbrev K5:List AO:=
 [o1 29 (.bd [.sl0,.n .i64 0,.n .i64 0,.sl0] []),
  (o3 (.st 4 (.t 4) (.t 29))),o1 5 (.mv (ci 2))]
abbrev K4:List AO:=
 [o1 31 (.fa 3 (.t 2)),o1 32 (.ld 1 false (.t 31)),
  (o2 33 42 [.t 32]),
  (mt 30 33),o1 34 (.ext 0 (.t 30)),o1 35 (.ext 1 (.t 30)),
  (mt 8 34),
  (mt 9 35)]
abbrev K3:List AO:=
 [(mt 36 9),
  (mt 37 1),o1 38 (.bin .leq (.t 36) (.t 37))]
abbrev K2:List AO:=
 [o1 39 (.ld 4 true (.t 2)),
  (mt 40 8),
  (mt 41 9),
  (o2 42 43 [.t 39,.t 40,.t 41]),
  (o3 (.st 4 (.t 4) (.t 42))),o1 5 (.mv (ci 0))]
abbrev K1:List AO:=
 [(mt 43 1),o1 44 (.bin .sub (.t 43) (ci 3)),o1 45 (.fa 2 (.t 2)),o1 46 (.ld 1 false (.t 45)),o1 47 (.bd [.n .i64 0,.n .i64 0] [(0,1,(.t 44)),(1,1,(.t 46))]),o1 10 (.al 83 [.n .i64 0,.n .i64 0]),
  (o3 (.st 2 (.t 10) (.t 47)))]
abbrev D2:List AO:=
 [o1 48 (.ld 4 true (.t 2)),
  (o2 49 44 [.t 48]),o1 11 (.al 25 [.sl0,.n .i64 0,.n .i64 0,.sl0]),
  (o3 (.st 4 (.t 11) (.t 49)))]
abbrev D4:List (Nat×AO):=
 [(2,(mt 50 1)),(2,(o1 51 (.fa 2 (.t 2)))),
  (2,(mt 53 9)),(2,(o1 55 (.fa 0 (.t 10)))),(2,(o1 58 (.fa 1 (.t 11)))),(1,(o1 52 (.ld 1 false (.t 51)))),(2,(o1 54 (.bin .add (.t 52) (.t 53)))),(1,(o1 56 (.ld 1 false (.t 55)))),(2,(o1 57 (.bin .sub (.t 54) (.t 56)))),
  (0,(o3 (.st 1 (.t 58) (.t 50)))),(2,(o1 59 (.fa 2 (.t 11)))),
  (3,(o3 (.st 1 (.t 59) (.t 57)))),(2,(o1 60 (.fa 3 (.t 11)))),
  (3,(o3 (.st 1 (.t 60) (.c .sl0))))]
abbrev D1:List AO:=
 [o1 61 (.fa 3 (.t 2)),o1 62 (.ld 1 false (.t 61)),o1 63 (.len (.t 62)),o1 64 (.mv (ci 0))]
abbrev DZ:List AO:=
 [o1 65 (.bin .lss (.t 64) (.t 63))]
abbrev DY:List AO:=
 [o1 66 (.ia 5 (.t 62) (.t 64)),o1 67 (.ld 5 true (.t 66)),o1 13 (.al 60 [.n .i64 0,.n .i64 0,.n .i64 0,.n .i64 0,.n .u32 0]),
  (o3 (.st 5 (.t 13) (.t 67)))]
abbrev D3:List (Nat×AO):=
 [(2,(o1 68 (.fa 3 (.t 11)))),
  (2,(mt 72 8)),(1,(o1 69 (.ld 1 false (.t 68)))),(1,(o1 70 (.ld 2 true (.t 10)))),(1,(o1 71 (.ld 5 true (.t 13)))),
  (0,(o2 73 46 [.t 71,.t 72])),
  (0,(o2 74 45 [.t 70,.t 73])),(3,(o1 75 (.app 60 5 40 (.t 69) (.t 74)))),(2,(o1 76 (.fa 3 (.t 11)))),
  (3,(o3 (.st 1 (.t 76) (.t 75))))]
abbrev D6:AC:=
 (.seq (.reg DY) (.mix D3))
abbrev DX:List AO:=
 [o1 77 (.bin .add (.t 64) (ci 1)),
  (mt 64 77)]
abbrev D7:AC:=
 (.seq (.reg DZ) (.seq (.cond (.t 65) .skip (.exit 0)) (.seq (.block 1 D6) (.reg DX))))
abbrev D5:AC:=
 (.loop D7)
abbrev DW:List AO:=
 [o1 78 (.fa 2 (.t 11)),o1 79 (.ld 1 false (.t 78)),o1 80 (.bin .gtr (.t 79) (ci 1024)),
  (mt 81 80),
  (o4 82 81 (.fa 3 (.t 11))),
  (o4 83 81 (.ld 1 false (.t 82))),
  (o4 84 81 (.len (.t 83))),
  (o4 85 81 (.bin .gtr (.t 84) (ci 16384))),o1 86 (.pick (.t 81) (.c (.b true)) (.t 85))]
abbrev DV:List AO:=
 [o1 87 (.bd [.sl0,.n .i64 0,.n .i64 0,.sl0] []),
  (o3 (.st 4 (.t 4) (.t 87))),o1 5 (.mv (ci 6))]
abbrev DU:List AO:=
 [o1 88 (.ld 4 true (.t 11)),
  (o3 (.st 4 (.t 4) (.t 88))),o1 5 (.mv (ci 0))]
abbrev Ph:AF:=⟨89,(.seq (.reg La) (.seq (.seq (.reg K9) (.seq (.reg K8) (.cond (.t 20) (.seq (.reg K7) .ret) .skip))) (.seq (.seq (.reg K6) (.cond (.t 28) (.seq (.reg K5) .ret) .skip)) (.seq (.reg K4) (.seq (.seq (.reg K3) (.cond (.t 38) (.seq (.reg K2) .ret) .skip)) (.seq (.reg K1) (.seq (.reg D2) (.seq (.mix D4) (.seq (.seq (.reg D1) (.block 0 D5)) (.seq (.seq (.reg DW) (.cond (.t 86) (.seq (.reg DV) .ret) .skip)) (.seq (.reg DU) .ret))))))))))),[.ld 4 true (.t 4),.mv (.t 5)]⟩
theorem Be:bI Try.prog (aK Try.prog 17) 17=some Ph:=by kernel_rfl
/-! allocate.Live-/
abbrev KZ:List AO:=
 [o1 1 (.bx 25 0 (.t 0)),o1 2 (.mv (.c .sl0)),o1 3 (.mv (ci 0))]
abbrev KY:List AO:=
 [o1 12 (.ld 4 true (.t 1)),
  (o2 13 27 [.t 12]),
  (mt 11 13),o1 14 (.ext 0 (.t 11)),o1 15 (.ext 1 (.t 11)),
  (mt 4 14),
  (mt 5 15)]
abbrev KX:List AO:=
 [(mt 16 5),o1 17 (.bin .neq (.t 16) (ci 0))]
abbrev KW:List AO:=
 [(mt 18 5),o1 2 (.mv (.c .sl0)),
  (mt 3 18)]
abbrev KV:List AO:=
 [o1 20 (.fa 3 (.t 1)),o1 21 (.ld 1 false (.t 20)),
  (o2 22 36 [.t 21]),
  (mt 19 22),o1 23 (.ext 0 (.t 19)),o1 24 (.ext 1 (.t 19)),
  (mt 6 23),
  (mt 7 24)]
abbrev KU:List AO:=
 [o1 8 (.mv (.c .sl0))]
abbrev KS:List AO:=
 [(mt 25 6),o1 26 (.len (.t 25)),o1 27 (.mv (ci 0))]
abbrev KR:List AO:=
 [o1 28 (.bin .lss (.t 27) (.t 26))]
abbrev KQ:List AO:=
 [o1 29 (.ia 1 (.t 25) (.t 27)),o1 30 (.ld 1 false (.t 29)),
  (mt 10 30)]
abbrev KP:List AO:=
 [(mt 31 8),
  (mt 32 10),
  (o2 33 38 [.t 32]),
  (o2 34 37 [.t 33]),o1 35 (.bs 39 1 1 [.sl0] [(0,1,(.t 34))]),o1 36 (.app 39 1 24 (.t 31) (.t 35)),
  (mt 8 36)]
abbrev DS:AC:=
 (.seq (.reg KQ) (.reg KP))
abbrev DP:List AO:=
 [o1 37 (.bin .add (.t 27) (ci 1)),
  (mt 27 37)]
abbrev DT:AC:=
 (.seq (.reg KR) (.seq (.cond (.t 28) .skip (.exit 0)) (.seq (.block 1 DS) (.reg DP))))
abbrev DQ:AC:=
 (.loop DT)
abbrev DN:List AO:=
 [(mt 38 8),
  (mt 2 38),o1 3 (.mv (ci 0))]
abbrev Pg:AF:=⟨39,(.seq (.reg KZ) (.seq (.seq (.reg KY) (.seq (.reg KX) (.cond (.t 17) (.seq (.reg KW) .ret) .skip))) (.seq (.reg KV) (.seq (.reg KU) (.seq (.seq (.reg KS) (.block 0 DQ)) (.seq (.reg DN) .ret)))))),[.mv (.t 2),.mv (.t 3)]⟩
theorem Bd:bI Try.prog (aK Try.prog 11) 11=some Pg:=by kernel_rfl
/-! slices.Concat[[]api.RegInstr,api.RegInstr]-/
abbrev KL:List AO:=
 [o1 2 (.mv (.c .sl0))]
abbrev KK:List AO:=
 [o1 3 (.mv (ci 0))]
abbrev KJ:List AO:=
 [(mt 9 0),o1 10 (.len (.t 9)),o1 11 (.mv (ci 0))]
abbrev KI:List AO:=
 [o1 12 (.bin .lss (.t 11) (.t 10))]
abbrev KH:List AO:=
 [o1 13 (.ia 1 (.t 9) (.t 11)),o1 14 (.ld 1 false (.t 13)),
  (mt 5 14)]
abbrev KG:List AO:=
 [(mt 15 3),
  (mt 16 5),o1 17 (.len (.t 16)),o1 18 (.bin .add (.t 15) (.t 17)),
  (mt 3 18)]
abbrev KF:List AO:=
 [(mt 19 3),o1 20 (.bin .lss (.t 19) (ci 0))]
abbrev KN:AC:=
 (.seq (.reg KH) (.seq (.reg KG) (.seq (.reg KF) (.cond (.t 20) .die .skip))))
abbrev KE:List AO:=
 [o1 22 (.bin .add (.t 11) (ci 1)),
  (mt 11 22)]
abbrev KO:AC:=
 (.seq (.reg KI) (.seq (.cond (.t 12) .skip (.exit 0)) (.seq (.block 1 KN) (.reg KE))))
abbrev DL:AC:=
 (.loop KO)
abbrev DI:List AO:=
 [(mt 23 3),
  (o2 24 95 [(.c .sl0),.t 23]),
  (mt 6 24)]
abbrev DH:List AO:=
 [(mt 25 0),o1 26 (.len (.t 25)),o1 27 (.mv (ci 0))]
abbrev DG:List AO:=
 [o1 28 (.bin .lss (.t 27) (.t 26))]
abbrev DF:List AO:=
 [o1 29 (.ia 1 (.t 25) (.t 27)),o1 30 (.ld 1 false (.t 29)),
  (mt 8 30)]
abbrev DE:List AO:=
 [(mt 31 6),
  (mt 32 8),o1 33 (.app 60 5 40 (.t 31) (.t 32)),
  (mt 6 33)]
abbrev DK:AC:=
 (.seq (.reg DF) (.reg DE))
abbrev DD:List AO:=
 [o1 34 (.bin .add (.t 27) (ci 1)),
  (mt 27 34)]
abbrev DM:AC:=
 (.seq (.reg DG) (.seq (.cond (.t 28) .skip (.exit 2)) (.seq (.block 3 DK) (.reg DD))))
abbrev DJ:AC:=
 (.loop DM)
abbrev DC:List AO:=
 [(mt 35 6),
  (mt 2 35)]
abbrev O4:AF:=⟨36,(.seq (.reg KL) (.seq (.reg KK) (.seq (.seq (.reg KJ) (.block 0 DL)) (.seq (.reg DI) (.seq (.seq (.reg DH) (.block 2 DJ)) (.seq (.reg DC) .ret)))))),[.mv (.t 2)]⟩
theorem KM:bI Try.prog (aK Try.prog 78) 78=some O4:=by kernel_rfl
/-! slices.Grow[[]api.RegInstr,api.RegInstr]-/
abbrev KC:List AO:=
 [o1 4 (.mv (.c .sl0))]
abbrev KB:List AO:=
 [(mt 5 1),o1 6 (.bin .lss (.t 5) (ci 0))]
abbrev KA:List AO:=
 [(mt 8 1),
  (mt 9 0),o1 10 (.cpc (.t 9)),
  (mt 11 0),o1 12 (.len (.t 11)),o1 13 (.bin .sub (.t 10) (.t 12)),o1 14 (.bin .sub (.t 8) (.t 13)),
  (mt 1 14)]
abbrev Kz:List AO:=
 [(mt 15 1),o1 16 (.bin .gtr (.t 15) (ci 0))]
abbrev Ky:List AO:=
 [(mt 17 0),
  (mt 18 0),o1 19 (.cpc (.t 18)),o1 20 (.sl 5 (.t 17) none (some (.t 19))),
  (mt 21 1),o1 22 (.apm 60 5 40 [.n .i64 0,.n .i64 0,.n .i64 0,.n .i64 0,.n .u32 0] (.t 20) (.t 21)),
  (mt 23 0),o1 24 (.len (.t 23)),o1 25 (.sl 5 (.t 22) none (some (.t 24))),
  (mt 0 25)]
abbrev Kx:List AO:=
 [(mt 26 0),
  (mt 4 26)]
abbrev O3:AF:=⟨27,(.seq (.reg KC) (.seq (.seq (.reg KB) (.cond (.t 6) .die .skip)) (.seq (.seq (.reg KA) (.seq (.reg Kz) (.cond (.t 16) (.reg Ky) .skip))) (.seq (.reg Kx) .ret)))),[.mv (.t 4)]⟩
theorem KD:bI Try.prog (aK Try.prog 95) 95=some O3:=by kernel_rfl
/-! slices.DeleteFunc[[]api.RegInstr,api.RegInstr]-/
/-! allocate.liveness-/
abbrev Kt:List AO:=
 [o1 2 (.mv (.c .sl0)),o1 3 (.mv (.c .sl0))]
abbrev Ks:List AO:=
 [(mt 18 0),
  (o2 19 66 [.t 18]),o1 4 (.al 28 [.sl0]),
  (o3 (.st 1 (.t 4) (.t 19)))]
abbrev Kr:List AO:=
 [(mt 20 0),o1 21 (.len (.t 20)),o1 22 (.bin .add (.t 21) (ci 1)),o1 23 (.ms 70 1 8 [.cv (.map none)] (.t 22) (.t 22)),o1 5 (.al 66 [.sl0]),
  (o3 (.st 1 (.t 5) (.t 23)))]
abbrev Kq:List AO:=
 [o1 24 (.ld 1 false (.t 5)),o1 25 (.len (.t 24)),o1 26 (.mv (ci 0))]
abbrev Kp:List AO:=
 [o1 27 (.bin .lss (.t 26) (.t 25))]
abbrev Ko:List AO:=
 [(mt 28 26),
  (mt 6 28)]
abbrev Kn:List AO:=
 [o1 29 (.ld 1 false (.t 5)),
  (mt 30 6),⟨some 31,none,.mo (.mm)⟩,o1 32 (.ia 1 (.t 29) (.t 30)),
  (o3 (.st 1 (.t 32) (.t 31)))]
abbrev Kv:AC:=
 (.seq (.reg Ko) (.reg Kn))
abbrev Km:List AO:=
 [o1 33 (.bin .add (.t 26) (ci 1)),
  (mt 26 33)]
abbrev Kw:AC:=
 (.seq (.reg Kp) (.seq (.cond (.t 27) .skip (.exit 0)) (.seq (.block 1 Kv) (.reg Km))))
abbrev Dx:AC:=
 (.loop Kw)
abbrev Dk:List AO:=
 [o1 7 (.al 4 [.b false]),
  (o3 (.st 1 (.t 7) (.c (.b true))))]
abbrev Dj:List AO:=
 [o1 34 (.ld 1 false (.t 7))]
abbrev Di:List AO:=
 [(o3 (.st 1 (.t 7) (.c (.b false))))]
abbrev Dh:List AO:=
 [(mt 35 0),
  (o2 36 67 [.t 35])]
abbrev Dg:List AO:=
 [(mt 8 37)]
abbrev Df:List AO:=
 [o1 9 (.al 60 [.n .i64 0,.n .i64 0,.n .i64 0,.n .i64 0,.n .u32 0]),
  (o3 (.st 5 (.t 9) (.t 38)))]
abbrev De:List AO:=
 [o1 39 (.ld 1 false (.t 5)),
  (mt 40 8),o1 41 (.ia 1 (.t 39) (.t 40)),o1 42 (.ld 1 false (.t 41)),⟨some 43,none,.mo (.ln (.t 42))⟩,
  (mt 10 43)]
abbrev Dd:List AO:=
 [o1 45 (.ld 5 true (.t 9)),
  (o2 46 68 [.t 45]),
  (mt 44 46),o1 47 (.ext 0 (.t 44)),o1 48 (.ext 1 (.t 44)),
  (mt 11 47),
  (mt 12 48)]
abbrev Dc:List AO:=
 [o1 49 (.ld 1 false (.t 4)),
  (mt 50 8),o1 51 (.ia 1 (.t 49) (.t 50)),o1 52 (.ld 1 false (.t 51)),o1 53 (.len (.t 52)),o1 54 (.mv (ci 0))]
abbrev Db:List AO:=
 [o1 55 (.bin .lss (.t 54) (.t 53))]
abbrev Da:List AO:=
 [o1 56 (.ia 1 (.t 52) (.t 54)),o1 57 (.ld 1 false (.t 56)),
  (mt 14 57)]
abbrev C9:List AO:=
 [o1 58 (.ld 1 false (.t 5)),
  (mt 59 14),o1 60 (.ia 1 (.t 58) (.t 59)),o1 61 (.ld 1 false (.t 60)),⟨some 62,none,.mo (.rg (.t 61))⟩]
abbrev C8:List AO:=
 [⟨some 63,none,.mo (.nx (.t 62))⟩,o1 64 (.ext 0 (.t 63))]
abbrev C7:List AO:=
 [⟨some 65,none,.mo (.en (.t 62))⟩,o1 66 (.ext 0 (.t 65)),
  (mt 15 66)]
abbrev C6:List AO:=
 [(mt 67 15),
  (mt 68 12),o1 69 (.bin .neq (.t 67) (.t 68))]
abbrev C5:List AO:=
 [o1 70 (.ld 1 false (.t 5)),
  (mt 71 8),o1 72 (.ia 1 (.t 70) (.t 71)),o1 73 (.ld 1 false (.t 72)),
  (mt 74 15),⟨none,none,.mo (.mu (.t 73) (.t 74) (.c (.b true)))⟩]
abbrev Dw:AC:=
 (.seq (.reg C7) (.seq (.reg C6) (.cond (.t 69) (.reg C5) .skip)))
abbrev DB:AC:=
 (.seq (.reg C8) (.seq (.cond (.t 64) .skip (.exit 8)) (.block 9 Dw)))
abbrev Dv:AC:=
 (.loop DB)
abbrev Du:AC:=
 (.seq (.reg Da) (.seq (.reg C9) (.block 8 Dv)))
abbrev C4:List AO:=
 [o1 75 (.bin .add (.t 54) (ci 1)),
  (mt 54 75)]
abbrev DA:AC:=
 (.seq (.reg Db) (.seq (.cond (.t 55) .skip (.exit 6)) (.seq (.block 7 Du) (.reg C4))))
abbrev Dt:AC:=
 (.loop DA)
abbrev C3:List AO:=
 [(mt 76 11),o1 77 (.len (.t 76)),o1 78 (.mv (ci 0))]
abbrev C2:List AO:=
 [o1 79 (.bin .lss (.t 78) (.t 77))]
abbrev C1:List AO:=
 [o1 80 (.ia 1 (.t 76) (.t 78)),o1 81 (.ld 1 false (.t 80)),
  (mt 17 81)]
abbrev C0:List AO:=
 [o1 82 (.ld 1 false (.t 5)),
  (mt 83 8),o1 84 (.ia 1 (.t 82) (.t 83)),o1 85 (.ld 1 false (.t 84)),
  (mt 86 17),⟨none,none,.mo (.mu (.t 85) (.t 86) (.c (.b true)))⟩]
abbrev Ds:AC:=
 (.seq (.reg C1) (.reg C0))
abbrev CZ:List AO:=
 [o1 87 (.bin .add (.t 78) (ci 1)),
  (mt 78 87)]
abbrev Dz:AC:=
 (.seq (.reg C2) (.seq (.cond (.t 79) .skip (.exit 10)) (.seq (.block 11 Ds) (.reg CZ))))
abbrev Dr:AC:=
 (.loop Dz)
abbrev CY:List AO:=
 [o1 88 (.ld 1 false (.t 7)),
  (mt 89 88),
  (o4 90 89 (.ld 1 false (.t 5))),
  (o4 91 89 (.mv (.t 8))),
  (o4 92 89 (.ia 1 (.t 90) (.t 91))),
  (o4 93 89 (.ld 1 false (.t 92))),⟨some 94,some (89,false),.mo (.ln (.t 93))⟩,
  (o4 95 89 (.mv (.t 10))),
  (o4 96 89 (.bin .gtr (.t 94) (.t 95))),o1 97 (.pick (.t 89) (.c (.b true)) (.t 96)),
  (o3 (.st 1 (.t 7) (.t 97)))]
abbrev Dq:AC:=
 (.seq (.reg De) (.seq (.reg Dd) (.seq (.seq (.reg Dc) (.block 6 Dt)) (.seq (.seq (.reg C3) (.block 10 Dr)) (.reg CY)))))
abbrev vq:AC:=
 (.block 5 Dq)
abbrev Dp:AC:=
 (.rf (.t 36) 37 38 (.seq (.reg Dg) (.reg Df)) vq)
abbrev Dn:AC:=
 (.seq (.reg Di) (.seq (.reg Dh) (.block 4 Dp)))
abbrev CX:List AO:=
 [o1 98 (.ld 1 false (.t 7))]
abbrev CW:List AO:=
 [o1 7 (.al 4 [.b false]),
  (o3 (.st 1 (.t 7) (.t 98)))]
abbrev Dy:AC:=
 (.seq (.seq (.reg Dj) (.cond (.t 34) .skip (.exit 2))) (.seq (.block 3 Dn) (.seq (.reg CX) (.reg CW))))
abbrev Dm:AC:=
 (.loop Dy)
abbrev Dl:List (Nat×AO):=
 [(1,(o1 99 (.ld 1 false (.t 5)))),
  (2,(mt 2 99)),(1,(o1 100 (.ld 1 false (.t 4)))),
  (2,(mt 3 100))]
abbrev O2:AF:=⟨101,(.seq (.reg Kt) (.seq (.reg Ks) (.seq (.reg Kr) (.seq (.seq (.reg Kq) (.block 0 Dx)) (.seq (.seq (.reg Dk) (.block 2 Dm)) (.seq (.mix Dl) .ret)))))),[.mv (.t 2),.mv (.t 3)]⟩
theorem Ku:bI Try.prog (aK Try.prog 36) 36=some O2:=by kernel_rfl
/-! slices.Backward[[]api.RegInstr,api.RegInstr]-/
abbrev Kk:List AO:=
 [o1 1 (.bx 23 0 (.t 0)),o1 2 (.mv (.c .f0))]
abbrev Kj:List AO:=
 [o1 3 (.mf 87 [] [.t 1]),
  (mt 2 3)]
abbrev O1:AF:=⟨4,(.seq (.reg Kk) (.seq (.reg Kj) .ret)),[.mv (.t 2)]⟩
theorem Kl:bI Try.prog (aK Try.prog 67) 67=some O1:=by kernel_rfl
/-! maps.Keys[allocate.set,int,bool]-/
abbrev Kh:List AO:=
 [o1 1 (.bx 70 0 (.t 0)),o1 2 (.mv (.c .f0))]
abbrev Kg:List AO:=
 [o1 3 (.mf 71 [] [.t 1]),
  (mt 2 3)]
abbrev O0:AF:=⟨4,(.seq (.reg Kh) (.seq (.reg Kg) .ret)),[.mv (.t 2)]⟩
theorem Ki:bI Try.prog (aK Try.prog 38) 38=some O0:=by kernel_rfl
/-! allocate.Pressure-/
abbrev Kc:List AO:=
 [o1 1 (.bx 25 0 (.t 0)),o1 2 (.mv (ci 0)),o1 3 (.mv (ci 0))]
abbrev Ka:List AO:=
 [o1 10 (.ld 4 true (.t 1)),
  (o2 11 11 [.t 10]),
  (mt 9 11),o1 12 (.ext 0 (.t 9)),o1 13 (.ext 1 (.t 9)),
  (mt 4 12),
  (mt 5 13)]
abbrev J9:List AO:=
 [o1 6 (.mv (ci 0))]
abbrev J8:List AO:=
 [(mt 14 4),o1 15 (.len (.t 14)),o1 16 (.mv (ci 0))]
abbrev J7:List AO:=
 [o1 17 (.bin .lss (.t 16) (.t 15))]
abbrev J6:List AO:=
 [o1 18 (.ia 1 (.t 14) (.t 16)),o1 19 (.ld 1 false (.t 18)),
  (mt 8 19)]
abbrev J5:List AO:=
 [(mt 20 6),
  (mt 21 8),o1 22 (.len (.t 21)),⟨some 23,none,.mo (.mx (.t 20) (.t 22))⟩,
  (mt 6 23)]
abbrev Ke:AC:=
 (.seq (.reg J6) (.reg J5))
abbrev J4:List AO:=
 [o1 24 (.bin .add (.t 16) (ci 1)),
  (mt 16 24)]
abbrev Kf:AC:=
 (.seq (.reg J7) (.seq (.cond (.t 17) .skip (.exit 0)) (.seq (.block 1 Ke) (.reg J4))))
abbrev CV:AC:=
 (.loop Kf)
abbrev CU:List AO:=
 [(mt 25 6),
  (mt 26 5),
  (mt 2 25),
  (mt 3 26)]
abbrev OZ:AF:=⟨27,(.seq (.reg Kc) (.seq (.reg Ka) (.seq (.reg J9) (.seq (.seq (.reg J8) (.block 0 CV)) (.seq (.reg CU) .ret))))),[.mv (.t 2),.mv (.t 3)]⟩
theorem Kd:bI Try.prog (aK Try.prog 13) 13=some OZ:=by kernel_rfl
/-! allocate.colors-/
abbrev J2:List AO:=
 [o1 2 (.mv (.c (.cv (.map none)))),o1 3 (.mv (ci 0))]
abbrev J1:List AO:=
 [(mt 14 0),
  (o2 15 74 [.t 14]),
  (mt 4 15)]
abbrev J0:List AO:=
 [⟨some 16,none,.mo (.mm)⟩,
  (mt 5 16)]
abbrev JZ:List AO:=
 [o1 6 (.mv (ci 0))]
abbrev JY:List AO:=
 [(mt 17 0),
  (o2 18 52 [.t 17]),o1 19 (.len (.t 18)),o1 20 (.mv (ci 0))]
abbrev JX:List AO:=
 [o1 21 (.bin .lss (.t 20) (.t 19))]
abbrev JW:List AO:=
 [o1 22 (.ia 1 (.t 18) (.t 20)),o1 23 (.ld 1 false (.t 22)),
  (mt 8 23)]
abbrev JV:List AO:=
 [⟨some 24,none,.mo (.mm)⟩,
  (mt 9 24)]
abbrev JU:List AO:=
 [(mt 25 4),
  (mt 26 8),⟨some 27,none,.mo (.lk (.cv (.map none)) false (.t 25) (.t 26))⟩,⟨some 28,none,.mo (.rg (.t 27))⟩]
abbrev JT:List AO:=
 [⟨some 29,none,.mo (.nx (.t 28))⟩,o1 30 (.ext 0 (.t 29))]
abbrev CL:List AO:=
 [⟨some 31,none,.mo (.en (.t 28))⟩,o1 32 (.ext 0 (.t 31)),
  (mt 10 32)]
abbrev CK:List AO:=
 [(mt 34 5),
  (mt 35 10),⟨some 36,none,.mo (.lk (.n .i64 0) true (.t 34) (.t 35))⟩,
  (mt 33 36),o1 37 (.ext 0 (.t 33)),o1 38 (.ext 1 (.t 33)),
  (mt 11 37),
  (mt 12 38)]
abbrev CJ:List AO:=
 [(mt 39 12)]
abbrev CI:List AO:=
 [(mt 40 9),
  (mt 41 11),⟨none,none,.mo (.mu (.t 40) (.t 41) (.c (.b true)))⟩]
abbrev CQ:AC:=
 (.seq (.reg CL) (.seq (.reg CK) (.seq (.reg CJ) (.cond (.t 39) (.reg CI) .skip))))
abbrev CT:AC:=
 (.seq (.reg JT) (.seq (.cond (.t 30) .skip (.exit 2)) (.block 3 CQ)))
abbrev CP:AC:=
 (.loop CT)
abbrev CH:List AO:=
 [o1 13 (.mv (ci 0))]
abbrev CG:List AO:=
 [(mt 42 9),
  (mt 43 13),⟨some 44,none,.mo (.lk (.b false) false (.t 42) (.t 43))⟩]
abbrev CF:List AO:=
 [(mt 45 13),o1 46 (.bin .add (.t 45) (ci 1)),
  (mt 13 46)]
abbrev CO:AC:=
 (.reg CF)
abbrev CS:AC:=
 (.seq (.seq (.reg CG) (.cond (.t 44) .skip (.exit 4))) (.block 5 CO))
abbrev vp:AC:=
 (.loop CS)
abbrev vo:List AO:=
 [(mt 47 5),
  (mt 48 8),
  (mt 49 13),⟨none,none,.mo (.mu (.t 47) (.t 48) (.t 49))⟩]
abbrev vn:List AO:=
 [(mt 50 6),
  (mt 51 13),o1 52 (.bin .add (.t 51) (ci 1)),⟨some 53,none,.mo (.mx (.t 50) (.t 52))⟩,
  (mt 6 53)]
abbrev CN:AC:=
 (.seq (.reg JW) (.seq (.reg JV) (.seq (.seq (.reg JU) (.block 2 CP)) (.seq (.reg CH) (.seq (.block 4 vp) (.seq (.reg vo) (.reg vn)))))))
abbrev CE:List AO:=
 [o1 54 (.bin .add (.t 20) (ci 1)),
  (mt 20 54)]
abbrev CR:AC:=
 (.seq (.reg JX) (.seq (.cond (.t 21) .skip (.exit 0)) (.seq (.block 1 CN) (.reg CE))))
abbrev CM:AC:=
 (.loop CR)
abbrev CD:List AO:=
 [(mt 55 5),
  (mt 56 6),
  (mt 2 55),
  (mt 3 56)]
abbrev OY:AF:=⟨57,(.seq (.reg J2) (.seq (.reg J1) (.seq (.reg J0) (.seq (.reg JZ) (.seq (.seq (.reg JY) (.block 0 CM)) (.seq (.reg CD) .ret)))))),[.mv (.t 2),.mv (.t 3)]⟩
theorem J3:bI Try.prog (aK Try.prog 42) 42=some OY:=by kernel_rfl
/-! compactorref25.Few-/
abbrev JR:List AO:=
 [o1 1 (.bx 25 0 (.t 0)),o1 2 (.mv (.c (.b false)))]
abbrev JQ:List AO:=
 [o1 3 (.ld 4 true (.t 1)),
  (o2 4 33 [.t 3]),
  (mt 5 4),
  (o5 6 5 (.fa 1 (.t 1))),
  (o5 7 5 (.ld 1 false (.t 6))),
  (o5 8 5 (.bin .leq (.t 7) (ci 60))),
  (o5 9 5 (.mv (.t 8))),
  (o4 10 9 (.fa 1 (.t 1))),
  (o4 11 9 (.ld 1 false (.t 10))),
  (o4 12 9 (.bin .gtr (.t 11) (ci 1024))),
  (o5 13 5 (.pick (.t 9) (.c (.b true)) (.t 12))),o1 14 (.pick (.t 5) (.t 13) (.c (.b false))),
  (mt 2 14)]
abbrev OX:AF:=⟨15,(.seq (.reg JR) (.seq (.reg JQ) .ret)),[.mv (.t 2)]⟩
theorem JS:bI Try.prog (aK Try.prog 9) 9=some OX:=by kernel_rfl
/-! compactorref25.Live-/
abbrev JO:List AO:=
 [o1 1 (.bx 25 0 (.t 0)),o1 2 (.mv (.c .sl0)),o1 3 (.mv (ci 0))]
abbrev JN:List AO:=
 [o1 10 (.ld 4 true (.t 1)),
  (o2 11 39 [.t 10]),
  (mt 9 11),o1 12 (.ext 0 (.t 9)),o1 13 (.ext 1 (.t 9)),
  (mt 4 12),
  (mt 5 13)]
abbrev JM:List AO:=
 [(mt 14 5),o1 15 (.bin .neq (.t 14) (ci 0))]
abbrev JL:List AO:=
 [(mt 16 5),o1 2 (.mv (.c .sl0)),
  (mt 3 16)]
abbrev JK:List AO:=
 [o1 17 (.ld 4 true (.t 1)),
  (o2 18 40 [.t 17]),
  (mt 6 18)]
abbrev JJ:List AO:=
 [o1 7 (.mv (.c .sl0))]
abbrev JI:List AO:=
 [o1 8 (.mv (ci 0))]
abbrev JH:List AO:=
 [(mt 19 8),
  (mt 20 6),o1 21 (.len (.t 20)),o1 22 (.bin .lss (.t 19) (.t 21))]
abbrev JG:List AO:=
 [(mt 25 7),
  (mt 26 6),
  (mt 27 8),o1 28 (.ia 1 (.t 26) (.t 27)),o1 29 (.ld 1 false (.t 28)),
  (o2 30 41 [.t 29]),o1 31 (.bs 39 1 1 [.sl0] [(0,1,(.t 30))]),o1 32 (.app 39 1 24 (.t 25) (.t 31)),
  (mt 7 32)]
abbrev JP:AC:=
 (.reg JG)
abbrev CA:List AO:=
 [(mt 23 8),o1 24 (.bin .add (.t 23) (ci 1)),
  (mt 8 24)]
abbrev CC:AC:=
 (.seq (.seq (.reg JH) (.cond (.t 22) .skip (.exit 0))) (.seq (.block 1 JP) (.reg CA)))
abbrev CB:AC:=
 (.loop CC)
abbrev Cz:List AO:=
 [(mt 33 7),
  (mt 2 33),o1 3 (.mv (ci 0))]
abbrev OW:AF:=⟨34,(.seq (.reg JO) (.seq (.seq (.reg JN) (.seq (.reg JM) (.cond (.t 15) (.seq (.reg JL) .ret) .skip))) (.seq (.reg JK) (.seq (.reg JJ) (.seq (.seq (.reg JI) (.block 0 CB)) (.seq (.reg Cz) .ret)))))),[.mv (.t 2),.mv (.t 3)]⟩
theorem Bc:bI Try.prog (aK Try.prog 12) 12=some OW:=by kernel_rfl
/-! compactorref25.Pressure-/
abbrev JE:List AO:=
 [o1 1 (.bx 25 0 (.t 0)),o1 2 (.mv (ci 0)),o1 3 (.mv (ci 0))]
abbrev JD:List AO:=
 [o1 9 (.ld 4 true (.t 1)),
  (o2 10 12 [.t 9]),
  (mt 8 10),o1 11 (.ext 0 (.t 8)),o1 12 (.ext 1 (.t 8)),
  (mt 4 11),
  (mt 5 12)]
abbrev JC:List AO:=
 [(mt 13 5),o1 14 (.bin .neq (.t 13) (ci 0))]
abbrev JB:List AO:=
 [(mt 15 5),o1 2 (.mv (ci 0)),
  (mt 3 15)]
abbrev JA:List AO:=
 [o1 6 (.mv (ci 0))]
abbrev Jz:List AO:=
 [o1 7 (.mv (ci 0))]
abbrev Jy:List AO:=
 [(mt 16 7),
  (mt 17 4),o1 18 (.len (.t 17)),o1 19 (.bin .lss (.t 16) (.t 18))]
abbrev Jx:List AO:=
 [(mt 22 6),
  (mt 23 4),
  (mt 24 7),o1 25 (.ia 1 (.t 23) (.t 24)),o1 26 (.ld 1 false (.t 25)),o1 27 (.len (.t 26)),⟨some 28,none,.mo (.mx (.t 22) (.t 27))⟩,
  (mt 6 28)]
abbrev JF:AC:=
 (.reg Jx)
abbrev Jw:List AO:=
 [(mt 20 7),o1 21 (.bin .add (.t 20) (ci 1)),
  (mt 7 21)]
abbrev Cy:AC:=
 (.seq (.seq (.reg Jy) (.cond (.t 19) .skip (.exit 0))) (.seq (.block 1 JF) (.reg Jw)))
abbrev Cx:AC:=
 (.loop Cy)
abbrev Cw:List AO:=
 [(mt 29 6),
  (mt 2 29),o1 3 (.mv (ci 0))]
abbrev OV:AF:=⟨30,(.seq (.reg JE) (.seq (.reg JD) (.seq (.seq (.reg JC) (.cond (.t 14) (.seq (.reg JB) .ret) .skip)) (.seq (.reg JA) (.seq (.seq (.reg Jz) (.block 0 Cx)) (.seq (.reg Cw) .ret)))))),[.mv (.t 2),.mv (.t 3)]⟩
theorem Bb:bI Try.prog (aK Try.prog 14) 14=some OV:=by kernel_rfl
/-! compactorref25.Allocate-/
/-! compactorref25.Compact-/
/-! compactorref25.live-/
abbrev Js:List AO:=
 [o1 1 (.bx 25 0 (.t 0)),o1 2 (.mv (.c .sl0))]
abbrev Jr:List AO:=
 [o1 18 (.fa 3 (.t 1)),o1 19 (.ld 1 false (.t 18)),
  (o2 20 23 [.t 19]),
  (mt 17 20),o1 21 (.ext 0 (.t 17)),o1 22 (.ext 1 (.t 17)),o1 23 (.ext 2 (.t 17)),
  (mt 3 21),
  (mt 4 22),
  (mt 5 23)]
abbrev Jq:List AO:=
 [o1 24 (.fa 3 (.t 1)),o1 25 (.ld 1 false (.t 24)),o1 26 (.len (.t 25)),
  (mt 6 26)]
abbrev Jp:List AO:=
 [o1 7 (.mv (.c .sl0))]
abbrev Jo:List AO:=
 [o1 8 (.mv (ci 0))]
abbrev Jn:List AO:=
 [(mt 27 8),
  (mt 28 6),o1 29 (.bin .leq (.t 27) (.t 28))]
abbrev Jm:List AO:=
 [(mt 32 7),o1 33 (.fa 1 (.t 1)),o1 34 (.ld 1 false (.t 33)),o1 35 (.ms 4 1 1 [.b false] (.t 34) (.t 34)),o1 36 (.bs 55 1 1 [.sl0] [(0,1,(.t 35))]),o1 37 (.app 55 1 24 (.t 32) (.t 36)),
  (mt 7 37)]
abbrev Ju:AC:=
 (.reg Jm)
abbrev Jl:List AO:=
 [(mt 30 8),o1 31 (.bin .add (.t 30) (ci 1)),
  (mt 8 31)]
abbrev Jv:AC:=
 (.seq (.seq (.reg Jn) (.cond (.t 29) .skip (.exit 0))) (.seq (.block 1 Ju) (.reg Jl)))
abbrev Cq:AC:=
 (.loop Jv)
abbrev Ci:List AO:=
 [o1 9 (.mv (.c (.b true)))]
abbrev Ch:List AO:=
 [(mt 38 9)]
abbrev Cg:List AO:=
 [o1 9 (.mv (.c (.b false)))]
abbrev Cf:List AO:=
 [(mt 39 6),o1 40 (.bin .sub (.t 39) (ci 1)),
  (mt 10 40)]
abbrev Ce:List AO:=
 [(mt 41 10),o1 42 (.bin .geq (.t 41) (ci 0))]
abbrev Cd:List AO:=
 [o1 46 (.fa 3 (.t 1)),o1 47 (.ld 1 false (.t 46)),
  (mt 48 10),o1 49 (.ia 5 (.t 47) (.t 48)),o1 50 (.ld 5 true (.t 49)),
  (o2 51 57 [.t 50]),
  (mt 45 51),o1 52 (.ext 0 (.t 45)),o1 53 (.ext 1 (.t 45)),
  (mt 11 52),
  (mt 12 53)]
abbrev Cc:List AO:=
 [o1 54 (.fa 3 (.t 1)),o1 55 (.ld 1 false (.t 54)),
  (mt 56 3),
  (mt 57 10),
  (o2 58 59 [.t 55,.t 56,.t 57]),
  (mt 13 58)]
abbrev Cb:List AO:=
 [o1 14 (.mv (ci 0))]
abbrev Ca:List AO:=
 [(mt 59 14),o1 60 (.fa 1 (.t 1)),o1 61 (.ld 1 false (.t 60)),o1 62 (.bin .lss (.t 59) (.t 61))]
abbrev B9:List AO:=
 [(mt 65 11),
  (mt 66 14),
  (o2 67 73 [.t 65,.t 66]),
  (mt 15 67)]
abbrev B8:List AO:=
 [o1 16 (.mv (ci 0))]
abbrev B7:List AO:=
 [(mt 68 16),
  (mt 69 13),o1 70 (.len (.t 69)),o1 71 (.bin .lss (.t 68) (.t 70))]
abbrev B6:List AO:=
 [(mt 74 15),
  (mt 75 74),
  (o4 76 75 (.mv (.t 7))),
  (o4 77 75 (.mv (.t 13))),
  (o4 78 75 (.mv (.t 16))),
  (o4 79 75 (.ia 1 (.t 77) (.t 78))),
  (o4 80 75 (.ld 1 false (.t 79))),
  (o4 81 75 (.ia 1 (.t 76) (.t 80))),
  (o4 82 75 (.ld 1 false (.t 81))),
  (o4 83 75 (.mv (.t 14))),
  (o4 84 75 (.ia 1 (.t 82) (.t 83))),
  (o4 85 75 (.ld 1 false (.t 84))),
  (o4 86 75 (.mv (.t 85))),
  (o5 87 86 (.mv (.t 14))),
  (o5 88 86 (.mv (.t 12))),
  (o5 89 86 (.bin .neq (.t 87) (.t 88))),
  (o4 90 75 (.pick (.t 86) (.t 89) (.c (.b false)))),o1 91 (.pick (.t 75) (.c (.b true)) (.t 90)),
  (mt 15 91)]
abbrev Cp:AC:=
 (.reg B6)
abbrev B5:List AO:=
 [(mt 72 16),o1 73 (.bin .add (.t 72) (ci 1)),
  (mt 16 73)]
abbrev Cu:AC:=
 (.seq (.seq (.reg B7) (.cond (.t 71) .skip (.exit 8))) (.seq (.block 9 Cp) (.reg B5)))
abbrev Co:AC:=
 (.loop Cu)
abbrev B4:List AO:=
 [(mt 92 15),
  (mt 93 92),
  (o5 94 93 (.mv (.t 7))),
  (o5 95 93 (.mv (.t 10))),
  (o5 96 93 (.ia 1 (.t 94) (.t 95))),
  (o5 97 93 (.ld 1 false (.t 96))),
  (o5 98 93 (.mv (.t 14))),
  (o5 99 93 (.ia 1 (.t 97) (.t 98))),
  (o5 100 93 (.ld 1 false (.t 99))),
  (o5 101 93 (.un .not (.t 100))),o1 102 (.pick (.t 93) (.t 101) (.c (.b false)))]
abbrev B3:List AO:=
 [(mt 103 7),
  (mt 104 10),o1 105 (.ia 1 (.t 103) (.t 104)),o1 106 (.ld 1 false (.t 105)),
  (mt 107 14),o1 108 (.ia 1 (.t 106) (.t 107)),
  (o3 (.st 1 (.t 108) (.c (.b true))))]
abbrev B2:List AO:=
 [o1 9 (.mv (.c (.b true)))]
abbrev vm:AC:=
 (.seq (.reg B9) (.seq (.seq (.reg B8) (.block 8 Co)) (.seq (.reg B4) (.cond (.t 102) (.seq (.reg B3) (.reg B2)) .skip))))
abbrev B1:List AO:=
 [(mt 63 14),o1 64 (.bin .add (.t 63) (ci 1)),
  (mt 14 64)]
abbrev Ct:AC:=
 (.seq (.seq (.reg Ca) (.cond (.t 62) .skip (.exit 6))) (.seq (.block 7 vm) (.reg B1)))
abbrev Cn:AC:=
 (.loop Ct)
abbrev Cm:AC:=
 (.seq (.reg Cd) (.seq (.reg Cc) (.seq (.reg Cb) (.block 6 Cn))))
abbrev BZ:List AO:=
 [(mt 43 10),o1 44 (.bin .sub (.t 43) (ci 1)),
  (mt 10 44)]
abbrev Cs:AC:=
 (.seq (.seq (.reg Ce) (.cond (.t 42) .skip (.exit 4))) (.seq (.block 5 Cm) (.reg BZ)))
abbrev Cl:AC:=
 (.loop Cs)
abbrev Ck:AC:=
 (.seq (.reg Cg) (.seq (.reg Cf) (.block 4 Cl)))
abbrev Cr:AC:=
 (.seq (.seq (.reg Ch) (.cond (.t 38) .skip (.exit 2))) (.block 3 Ck))
abbrev Cj:AC:=
 (.loop Cr)
abbrev BW:List AO:=
 [(mt 109 7),
  (mt 2 109)]
abbrev OH:AF:=⟨110,(.seq (.reg Js) (.seq (.reg Jr) (.seq (.reg Jq) (.seq (.reg Jp) (.seq (.seq (.reg Jo) (.block 0 Cq)) (.seq (.reg Ci) (.seq (.block 2 Cj) (.seq (.reg BW) .ret)))))))),[.mv (.t 2)]⟩
theorem Jt:bI Try.prog (aK Try.prog 40) 40=some OH:=by kernel_rfl
/-! compactorref25.members-/
abbrev Jg:List AO:=
 [o1 2 (.mv (.c .sl0))]
abbrev Jf:List AO:=
 [o1 3 (.mv (.c .sl0))]
abbrev Je:List AO:=
 [o1 4 (.mv (ci 0))]
abbrev Jd:List AO:=
 [(mt 5 4),
  (mt 6 0),o1 7 (.len (.t 6)),o1 8 (.bin .lss (.t 5) (.t 7))]
abbrev Jc:List AO:=
 [(mt 11 0),
  (mt 12 4),o1 13 (.ia 1 (.t 11) (.t 12)),o1 14 (.ld 1 false (.t 13))]
abbrev Jb:List AO:=
 [(mt 15 3),
  (mt 16 4),o1 17 (.bs 3 1 1 [.n .i64 0] [(0,1,(.t 16))]),o1 18 (.app 3 1 8 (.t 15) (.t 17)),
  (mt 3 18)]
abbrev Jj:AC:=
 (.seq (.reg Jc) (.cond (.t 14) (.reg Jb) .skip))
abbrev Ja:List AO:=
 [(mt 9 4),o1 10 (.bin .add (.t 9) (ci 1)),
  (mt 4 10)]
abbrev Jk:AC:=
 (.seq (.seq (.reg Jd) (.cond (.t 8) .skip (.exit 0))) (.seq (.block 1 Jj) (.reg Ja)))
abbrev Ji:AC:=
 (.loop Jk)
abbrev BV:List AO:=
 [(mt 19 3),
  (mt 2 19)]
abbrev OG:AF:=⟨20,(.seq (.reg Jg) (.seq (.reg Jf) (.seq (.seq (.reg Je) (.block 0 Ji)) (.seq (.reg BV) .ret)))),[.mv (.t 2)]⟩
theorem Jh:bI Try.prog (aK Try.prog 41) 41=some OG:=by kernel_rfl
/-! compactorref25.Colors-/
/-! compactorref25.replace-/
/-! compactorref25.renamed-/
/-! compactorref25.occurring-/
/-! compactorref25.Successors-/
abbrev I8:List AO:=
 [o1 6 (.mv (.c .sl0))]
abbrev I7:List AO:=
 [(mt 8 1),
  (mt 9 2),o1 10 (.ia 1 (.t 8) (.t 9)),o1 11 (.ld 1 false (.t 10)),
  (mt 7 11)]
abbrev I6:List AO:=
 [(mt 12 0),
  (mt 13 2),o1 14 (.ia 5 (.t 12) (.t 13)),o1 15 (.fa 0 (.t 14)),o1 16 (.ld 1 false (.t 15))]
abbrev I5:List AO:=
 [o1 18 (.bin .eql (.t 16) (ci 27)),
  (mt 17 18)]
abbrev I4:List AO:=
 [o1 19 (.bin .eql (.t 16) (ci 29)),
  (mt 17 19)]
abbrev I3:List AO:=
 [o1 20 (.bin .eql (.t 16) (ci 30)),
  (mt 17 20)]
abbrev I2:List AO:=
 [(mt 21 2),o1 22 (.bin .add (.t 21) (ci 1)),
  (mt 23 7),o1 24 (.bin .add (.t 23) (ci 1)),o1 25 (.bs 3 1 2 [.n .i64 0,.n .i64 0] [(0,1,(.t 22)),(1,1,(.t 24))]),
  (mt 6 25)]
abbrev I1:List AO:=
 [o1 27 (.bin .eql (.t 16) (ci 28)),
  (mt 26 27)]
abbrev I0:List AO:=
 [(mt 28 7),o1 29 (.bin .add (.t 28) (ci 1)),o1 30 (.bs 3 1 1 [.n .i64 0] [(0,1,(.t 29))]),
  (mt 6 30)]
abbrev IZ:List AO:=
 [o1 32 (.bin .eql (.t 16) (ci 31)),
  (mt 31 32)]
abbrev BQ:List AO:=
 [(mt 33 0),
  (mt 34 7),o1 35 (.ia 5 (.t 33) (.t 34)),o1 36 (.fa 0 (.t 35)),o1 37 (.ld 1 false (.t 36)),o1 38 (.bin .eql (.t 37) (ci 29))]
abbrev BP:List AO:=
 [(mt 39 7),o1 40 (.bin .add (.t 39) (ci 1)),
  (mt 41 2),o1 42 (.bin .add (.t 41) (ci 1)),o1 43 (.bs 3 1 2 [.n .i64 0,.n .i64 0] [(0,1,(.t 40)),(1,1,(.t 42))]),
  (mt 6 43)]
abbrev BU:AC:=
 (.seq (.seq (.reg I5) (.cond (.t 17) .skip (.seq (.reg I4) (.cond (.t 17) .skip (.reg I3))))) (.cond (.t 17) (.seq (.reg I2) .ret) (.seq (.reg I1) (.cond (.t 26) (.seq (.reg I0) .ret) (.seq (.reg IZ) (.cond (.t 31) (.seq (.reg BQ) (.cond (.t 38) (.seq (.reg BP) .ret) .skip)) .skip))))))
abbrev BO:List AO:=
 [(mt 44 2),o1 45 (.bin .add (.t 44) (ci 1)),o1 46 (.bs 3 1 1 [.n .i64 0] [(0,1,(.t 45))]),
  (mt 6 46)]
abbrev OE:AF:=⟨47,(.seq (.reg I8) (.seq (.reg I7) (.seq (.seq (.reg I6) (.block 0 BU)) (.seq (.reg BO) .ret)))),[.mv (.t 6)]⟩
theorem I9:bI Try.prog (aK Try.prog 59) 59=some OE:=by kernel_rfl
/-! compactorref25.has-/
abbrev IU:List AO:=
 [o1 4 (.mv (.c (.b false)))]
abbrev IR:List AO:=
 [o1 5 (.mv (ci 0))]
abbrev IQ:List AO:=
 [(mt 6 5),
  (mt 7 0),o1 8 (.len (.t 7)),o1 9 (.bin .lss (.t 6) (.t 8))]
abbrev IP:List AO:=
 [(mt 12 0),
  (mt 13 5),o1 14 (.ia 1 (.t 12) (.t 13)),o1 15 (.ld 1 false (.t 14)),
  (mt 16 1),o1 17 (.bin .eql (.t 15) (.t 16))]
abbrev IM:List AO:=
 [o1 4 (.mv (.c (.b true)))]
abbrev IX:AC:=
 (.seq (.reg IP) (.cond (.t 17) (.seq (.reg IM) .ret) .skip))
abbrev IL:List AO:=
 [(mt 10 5),o1 11 (.bin .add (.t 10) (ci 1)),
  (mt 5 11)]
abbrev IY:AC:=
 (.seq (.seq (.reg IQ) (.cond (.t 9) .skip (.exit 0))) (.seq (.block 1 IX) (.reg IL)))
abbrev IW:AC:=
 (.loop IY)
abbrev IK:List AO:=
 [o1 4 (.mv (.c (.b false)))]
abbrev OD:AF:=⟨18,(.seq (.reg IU) (.seq (.seq (.reg IR) (.block 0 IW)) (.seq (.reg IK) .ret))),[.mv (.t 4)]⟩
theorem IV:bI Try.prog (aK Try.prog 73) 73=some OD:=by kernel_rfl
/-! compactorref25.interfering-/
/-! compactorref25.rename-/
/-! compactorlaw25.push-/
abbrev II:List AO:=
 [o1 2 (.al 60 [.n .i64 0,.n .i64 0,.n .i64 0,.n .i64 0,.n .u32 0])]
abbrev IH:List AO:=
 [(mt 3 0),
  (mt 4 0),o1 5 (.bin .add (.t 4) (ci 5)),o1 6 (.cvi .u32 (.t 5)),o1 7 (.bd [.n .i64 0,.n .i64 0,.n .i64 0,.n .i64 0,.n .u32 0] [(0,1,(ci 0)),(1,1,(.t 3)),(2,1,(.c (.n .i64 (-1)))),(3,1,(.c (.n .i64 (-1)))),(4,1,(.t 6))]),
  (o3 (.st 5 (.t 2) (.t 7)))]
abbrev OC:AF:=⟨8,(.seq (.reg II) (.seq (.reg IH) .ret)),[.ld 5 true (.t 2)]⟩
theorem IJ:bI Try.prog (aK Try.prog 34) 34=some OC:=by kernel_rfl
/-! compactorlaw25.emit-/
abbrev IE:List AO:=
 [o1 2 (.al 60 [.n .i64 0,.n .i64 0,.n .i64 0,.n .i64 0,.n .u32 0])]
abbrev IC:List AO:=
 [(mt 3 0),o1 4 (.bd [.n .i64 0,.n .i64 0,.n .i64 0,.n .i64 0,.n .u32 0] [(0,1,(ci 34)),(1,1,(.c (.n .i64 (-1)))),(2,1,(.t 3)),(3,1,(.c (.n .i64 (-1))))]),
  (o3 (.st 5 (.t 2) (.t 4)))]
abbrev OA:AF:=⟨5,(.seq (.reg IE) (.seq (.reg IC) .ret)),[.ld 5 true (.t 2)]⟩
theorem IG:bI Try.prog (aK Try.prog 35) 35=some OA:=by kernel_rfl
/-! compactorlaw25.awake-/
abbrev IA:List AO:=
 [o1 0 (.mv (.c (.b false)))]
abbrev Iz:List AO:=
 [(o2 13 34 [(ci 0)]),
  (o2 14 34 [(ci 1)]),o1 15 (.bd [.n .i64 0,.n .i64 0,.n .i64 0,.n .i64 0,.n .u32 0] [(0,1,(ci 8)),(1,1,(ci 2)),(2,1,(ci 0)),(3,1,(ci 1))]),
  (o2 16 35 [(ci 2)]),o1 17 (.bs 60 5 4 [.n .i64 0,.n .i64 0,.n .i64 0,.n .i64 0,.n .u32 0,.n .i64 0,.n .i64 0,.n .i64 0,.n .i64 0,.n .u32 0,.n .i64 0,.n .i64 0,.n .i64 0,.n .i64 0,.n .u32 0,.n .i64 0,.n .i64 0,.n .i64 0,.n .i64 0,.n .u32 0] [(0,5,(.t 13)),(5,5,(.t 14)),(10,5,(.t 15)),(15,5,(.t 16))]),o1 18 (.bd [.sl0,.n .i64 0,.n .i64 0,.sl0] [(1,1,(ci 3)),(3,1,(.t 17))]),o1 1 (.al 25 [.sl0,.n .i64 0,.n .i64 0,.sl0]),
  (o3 (.st 4 (.t 1) (.t 18)))]
abbrev Iy:List AO:=
 [o1 20 (.ld 4 true (.t 1)),
  (o2 21 11 [.t 20]),
  (mt 19 21),o1 22 (.ext 0 (.t 19)),o1 23 (.ext 1 (.t 19)),
  (mt 2 22),
  (mt 3 23)]
abbrev Ix:List AO:=
 [o1 25 (.ld 4 true (.t 1)),
  (o2 26 13 [.t 25]),
  (mt 24 26),o1 27 (.ext 0 (.t 24)),o1 28 (.ext 1 (.t 24)),
  (mt 4 27),
  (mt 5 28)]
abbrev Iw:List AO:=
 [o1 30 (.ld 4 true (.t 1)),
  (o2 31 17 [.t 30,(ci 4)]),
  (mt 29 31),o1 32 (.ext 0 (.t 29)),o1 33 (.ext 1 (.t 29)),o1 6 (.al 25 [.sl0,.n .i64 0,.n .i64 0,.sl0]),
  (o3 (.st 4 (.t 6) (.t 32))),
  (mt 7 33)]
abbrev Iv:List AO:=
 [(mt 34 3),
  (mt 35 5),o1 36 (.bin .add (.t 34) (.t 35)),
  (mt 37 7),o1 38 (.bin .add (.t 36) (.t 37)),o1 39 (.bin .neq (.t 38) (ci 0)),
  (mt 40 39),
  (o4 41 40 (.mv (.t 2))),
  (o4 42 40 (.bs 3 1 1 [.n .i64 0] [(0,1,(ci 0))])),
  (o4 43 40 (.bs 3 1 2 [.n .i64 0,.n .i64 0] [(0,1,(ci 0)),(1,1,(ci 1))])),
  (o4 44 40 (.bs 3 1 1 [.n .i64 0] [(0,1,(ci 2))])),
  (o4 45 40 (.bs 39 1 5 [.sl0,.sl0,.sl0,.sl0,.sl0] [(0,1,(.c .sl0)),(1,1,(.t 42)),(2,1,(.t 43)),(3,1,(.t 44)),(4,1,(.c .sl0))])),⟨some 46,some (40,false),.cl (.c (.f 15 [] [])) [.t 41,.t 45,(.c (.f 16 [] []))]⟩,
  (o4 47 40 (.un .not (.t 46))),o1 48 (.pick (.t 40) (.c (.b true)) (.t 47)),
  (mt 49 48),
  (o4 50 49 (.mv (.t 4))),
  (o4 51 49 (.bin .neq (.t 50) (ci 2))),o1 52 (.pick (.t 49) (.c (.b true)) (.t 51)),
  (mt 53 52),
  (o4 54 53 (.fa 1 (.t 6))),
  (o4 55 53 (.ld 1 false (.t 54))),
  (o4 56 53 (.bin .neq (.t 55) (ci 2))),o1 57 (.pick (.t 53) (.c (.b true)) (.t 56)),
  (mt 58 57),
  (o4 59 58 (.fa 3 (.t 6))),
  (o4 60 58 (.ld 1 false (.t 59))),
  (o4 61 58 (.len (.t 60))),
  (o4 62 58 (.bin .neq (.t 61) (ci 4))),o1 63 (.pick (.t 58) (.c (.b true)) (.t 62)),
  (mt 64 63),
  (o4 65 64 (.fa 3 (.t 6))),
  (o4 66 64 (.ld 1 false (.t 65))),
  (o4 67 64 (.ia 5 (.t 66) (ci 2))),
  (o4 68 64 (.fa 1 (.t 67))),
  (o4 69 64 (.ld 1 false (.t 68))),
  (o4 70 64 (.bin .neq (.t 69) (ci 0))),o1 71 (.pick (.t 64) (.c (.b true)) (.t 70))]
abbrev Iu:List AO:=
 [o1 0 (.mv (.c (.b false)))]
abbrev Ba:List AO:=
 [o1 72 (.bd [.sl0,.n .i64 0,.n .i64 0,.sl0] [(1,1,(ci 5))]),o1 8 (.al 25 [.sl0,.n .i64 0,.n .i64 0,.sl0]),
  (o3 (.st 4 (.t 8) (.t 72)))]
abbrev A9:List AO:=
 [o1 73 (.mv (ci 0))]
abbrev It:List AO:=
 [o1 74 (.bin .lss (.t 73) (ci 5))]
abbrev BH:List AO:=
 [(mt 75 73),
  (mt 9 75)]
abbrev BJ:List (Nat×AO):=
 [(2,(o1 76 (.fa 3 (.t 8)))),
  (2,(mt 78 9)),(1,(o1 77 (.ld 1 false (.t 76)))),
  (0,(o2 79 34 [.t 78])),(0,(o1 80 (.bs 60 5 1 [.n .i64 0,.n .i64 0,.n .i64 0,.n .i64 0,.n .u32 0] [(0,5,(.t 79))]))),(3,(o1 81 (.app 60 5 40 (.t 77) (.t 80)))),(2,(o1 82 (.fa 3 (.t 8)))),
  (3,(o3 (.st 1 (.t 82) (.t 81))))]
abbrev BL:AC:=
 (.seq (.reg BH) (.mix BJ))
abbrev BG:List AO:=
 [o1 83 (.bin .add (.t 73) (ci 1)),
  (mt 73 83)]
abbrev BN:AC:=
 (.seq (.reg It) (.seq (.cond (.t 74) .skip (.exit 0)) (.seq (.block 1 BL) (.reg BG))))
abbrev vl:AC:=
 (.loop BN)
abbrev vi:List AO:=
 [o1 84 (.mv (ci 0))]
abbrev BF:List AO:=
 [o1 85 (.bin .lss (.t 84) (ci 5))]
abbrev BE:List AO:=
 [(mt 86 84),
  (mt 10 86)]
abbrev BI:List (Nat×AO):=
 [(2,(o1 87 (.fa 3 (.t 8)))),
  (2,(mt 89 10)),(1,(o1 88 (.ld 1 false (.t 87)))),
  (0,(o2 90 35 [.t 89])),(0,(o1 91 (.bs 60 5 1 [.n .i64 0,.n .i64 0,.n .i64 0,.n .i64 0,.n .u32 0] [(0,5,(.t 90))]))),(3,(o1 92 (.app 60 5 40 (.t 88) (.t 91)))),(2,(o1 93 (.fa 3 (.t 8)))),
  (3,(o3 (.st 1 (.t 93) (.t 92))))]
abbrev BK:AC:=
 (.seq (.reg BE) (.mix BI))
abbrev BD:List AO:=
 [o1 94 (.bin .add (.t 84) (ci 1)),
  (mt 84 94)]
abbrev BM:AC:=
 (.seq (.reg BF) (.seq (.cond (.t 85) .skip (.exit 2)) (.seq (.block 3 BK) (.reg BD))))
abbrev vk:AC:=
 (.loop BM)
abbrev vh:List AO:=
 [o1 96 (.ld 4 true (.t 8)),
  (o2 97 17 [.t 96,(ci 4)]),
  (mt 95 97),o1 98 (.ext 0 (.t 95)),o1 99 (.ext 1 (.t 95)),o1 11 (.al 25 [.sl0,.n .i64 0,.n .i64 0,.sl0]),
  (o3 (.st 4 (.t 11) (.t 98))),
  (mt 12 99)]
abbrev vj:List (Nat×AO):=
 [(2,(mt 100 12)),(2,(o1 101 (.bin .eql (.t 100) (ci 0)))),
  (2,(mt 102 101)),
  (2,(o5 103 102 (.fa 1 (.t 11)))),
  (1,(o5 104 102 (.ld 1 false (.t 103)))),
  (2,(o5 105 102 (.bin .eql (.t 104) (ci 4)))),(2,(o1 106 (.pick (.t 102) (.t 105) (.c (.b false))))),
  (2,(mt 107 106)),
  (2,(o5 108 107 (.fa 2 (.t 11)))),
  (1,(o5 109 107 (.ld 1 false (.t 108)))),
  (2,(o5 110 107 (.bin .eql (.t 109) (ci 4)))),(2,(o1 111 (.pick (.t 107) (.t 110) (.c (.b false))))),
  (2,(mt 112 111)),
  (2,(o5 113 112 (.fa 3 (.t 11)))),
  (1,(o5 114 112 (.ld 1 false (.t 113)))),
  (2,(o5 115 112 (.len (.t 114)))),
  (2,(o5 116 112 (.bin .eql (.t 115) (ci 18)))),(2,(o1 117 (.pick (.t 112) (.t 116) (.c (.b false))))),
  (2,(mt 118 117)),
  (2,(o5 119 118 (.fa 3 (.t 11)))),
  (1,(o5 120 118 (.ld 1 false (.t 119)))),
  (2,(o5 121 118 (.ia 5 (.t 120) (ci 0)))),
  (1,(o5 122 118 (.ld 5 true (.t 121)))),(0,⟨some 123,some (118,true),.cl (.c (.f 34 [] [])) [(ci 0)]⟩),
  (2,(o5 124 118 (.eq false (.st [(0,1,.n),(1,1,.n),(2,1,.n),(3,1,.n),(4,1,.n)]) (.t 122) (.t 123)))),(2,(o1 125 (.pick (.t 118) (.t 124) (.c (.b false))))),
  (2,(mt 0 125))]
abbrev Oz:AF:=⟨126,(.seq (.reg IA) (.seq (.reg Iz) (.seq (.reg Iy) (.seq (.reg Ix) (.seq (.reg Iw) (.seq (.seq (.reg Iv) (.cond (.t 71) (.seq (.reg Iu) .ret) .skip)) (.seq (.reg Ba) (.seq (.seq (.reg A9) (.block 0 vl)) (.seq (.seq (.reg vi) (.block 2 vk)) (.seq (.reg vh) (.seq (.mix vj) .ret))))))))))),[.mv (.t 0)]⟩
theorem IB:bI Try.prog (aK Try.prog 10) 10=some Oz:=by kernel_rfl
/-! compactorlaw25.good-/
/-! compactorlaw25.reached-/
/-! compactorlaw25.reached$1-/
/-! compactorlaw25.AllocateFits$1-/
/-! compactorlaw25.AllocateFits$2-/
/-! optimizer.Prune-/
/-! optimizer.prune-/
/-! optimizer.live-/
/-! optimizer.hollow-/
/-! slices.Clone[[]bool,bool]-/
/-! optimizer.following-/
/-! slices.Equal[[]bool,bool]-/
/-! compactorref24.Prune-/
/-! compactorref24.live-/
/-! compactorref24.idle-/
/-! compactorref24.empty-/
/-! compactorref24.successors-/
/-! compactorlaw24.OptimizerPrunes-/
/-! optimizer.Share-/
/-! optimizer.share-/
/-! optimizer.walk[optimizer.value]-/
/-! optimizer.share$1-/
/-! optimizer.share$2-/
/-! optimizer.expression-/
/-! slices.IndexFunc[[]optimizer.value,optimizer.value]-/
/-! optimizer.share$2$1-/
/-! optimizer.value.computes-/
/-! optimizer.without[optimizer.value]-/
/-! optimizer.both[optimizer.value]-/
/-! optimizer.without[optimizer.value]$1-/
/-! slices.Contains[[]optimizer.value,optimizer.value]-/
/-! slices.Index[[]optimizer.value,optimizer.value]-/
/-! compactorref24.Share-/
/-! compactorref24.keep-/
/-! compactorref24.changes-/
/-! compactorref24.bothFacts-/
/-! compactorref24.expression-/
/-! compactorref24.find-/
/-! compactorlaw24.OptimizerShares-/
/-! optimizer.Optimize-/
/-! compactorref24.Optimize-/
/-! optimizer.Optimize$1-/
/-! slices.Equal[[]api.RegInstr,api.RegInstr]-/
/-! compactorlaw24.OptimizerOptimizes-/
/-! slices.EqualFunc[[][]int,[][]int,[]int,[]int]-/
abbrev Ip:List AO:=
 [o1 6 (.mv (.c (.b false)))]
abbrev Im:List AO:=
 [(mt 10 0),o1 11 (.len (.t 10)),
  (mt 12 1),o1 13 (.len (.t 12)),o1 14 (.bin .neq (.t 11) (.t 13))]
abbrev Il:List AO:=
 [o1 6 (.mv (.c (.b false)))]
abbrev Ik:List AO:=
 [(mt 15 0),o1 16 (.len (.t 15)),o1 17 (.mv (ci 0))]
abbrev Ij:List AO:=
 [o1 18 (.bin .lss (.t 17) (.t 16))]
abbrev Ii:List AO:=
 [(mt 19 17),o1 20 (.ia 1 (.t 15) (.t 17)),o1 21 (.ld 1 false (.t 20)),
  (mt 7 19),
  (mt 8 21)]
abbrev Ih:List AO:=
 [(mt 22 1),
  (mt 23 7),o1 24 (.ia 1 (.t 22) (.t 23)),o1 25 (.ld 1 false (.t 24)),
  (mt 9 25)]
abbrev Ig:List AO:=
 [(mt 26 2),
  (mt 27 8),
  (mt 28 9),⟨some 29,none,.cl (.t 26) [.t 27,.t 28]⟩,o1 30 (.un .not (.t 29))]
abbrev Ie:List AO:=
 [o1 6 (.mv (.c (.b false)))]
abbrev Ir:AC:=
 (.seq (.reg Ii) (.seq (.reg Ih) (.seq (.reg Ig) (.cond (.t 30) (.seq (.reg Ie) .ret) .skip))))
abbrev BA:List AO:=
 [o1 31 (.bin .add (.t 17) (ci 1)),
  (mt 17 31)]
abbrev BC:AC:=
 (.seq (.reg Ij) (.seq (.cond (.t 18) .skip (.exit 0)) (.seq (.block 1 Ir) (.reg BA))))
abbrev BB:AC:=
 (.loop BC)
abbrev Bz:List AO:=
 [o1 6 (.mv (.c (.b true)))]
abbrev Oy:AF:=⟨32,(.seq (.reg Ip) (.seq (.seq (.reg Im) (.cond (.t 14) (.seq (.reg Il) .ret) .skip)) (.seq (.seq (.reg Ik) (.block 0 BB)) (.seq (.reg Bz) .ret)))),[.mv (.t 6)]⟩
theorem Iq:bI Try.prog (aK Try.prog 15) 15=some Oy:=by kernel_rfl
/-! slices.Equal[[]int,int]-/
abbrev H9:List AO:=
 [o1 4 (.mv (.c (.b false)))]
abbrev H8:List AO:=
 [(mt 6 0),o1 7 (.len (.t 6)),
  (mt 8 1),o1 9 (.len (.t 8)),o1 10 (.bin .neq (.t 7) (.t 9))]
abbrev H7:List AO:=
 [o1 4 (.mv (.c (.b false)))]
abbrev H6:List AO:=
 [(mt 11 0),o1 12 (.len (.t 11)),o1 13 (.mv (ci 0))]
abbrev H5:List AO:=
 [o1 14 (.bin .lss (.t 13) (.t 12))]
abbrev HU:List AO:=
 [(mt 15 13),
  (mt 5 15)]
abbrev Ib:List (Nat×AO):=
 [(2,(mt 16 0)),
  (2,(mt 17 5)),(2,(o1 18 (.ia 1 (.t 16) (.t 17)))),
  (2,(mt 20 1)),
  (2,(mt 21 5)),(2,(o1 22 (.ia 1 (.t 20) (.t 21)))),(1,(o1 19 (.ld 1 false (.t 18)))),(1,(o1 23 (.ld 1 false (.t 22)))),(2,(o1 24 (.bin .neq (.t 19) (.t 23))))]
abbrev HT:List AO:=
 [o1 4 (.mv (.c (.b false)))]
abbrev Ic:AC:=
 (.seq (.reg HU) (.seq (.mix Ib) (.cond (.t 24) (.seq (.reg HT) .ret) .skip)))
abbrev HQ:List AO:=
 [o1 25 (.bin .add (.t 13) (ci 1)),
  (mt 13 25)]
abbrev Bx:AC:=
 (.seq (.reg H5) (.seq (.cond (.t 14) .skip (.exit 0)) (.seq (.block 1 Ic) (.reg HQ))))
abbrev Bw:AC:=
 (.loop Bx)
abbrev Bv:List AO:=
 [o1 4 (.mv (.c (.b true)))]
abbrev Ox:AF:=⟨26,(.seq (.reg H9) (.seq (.seq (.reg H8) (.cond (.t 10) (.seq (.reg H7) .ret) .skip)) (.seq (.seq (.reg H6) (.block 0 Bw)) (.seq (.reg Bv) .ret)))),[.mv (.t 4)]⟩
theorem Ia:bI Try.prog (aK Try.prog 16) 16=some Ox:=by kernel_rfl
/-! slices.IsSorted[[]int,int]-/
/-! slices.Contains[[]int,int]-/
/-! slices.EqualFunc[[]api.RegInstr,[]api.RegInstr,api.RegInstr,api.RegInstr]-/
/-! slices.Index[[]int,int]-/
/-! slices.ContainsFunc[[]int,int]-/
/-! slices.IndexFunc[[]int,int]-/
/-! cmp.Less[int]-/
/-! cmp.isNaN[int]-/
/-! compactorlaw25.AllocateLives-/
abbrev HL:List AO:=
 [o1 1 (.bx 25 0 (.t 0)),o1 2 (.mv (.c (.b false)))]
abbrev HK:List AO:=
 [o1 11 (.ld 4 true (.t 1)),
  (o2 12 9 [.t 11]),o1 13 (.un .not (.t 12))]
abbrev HJ:List AO:=
 [(o2 14 10 []),
  (mt 2 14)]
abbrev HH:List AO:=
 [o1 16 (.ld 4 true (.t 1)),
  (o2 17 11 [.t 16]),
  (mt 15 17),o1 18 (.ext 0 (.t 15)),o1 19 (.ext 1 (.t 15)),
  (mt 3 18),
  (mt 4 19)]
abbrev HC:List AO:=
 [o1 21 (.ld 4 true (.t 1)),
  (o2 22 12 [.t 21]),
  (mt 20 22),o1 23 (.ext 0 (.t 20)),o1 24 (.ext 1 (.t 20)),
  (mt 5 23),
  (mt 6 24)]
abbrev Hz:List AO:=
 [o1 26 (.ld 4 true (.t 1)),
  (o2 27 13 [.t 26]),
  (mt 25 27),o1 28 (.ext 0 (.t 25)),o1 29 (.ext 1 (.t 25)),
  (mt 7 28),
  (mt 8 29)]
abbrev Hy:List AO:=
 [o1 31 (.ld 4 true (.t 1)),
  (o2 32 14 [.t 31]),
  (mt 30 32),o1 33 (.ext 0 (.t 30)),o1 34 (.ext 1 (.t 30)),
  (mt 9 33),
  (mt 10 34)]
abbrev Hx:List AO:=
 [(mt 35 3),
  (mt 36 5),
  (o2 37 15 [.t 35,.t 36,(.c (.f 16 [] []))]),
  (mt 38 37),
  (o5 39 38 (.mv (.t 4))),
  (o5 40 38 (.mv (.t 6))),
  (o5 41 38 (.bin .eql (.t 39) (.t 40))),o1 42 (.pick (.t 38) (.t 41) (.c (.b false))),
  (mt 43 42),
  (o5 44 43 (.mv (.t 7))),
  (o5 45 43 (.mv (.t 9))),
  (o5 46 43 (.bin .eql (.t 44) (.t 45))),o1 47 (.pick (.t 43) (.t 46) (.c (.b false))),
  (mt 48 47),
  (o5 49 48 (.mv (.t 8))),
  (o5 50 48 (.mv (.t 10))),
  (o5 51 48 (.bin .eql (.t 49) (.t 50))),o1 52 (.pick (.t 48) (.t 51) (.c (.b false))),
  (mt 53 52),⟨some 54,some (53,true),.cl (.c (.f 10 [] [])) []⟩,o1 55 (.pick (.t 53) (.t 54) (.c (.b false))),
  (mt 2 55)]
abbrev Ow:AF:=⟨56,(.seq (.reg HL) (.seq (.seq (.reg HK) (.cond (.t 13) (.seq (.reg HJ) .ret) .skip)) (.seq (.reg HH) (.seq (.reg HC) (.seq (.reg Hz) (.seq (.reg Hy) (.seq (.reg Hx) .ret))))))),[.mv (.t 2)]⟩
theorem A8:bI Try.prog (aK Try.prog 3) 3=some Ow:=by kernel_rfl
/-! compactorlaw25.AllocateSpills-/
/-! compactorlaw25.AllocateCompacts-/
/-! compactorlaw25.AllocateSettles-/
/-! compactorlaw25.AllocateNeeds-/
/-! compactorlaw25.AllocateFits-/
end Go.Proofs.Yteopfmnnhlhbmaa