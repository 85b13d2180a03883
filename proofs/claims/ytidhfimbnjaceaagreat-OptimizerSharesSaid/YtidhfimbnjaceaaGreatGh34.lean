/- A part of the proof of OptimizerShares: AcC. No condition. -/
import Derived.Test.YtidhfimbnjaceaaGreatGh09
import Derived.Test.YtidhfimbnjaceaaGreatProg
set_option linter.unusedSimpArgs false
set_option linter.unusedVariables false
set_option linter.constructorNameAsVariable false
set_option maxRecDepth 100000
set_option maxHeartbeats 4000000
namespace Go.Proofs.YtidhfimbnjaceaaGreat
open Go.RowKit
/-! optimizer.Share-/
abbrev Gw:List AO:=
 [o1 1 (.bx 25 0 (.t 0)),o1 2 (.al 25 [.sl0,.n .i64 0,.n .i64 0,.sl0]),o1 3 (.mv (.c (.n .i64 0)))]
abbrev Gv:List AO:=
 [o1 4 (.ld 4 true (.t 1)),⟨some 5,none,.cl (.c (.f 24 [] [])) [(.t 4),(.c (.f 41 [] []))]⟩,o1 6 (.ext 0 (.t 5)),o1 7 (.ext 1 (.t 5)),⟨none,none,.ap (.st 4 (.t 2) (.t 6))⟩,o1 3 (.mv (.t 7))]
abbrev Oz:AF:=⟨8,(.seq (.reg Gw) (.seq (.reg Gv) .ret)),[.ld 4 true (.t 2),.mv (.t 3)]⟩
theorem wM:bi Tryz.prog (aj Tryz.prog 15) 15=some Oz:=by kernel_rfl
/-! optimizer.share-/
abbrev Gs:List AO:=
 [o1 1 (.bx 25 0 (.t 0)),o1 2 (.mv (.c .sl0))]
abbrev Gr:List AO:=
 [o1 3 (.fa 3 (.t 1)),o1 4 (.ld 1 false (.t 3)),o1 5 (.bd [.f0,.f0] [(0,1,(.c (.f 69 [] []))),(1,1,(.c (.f 70 [] [])))]),⟨some 6,none,.cl (.c (.f 68 [] [])) [(.t 4),(.c .sl0),(.t 5)]⟩,o1 2 (.mv (.t 6))]
abbrev Oy:AF:=⟨7,(.seq (.reg Gs) (.seq (.reg Gr) .ret)),[.mv (.t 2)]⟩
theorem Gu:bi Tryz.prog (aj Tryz.prog 41) 41=some Oy:=by kernel_rfl
/-! optimizer.walk[optimizer.value]-/
abbrev Gp:List AO:=
 [o1 5 (.bx 119 0 (.t 2)),o1 6 (.mv (.c .sl0))]
abbrev Gn:List AO:=
 [o1 16 (.mv (.t 0)),⟨some 17,none,.cl (.c (.f 86 [] [])) [(.t 16)]⟩,o1 7 (.mv (.t 17))]
abbrev Gm:List AO:=
 [o1 8 (.mv (.c .sl0))]
abbrev Gl:List AO:=
 [o1 9 (.mv (.c .sl0))]
abbrev Gk:List AO:=
 [o1 18 (.mv (.t 0)),o1 19 (.len (.t 18)),o1 20 (.mv (.c (.n .i64 0)))]
abbrev Gj:List AO:=
 [o1 21 (.bin .lss (.t 20) (.t 19))]
abbrev Gi:List AO:=
 [o1 22 (.mv (.t 20)),o1 23 (.ia 5 (.t 18) (.t 20)),o1 24 (.ld 5 true (.t 23)),o1 11 (.al 37 [.n .i64 0,.n .i64 0,.n .i64 0,.n .i64 0,.n .u32 0]),o1 10 (.mv (.t 22)),⟨none,none,.ap (.st 5 (.t 11) (.t 24))⟩]
abbrev Gh:List AO:=
 [o1 26 (.fa 1 (.t 5)),o1 27 (.ld 1 false (.t 26)),o1 28 (.ld 5 true (.t 11)),o1 29 (.mv (.t 1)),⟨some 30,none,.cl (.t 27) [(.t 28),(.t 29)]⟩,o1 25 (.mv (.t 30)),o1 31 (.ext 0 (.t 25)),o1 32 (.ext 1 (.t 25)),o1 33 (.ext 2 (.t 25)),o1 12 (.al 37 [.n .i64 0,.n .i64 0,.n .i64 0,.n .i64 0,.n .u32 0]),⟨none,none,.ap (.st 5 (.t 12) (.t 31))⟩,o1 13 (.mv (.t 32)),o1 14 (.mv (.t 33))]
abbrev Gg:List AO:=
 [o1 34 (.mv (.t 13)),o1 35 (.un .not (.t 34))]
abbrev Gf:List AO:=
 [o1 36 (.mv (.t 9)),o1 37 (.len (.t 36)),o1 38 (.bin .sub (.t 37) (.c (.n .i64 1))),o1 15 (.mv (.t 38))]
abbrev yB:List AO:=
 [o1 40 (.fa 0 (.t 11)),o1 41 (.ld 1 false (.t 40)),o1 42 (.bin .eql (.t 41) (.c (.n .i64 27))),o1 39 (.mv (.t 42))]
abbrev yA:List AO:=
 [o1 43 (.mv (.t 9)),o1 44 (.mv (.t 1)),o1 45 (.bs 113 1 1 [.sl0] [(0,1,(.t 44))]),o1 46 (.app 113 1 24 (.t 43) (.t 45)),o1 9 (.mv (.t 46))]
abbrev yz:List AO:=
 [o1 48 (.fa 0 (.t 11)),o1 49 (.ld 1 false (.t 48)),o1 50 (.bin .eql (.t 49) (.c (.n .i64 28))),o1 47 (.mv (.t 50))]
abbrev yy:List AO:=
 [o1 51 (.mv (.t 9)),o1 52 (.mv (.t 15)),o1 53 (.mv (.t 1)),o1 54 (.mv (.t 9)),o1 55 (.mv (.t 15)),o1 56 (.ia 1 (.t 54) (.t 55)),o1 57 (.ld 1 false (.t 56)),o1 58 (.ia 1 (.t 51) (.t 52)),⟨none,none,.ap (.st 1 (.t 58) (.t 53))⟩,o1 1 (.mv (.t 57))]
abbrev yx:List AO:=
 [o1 60 (.fa 0 (.t 11)),o1 61 (.ld 1 false (.t 60)),o1 62 (.bin .eql (.t 61) (.c (.n .i64 29))),o1 59 (.mv (.t 62))]
abbrev yE:List (Nat×AO):=
 [(2,(o1 63 (.mv (.t 1)))),(2,(o1 65 (.mv (.t 0)))),(2,(o1 66 (.mv (.t 10)))),(2,(o1 67 (.mv (.t 7)))),(2,(o1 68 (.mv (.t 10)))),(2,(o1 69 (.ia 1 (.t 67) (.t 68)))),(1,(o1 64 (.ld 2 true (.t 5)))),(1,(o1 70 (.ld 1 false (.t 69)))),(2,(o1 71 (.sl 5 (.t 65) (some (.t 66)) (some (.t 70))))),(3,⟨some 72,none,.cl (.c (.f 99 [] [])) [(.t 63),(.t 64),(.t 71)]⟩),(2,(o1 1 (.mv (.t 72))))]
abbrev yw:List AO:=
 [o1 74 (.fa 0 (.t 11)),o1 75 (.ld 1 false (.t 74)),o1 76 (.bin .eql (.t 75) (.c (.n .i64 31))),o1 77 (.mv (.t 76)),⟨some 78,some (77,true),.ap (.mv (.t 0))⟩,⟨some 79,some (77,true),.ap (.mv (.t 7))⟩,⟨some 80,some (77,true),.ap (.mv (.t 10))⟩,⟨some 81,some (77,true),.ap (.ia 1 (.t 79) (.t 80))⟩,⟨some 82,some (77,true),.ap (.ld 1 false (.t 81))⟩,⟨some 83,some (77,true),.ap (.ia 5 (.t 78) (.t 82))⟩,⟨some 84,some (77,true),.ap (.fa 0 (.t 83))⟩,⟨some 85,some (77,true),.ap (.ld 1 false (.t 84))⟩,⟨some 86,some (77,true),.ap (.bin .eql (.t 85) (.c (.n .i64 29)))⟩,o1 87 (.pick (.t 77) (.t 86) (.c (.b false))),o1 73 (.mv (.t 87))]
abbrev yD:List (Nat×AO):=
 [(2,(o1 88 (.mv (.t 1)))),(2,(o1 90 (.mv (.t 0)))),(2,(o1 91 (.mv (.t 7)))),(2,(o1 92 (.mv (.t 10)))),(2,(o1 93 (.ia 1 (.t 91) (.t 92)))),(2,(o1 95 (.mv (.t 10)))),(1,(o1 89 (.ld 2 true (.t 5)))),(1,(o1 94 (.ld 1 false (.t 93)))),(2,(o1 96 (.sl 5 (.t 90) (some (.t 94)) (some (.t 95))))),(3,⟨some 97,none,.cl (.c (.f 99 [] [])) [(.t 88),(.t 89),(.t 96)]⟩),(2,(o1 1 (.mv (.t 97))))]
abbrev yu:List AO:=
 [o1 99 (.fa 0 (.t 11)),o1 100 (.ld 1 false (.t 99)),o1 101 (.bin .eql (.t 100) (.c (.n .i64 31))),o1 98 (.mv (.t 101))]
abbrev yC:List (Nat×AO):=
 [(2,(o1 102 (.mv (.t 1)))),(2,(o1 103 (.mv (.t 9)))),(2,(o1 104 (.mv (.t 15)))),(2,(o1 105 (.ia 1 (.t 103) (.t 104)))),(2,(o1 108 (.mv (.t 9)))),(2,(o1 109 (.mv (.t 15)))),(2,(o1 110 (.sl 1 (.t 108) none (some (.t 109))))),(1,(o1 106 (.ld 1 false (.t 105)))),(3,⟨some 107,none,.cl (.c (.f 100 [] [])) [(.t 102),(.t 106)]⟩),(2,(o1 1 (.mv (.t 107)))),(2,(o1 9 (.mv (.t 110))))]
abbrev yH:AC:=
 (.seq (.reg yB) (.cond (.t 39) (.reg yA) (.seq (.reg yz) (.cond (.t 47) (.reg yy) (.seq (.reg yx) (.cond (.t 59) (.mix yE) (.seq (.reg yw) (.cond (.t 73) (.mix yD) (.seq (.reg yu) (.cond (.t 98) (.mix yC) .skip))))))))))
abbrev yt:List AO:=
 [o1 111 (.mv (.t 1)),o1 112 (.ld 2 true (.t 5)),o1 113 (.ld 5 true (.t 12)),o1 114 (.bs 37 5 1 [.n .i64 0,.n .i64 0,.n .i64 0,.n .i64 0,.n .u32 0] [(0,5,(.t 113))]),⟨some 115,none,.cl (.c (.f 99 [] [])) [(.t 111),(.t 112),(.t 114)]⟩,o1 116 (.mv (.t 14)),o1 117 (.app 111 5 40 (.t 115) (.t 116)),o1 1 (.mv (.t 117))]
abbrev yr:List AO:=
 [o1 118 (.mv (.t 8)),o1 119 (.ld 5 true (.t 12)),o1 120 (.bs 37 5 1 [.n .i64 0,.n .i64 0,.n .i64 0,.n .i64 0,.n .u32 0] [(0,5,(.t 119))]),o1 121 (.app 37 5 40 (.t 118) (.t 120)),o1 8 (.mv (.t 121))]
abbrev yG:AC:=
 (.seq (.reg Gi) (.seq (.reg Gh) (.seq (.seq (.reg Gg) (.cond (.t 35) (.exit 1) .skip)) (.seq (.reg Gf) (.seq (.block 2 yH) (.seq (.reg yt) (.reg yr)))))))
abbrev yq:List AO:=
 [o1 122 (.bin .add (.t 20) (.c (.n .i64 1))),o1 20 (.mv (.t 122))]
abbrev yI:AC:=
 (.seq (.reg Gj) (.seq (.cond (.t 21) .skip (.exit 0)) (.seq (.block 1 yG) (.reg yq))))
abbrev yF:AC:=
 (.loop yI)
abbrev yp:List AO:=
 [o1 123 (.mv (.t 8)),o1 6 (.mv (.t 123))]
abbrev Ox:AF:=⟨124,(.seq (.reg Gp) (.seq (.reg Gn) (.seq (.reg Gm) (.seq (.reg Gl) (.seq (.seq (.reg Gk) (.block 0 yF)) (.seq (.reg yp) .ret)))))),[.mv (.t 6)]⟩
theorem Gq:bi Tryz.prog (aj Tryz.prog 68) 68=some Ox:=by kernel_rfl
/-! optimizer.share$1-/
abbrev Gc:List AO:=
 [o1 2 (.bx 37 0 (.t 0)),o1 3 (.bx 111 0 (.t 1)),o1 4 (.mv (.c (.b false)))]
abbrev Gb:List AO:=
 [o1 6 (.ld 5 true (.t 2)),⟨some 7,none,.cl (.c (.f 57 [] [])) [(.t 6)]⟩,o1 5 (.mv (.t 7))]
abbrev Ga:List AO:=
 [o1 8 (.mv (.t 5)),o1 9 (.bin .geq (.t 8) (.c (.n .i64 0))),o1 10 (.mv (.t 9)),⟨some 11,some (10,true),.ap (.mv (.t 5))⟩,⟨some 12,some (10,true),.ap (.fa 0 (.t 3))⟩,⟨some 13,some (10,true),.ap (.fa 1 (.t 12))⟩,⟨some 14,some (10,true),.ap (.ld 1 false (.t 13))⟩,⟨some 15,some (10,true),.ap (.bin .eql (.t 11) (.t 14))⟩,⟨some 16,some (10,true),.ap (.mv (.t 15))⟩,⟨some 17,some (16,false),.ap (.mv (.t 5))⟩,⟨some 18,some (16,false),.ap (.fa 0 (.t 3))⟩,⟨some 19,some (16,false),.ap (.fa 2 (.t 18))⟩,⟨some 20,some (16,false),.ap (.ld 1 false (.t 19))⟩,⟨some 21,some (16,false),.ap (.bin .eql (.t 17) (.t 20))⟩,⟨some 22,some (10,true),.ap (.pick (.t 16) (.c (.b true)) (.t 21))⟩,⟨some 23,some (10,true),.ap (.mv (.t 22))⟩,⟨some 24,some (23,false),.ap (.mv (.t 5))⟩,⟨some 25,some (23,false),.ap (.fa 0 (.t 3))⟩,⟨some 26,some (23,false),.ap (.fa 3 (.t 25))⟩,⟨some 27,some (23,false),.ap (.ld 1 false (.t 26))⟩,⟨some 28,some (23,false),.ap (.bin .eql (.t 24) (.t 27))⟩,⟨some 29,some (10,true),.ap (.pick (.t 23) (.c (.b true)) (.t 28))⟩,o1 30 (.pick (.t 10) (.t 29) (.c (.b false)))]
abbrev F9:List AO:=
 [o1 4 (.mv (.c (.b true)))]
abbrev F8:List AO:=
 [o1 31 (.fa 0 (.t 2)),o1 32 (.ld 1 false (.t 31)),o1 33 (.bin .eql (.t 32) (.c (.n .i64 4))),o1 34 (.mv (.t 33)),⟨some 35,some (34,true),.ap (.fa 0 (.t 3))⟩,⟨some 36,some (34,true),.ap (.fa 0 (.t 35))⟩,⟨some 37,some (34,true),.ap (.ld 1 false (.t 36))⟩,⟨some 38,some (34,true),.ap (.bin .eql (.t 37) (.c (.n .i64 3)))⟩,o1 39 (.pick (.t 34) (.t 38) (.c (.b false))),o1 40 (.mv (.t 39)),⟨some 41,some (40,true),.ap (.fa 4 (.t 2))⟩,⟨some 42,some (40,true),.ap (.ld 1 false (.t 41))⟩,⟨some 43,some (40,true),.ap (.fa 0 (.t 3))⟩,⟨some 44,some (40,true),.ap (.fa 4 (.t 43))⟩,⟨some 45,some (40,true),.ap (.ld 1 false (.t 44))⟩,⟨some 46,some (40,true),.ap (.bin .eql (.t 42) (.t 45))⟩,o1 47 (.pick (.t 40) (.t 46) (.c (.b false))),o1 4 (.mv (.t 47))]
abbrev Ow:AF:=⟨48,(.seq (.reg Gc) (.seq (.seq (.reg Gb) (.seq (.reg Ga) (.cond (.t 30) (.seq (.reg F9) .ret) .skip))) (.seq (.reg F8) .ret))),[.mv (.t 4)]⟩
theorem Gd:bi Tryz.prog (aj Tryz.prog 69) 69=some Ow:=by kernel_rfl
/-! optimizer.share$2-/
abbrev F5:List AO:=
 [o1 2 (.bx 37 0 (.t 0)),o1 4 (.al 37 [.n .i64 0,.n .i64 0,.n .i64 0,.n .i64 0,.n .u32 0]),o1 5 (.mv (.c (.b false))),o1 6 (.mv (.c .sl0))]
abbrev F4:List AO:=
 [o1 8 (.fa 0 (.t 2)),o1 9 (.ld 1 false (.t 8)),⟨some 10,none,.cl (.c (.f 71 [] [])) [(.t 9)]⟩,o1 11 (.un .not (.t 10))]
abbrev F3:List AO:=
 [o1 12 (.ld 5 true (.t 2)),⟨none,none,.ap (.st 5 (.t 4) (.t 12))⟩,o1 5 (.mv (.c (.b true))),o1 6 (.mv (.c .sl0))]
abbrev F2:List AO:=
 [o1 13 (.mv (.t 1)),o1 14 (.mf 73 [] [(.t 2)]),⟨some 15,none,.cl (.c (.f 72 [] [])) [(.t 13),(.t 14)]⟩,o1 7 (.mv (.t 15))]
abbrev F7:List (Nat×AO):=
 [(2,(o1 17 (.mv (.t 7)))),(2,(o1 18 (.bin .geq (.t 17) (.c (.n .i64 0))))),(2,(o1 19 (.mv (.t 18)))),(2,⟨some 20,some (19,true),.ap (.mv (.t 1))⟩),(2,⟨some 21,some (19,true),.ap (.mv (.t 7))⟩),(2,⟨some 22,some (19,true),.ap (.ia 5 (.t 20) (.t 21))⟩),(2,⟨some 23,some (19,true),.ap (.fa 0 (.t 22))⟩),(2,⟨some 24,some (19,true),.ap (.fa 1 (.t 23))⟩),(2,⟨some 26,some (19,true),.ap (.fa 1 (.t 2))⟩),(1,⟨some 25,some (19,true),.ap (.ld 1 false (.t 24))⟩),(1,⟨some 27,some (19,true),.ap (.ld 1 false (.t 26))⟩),(2,⟨some 28,some (19,true),.ap (.bin .eql (.t 25) (.t 27))⟩),(2,(o1 29 (.pick (.t 19) (.t 28) (.c (.b false))))),(2,(o1 16 (.mv (.t 29))))]
abbrev F1:List AO:=
 [o1 30 (.ld 5 true (.t 2)),⟨none,none,.ap (.st 5 (.t 4) (.t 30))⟩,o1 5 (.mv (.c (.b false))),o1 6 (.mv (.c .sl0))]
abbrev F0:List AO:=
 [o1 32 (.mv (.t 7)),o1 33 (.bin .geq (.t 32) (.c (.n .i64 0))),o1 31 (.mv (.t 33))]
abbrev F6:List (Nat×AO):=
 [(2,(o1 34 (.fa 1 (.t 2)))),(2,(o1 36 (.mv (.t 1)))),(2,(o1 37 (.mv (.t 7)))),(2,(o1 38 (.ia 5 (.t 36) (.t 37)))),(2,(o1 39 (.fa 0 (.t 38)))),(2,(o1 40 (.fa 1 (.t 39)))),(1,(o1 35 (.ld 1 false (.t 34)))),(1,(o1 41 (.ld 1 false (.t 40)))),(2,(o1 42 (.bd [.n .i64 0,.n .i64 0,.n .i64 0,.n .i64 0,.n .u32 0] [(0,1,(.c (.n .i64 36))),(1,1,(.t 35)),(2,1,(.t 41)),(3,1,(.c (.n .i64 (-1))))]))),(3,⟨none,none,.ap (.st 5 (.t 4) (.t 42))⟩),(2,(o1 5 (.mv (.c (.b true))))),(2,(o1 6 (.mv (.c .sl0))))]
abbrev FZ:List AO:=
 [o1 44 (.fa 1 (.t 2)),o1 45 (.ld 1 false (.t 44)),o1 46 (.fa 2 (.t 2)),o1 47 (.ld 1 false (.t 46)),o1 48 (.bin .eql (.t 45) (.t 47)),o1 49 (.mv (.t 48)),⟨some 50,some (49,false),.ap (.fa 1 (.t 2))⟩,⟨some 51,some (49,false),.ap (.ld 1 false (.t 50))⟩,⟨some 52,some (49,false),.ap (.fa 3 (.t 2))⟩,⟨some 53,some (49,false),.ap (.ld 1 false (.t 52))⟩,⟨some 54,some (49,false),.ap (.bin .eql (.t 51) (.t 53))⟩,o1 55 (.pick (.t 49) (.c (.b true)) (.t 54)),o1 43 (.mv (.t 55))]
abbrev FY:List AO:=
 [o1 56 (.ld 5 true (.t 2)),⟨none,none,.ap (.st 5 (.t 4) (.t 56))⟩,o1 5 (.mv (.c (.b true))),o1 6 (.mv (.c .sl0))]
abbrev yo:AC:=
 (.seq (.mix F7) (.cond (.t 16) (.seq (.reg F1) .ret) (.seq (.reg F0) (.cond (.t 31) (.seq (.mix F6) .ret) (.seq (.reg FZ) (.cond (.t 43) (.seq (.reg FY) .ret) .skip))))))
abbrev yn:List (Nat×AO):=
 [(1,(o1 57 (.ld 5 true (.t 2)))),(1,(o1 58 (.ld 5 true (.t 2)))),(2,(o1 59 (.bd [.n .i64 0,.n .i64 0,.n .i64 0,.n .i64 0,.n .u32 0] [(0,5,(.t 58))])))]
abbrev ym:AT:=
 (.alt (o1 60 (.bs 111 5 1 [.n .i64 0,.n .i64 0,.n .i64 0,.n .i64 0,.n .u32 0] [(0,5,(.t 59))])) (.alt ⟨none,none,.ap (.st 5 (.t 4) (.t 57))⟩ (.alt (o1 5 (.mv (.c (.b true)))) (.alt (o1 6 (.mv (.t 60))) .fin .none) .none) .none) (.alt ⟨none,none,.ap (.st 5 (.t 4) (.t 57))⟩ (.alt (o1 60 (.bs 111 5 1 [.n .i64 0,.n .i64 0,.n .i64 0,.n .i64 0,.n .u32 0] [(0,5,(.t 59))])) (.alt (o1 5 (.mv (.c (.b true)))) (.alt (o1 6 (.mv (.t 60))) .fin .none) .none) (.alt (o1 5 (.mv (.c (.b true)))) (.alt (o1 60 (.bs 111 5 1 [.n .i64 0,.n .i64 0,.n .i64 0,.n .i64 0,.n .u32 0] [(0,5,(.t 59))])) (.alt (o1 6 (.mv (.t 60))) .fin .none) .none) .none)) .none))
abbrev Ov:AF:=⟨61,(.seq (.reg F5) (.seq (.seq (.reg F4) (.cond (.t 11) (.seq (.reg F3) .ret) .skip)) (.seq (.reg F2) (.seq (.block 0 yo) (.seq (.frk yn ym) .ret))))),[.ld 5 true (.t 4),.mv (.t 5),.mv (.t 6)]⟩
theorem mV:bi Tryz.prog (aj Tryz.prog 70) 70=some Ov:=by kernel_rfl
/-! optimizer.expression-/
abbrev FW:List AO:=
 [o1 2 (.mv (.c (.b false)))]
abbrev FV:List AO:=
 [o1 3 (.mv (.t 0)),⟨some 4,none,.cl (.c (.f 90 [] [])) [(.t 3)]⟩,o1 5 (.mv (.t 4)),⟨some 6,some (5,false),.ap (.mv (.t 0))⟩,⟨some 7,some (5,false),.ap (.bin .eql (.t 6) (.c (.n .i64 3)))⟩,o1 8 (.pick (.t 5) (.c (.b true)) (.t 7)),o1 9 (.mv (.t 8)),⟨some 10,some (9,false),.ap (.mv (.t 0))⟩,⟨some 11,some (9,false),.ap (.bin .eql (.t 10) (.c (.n .i64 32)))⟩,o1 12 (.pick (.t 9) (.c (.b true)) (.t 11)),o1 13 (.mv (.t 12)),⟨some 14,some (13,false),.ap (.mv (.t 0))⟩,⟨some 15,some (13,false),.ap (.bin .eql (.t 14) (.c (.n .i64 33)))⟩,o1 16 (.pick (.t 13) (.c (.b true)) (.t 15)),o1 2 (.mv (.t 16))]
abbrev Ou:AF:=⟨17,(.seq (.reg FW) (.seq (.reg FV) .ret)),[.mv (.t 2)]⟩
theorem FX:bi Tryz.prog (aj Tryz.prog 71) 71=some Ou:=by kernel_rfl
/-! slices.IndexFunc[[]optimizer.value,optimizer.value]-/
abbrev FQ:List AO:=
 [o1 4 (.mv (.c (.n .i64 0)))]
abbrev FP:List AO:=
 [o1 6 (.mv (.t 0)),o1 7 (.len (.t 6)),o1 8 (.mv (.c (.n .i64 0)))]
abbrev FO:List AO:=
 [o1 9 (.bin .lss (.t 8) (.t 7))]
abbrev FN:List AO:=
 [o1 10 (.mv (.t 8)),o1 5 (.mv (.t 10))]
abbrev FM:List AO:=
 [o1 11 (.mv (.t 1)),o1 12 (.mv (.t 0)),o1 13 (.mv (.t 5)),o1 14 (.ia 5 (.t 12) (.t 13)),o1 15 (.ld 5 true (.t 14)),⟨some 16,none,.cl (.t 11) [(.t 15)]⟩]
abbrev FL:List AO:=
 [o1 17 (.mv (.t 5)),o1 4 (.mv (.t 17))]
abbrev FT:AC:=
 (.seq (.reg FN) (.seq (.reg FM) (.cond (.t 16) (.seq (.reg FL) .ret) .skip)))
abbrev FK:List AO:=
 [o1 18 (.bin .add (.t 8) (.c (.n .i64 1))),o1 8 (.mv (.t 18))]
abbrev FU:AC:=
 (.seq (.reg FO) (.seq (.cond (.t 9) .skip (.exit 0)) (.seq (.block 1 FT) (.reg FK))))
abbrev FS:AC:=
 (.loop FU)
abbrev yl:List AO:=
 [o1 4 (.mv (.c (.n .i64 (-1))))]
abbrev Ot:AF:=⟨19,(.seq (.reg FQ) (.seq (.seq (.reg FP) (.block 0 FS)) (.seq (.reg yl) .ret))),[.mv (.t 4)]⟩
theorem FR:bi Tryz.prog (aj Tryz.prog 72) 72=some Ot:=by kernel_rfl
/-! optimizer.share$2$1-/
abbrev FI:List AO:=
 [o1 2 (.bx 111 0 (.t 0)),o1 3 (.mv (.c (.b false)))]
abbrev FH:List AO:=
 [o1 4 (.ld 5 true (.t 2)),o1 5 (.ld 5 true (.t 1)),⟨some 6,none,.cl (.c (.f 74 [] [])) [(.t 4),(.t 5)]⟩,o1 3 (.mv (.t 6))]
abbrev Oq:AF:=⟨7,(.seq (.reg FI) (.seq (.reg FH) .ret)),[.mv (.t 3)]⟩
theorem FJ:bi Tryz.prog (aj Tryz.prog 73) 73=some Oq:=by kernel_rfl
/-! optimizer.value.computes-/
abbrev FE:List AO:=
 [o1 2 (.bx 111 0 (.t 0)),o1 3 (.bx 37 0 (.t 1)),o1 4 (.mv (.c (.b false)))]
abbrev FD:List AO:=
 [o1 5 (.fa 0 (.t 2)),o1 6 (.fa 1 (.t 5)),o1 7 (.ld 1 false (.t 6)),o1 8 (.fa 1 (.t 3)),⟨none,none,.ap (.st 1 (.t 8) (.t 7))⟩]
abbrev FC:List AO:=
 [o1 9 (.fa 0 (.t 2)),o1 10 (.ld 5 true (.t 9)),o1 11 (.ld 5 true (.t 3)),o1 12 (.eq false (.st [(0,1,.n),(1,1,.n),(2,1,.n),(3,1,.n),(4,1,.n)]) (.t 10) (.t 11)),o1 4 (.mv (.t 12))]
abbrev Ob:AF:=⟨13,(.seq (.reg FE) (.seq (.reg FD) (.seq (.reg FC) .ret))),[.mv (.t 4)]⟩
theorem FF:bi Tryz.prog (aj Tryz.prog 74) 74=some Ob:=by kernel_rfl
/-! optimizer.without[optimizer.value]-/
abbrev Fx:List AO:=
 [o1 4 (.bx 119 0 (.t 1)),o1 6 (.mv (.c .sl0))]
abbrev Fw:List AO:=
 [o1 7 (.mv (.c .sl0))]
abbrev Fv:List AO:=
 [o1 10 (.mv (.t 0)),o1 11 (.len (.t 10)),o1 12 (.mv (.c (.n .i64 0)))]
abbrev Fu:List AO:=
 [o1 13 (.bin .lss (.t 12) (.t 11))]
abbrev Ft:List AO:=
 [o1 14 (.ia 5 (.t 10) (.t 12)),o1 15 (.ld 5 true (.t 14)),o1 9 (.al 111 [.n .i64 0,.n .i64 0,.n .i64 0,.n .i64 0,.n .u32 0]),⟨none,none,.ap (.st 5 (.t 9) (.t 15))⟩]
abbrev Fs:List AO:=
 [o1 16 (.mv (.t 2)),o1 17 (.mf 116 [] [(.t 4),(.t 9)]),⟨some 18,none,.cl (.c (.f 107 [] [])) [(.t 16),(.t 17)]⟩,o1 19 (.un .not (.t 18))]
abbrev Fq:List AO:=
 [o1 20 (.mv (.t 7)),o1 21 (.ld 5 true (.t 9)),o1 22 (.bs 111 5 1 [.n .i64 0,.n .i64 0,.n .i64 0,.n .i64 0,.n .u32 0] [(0,5,(.t 21))]),o1 23 (.app 111 5 40 (.t 20) (.t 22)),o1 7 (.mv (.t 23))]
abbrev FA:AC:=
 (.seq (.reg Ft) (.seq (.reg Fs) (.cond (.t 19) (.reg Fq) .skip)))
abbrev Fp:List AO:=
 [o1 24 (.bin .add (.t 12) (.c (.n .i64 1))),o1 12 (.mv (.t 24))]
abbrev FB:AC:=
 (.seq (.reg Fu) (.seq (.cond (.t 13) .skip (.exit 0)) (.seq (.block 1 FA) (.reg Fp))))
abbrev yk:AC:=
 (.loop FB)
abbrev yj:List AO:=
 [o1 25 (.mv (.t 7)),o1 6 (.mv (.t 25))]
abbrev Oa:AF:=⟨26,(.seq (.reg Fx) (.seq (.reg Fw) (.seq (.seq (.reg Fv) (.block 0 yk)) (.seq (.reg yj) .ret)))),[.mv (.t 6)]⟩
theorem Fy:bi Tryz.prog (aj Tryz.prog 99) 99=some Oa:=by kernel_rfl
/-! optimizer.both[optimizer.value]-/
abbrev Fk:List AO:=
 [o1 4 (.mv (.c .sl0))]
abbrev Fj:List AO:=
 [o1 5 (.mv (.c .sl0))]
abbrev Fh:List AO:=
 [o1 8 (.mv (.t 0)),o1 9 (.len (.t 8)),o1 10 (.mv (.c (.n .i64 0)))]
abbrev Fg:List AO:=
 [o1 11 (.bin .lss (.t 10) (.t 9))]
abbrev Ff:List AO:=
 [o1 12 (.ia 5 (.t 8) (.t 10)),o1 13 (.ld 5 true (.t 12)),o1 7 (.al 111 [.n .i64 0,.n .i64 0,.n .i64 0,.n .i64 0,.n .u32 0]),⟨none,none,.ap (.st 5 (.t 7) (.t 13))⟩]
abbrev Fe:List AO:=
 [o1 14 (.mv (.t 1)),o1 15 (.ld 5 true (.t 7)),⟨some 16,none,.cl (.c (.f 117 [] [])) [(.t 14),(.t 15)]⟩]
abbrev Fd:List AO:=
 [o1 17 (.mv (.t 5)),o1 18 (.ld 5 true (.t 7)),o1 19 (.bs 111 5 1 [.n .i64 0,.n .i64 0,.n .i64 0,.n .i64 0,.n .u32 0] [(0,5,(.t 18))]),o1 20 (.app 111 5 40 (.t 17) (.t 19)),o1 5 (.mv (.t 20))]
abbrev Fm:AC:=
 (.seq (.reg Ff) (.seq (.reg Fe) (.cond (.t 16) (.reg Fd) .skip)))
abbrev Fc:List AO:=
 [o1 21 (.bin .add (.t 10) (.c (.n .i64 1))),o1 10 (.mv (.t 21))]
abbrev Fo:AC:=
 (.seq (.reg Fg) (.seq (.cond (.t 11) .skip (.exit 0)) (.seq (.block 1 Fm) (.reg Fc))))
abbrev yi:AC:=
 (.loop Fo)
abbrev yh:List AO:=
 [o1 22 (.mv (.t 5)),o1 4 (.mv (.t 22))]
abbrev N9:AF:=⟨23,(.seq (.reg Fk) (.seq (.reg Fj) (.seq (.seq (.reg Fh) (.block 0 yi)) (.seq (.reg yh) .ret)))),[.mv (.t 4)]⟩
theorem Fl:bi Tryz.prog (aj Tryz.prog 100) 100=some N9:=by kernel_rfl
/-! optimizer.without[optimizer.value]$1-/
abbrev Fa:List AO:=
 [o1 3 (.bx 37 0 (.t 0)),o1 4 (.mv (.c (.b false)))]
abbrev E9:List AO:=
 [o1 5 (.fa 0 (.t 1)),o1 6 (.ld 1 false (.t 5)),o1 7 (.ld 5 true (.t 3)),o1 8 (.ld 5 true (.t 2)),⟨some 9,none,.cl (.t 6) [(.t 7),(.t 8)]⟩,o1 4 (.mv (.t 9))]
abbrev N8:AF:=⟨10,(.seq (.reg Fa) (.seq (.reg E9) .ret)),[.mv (.t 4)]⟩
theorem Fb:bi Tryz.prog (aj Tryz.prog 116) 116=some N8:=by kernel_rfl
/-! slices.Contains[[]optimizer.value,optimizer.value]-/
abbrev E7:List AO:=
 [o1 3 (.bx 111 0 (.t 1)),o1 4 (.mv (.c (.b false)))]
abbrev E6:List AO:=
 [o1 5 (.mv (.t 0)),o1 6 (.ld 5 true (.t 3)),⟨some 7,none,.cl (.c (.f 141 [] [])) [(.t 5),(.t 6)]⟩,o1 8 (.bin .geq (.t 7) (.c (.n .i64 0))),o1 4 (.mv (.t 8))]
abbrev N7:AF:=⟨9,(.seq (.reg E7) (.seq (.reg E6) .ret)),[.mv (.t 4)]⟩
theorem E8:bi Tryz.prog (aj Tryz.prog 117) 117=some N7:=by kernel_rfl
/-! slices.Index[[]optimizer.value,optimizer.value]-/
abbrev E0:List AO:=
 [o1 3 (.bx 111 0 (.t 1)),o1 4 (.mv (.c (.n .i64 0)))]
abbrev EZ:List AO:=
 [o1 6 (.mv (.t 0)),o1 7 (.len (.t 6)),o1 8 (.mv (.c (.n .i64 0)))]
abbrev EY:List AO:=
 [o1 9 (.bin .lss (.t 8) (.t 7))]
abbrev EX:List AO:=
 [o1 10 (.mv (.t 8)),o1 5 (.mv (.t 10))]
abbrev E2:List (Nat×AO):=
 [(2,(o1 12 (.mv (.t 0)))),(2,(o1 13 (.mv (.t 5)))),(2,(o1 14 (.ia 5 (.t 12) (.t 13)))),(1,(o1 11 (.ld 5 true (.t 3)))),(1,(o1 15 (.ld 5 true (.t 14)))),(2,(o1 16 (.eq false (.st [(0,5,.st [(0,1,.n),(1,1,.n),(2,1,.n),(3,1,.n),(4,1,.n)])]) (.t 11) (.t 15))))]
abbrev EW:List AO:=
 [o1 17 (.mv (.t 5)),o1 4 (.mv (.t 17))]
abbrev E4:AC:=
 (.seq (.reg EX) (.seq (.mix E2) (.cond (.t 16) (.seq (.reg EW) .ret) .skip)))
abbrev EV:List AO:=
 [o1 18 (.bin .add (.t 8) (.c (.n .i64 1))),o1 8 (.mv (.t 18))]
abbrev E5:AC:=
 (.seq (.reg EY) (.seq (.cond (.t 9) .skip (.exit 0)) (.seq (.block 1 E4) (.reg EV))))
abbrev E3:AC:=
 (.loop E5)
abbrev yg:List AO:=
 [o1 4 (.mv (.c (.n .i64 (-1))))]
abbrev N6:AF:=⟨19,(.seq (.reg E0) (.seq (.seq (.reg EZ) (.block 0 E3)) (.seq (.reg yg) .ret))),[.mv (.t 4)]⟩
theorem E1:bi Tryz.prog (aj Tryz.prog 141) 141=some N6:=by kernel_rfl
/-! compactorref24.Share-/
abbrev EU:List AO:=
 [o1 1 (.bx 25 0 (.t 0)),o1 2 (.al 25 [.sl0,.n .i64 0,.n .i64 0,.sl0]),o1 3 (.mv (.c (.n .i64 0)))]
abbrev ET:List AO:=
 [o1 19 (.ld 4 true (.t 1)),⟨some 20,none,.cl (.c (.f 26 [] [])) [(.t 19)]⟩,o1 18 (.mv (.t 20)),o1 21 (.ext 0 (.t 18)),o1 22 (.ext 1 (.t 18)),o1 4 (.mv (.t 21)),o1 5 (.mv (.t 22))]
abbrev ES:List AO:=
 [o1 23 (.mv (.t 5)),o1 24 (.bin .neq (.t 23) (.c (.n .i64 0)))]
abbrev EP:List AO:=
 [o1 25 (.bd [.sl0,.n .i64 0,.n .i64 0,.sl0] []),o1 26 (.mv (.t 5)),⟨none,none,.ap (.st 4 (.t 2) (.t 25))⟩,o1 3 (.mv (.t 26))]
abbrev EO:List AO:=
 [o1 28 (.fa 3 (.t 1)),o1 29 (.ld 1 false (.t 28)),⟨some 30,none,.cl (.c (.f 27 [] [])) [(.t 29)]⟩,o1 27 (.mv (.t 30)),o1 31 (.ext 0 (.t 27)),o1 32 (.ext 1 (.t 27)),o1 33 (.ext 2 (.t 27)),o1 6 (.mv (.t 31)),o1 7 (.mv (.t 32)),o1 8 (.mv (.t 33))]
abbrev EM:List AO:=
 [o1 34 (.ld 4 true (.t 1)),⟨some 35,none,.cl (.c (.f 28 [] [])) [(.t 34)]⟩,o1 9 (.al 25 [.sl0,.n .i64 0,.n .i64 0,.sl0]),⟨none,none,.ap (.st 4 (.t 9) (.t 35))⟩]
abbrev EL:List AO:=
 [o1 36 (.fa 3 (.t 9)),⟨none,none,.ap (.st 1 (.t 36) (.c .sl0))⟩]
abbrev EJ:List AO:=
 [o1 10 (.mv (.c .sl0))]
abbrev EI:List AO:=
 [o1 11 (.mv (.c .sl0))]
abbrev EH:List AO:=
 [o1 12 (.mv (.c (.n .i64 0)))]
abbrev x4:List AO:=
 [o1 37 (.mv (.t 12)),o1 38 (.fa 3 (.t 1)),o1 39 (.ld 1 false (.t 38)),o1 40 (.len (.t 39)),o1 41 (.bin .lss (.t 37) (.t 40))]
abbrev xZ:List AO:=
 [o1 44 (.fa 3 (.t 1)),o1 45 (.ld 1 false (.t 44)),o1 46 (.mv (.t 12)),o1 47 (.ia 5 (.t 45) (.t 46)),o1 48 (.ld 5 true (.t 47)),o1 13 (.al 37 [.n .i64 0,.n .i64 0,.n .i64 0,.n .i64 0,.n .u32 0]),⟨none,none,.ap (.st 5 (.t 13) (.t 48))⟩]
abbrev xY:List AO:=
 [o1 49 (.mv (.t 11)),o1 50 (.len (.t 49)),o1 14 (.mv (.t 50))]
abbrev xX:List AO:=
 [o1 51 (.fa 0 (.t 13)),o1 52 (.ld 1 false (.t 51))]
abbrev xW:List AO:=
 [o1 54 (.bin .eql (.t 52) (.c (.n .i64 27))),o1 53 (.mv (.t 54))]
abbrev xV:List AO:=
 [o1 55 (.mv (.t 11)),o1 56 (.mv (.t 10)),o1 57 (.bs 65 1 1 [.sl0] [(0,1,(.t 56))]),o1 58 (.app 65 1 24 (.t 55) (.t 57)),o1 11 (.mv (.t 58))]
abbrev xU:List AO:=
 [o1 60 (.bin .eql (.t 52) (.c (.n .i64 28))),o1 59 (.mv (.t 60))]
abbrev xT:List AO:=
 [o1 61 (.mv (.t 11)),o1 62 (.mv (.t 14)),o1 63 (.bin .sub (.t 62) (.c (.n .i64 1))),o1 64 (.mv (.t 10)),o1 65 (.mv (.t 11)),o1 66 (.mv (.t 14)),o1 67 (.bin .sub (.t 66) (.c (.n .i64 1))),o1 68 (.ia 1 (.t 65) (.t 67)),o1 69 (.ld 1 false (.t 68)),o1 70 (.ia 1 (.t 61) (.t 63)),⟨none,none,.ap (.st 1 (.t 70) (.t 64))⟩,o1 10 (.mv (.t 69))]
abbrev xS:List AO:=
 [o1 72 (.bin .eql (.t 52) (.c (.n .i64 29))),o1 71 (.mv (.t 72))]
abbrev x9:List (Nat×AO):=
 [(2,(o1 73 (.mv (.t 10)))),(2,(o1 75 (.mv (.t 12)))),(2,(o1 76 (.mv (.t 6)))),(2,(o1 77 (.mv (.t 12)))),(2,(o1 78 (.ia 1 (.t 76) (.t 77)))),(2,(o1 82 (.mv (.t 12)))),(2,(o1 83 (.mv (.t 6)))),(2,(o1 84 (.mv (.t 12)))),(2,(o1 85 (.ia 1 (.t 83) (.t 84)))),(1,(o1 74 (.ld 4 true (.t 1)))),(1,(o1 79 (.ld 1 false (.t 78)))),(1,(o1 81 (.ld 4 true (.t 1)))),(1,(o1 86 (.ld 1 false (.t 85)))),(0,⟨some 80,none,.cl (.c (.f 31 [] [])) [(.t 74),(.t 75),(.t 79)]⟩),(3,⟨some 87,none,.cl (.c (.f 43 [] [])) [(.t 81),(.t 82),(.t 86)]⟩),(3,⟨some 88,none,.cl (.c (.f 42 [] [])) [(.t 73),(.t 80),(.t 87)]⟩),(2,(o1 10 (.mv (.t 88))))]
abbrev xR:List AO:=
 [o1 90 (.bin .eql (.t 52) (.c (.n .i64 31))),o1 89 (.mv (.t 90))]
abbrev x8:List (Nat×AO):=
 [(2,(o1 91 (.fa 3 (.t 1)))),(2,(o1 93 (.mv (.t 6)))),(2,(o1 94 (.mv (.t 12)))),(2,(o1 95 (.ia 1 (.t 93) (.t 94)))),(1,(o1 92 (.ld 1 false (.t 91)))),(1,(o1 96 (.ld 1 false (.t 95)))),(2,(o1 97 (.ia 5 (.t 92) (.t 96)))),(2,(o1 98 (.fa 0 (.t 97)))),(1,(o1 99 (.ld 1 false (.t 98)))),(2,(o1 100 (.bin .eql (.t 99) (.c (.n .i64 29)))))]
abbrev x7:List (Nat×AO):=
 [(2,(o1 101 (.mv (.t 10)))),(2,(o1 103 (.mv (.t 6)))),(2,(o1 104 (.mv (.t 12)))),(2,(o1 105 (.ia 1 (.t 103) (.t 104)))),(2,(o1 107 (.mv (.t 12)))),(2,(o1 110 (.mv (.t 6)))),(2,(o1 111 (.mv (.t 12)))),(2,(o1 112 (.ia 1 (.t 110) (.t 111)))),(2,(o1 114 (.mv (.t 12)))),(1,(o1 102 (.ld 4 true (.t 1)))),(1,(o1 106 (.ld 1 false (.t 105)))),(1,(o1 109 (.ld 4 true (.t 1)))),(1,(o1 113 (.ld 1 false (.t 112)))),(0,⟨some 108,none,.cl (.c (.f 31 [] [])) [(.t 102),(.t 106),(.t 107)]⟩),(3,⟨some 115,none,.cl (.c (.f 43 [] [])) [(.t 109),(.t 113),(.t 114)]⟩),(3,⟨some 116,none,.cl (.c (.f 42 [] [])) [(.t 101),(.t 108),(.t 115)]⟩),(2,(o1 10 (.mv (.t 116))))]
abbrev xQ:List AO:=
 [o1 117 (.mv (.t 10)),o1 118 (.mv (.t 11)),o1 119 (.mv (.t 14)),o1 120 (.bin .sub (.t 119) (.c (.n .i64 1))),o1 121 (.ia 1 (.t 118) (.t 120)),o1 122 (.ld 1 false (.t 121)),⟨some 123,none,.cl (.c (.f 44 [] [])) [(.t 117),(.t 122)]⟩,o1 10 (.mv (.t 123))]
abbrev xP:List AO:=
 [o1 124 (.mv (.t 11)),o1 125 (.mv (.t 14)),o1 126 (.bin .sub (.t 125) (.c (.n .i64 1))),o1 127 (.sl 1 (.t 124) none (some (.t 126))),o1 11 (.mv (.t 127))]
abbrev ye:AC:=
 (.seq (.reg xW) (.cond (.t 53) (.reg xV) (.seq (.reg xU) (.cond (.t 59) (.reg xT) (.seq (.reg xS) (.cond (.t 71) (.mix x9) (.seq (.reg xR) (.cond (.t 89) (.seq (.mix x8) (.cond (.t 100) (.mix x7) (.seq (.reg xQ) (.reg xP)))) .skip))))))))
abbrev xO:List AO:=
 [o1 15 (.mv (.c (.n .i64 (-1))))]
abbrev xN:List AO:=
 [o1 128 (.fa 0 (.t 13)),o1 129 (.ld 1 false (.t 128)),⟨some 130,none,.cl (.c (.f 45 [] [])) [(.t 129)]⟩]
abbrev xM:List AO:=
 [o1 131 (.mv (.t 10)),o1 132 (.ld 5 true (.t 13)),⟨some 133,none,.cl (.c (.f 46 [] [])) [(.t 131),(.t 132)]⟩,o1 15 (.mv (.t 133))]
abbrev x6:List (Nat×AO):=
 [(2,(o1 134 (.mv (.t 15)))),(2,(o1 135 (.bin .geq (.t 134) (.c (.n .i64 0))))),(2,(o1 136 (.mv (.t 135)))),(2,⟨some 137,some (136,true),.ap (.mv (.t 10))⟩),(2,⟨some 138,some (136,true),.ap (.mv (.t 15))⟩),(2,⟨some 139,some (136,true),.ap (.ia 5 (.t 137) (.t 138))⟩),(2,⟨some 140,some (136,true),.ap (.fa 0 (.t 139))⟩),(2,⟨some 141,some (136,true),.ap (.fa 1 (.t 140))⟩),(2,⟨some 143,some (136,true),.ap (.fa 1 (.t 13))⟩),(1,⟨some 142,some (136,true),.ap (.ld 1 false (.t 141))⟩),(1,⟨some 144,some (136,true),.ap (.ld 1 false (.t 143))⟩),(2,⟨some 145,some (136,true),.ap (.bin .eql (.t 142) (.t 144))⟩),(2,(o1 146 (.pick (.t 136) (.t 145) (.c (.b false)))))]
abbrev xL:List AO:=
 [o1 147 (.ld 5 true (.t 13)),o1 16 (.al 37 [.n .i64 0,.n .i64 0,.n .i64 0,.n .i64 0,.n .u32 0]),⟨none,none,.ap (.st 5 (.t 16) (.t 147))⟩]
abbrev xK:List AO:=
 [o1 148 (.mv (.t 15)),o1 149 (.bin .geq (.t 148) (.c (.n .i64 0)))]
abbrev x5:List (Nat×AO):=
 [(2,(o1 150 (.fa 1 (.t 13)))),(2,(o1 152 (.mv (.t 10)))),(2,(o1 153 (.mv (.t 15)))),(2,(o1 154 (.ia 5 (.t 152) (.t 153)))),(2,(o1 155 (.fa 0 (.t 154)))),(2,(o1 156 (.fa 1 (.t 155)))),(1,(o1 151 (.ld 1 false (.t 150)))),(1,(o1 157 (.ld 1 false (.t 156)))),(2,(o1 158 (.bd [.n .i64 0,.n .i64 0,.n .i64 0,.n .i64 0,.n .u32 0] [(0,1,(.c (.n .i64 36))),(1,1,(.t 151)),(2,1,(.t 157)),(3,1,(.c (.n .i64 (-1))))]))),(3,⟨none,none,.ap (.st 5 (.t 16) (.t 158))⟩)]
abbrev sr:List (Nat×AO):=
 [(2,(o1 159 (.mv (.t 10)))),(2,(o1 161 (.mv (.t 12)))),(2,(o1 162 (.mv (.t 12)))),(2,(o1 163 (.bin .add (.t 162) (.c (.n .i64 1))))),(2,(o1 166 (.mv (.t 12)))),(2,(o1 167 (.mv (.t 12)))),(2,(o1 168 (.bin .add (.t 167) (.c (.n .i64 1))))),(1,(o1 160 (.ld 4 true (.t 1)))),(1,(o1 165 (.ld 4 true (.t 1)))),(0,⟨some 164,none,.cl (.c (.f 31 [] [])) [(.t 160),(.t 161),(.t 163)]⟩),(3,⟨some 169,none,.cl (.c (.f 43 [] [])) [(.t 165),(.t 166),(.t 168)]⟩),(3,⟨some 170,none,.cl (.c (.f 42 [] [])) [(.t 159),(.t 164),(.t 169)]⟩),(2,(o1 10 (.mv (.t 170))))]
abbrev so:List AO:=
 [o1 171 (.fa 0 (.t 13)),o1 172 (.ld 1 false (.t 171)),⟨some 173,none,.cl (.c (.f 45 [] [])) [(.t 172)]⟩,o1 174 (.mv (.t 173)),⟨some 175,some (174,true),.ap (.mv (.t 15))⟩,⟨some 176,some (174,true),.ap (.bin .lss (.t 175) (.c (.n .i64 0)))⟩,o1 177 (.pick (.t 174) (.t 176) (.c (.b false))),o1 178 (.mv (.t 177)),⟨some 179,some (178,true),.ap (.fa 1 (.t 13))⟩,⟨some 180,some (178,true),.ap (.ld 1 false (.t 179))⟩,⟨some 181,some (178,true),.ap (.fa 2 (.t 13))⟩,⟨some 182,some (178,true),.ap (.ld 1 false (.t 181))⟩,⟨some 183,some (178,true),.ap (.bin .neq (.t 180) (.t 182))⟩,o1 184 (.pick (.t 178) (.t 183) (.c (.b false))),o1 185 (.mv (.t 184)),⟨some 186,some (185,true),.ap (.fa 1 (.t 13))⟩,⟨some 187,some (185,true),.ap (.ld 1 false (.t 186))⟩,⟨some 188,some (185,true),.ap (.fa 3 (.t 13))⟩,⟨some 189,some (185,true),.ap (.ld 1 false (.t 188))⟩,⟨some 190,some (185,true),.ap (.bin .neq (.t 187) (.t 189))⟩,o1 191 (.pick (.t 185) (.t 190) (.c (.b false)))]
abbrev sk:List AO:=
 [o1 17 (.mv (.c .sl0))]
abbrev sq:List (Nat×AO):=
 [(2,(o1 192 (.mv (.t 17)))),(2,(o1 193 (.mv (.t 10)))),(1,(o1 195 (.ld 5 true (.t 13)))),(2,(o1 196 (.bd [.n .i64 0,.n .i64 0,.n .i64 0,.n .i64 0,.n .u32 0] [(0,5,(.t 195))])))]
abbrev sj:AT:=
 (.alt (o1 194 (.app 72 5 40 (.t 192) (.t 193))) (.alt (o1 197 (.bs 72 5 1 [.n .i64 0,.n .i64 0,.n .i64 0,.n .i64 0,.n .u32 0] [(0,5,(.t 196))])) (.alt (o1 198 (.app 72 5 40 (.t 194) (.t 197))) (.alt (o1 10 (.mv (.t 198))) .fin .none) .none) .none) (.alt (o1 197 (.bs 72 5 1 [.n .i64 0,.n .i64 0,.n .i64 0,.n .i64 0,.n .u32 0] [(0,5,(.t 196))])) (.alt (o1 194 (.app 72 5 40 (.t 192) (.t 193))) (.alt (o1 198 (.app 72 5 40 (.t 194) (.t 197))) (.alt (o1 10 (.mv (.t 198))) .fin .none) .none) .none) .none))
abbrev og:List AO:=
 [o1 199 (.fa 3 (.t 9)),o1 200 (.ld 1 false (.t 199)),o1 201 (.ld 5 true (.t 16)),o1 202 (.bs 37 5 1 [.n .i64 0,.n .i64 0,.n .i64 0,.n .i64 0,.n .u32 0] [(0,5,(.t 201))]),o1 203 (.app 37 5 40 (.t 200) (.t 202)),o1 204 (.fa 3 (.t 9)),⟨none,none,.ap (.st 1 (.t 204) (.t 203))⟩]
abbrev yd:AC:=
 (.seq (.reg xZ) (.seq (.reg xY) (.seq (.seq (.reg xX) (.block 2 ye)) (.seq (.reg xO) (.seq (.seq (.reg xN) (.cond (.t 130) (.reg xM) .skip)) (.seq (.seq (.mix x6) (.cond (.t 146) (.exit 1) .skip)) (.seq (.reg xL) (.seq (.seq (.reg xK) (.cond (.t 149) (.mix x5) .skip)) (.seq (.mix sr) (.seq (.seq (.reg so) (.cond (.t 191) (.seq (.reg sk) (.frk sq sj)) .skip)) (.reg og)))))))))))
abbrev xJ:List AO:=
 [o1 42 (.mv (.t 12)),o1 43 (.bin .add (.t 42) (.c (.n .i64 1))),o1 12 (.mv (.t 43))]
abbrev yf:AC:=
 (.seq (.seq (.reg x4) (.cond (.t 41) .skip (.exit 0))) (.seq (.block 1 yd) (.reg xJ)))
abbrev yc:AC:=
 (.loop yf)
abbrev xI:List AO:=
 [o1 205 (.ld 4 true (.t 9)),⟨none,none,.ap (.st 4 (.t 2) (.t 205))⟩,o1 3 (.mv (.c (.n .i64 0)))]
abbrev N5:AF:=⟨206,(.seq (.reg EU) (.seq (.seq (.reg ET) (.seq (.reg ES) (.cond (.t 24) (.seq (.reg EP) .ret) .skip))) (.seq (.reg EO) (.seq (.reg EM) (.seq (.reg EL) (.seq (.reg EJ) (.seq (.reg EI) (.seq (.seq (.reg EH) (.block 0 yc)) (.seq (.reg xI) .ret))))))))),[.ld 4 true (.t 2),.mv (.t 3)]⟩
theorem wL:bi Tryz.prog (aj Tryz.prog 16) 16=some N5:=by kernel_rfl
/-! compactorref24.keep-/
abbrev EE:List AO:=
 [o1 6 (.mv (.c .sl0))]
abbrev ED:List AO:=
 [o1 7 (.mv (.c .sl0))]
abbrev EC:List AO:=
 [o1 8 (.mv (.c (.n .i64 0)))]
abbrev EB:List AO:=
 [o1 11 (.mv (.t 8)),o1 12 (.mv (.t 0)),o1 13 (.len (.t 12)),o1 14 (.bin .lss (.t 11) (.t 13))]
abbrev EA:List AO:=
 [o1 17 (.mv (.t 0)),o1 18 (.mv (.t 8)),o1 19 (.ia 5 (.t 17) (.t 18)),o1 20 (.fa 0 (.t 19)),o1 21 (.ld 5 true (.t 20)),o1 9 (.al 37 [.n .i64 0,.n .i64 0,.n .i64 0,.n .i64 0,.n .u32 0]),⟨none,none,.ap (.st 5 (.t 9) (.t 21))⟩]
abbrev Ez:List AO:=
 [o1 22 (.mv (.t 1)),o1 23 (.fa 1 (.t 9)),o1 24 (.ld 1 false (.t 23)),o1 25 (.ia 1 (.t 22) (.t 24)),o1 26 (.ld 1 false (.t 25)),o1 27 (.mv (.t 26)),⟨some 28,some (27,false),.ap (.fa 2 (.t 9))⟩,⟨some 29,some (27,false),.ap (.ld 1 false (.t 28))⟩,⟨some 30,some (27,false),.ap (.bin .geq (.t 29) (.c (.n .i64 0)))⟩,⟨some 31,some (27,false),.ap (.mv (.t 30))⟩,⟨some 32,some (31,true),.ap (.mv (.t 1))⟩,⟨some 33,some (31,true),.ap (.fa 2 (.t 9))⟩,⟨some 34,some (31,true),.ap (.ld 1 false (.t 33))⟩,⟨some 35,some (31,true),.ap (.ia 1 (.t 32) (.t 34))⟩,⟨some 36,some (31,true),.ap (.ld 1 false (.t 35))⟩,⟨some 37,some (27,false),.ap (.pick (.t 31) (.t 36) (.c (.b false)))⟩,o1 38 (.pick (.t 27) (.c (.b true)) (.t 37)),o1 39 (.mv (.t 38)),⟨some 40,some (39,false),.ap (.fa 3 (.t 9))⟩,⟨some 41,some (39,false),.ap (.ld 1 false (.t 40))⟩,⟨some 42,some (39,false),.ap (.bin .geq (.t 41) (.c (.n .i64 0)))⟩,⟨some 43,some (39,false),.ap (.mv (.t 42))⟩,⟨some 44,some (43,true),.ap (.mv (.t 1))⟩,⟨some 45,some (43,true),.ap (.fa 3 (.t 9))⟩,⟨some 46,some (43,true),.ap (.ld 1 false (.t 45))⟩,⟨some 47,some (43,true),.ap (.ia 1 (.t 44) (.t 46))⟩,⟨some 48,some (43,true),.ap (.ld 1 false (.t 47))⟩,⟨some 49,some (39,false),.ap (.pick (.t 43) (.t 48) (.c (.b false)))⟩,o1 50 (.pick (.t 39) (.c (.b true)) (.t 49)),o1 51 (.mv (.t 50)),⟨some 52,some (51,false),.ap (.fa 0 (.t 9))⟩,⟨some 53,some (51,false),.ap (.ld 1 false (.t 52))⟩,⟨some 54,some (51,false),.ap (.bin .eql (.t 53) (.c (.n .i64 3)))⟩,⟨some 55,some (51,false),.ap (.mv (.t 54))⟩,⟨some 56,some (55,true),.ap (.mv (.t 2))⟩,⟨some 57,some (55,true),.ap (.fa 4 (.t 9))⟩,⟨some 58,some (55,true),.ap (.ld 1 false (.t 57))⟩,⟨some 59,some (55,true),.ap (.ia 1 (.t 56) (.t 58))⟩,⟨some 60,some (55,true),.ap (.ld 1 false (.t 59))⟩,⟨some 61,some (51,false),.ap (.pick (.t 55) (.t 60) (.c (.b false)))⟩,o1 62 (.pick (.t 51) (.c (.b true)) (.t 61)),o1 10 (.mv (.t 62))]
abbrev Ey:List AO:=
 [o1 63 (.mv (.t 10)),o1 64 (.un .not (.t 63))]
abbrev Ex:List AO:=
 [o1 65 (.mv (.t 7)),o1 66 (.mv (.t 0)),o1 67 (.mv (.t 8)),o1 68 (.ia 5 (.t 66) (.t 67)),o1 69 (.ld 5 true (.t 68)),o1 70 (.bs 72 5 1 [.n .i64 0,.n .i64 0,.n .i64 0,.n .i64 0,.n .u32 0] [(0,5,(.t 69))]),o1 71 (.app 72 5 40 (.t 65) (.t 70)),o1 7 (.mv (.t 71))]
abbrev EG:AC:=
 (.seq (.reg EA) (.seq (.reg Ez) (.seq (.reg Ey) (.cond (.t 64) (.reg Ex) .skip))))
abbrev Ew:List AO:=
 [o1 15 (.mv (.t 8)),o1 16 (.bin .add (.t 15) (.c (.n .i64 1))),o1 8 (.mv (.t 16))]
abbrev xH:AC:=
 (.seq (.seq (.reg EB) (.cond (.t 14) .skip (.exit 0))) (.seq (.block 1 EG) (.reg Ew)))
abbrev xG:AC:=
 (.loop xH)
abbrev xF:List AO:=
 [o1 72 (.mv (.t 7)),o1 6 (.mv (.t 72))]
abbrev N4:AF:=⟨73,(.seq (.reg EE) (.seq (.reg ED) (.seq (.seq (.reg EC) (.block 0 xG)) (.seq (.reg xF) .ret)))),[.mv (.t 6)]⟩
theorem EF:bi Tryz.prog (aj Tryz.prog 42) 42=some N4:=by kernel_rfl
/-! compactorref24.changes-/
abbrev Er:List AO:=
 [o1 3 (.bx 25 0 (.t 0)),o1 6 (.mv (.c .sl0))]
abbrev Ep:List AO:=
 [o1 9 (.fa 0 (.t 3)),o1 10 (.ld 1 false (.t 9)),o1 11 (.len (.t 10)),o1 12 (.ms 4 1 1 [.b false] (.t 11) (.t 11)),o1 7 (.mv (.t 12))]
abbrev Eo:List AO:=
 [o1 13 (.mv (.t 1)),o1 8 (.mv (.t 13))]
abbrev En:List AO:=
 [o1 14 (.mv (.t 8)),o1 15 (.mv (.t 2)),o1 16 (.bin .lss (.t 14) (.t 15))]
abbrev Em:List AO:=
 [o1 19 (.fa 3 (.t 3)),o1 20 (.ld 1 false (.t 19)),o1 21 (.mv (.t 8)),o1 22 (.ia 5 (.t 20) (.t 21)),o1 23 (.fa 0 (.t 22)),o1 24 (.ld 1 false (.t 23)),o1 25 (.bin .eql (.t 24) (.c (.n .i64 4)))]
abbrev El:List AO:=
 [o1 26 (.mv (.t 7)),o1 27 (.fa 3 (.t 3)),o1 28 (.ld 1 false (.t 27)),o1 29 (.mv (.t 8)),o1 30 (.ia 5 (.t 28) (.t 29)),o1 31 (.fa 4 (.t 30)),o1 32 (.ld 1 false (.t 31)),o1 33 (.ia 1 (.t 26) (.t 32)),⟨none,none,.ap (.st 1 (.t 33) (.c (.b true)))⟩]
abbrev Eu:AC:=
 (.seq (.reg Em) (.cond (.t 25) (.reg El) .skip))
abbrev Ek:List AO:=
 [o1 17 (.mv (.t 8)),o1 18 (.bin .add (.t 17) (.c (.n .i64 1))),o1 8 (.mv (.t 18))]
abbrev Ev:AC:=
 (.seq (.seq (.reg En) (.cond (.t 16) .skip (.exit 0))) (.seq (.block 1 Eu) (.reg Ek)))
abbrev Et:AC:=
 (.loop Ev)
abbrev xE:List AO:=
 [o1 34 (.mv (.t 7)),o1 6 (.mv (.t 34))]
abbrev N3:AF:=⟨35,(.seq (.reg Er) (.seq (.reg Ep) (.seq (.seq (.reg Eo) (.block 0 Et)) (.seq (.reg xE) .ret)))),[.mv (.t 6)]⟩
theorem Es:bi Tryz.prog (aj Tryz.prog 43) 43=some N3:=by kernel_rfl
/-! compactorref24.bothFacts-/
abbrev Ef:List AO:=
 [o1 4 (.mv (.c .sl0))]
abbrev Ee:List AO:=
 [o1 5 (.mv (.c .sl0))]
abbrev Ed:List AO:=
 [o1 6 (.mv (.c (.n .i64 0)))]
abbrev Ec:List AO:=
 [o1 8 (.mv (.t 6)),o1 9 (.mv (.t 0)),o1 10 (.len (.t 9)),o1 11 (.bin .lss (.t 8) (.t 10))]
abbrev Eb:List AO:=
 [o1 14 (.mv (.t 1)),o1 15 (.mv (.t 0)),o1 16 (.mv (.t 6)),o1 17 (.ia 5 (.t 15) (.t 16)),o1 18 (.fa 0 (.t 17)),o1 19 (.ld 5 true (.t 18)),⟨some 20,none,.cl (.c (.f 46 [] [])) [(.t 14),(.t 19)]⟩,o1 7 (.mv (.t 20))]
abbrev Eh:List (Nat×AO):=
 [(2,(o1 21 (.mv (.t 7)))),(2,(o1 22 (.bin .geq (.t 21) (.c (.n .i64 0))))),(2,(o1 23 (.mv (.t 22)))),(2,⟨some 24,some (23,true),.ap (.mv (.t 1))⟩),(2,⟨some 25,some (23,true),.ap (.mv (.t 7))⟩),(2,⟨some 26,some (23,true),.ap (.ia 5 (.t 24) (.t 25))⟩),(2,⟨some 27,some (23,true),.ap (.fa 0 (.t 26))⟩),(2,⟨some 28,some (23,true),.ap (.fa 1 (.t 27))⟩),(2,⟨some 30,some (23,true),.ap (.mv (.t 0))⟩),(2,⟨some 31,some (23,true),.ap (.mv (.t 6))⟩),(2,⟨some 32,some (23,true),.ap (.ia 5 (.t 30) (.t 31))⟩),(2,⟨some 33,some (23,true),.ap (.fa 0 (.t 32))⟩),(2,⟨some 34,some (23,true),.ap (.fa 1 (.t 33))⟩),(1,⟨some 29,some (23,true),.ap (.ld 1 false (.t 28))⟩),(1,⟨some 35,some (23,true),.ap (.ld 1 false (.t 34))⟩),(2,⟨some 36,some (23,true),.ap (.bin .eql (.t 29) (.t 35))⟩),(2,(o1 37 (.pick (.t 23) (.t 36) (.c (.b false)))))]
abbrev Ea:List AO:=
 [o1 38 (.mv (.t 5)),o1 39 (.mv (.t 0)),o1 40 (.mv (.t 6)),o1 41 (.ia 5 (.t 39) (.t 40)),o1 42 (.ld 5 true (.t 41)),o1 43 (.bs 72 5 1 [.n .i64 0,.n .i64 0,.n .i64 0,.n .i64 0,.n .u32 0] [(0,5,(.t 42))]),o1 44 (.app 72 5 40 (.t 38) (.t 43)),o1 5 (.mv (.t 44))]
abbrev Ei:AC:=
 (.seq (.reg Eb) (.seq (.mix Eh) (.cond (.t 37) (.reg Ea) .skip)))
abbrev D9:List AO:=
 [o1 12 (.mv (.t 6)),o1 13 (.bin .add (.t 12) (.c (.n .i64 1))),o1 6 (.mv (.t 13))]
abbrev Ej:AC:=
 (.seq (.seq (.reg Ec) (.cond (.t 11) .skip (.exit 0))) (.seq (.block 1 Ei) (.reg D9)))
abbrev xD:AC:=
 (.loop Ej)
abbrev xC:List AO:=
 [o1 45 (.mv (.t 5)),o1 4 (.mv (.t 45))]
abbrev N2:AF:=⟨46,(.seq (.reg Ef) (.seq (.reg Ee) (.seq (.seq (.reg Ed) (.block 0 xD)) (.seq (.reg xC) .ret)))),[.mv (.t 4)]⟩
theorem Eg:bi Tryz.prog (aj Tryz.prog 44) 44=some N2:=by kernel_rfl
/-! compactorref24.expression-/
abbrev D7:List AO:=
 [o1 2 (.mv (.c (.b false)))]
abbrev D6:List AO:=
 [o1 3 (.mv (.t 0)),o1 4 (.bin .eql (.t 3) (.c (.n .i64 3))),o1 5 (.mv (.t 4)),⟨some 6,some (5,false),.ap (.mv (.t 0))⟩,⟨some 7,some (5,false),.ap (.bin .geq (.t 6) (.c (.n .i64 8)))⟩,⟨some 8,some (5,false),.ap (.mv (.t 7))⟩,⟨some 9,some (8,true),.ap (.mv (.t 0))⟩,⟨some 10,some (8,true),.ap (.bin .leq (.t 9) (.c (.n .i64 26)))⟩,⟨some 11,some (5,false),.ap (.pick (.t 8) (.t 10) (.c (.b false)))⟩,o1 12 (.pick (.t 5) (.c (.b true)) (.t 11)),o1 13 (.mv (.t 12)),⟨some 14,some (13,false),.ap (.mv (.t 0))⟩,⟨some 15,some (13,false),.ap (.bin .eql (.t 14) (.c (.n .i64 32)))⟩,o1 16 (.pick (.t 13) (.c (.b true)) (.t 15)),o1 17 (.mv (.t 16)),⟨some 18,some (17,false),.ap (.mv (.t 0))⟩,⟨some 19,some (17,false),.ap (.bin .eql (.t 18) (.c (.n .i64 33)))⟩,o1 20 (.pick (.t 17) (.c (.b true)) (.t 19)),o1 2 (.mv (.t 20))]
abbrev NY:AF:=⟨21,(.seq (.reg D7) (.seq (.reg D6) .ret)),[.mv (.t 2)]⟩
theorem D8:bi Tryz.prog (aj Tryz.prog 45) 45=some NY:=by kernel_rfl
/-! compactorref24.find-/
abbrev D1:List AO:=
 [o1 3 (.bx 37 0 (.t 1)),o1 4 (.mv (.c (.n .i64 0)))]
abbrev D0:List AO:=
 [o1 5 (.mv (.c (.n .i64 0)))]
abbrev DZ:List AO:=
 [o1 7 (.mv (.t 5)),o1 8 (.mv (.t 0)),o1 9 (.len (.t 8)),o1 10 (.bin .lss (.t 7) (.t 9))]
abbrev DY:List AO:=
 [o1 13 (.mv (.t 0)),o1 14 (.mv (.t 5)),o1 15 (.ia 5 (.t 13) (.t 14)),o1 16 (.fa 0 (.t 15)),o1 17 (.ld 5 true (.t 16)),o1 6 (.al 37 [.n .i64 0,.n .i64 0,.n .i64 0,.n .i64 0,.n .u32 0]),⟨none,none,.ap (.st 5 (.t 6) (.t 17))⟩]
abbrev DX:List AO:=
 [o1 18 (.fa 0 (.t 6)),o1 19 (.ld 1 false (.t 18)),o1 20 (.fa 0 (.t 3)),o1 21 (.ld 1 false (.t 20)),o1 22 (.bin .eql (.t 19) (.t 21)),o1 23 (.mv (.t 22)),⟨some 24,some (23,true),.ap (.fa 2 (.t 6))⟩,⟨some 25,some (23,true),.ap (.ld 1 false (.t 24))⟩,⟨some 26,some (23,true),.ap (.fa 2 (.t 3))⟩,⟨some 27,some (23,true),.ap (.ld 1 false (.t 26))⟩,⟨some 28,some (23,true),.ap (.bin .eql (.t 25) (.t 27))⟩,o1 29 (.pick (.t 23) (.t 28) (.c (.b false))),o1 30 (.mv (.t 29)),⟨some 31,some (30,true),.ap (.fa 3 (.t 6))⟩,⟨some 32,some (30,true),.ap (.ld 1 false (.t 31))⟩,⟨some 33,some (30,true),.ap (.fa 3 (.t 3))⟩,⟨some 34,some (30,true),.ap (.ld 1 false (.t 33))⟩,⟨some 35,some (30,true),.ap (.bin .eql (.t 32) (.t 34))⟩,o1 36 (.pick (.t 30) (.t 35) (.c (.b false))),o1 37 (.mv (.t 36)),⟨some 38,some (37,true),.ap (.fa 4 (.t 6))⟩,⟨some 39,some (37,true),.ap (.ld 1 false (.t 38))⟩,⟨some 40,some (37,true),.ap (.fa 4 (.t 3))⟩,⟨some 41,some (37,true),.ap (.ld 1 false (.t 40))⟩,⟨some 42,some (37,true),.ap (.bin .eql (.t 39) (.t 41))⟩,o1 43 (.pick (.t 37) (.t 42) (.c (.b false)))]
abbrev DW:List AO:=
 [o1 44 (.mv (.t 5)),o1 4 (.mv (.t 44))]
abbrev D4:AC:=
 (.seq (.reg DY) (.seq (.reg DX) (.cond (.t 43) (.seq (.reg DW) .ret) .skip)))
abbrev DV:List AO:=
 [o1 11 (.mv (.t 5)),o1 12 (.bin .add (.t 11) (.c (.n .i64 1))),o1 5 (.mv (.t 12))]
abbrev D5:AC:=
 (.seq (.seq (.reg DZ) (.cond (.t 10) .skip (.exit 0))) (.seq (.block 1 D4) (.reg DV)))
abbrev D3:AC:=
 (.loop D5)
abbrev xB:List AO:=
 [o1 4 (.mv (.c (.n .i64 (-1))))]
abbrev NW:AF:=⟨45,(.seq (.reg D1) (.seq (.seq (.reg D0) (.block 0 D3)) (.seq (.reg xB) .ret))),[.mv (.t 4)]⟩
theorem D2:bi Tryz.prog (aj Tryz.prog 46) 46=some NW:=by kernel_rfl
/-! compactorlaw24.OptimizerShares-/
abbrev DU:List AO:=
 [o1 1 (.bx 25 0 (.t 0)),o1 2 (.mv (.c (.b false)))]
abbrev DT:List AO:=
 [o1 7 (.ld 4 true (.t 1)),⟨some 8,none,.cl (.c (.f 8 [] [])) [(.t 7)]⟩,o1 9 (.un .not (.t 8))]
abbrev DS:List AO:=
 [⟨some 10,none,.cl (.c (.f 9 [] [])) []⟩,o1 2 (.mv (.t 10))]
abbrev DR:List AO:=
 [o1 12 (.ld 4 true (.t 1)),⟨some 13,none,.cl (.c (.f 15 [] [])) [(.t 12)]⟩,o1 11 (.mv (.t 13)),o1 14 (.ext 0 (.t 11)),o1 15 (.ext 1 (.t 11)),o1 3 (.al 25 [.sl0,.n .i64 0,.n .i64 0,.sl0]),⟨none,none,.ap (.st 4 (.t 3) (.t 14))⟩,o1 4 (.mv (.t 15))]
abbrev DQ:List AO:=
 [o1 17 (.ld 4 true (.t 1)),⟨some 18,none,.cl (.c (.f 16 [] [])) [(.t 17)]⟩,o1 16 (.mv (.t 18)),o1 19 (.ext 0 (.t 16)),o1 20 (.ext 1 (.t 16)),o1 5 (.al 25 [.sl0,.n .i64 0,.n .i64 0,.sl0]),⟨none,none,.ap (.st 4 (.t 5) (.t 19))⟩,o1 6 (.mv (.t 20))]
abbrev DP:List AO:=
 [⟨some 21,none,.cl (.c (.f 9 [] [])) []⟩,o1 22 (.mv (.t 21)),⟨some 23,some (22,true),.ap (.ld 4 true (.t 3))⟩,⟨some 24,some (22,true),.ap (.ld 4 true (.t 5))⟩,⟨some 25,some (22,true),.cl (.c (.f 12 [] [])) [(.t 23),(.t 24)]⟩,o1 26 (.pick (.t 22) (.t 25) (.c (.b false))),o1 27 (.mv (.t 26)),⟨some 28,some (27,true),.ap (.mv (.t 4))⟩,⟨some 29,some (27,true),.ap (.mv (.t 6))⟩,⟨some 30,some (27,true),.ap (.bin .eql (.t 28) (.t 29))⟩,o1 31 (.pick (.t 27) (.t 30) (.c (.b false))),o1 2 (.mv (.t 31))]
abbrev NV:AF:=⟨32,(.seq (.reg DU) (.seq (.seq (.reg DT) (.cond (.t 9) (.seq (.reg DS) .ret) .skip)) (.seq (.reg DR) (.seq (.reg DQ) (.seq (.reg DP) .ret))))),[.mv (.t 2)]⟩
theorem si:bi Tryz.prog (aj Tryz.prog 5) 5=some NV:=by kernel_rfl
end Go.Proofs.YtidhfimbnjaceaaGreat