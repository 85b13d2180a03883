/- A part of the proof of CostLimits. No condition. -/
import Derived.Test.YtdpkgnmmikebdaaGreatGi14
import Derived.Test.YtdpkgnmmikebdaaGreatProg
import Derived.Test.YtdpkgnmmikebdaaGreatGip
set_option linter.unusedSimpArgs false
set_option linter.unusedVariables false
set_option linter.constructorNameAsVariable false
set_option maxRecDepth 100000
set_option maxHeartbeats 4000000
namespace Go.Proofs.YtdpkgnmmikebdaaGreat
open Go.RowKit
abbrev avf:=[o1 0 (.mv (.c (.b false)))]
abbrev ave:=[o2 14 20 [],o1 1 (.al 25 [.sl0,aq 0,.sl0]),(aJ 3 1 14)]
abbrev avd:=[ax 16 3 1,o2 17 12 [.t 16],mt 15 17,aA 18 0 15,aA 19 1 15,aA 20 2 15,o1 2 (.al 38 [aq 0,aq 0,aq 0,.sl0]),(aJ 4 2 18),mt 3 19,mt 4 20]
abbrev avc:=[mt 21 4,aC 22 .neq 21 0,mt 23 22,o4 24 23 (.fa 3 (.t 2)),o4 25 23 (.ld 1 false (.t 24)),o4 26 23 (.len (.t 25)),o4 27 23 (.bin .neq (.t 26) (ci 1)),aG 28 23 27]
abbrev avb:=[o1 0 (.mv (.c (.b false)))]
abbrev ava:=[ax 30 3 1,ax 31 4 2,o2 32 13 [.t 30,.t 31],mt 29 32,aA 33 0 29,aA 34 1 29,mt 5 33,mt 6 34]
abbrev au9:=[ay 35 3 2,aw 36 35,o1 37 (.ia 3 (.t 36) (ci 0)),ay 38 1 37,o3 (.st 1 (.t 38) (ci 0))]
abbrev au8:=[ax 40 3 1,ax 41 4 2,o2 42 13 [.t 40,.t 41],mt 39 42,aA 43 0 39,aA 44 1 39,mt 7 43,mt 8 44]
abbrev au7:=[ax 46 3 1,o2 47 15 [.t 46],mt 45 47,aA 48 0 45,aA 49 1 45,mt 9 48,mt 10 49]
abbrev au6:=[ax 51 3 1,o2 52 10 [.t 51,(ci 3)],mt 50 52,aA 53 0 50,aA 54 1 50,o1 11 (.al 29 [aq 0,aq 0]),(aJ 2 11 53),mt 12 54]
abbrev akX:=[mt 55 6,mt 56 8,aD 57 .add 55 56,mt 58 10,aD 59 .add 57 58,mt 60 12,aD 61 .add 59 60,aC 62 .neq 61 0,mt 63 62,o4 64 63 (.mv (.t 5)),o4 65 63 (.bin .neq (.t 64) (ci 32)),aG 66 63 65,mt 67 66,o4 68 67 (.mv (.t 7)),o4 69 67 (.bin .neq (.t 68) (ci 2)),aG 70 67 69,mt 71 70,o4 72 71 (.mv (.t 9)),o4 73 71 (.bin .neq (.t 72) (ci 196)),aG 74 71 73,mt 75 74,o4 76 75 (.ld 2 true (.t 11)),o4 77 75 (.bd [aq 0,aq 0] [(0,1,(ci 196)),(1,1,(ci 128))]),o4 78 75 (.eq true (.st [(0,1,.n),(1,1,.n)]) (.t 76) (.t 77)),aG 79 75 78]
abbrev akW:=[o1 0 (.mv (.c (.b false)))]
abbrev akV:=[o1 80 (.bd [aq 0,aq 0] [(0,1,(ci 5)),(1,1,(ci 7))]),o1 13 (.al 29 [aq 0,aq 0]),(aJ 2 13 80)]
abbrev akU:=[ax 81 2 13,o1 82 (.bd [aq 0,aq 0] [(0,1,(ci 1)),(1,1,(ci 2))]),o2 83 21 [.t 81,.t 82],o1 84 (.bd [aq 0,aq 0] [(0,1,(ci 6)),(1,1,(ci 9))]),o1 85 (.eq false (.st [(0,1,.n),(1,1,.n)]) (.t 83) (.t 84)),mt 86 85,o5 87 86 (.ld 2 true (.t 13)),o5 88 86 (.bd [aq 0,aq 0] [(0,1,(ci 5)),(1,1,(ci 8))]),⟨some 89,some (86,true),.cl (.c (.f 22 [] [])) [.t 87,.t 88]⟩,aI 90 86 89,mt 91 90,o5 92 91 (.ld 2 true (.t 13)),o5 93 91 (.bd [aq 0,aq 0] [(0,1,(ci 4)),(1,1,(ci 100))]),⟨some 94,some (91,true),.cl (.c (.f 22 [] [])) [.t 92,.t 93]⟩,o5 95 91 (.un .not (.t 94)),aI 96 91 95,mt 0 96]
abbrev x1F:AF:=⟨97,(aM avf (aM ave (aM avd (aN avc 28 avb (aM ava (aM au9 (aM au8 (aM au7 (aM au6 (aN akX 79 akW (aM akV (aM akU .ret)))))))))))),[.mv (.t 0)]⟩
theorem avg:fB av (fc av 9) 9=some x1F:=by kernel_rfl
abbrev auU:=[o1 0 (.al 25 [.sl0,aq 0,.sl0])]
abbrev auT:=[o1 1 (.bd [aq 0,.n .u32 0] [(0,1,(ci 0)),(1,1,(.c (.n .u32 10)))]),o1 2 (.bd [aq 0,.n .u32 0] [(0,1,(ci 29))]),o1 3 (.bd [aq 0,.n .u32 0] [(0,1,(ci 1))]),o1 4 (.bd [aq 0,.n .u32 0] [(0,1,(ci 6))]),o1 5 (.bd [aq 0,.n .u32 0] [(0,1,(ci 31))]),o1 6 (.bs 54 2 5 [aq 0,.n .u32 0,aq 0,.n .u32 0,aq 0,.n .u32 0,aq 0,.n .u32 0,aq 0,.n .u32 0] [(0,2,(.t 1)),(2,2,(.t 2)),(4,2,(.t 3)),(6,2,(.t 4)),(8,2,(.t 5))]),o1 7 (.bd [.sl0,aq 0,.sl0] [(1,1,(ci 1)),(2,1,(.t 6))]),(aJ 3 0 7)]
abbrev x2F:AF:=⟨8,(aM auU (aM auT .ret)),[.ld 3 true (.t 0)]⟩
theorem auV:fB av (fc av 20) 20=some x2F:=by kernel_rfl
abbrev auI:=[aF 1 25 0 0,o1 2 (.al 38 [aq 0,aq 0,aq 0,.sl0]),aE 3 0,aE 4 0]
abbrev auH:=[ax 11 3 1,o2 12 28 [.t 11],mt 10 12,aA 13 0 10,aA 14 1 10,mt 5 13,mt 6 14]
abbrev auG:=[mt 15 6,aC 16 .neq 15 0]
abbrev auF:=[o1 17 (.bd [aq 0,aq 0,aq 0,.sl0] []),mt 18 5,mt 19 6,(aJ 4 2 17),mt 3 18,mt 4 19]
abbrev auE:=[o1 7 (.al 38 [aq 0,aq 0,aq 0,.sl0])]
abbrev auD:=[o1 21 (.mf 30 [] [.t 1,.t 7]),o2 22 29 [.t 21],mt 20 22,aA 23 0 20,aA 24 1 20,mt 8 23,mt 9 24]
abbrev auC:=[mt 25 9,aC 26 .neq 25 0]
abbrev auo:=[o1 27 (.bd [aq 0,aq 0,aq 0,.sl0] []),mt 28 8,mt 29 9,(aJ 4 2 27),mt 3 28,mt 4 29]
abbrev aun:=[ax 30 4 7,(aJ 4 2 30),aE 3 0,aE 4 0]
abbrev x3F:AF:=⟨31,(aM auI (.seq (aM auH (aM auG (.cond (.t 16) (aM auF .ret) .skip))) (aM auE (aM auD (aN auC 26 auo (aM aun .ret)))))),[.ld 4 true (.t 2),.mv (.t 3),.mv (.t 4)]⟩
theorem aiK:fB av (fc av 12) 12=some x3F:=by kernel_rfl
abbrev aub:=[aF 1 25 0 0,aE 2 0,aE 3 0]
abbrev aua:=[ax 12 3 1,o2 13 38 [.t 12],mt 11 13,aA 14 0 11,aA 15 1 11,mt 4 14,mt 5 15]
abbrev at9:=[mt 16 5,aC 17 .neq 16 0]
abbrev at8:=[mt 18 5,aE 2 0,mt 3 18]
abbrev at7:=[ay 20 2 1,aw 21 20,o2 22 50 [.t 21],mt 19 22,aA 23 0 19,aA 24 1 19,aA 25 2 19,mt 6 23,mt 7 24,mt 8 25]
abbrev at6:=[mt 26 8,aC 27 .neq 26 0]
abbrev at5:=[mt 28 7,mt 29 8,mt 2 28,mt 3 29]
abbrev at4:=[ay 30 2 1,aw 31 30,az 32 31,aE 33 0]
abbrev at3:=[aD 34 .lss 33 32]
abbrev at2:=[mt 35 33,aB 36 2 31 33,ax 37 2 36,o1 10 (.al 54 [aq 0,.n .u32 0]),mt 9 35,(aJ 2 10 37)]
abbrev ahy:=[ay 38 0 10,aw 39 38]
abbrev ahx:=[aC 41 .eql 39 1,mt 40 41]
abbrev ahw:=[aC 42 .eql 39 2,mt 40 42]
abbrev ahv:=[ay 43 1 10,aw 44 43,o1 45 (.cvi .i64 (.t 44)),ay 46 1 1,aw 47 46,aD 48 .geq 45 47]
abbrev ahu:=[mt 49 9,mt 2 49,aE 3 2]
abbrev aht:=[aC 51 .eql 39 3,mt 50 51]
abbrev ahs:=[aC 52 .eql 39 4,mt 50 52]
abbrev ahr:=[ay 53 1 10,aw 54 53,o1 55 (.cvi .i64 (.t 54)),ay 56 0 1,aw 57 56,az 58 57,aD 59 .geq 55 58]
abbrev ahq:=[mt 60 9,mt 2 60,aE 3 2]
abbrev ahB:AC:=(.seq (aM ahx (.cond (.t 40) .skip (.reg ahw))) (.cond (.t 40) (aM ahv (.cond (.t 48) (aM ahu .ret) .skip)) (.seq (aM aht (.cond (.t 50) .skip (.reg ahs))) (.cond (.t 50) (aM ahr (.cond (.t 59) (aM ahq .ret) .skip)) .skip))))
abbrev ahA:AC:=(aM at2 (aM ahy (.block 2 ahB)))
abbrev ahp:=[aC 61 .add 33 1,mt 33 61]
abbrev ahC:AC:=(aM at3 (.seq (.cond (.t 34) .skip (.exit 0)) (.seq (.block 1 ahA) (.reg ahp))))
abbrev ahz:AC:=(.loop ahC)
abbrev aho:=[aE 2 0,aE 3 0]
abbrev x4F:AF:=⟨62,(aM aub (.seq (aM aua (aM at9 (.cond (.t 17) (aM at8 .ret) .skip))) (.seq (aM at7 (aM at6 (.cond (.t 27) (aM at5 .ret) .skip))) (.seq (aM at4 (.block 0 ahz)) (aM aho .ret))))),[.mv (.t 2),.mv (.t 3)]⟩
theorem auc:fB av (fc av 28) 28=some x4F:=by kernel_rfl
abbrev atO:=[aF 1 25 0 0,aK 2,aE 3 0]
abbrev atN:=[ax 12 3 1,o2 13 67 [.t 12],mt 4 13]
abbrev atM:=[mt 14 4,aC 15 .neq 14 0]
abbrev atL:=[mt 16 4,aK 2,mt 3 16]
abbrev atK:=[ay 17 0 1,aw 18 17,az 19 18,o2 20 68 [(.c .sl0),.t 19],mt 5 20]
abbrev atJ:=[ay 21 0 1,aw 22 21,az 23 22,aE 24 0]
abbrev atI:=[aD 25 .lss 24 23]
abbrev atH:=[aB 26 2 22 24,ax 27 2 26,o1 7 (.al 68 [.b false,aq 0]),(aJ 2 7 27)]
abbrev atP:List (Nat×AO):=[(2,mt 28 5),(2,(ay 29 1 7)),(2,(ay 32 0 7)),(1,(aw 30 29)),(2,o1 31 (.bin .mul (ci 2) (.t 30))),(1,(aw 33 32)),(0,o2 34 69 [.t 33]),(2,o1 35 (.cvi .i64 (.t 34))),(2,(aD 36 .add 31 35)),(3,o2 37 68 [.t 28,.t 36]),(2,mt 5 37)]
abbrev atQ:AC:=(aM atH (.mix atP))
abbrev age:=[aC 38 .add 24 1,mt 24 38]
abbrev agm:AC:=(aM atI (.seq (.cond (.t 25) .skip (.exit 0)) (.seq (.block 1 atQ) (.reg age))))
abbrev agk:AC:=(.loop agm)
abbrev agh:List (Nat×AO):=[(2,mt 39 5),(2,(ay 40 1 1)),(2,(ay 43 2 1)),(1,(aw 41 40)),(1,(aw 44 43)),(2,(az 45 44)),(0,o2 42 68 [.t 39,.t 41]),(3,o2 46 68 [.t 42,.t 45]),(2,mt 5 46)]
abbrev agd:=[ay 47 2 1,aw 48 47,az 49 48,aE 50 0]
abbrev agc:=[aD 51 .lss 50 49]
abbrev agb:=[aB 52 2 48 50,ax 53 2 52,o1 9 (.al 54 [aq 0,.n .u32 0]),(aJ 2 9 53)]
abbrev aga:=[mt 54 5,ay 55 0 9,aw 56 55,o1 57 (.cvi .u8 (.t 56)),o1 58 (.bs 5 1 1 [.n .u8 0] [(0,1,(.t 57))]),o1 59 (.app 5 1 1 (.t 54) (.t 58)),mt 5 59]
abbrev af9:=[ay 61 0 9,aw 62 61,o2 63 70 [.t 62],mt 60 63,aA 64 0 60,aA 65 1 60,o1 10 (.al 146 [.s ⟨#[]⟩,.s ⟨#[]⟩,.s ⟨#[]⟩,.n .u64 0,.b false]),(aJ 5 10 64),mt 11 65]
abbrev af8:=[ay 66 4 10,aw 67 66]
abbrev af7:=[mt 68 5,ay 69 1 9,aw 70 69,o1 71 (.cvi .i64 (.t 70)),o2 72 68 [.t 68,.t 71],mt 5 72]
abbrev agj:AC:=(aM agb (aM aga (aM af9 (aM af8 (.cond (.t 67) (.reg af7) .skip)))))
abbrev af6:=[aC 73 .add 50 1,mt 50 73]
abbrev agl:AC:=(aM agc (.seq (.cond (.t 51) .skip (.exit 2)) (.seq (.block 3 agj) (.reg af6))))
abbrev agi:AC:=(.loop agl)
abbrev af5:=[mt 74 5,mt 2 74,aE 3 0]
abbrev x5F:AF:=⟨75,(aM atO (.seq (aM atN (aM atM (.cond (.t 15) (aM atL .ret) .skip))) (aM atK (.seq (aM atJ (.block 0 agk)) (.seq (.mix agh) (.seq (aM agd (.block 2 agi)) (aM af5 .ret))))))),[.mv (.t 2),.mv (.t 3)]⟩
theorem agf:fB av (fc av 38) 38=some x5F:=by kernel_rfl
abbrev att:=[aF 1 25 0 0,aE 2 0]
abbrev atr:=[ay 7 0 1,aw 8 7,o2 9 93 [.t 8],mt 3 9]
abbrev atq:=[mt 10 3,aC 11 .neq 10 0]
abbrev atp:=[mt 12 3,mt 2 12]
abbrev ato:=[ay 14 1 1,aw 15 14,aC 16 .lss 15 0,mt 17 16,o4 18 17 (.fa 1 (.t 1)),o4 19 17 (.ld 1 false (.t 18)),o4 20 17 (.bin .gtr (.t 19) (ci 16)),aG 21 17 20,mt 13 21]
abbrev atn:=[aE 2 2]
abbrev atm:=[ay 23 2 1,aw 24 23,az 25 24,aC 26 .gtr 25 1024,mt 22 26]
abbrev atl:=[aE 2 6]
abbrev atv:AC:=(aM ato (.cond (.t 13) (aM atn .ret) (aM atm (.cond (.t 22) (aM atl .ret) .skip))))
abbrev atk:=[ay 27 2 1,aw 28 27,az 29 28,aE 30 0]
abbrev aeS:=[aD 31 .lss 30 29]
abbrev aeR:=[aB 32 2 28 30,ax 33 2 32,o1 5 (.al 54 [aq 0,.n .u32 0]),(aJ 2 5 33)]
abbrev aeQ:=[ax 34 2 5,o2 35 94 [.t 34],mt 6 35]
abbrev aeP:=[mt 36 6,aC 37 .neq 36 0]
abbrev aeO:=[mt 38 6,mt 2 38]
abbrev aeU:AC:=(aM aeR (aM aeQ (aM aeP (.cond (.t 37) (aM aeO .ret) .skip))))
abbrev aeN:=[aC 39 .add 30 1,mt 30 39]
abbrev aeV:AC:=(aM aeS (.seq (.cond (.t 31) .skip (.exit 1)) (.seq (.block 2 aeU) (.reg aeN))))
abbrev aeT:AC:=(.loop aeV)
abbrev aeM:=[aE 2 0]
abbrev x6F:AF:=⟨40,(aM att (.seq (aM atr (aM atq (.cond (.t 11) (aM atp .ret) .skip))) (.seq (.block 0 atv) (.seq (aM atk (.block 1 aeT)) (aM aeM .ret))))),[.mv (.t 2)]⟩
theorem atu:fB av (fc av 67) 67=some x6F:=by kernel_rfl
abbrev ao6:=[aE 2 0]
abbrev ao5:=[mt 6 0,az 7 6,aC 8 .gtr 7 8]
abbrev ao4:=[aE 2 6]
abbrev ao3:=[aE 3 65536]
abbrev ao2:=[mt 9 0,az 10 9,aE 11 0]
abbrev ao1:=[aD 12 .lss 11 10]
abbrev ao0:=[aB 13 2 9 11,ax 14 2 13,o1 5 (.al 68 [.b false,aq 0]),(aJ 2 5 14)]
abbrev aoZ:=[ay 15 1 5,aw 16 15,aC 17 .lss 16 1,mt 18 17,o4 19 18 (.fa 1 (.t 5)),o4 20 18 (.ld 1 false (.t 19)),o4 21 18 (.mv (.t 3)),o4 22 18 (.bin .gtr (.t 20) (.t 21)),aG 23 18 22]
abbrev aoY:=[aE 2 2]
abbrev aoX:=[mt 24 3,ay 25 1 5,aw 26 25,aD 27 .sub 24 26,mt 3 27]
abbrev adF:AC:=(aM ao0 (aN aoZ 23 aoY (.reg aoX)))
abbrev adC:=[aC 28 .add 11 1,mt 11 28]
abbrev adG:AC:=(aM ao1 (.seq (.cond (.t 12) .skip (.exit 0)) (.seq (.block 1 adF) (.reg adC))))
abbrev adE:AC:=(.loop adG)
abbrev adB:=[aE 2 0]
abbrev x7F:AF:=⟨29,(aM ao6 (aN ao5 8 ao4 (aM ao3 (.seq (aM ao2 (.block 0 adE)) (aM adB .ret))))),[.mv (.t 2)]⟩
theorem ao7:fB av (fc av 93) 93=some x7F:=by kernel_rfl
abbrev aoK:=[aF 1 54 0 0,aE 2 0]
abbrev aoJ:=[ay 6 0 1,aw 7 6,o2 8 70 [.t 7],mt 5 8,aA 9 0 5,aA 10 1 5,o1 3 (.al 146 [.s ⟨#[]⟩,.s ⟨#[]⟩,.s ⟨#[]⟩,.n .u64 0,.b false]),(aJ 5 3 9),mt 4 10]
abbrev aoI:=[mt 12 4,o1 13 (.un .not (.t 12)),mt 11 13]
abbrev aoH:=[aE 2 1]
abbrev aoG:=[ay 15 1 1,aw 16 15,o1 17 (.cvi .u64 (.t 16)),ay 18 3 3,aw 19 18,aD 20 .geq 17 19,mt 14 20]
abbrev aoF:=[aE 2 2]
abbrev aoM:AC:=(aM aoI (.cond (.t 11) (aM aoH .ret) (aM aoG (.cond (.t 14) (aM aoF .ret) .skip))))
abbrev aoE:=[aE 2 0]
abbrev x8F:AF:=⟨21,(aM aoK (aM aoJ (.seq (.block 0 aoM) (aM aoE .ret)))),[.mv (.t 2)]⟩
theorem aoL:fB av (fc av 94) 94=some x8F:=by kernel_rfl
abbrev aot:=[o1 2 (.al 146 [.s ⟨#[]⟩,.s ⟨#[]⟩,.s ⟨#[]⟩,.n .u64 0,.b false]),o1 3 (.mv (.c (.b false)))]
abbrev aos:=[mt 4 0,aC 5 .lss 4 0,mt 6 5,o4 7 6 (.mv (.t 0)),o4 8 6 (.bin .geq (.t 7) (ci 36)),aG 9 6 8]
abbrev aor:=[o1 10 (.bd [.s ⟨#[]⟩,.s ⟨#[]⟩,.s ⟨#[]⟩,.n .u64 0,.b false] []),(aJ 5 2 10),o1 3 (.mv (.c (.b false)))]
abbrev aoq:=[o2 11 97 [],mt 12 0,o1 13 (.ix 36 5 true (.t 11) (.t 12)),(aJ 5 2 13),o1 3 (.mv (.c (.b true)))]
abbrev x9F:AF:=⟨14,(aM aot (aN aos 9 aor (aM aoq .ret))),[.ld 5 true (.t 2),.mv (.t 3)]⟩
theorem M3:fB av (fc av 70) 70=some x9F:=by kernel_rfl
abbrev amM:=[o1 0 (.al 189 [.s ⟨#[]⟩,.s ⟨#[]⟩,.s ⟨#[]⟩,.n .u64 0,.b false,.s ⟨#[]⟩,.s ⟨#[]⟩,.s ⟨#[]⟩,.n .u64 0,.b false,.s ⟨#[]⟩,.s ⟨#[]⟩,.s ⟨#[]⟩,.n .u64 0,.b false,.s ⟨#[]⟩,.s ⟨#[]⟩,.s ⟨#[]⟩,.n .u64 0,.b false,.s ⟨#[]⟩,.s ⟨#[]⟩,.s ⟨#[]⟩,.n .u64 0,.b false,.s ⟨#[]⟩,.s ⟨#[]⟩,.s ⟨#[]⟩,.n .u64 0,.b false,.s ⟨#[]⟩,.s ⟨#[]⟩,.s ⟨#[]⟩,.n .u64 0,.b false,.s ⟨#[]⟩,.s ⟨#[]⟩,.s ⟨#[]⟩,.n .u64 0,.b false,.s ⟨#[]⟩,.s ⟨#[]⟩,.s ⟨#[]⟩,.n .u64 0,.b false,.s ⟨#[]⟩,.s ⟨#[]⟩,.s ⟨#[]⟩,.n .u64 0,.b false,.s ⟨#[]⟩,.s ⟨#[]⟩,.s ⟨#[]⟩,.n .u64 0,.b false,.s ⟨#[]⟩,.s ⟨#[]⟩,.s ⟨#[]⟩,.n .u64 0,.b false,.s ⟨#[]⟩,.s ⟨#[]⟩,.s ⟨#[]⟩,.n .u64 0,.b false,.s ⟨#[]⟩,.s ⟨#[]⟩,.s ⟨#[]⟩,.n .u64 0,.b false,.s ⟨#[]⟩,.s ⟨#[]⟩,.s ⟨#[]⟩,.n .u64 0,.b false,.s ⟨#[]⟩,.s ⟨#[]⟩,.s ⟨#[]⟩,.n .u64 0,.b false,.s ⟨#[]⟩,.s ⟨#[]⟩,.s ⟨#[]⟩,.n .u64 0,.b false,.s ⟨#[]⟩,.s ⟨#[]⟩,.s ⟨#[]⟩,.n .u64 0,.b false,.s ⟨#[]⟩,.s ⟨#[]⟩,.s ⟨#[]⟩,.n .u64 0,.b false,.s ⟨#[]⟩,.s ⟨#[]⟩,.s ⟨#[]⟩,.n .u64 0,.b false,.s ⟨#[]⟩,.s ⟨#[]⟩,.s ⟨#[]⟩,.n .u64 0,.b false,.s ⟨#[]⟩,.s ⟨#[]⟩,.s ⟨#[]⟩,.n .u64 0,.b false,.s ⟨#[]⟩,.s ⟨#[]⟩,.s ⟨#[]⟩,.n .u64 0,.b false,.s ⟨#[]⟩,.s ⟨#[]⟩,.s ⟨#[]⟩,.n .u64 0,.b false,.s ⟨#[]⟩,.s ⟨#[]⟩,.s ⟨#[]⟩,.n .u64 0,.b false,.s ⟨#[]⟩,.s ⟨#[]⟩,.s ⟨#[]⟩,.n .u64 0,.b false,.s ⟨#[]⟩,.s ⟨#[]⟩,.s ⟨#[]⟩,.n .u64 0,.b false,.s ⟨#[]⟩,.s ⟨#[]⟩,.s ⟨#[]⟩,.n .u64 0,.b false,.s ⟨#[]⟩,.s ⟨#[]⟩,.s ⟨#[]⟩,.n .u64 0,.b false,.s ⟨#[]⟩,.s ⟨#[]⟩,.s ⟨#[]⟩,.n .u64 0,.b false,.s ⟨#[]⟩,.s ⟨#[]⟩,.s ⟨#[]⟩,.n .u64 0,.b false,.s ⟨#[]⟩,.s ⟨#[]⟩,.s ⟨#[]⟩,.n .u64 0,.b false,.s ⟨#[]⟩,.s ⟨#[]⟩,.s ⟨#[]⟩,.n .u64 0,.b false,.s ⟨#[]⟩,.s ⟨#[]⟩,.s ⟨#[]⟩,.n .u64 0,.b false,.s ⟨#[]⟩,.s ⟨#[]⟩,.s ⟨#[]⟩,.n .u64 0,.b false,.s ⟨#[]⟩,.s ⟨#[]⟩,.s ⟨#[]⟩,.n .u64 0,.b false])]
abbrev amL:=[o1 1 (.mv (.c (.f 131 [] [])))]
abbrev amK:=[o1 2 (.mv (.c (.f 132 [] [])))]
abbrev amJ:=[o1 3 (.bd [.s ⟨#[]⟩,.s ⟨#[]⟩,.s ⟨#[]⟩,.n .u64 0,.b false] [(0,1,(.c (.s ⟨#[112,117,115,104]⟩))),(1,1,(.c (.s ⟨#[]⟩))),(2,1,(.c (.s ⟨#[110]⟩))),(3,1,(.c (.n .u64 4294967296))),(4,1,(.c (.b true)))]),o1 4 (.bd [.s ⟨#[]⟩,.s ⟨#[]⟩,.s ⟨#[]⟩,.n .u64 0,.b false] [(0,1,(.c (.s ⟨#[108,111,97,100]⟩))),(1,1,(.c (.s ⟨#[]⟩))),(2,1,(.c (.s ⟨#[110]⟩))),(3,1,(.c (.n .u64 16))),(4,1,(.c (.b true)))]),o1 5 (.bd [.s ⟨#[]⟩,.s ⟨#[]⟩,.s ⟨#[]⟩,.n .u64 0,.b false] [(0,1,(.c (.s ⟨#[115,116,111,114,101]⟩))),(1,1,(.c (.s ⟨#[110]⟩))),(2,1,(.c (.s ⟨#[]⟩))),(3,1,(.c (.n .u64 16))),(4,1,(.c (.b true)))]),o1 6 (.bd [.s ⟨#[]⟩,.s ⟨#[]⟩,.s ⟨#[]⟩,.n .u64 0,.b false] [(0,1,(.c (.s ⟨#[103,101,116]⟩))),(1,1,(.c (.s ⟨#[110]⟩))),(2,1,(.c (.s ⟨#[110]⟩))),(3,1,(.c (.n .u64 8))),(4,1,(.c (.b true)))]),o1 7 (.bd [.s ⟨#[]⟩,.s ⟨#[]⟩,.s ⟨#[]⟩,.n .u64 0,.b false] [(0,1,(.c (.s ⟨#[112,117,116]⟩))),(1,1,(.c (.s ⟨#[110,110]⟩))),(2,1,(.c (.s ⟨#[]⟩))),(3,1,(.c (.n .u64 8))),(4,1,(.c (.b true)))]),mt 8 2,⟨some 9,none,.cl (.t 8) [(.c (.s ⟨#[100,117,112]⟩)),(.c (.s ⟨#[97]⟩)),(.c (.s ⟨#[97,97]⟩))]⟩,mt 10 2,⟨some 11,none,.cl (.t 10) [(.c (.s ⟨#[100,114,111,112]⟩)),(.c (.s ⟨#[97]⟩)),(.c (.s ⟨#[]⟩))]⟩,mt 12 2,⟨some 13,none,.cl (.t 12) [(.c (.s ⟨#[115,119,97,112]⟩)),(.c (.s ⟨#[97,98]⟩)),(.c (.s ⟨#[98,97]⟩))]⟩,mt 14 1,⟨some 15,none,.cl (.t 14) [(.c (.s ⟨#[97,100,100]⟩))]⟩,mt 16 1,⟨some 17,none,.cl (.t 16) [(.c (.s ⟨#[115,117,98]⟩))]⟩,mt 18 1,⟨some 19,none,.cl (.t 18) [(.c (.s ⟨#[109,117,108]⟩))]⟩,mt 20 1,⟨some 21,none,.cl (.t 20) [(.c (.s ⟨#[100,105,118]⟩))]⟩,mt 22 1,⟨some 23,none,.cl (.t 22) [(.c (.s ⟨#[109,111,100]⟩))]⟩,mt 24 1,⟨some 25,none,.cl (.t 24) [(.c (.s ⟨#[97,110,100]⟩))]⟩,mt 26 1,⟨some 27,none,.cl (.t 26) [(.c (.s ⟨#[111,114]⟩))]⟩,mt 28 1,⟨some 29,none,.cl (.t 28) [(.c (.s ⟨#[120,111,114]⟩))]⟩,mt 30 1,⟨some 31,none,.cl (.t 30) [(.c (.s ⟨#[115,104,108]⟩))]⟩,mt 32 1,⟨some 33,none,.cl (.t 32) [(.c (.s ⟨#[115,104,114]⟩))]⟩,mt 34 1,⟨some 35,none,.cl (.t 34) [(.c (.s ⟨#[109,105,110]⟩))]⟩,mt 36 1,⟨some 37,none,.cl (.t 36) [(.c (.s ⟨#[109,97,120]⟩))]⟩,mt 38 1,⟨some 39,none,.cl (.t 38) [(.c (.s ⟨#[104,97,115,104]⟩))]⟩,mt 40 2,⟨some 41,none,.cl (.t 40) [(.c (.s ⟨#[101,113]⟩)),(.c (.s ⟨#[110,110]⟩)),(.c (.s ⟨#[116]⟩))]⟩,mt 42 2,⟨some 43,none,.cl (.t 42) [(.c (.s ⟨#[108,101,115,115]⟩)),(.c (.s ⟨#[110,110]⟩)),(.c (.s ⟨#[116]⟩))]⟩,mt 44 2,⟨some 45,none,.cl (.t 44) [(.c (.s ⟨#[110,111,116]⟩)),(.c (.s ⟨#[116]⟩)),(.c (.s ⟨#[116]⟩))]⟩,mt 46 2,⟨some 47,none,.cl (.t 46) [(.c (.s ⟨#[98,111,116,104]⟩)),(.c (.s ⟨#[116,116]⟩)),(.c (.s ⟨#[116]⟩))]⟩,mt 48 2,⟨some 49,none,.cl (.t 48) [(.c (.s ⟨#[101,105,116,104,101,114]⟩)),(.c (.s ⟨#[116,116]⟩)),(.c (.s ⟨#[116]⟩))]⟩,mt 50 2,⟨some 51,none,.cl (.t 50) [(.c (.s ⟨#[105,110,116]⟩)),(.c (.s ⟨#[116]⟩)),(.c (.s ⟨#[110]⟩))]⟩,mt 52 2,⟨some 53,none,.cl (.t 52) [(.c (.s ⟨#[105,102]⟩)),(.c (.s ⟨#[116]⟩)),(.c (.s ⟨#[]⟩))]⟩,mt 54 2,⟨some 55,none,.cl (.t 54) [(.c (.s ⟨#[101,108,115,101]⟩)),(.c (.s ⟨#[]⟩)),(.c (.s ⟨#[]⟩))]⟩,mt 56 2,⟨some 57,none,.cl (.t 56) [(.c (.s ⟨#[108,111,111,112]⟩)),(.c (.s ⟨#[110]⟩)),(.c (.s ⟨#[]⟩))]⟩,mt 58 2,⟨some 59,none,.cl (.t 58) [(.c (.s ⟨#[108,101,97,118,101]⟩)),(.c (.s ⟨#[116]⟩)),(.c (.s ⟨#[]⟩))]⟩,mt 60 2,⟨some 61,none,.cl (.t 60) [(.c (.s ⟨#[101,110,100]⟩)),(.c (.s ⟨#[]⟩)),(.c (.s ⟨#[]⟩))]⟩,mt 62 2,⟨some 63,none,.cl (.t 62) [(.c (.s ⟨#[105,110,112,117,116]⟩)),(.c (.s ⟨#[]⟩)),(.c (.s ⟨#[110]⟩))]⟩,mt 64 2,⟨some 65,none,.cl (.t 64) [(.c (.s ⟨#[101,110,100,101,100]⟩)),(.c (.s ⟨#[]⟩)),(.c (.s ⟨#[116]⟩))]⟩,mt 66 2,⟨some 67,none,.cl (.t 66) [(.c (.s ⟨#[101,109,105,116]⟩)),(.c (.s ⟨#[110]⟩)),(.c (.s ⟨#[]⟩))]⟩,o1 68 (.bd [.s ⟨#[]⟩,.s ⟨#[]⟩,.s ⟨#[]⟩,.n .u64 0,.b false] [(0,1,(.c (.s ⟨#[99,111,110,116,101,120,116]⟩))),(1,1,(.c (.s ⟨#[110]⟩))),(2,1,(.c (.s ⟨#[]⟩))),(3,1,(.c (.n .u64 16))),(4,1,(.c (.b true)))]),o1 69 (.bd [.s ⟨#[]⟩,.s ⟨#[]⟩,.s ⟨#[]⟩,.n .u64 0,.b false,.s ⟨#[]⟩,.s ⟨#[]⟩,.s ⟨#[]⟩,.n .u64 0,.b false,.s ⟨#[]⟩,.s ⟨#[]⟩,.s ⟨#[]⟩,.n .u64 0,.b false,.s ⟨#[]⟩,.s ⟨#[]⟩,.s ⟨#[]⟩,.n .u64 0,.b false,.s ⟨#[]⟩,.s ⟨#[]⟩,.s ⟨#[]⟩,.n .u64 0,.b false,.s ⟨#[]⟩,.s ⟨#[]⟩,.s ⟨#[]⟩,.n .u64 0,.b false,.s ⟨#[]⟩,.s ⟨#[]⟩,.s ⟨#[]⟩,.n .u64 0,.b false,.s ⟨#[]⟩,.s ⟨#[]⟩,.s ⟨#[]⟩,.n .u64 0,.b false,.s ⟨#[]⟩,.s ⟨#[]⟩,.s ⟨#[]⟩,.n .u64 0,.b false,.s ⟨#[]⟩,.s ⟨#[]⟩,.s ⟨#[]⟩,.n .u64 0,.b false,.s ⟨#[]⟩,.s ⟨#[]⟩,.s ⟨#[]⟩,.n .u64 0,.b false,.s ⟨#[]⟩,.s ⟨#[]⟩,.s ⟨#[]⟩,.n .u64 0,.b false,.s ⟨#[]⟩,.s ⟨#[]⟩,.s ⟨#[]⟩,.n .u64 0,.b false,.s ⟨#[]⟩,.s ⟨#[]⟩,.s ⟨#[]⟩,.n .u64 0,.b false,.s ⟨#[]⟩,.s ⟨#[]⟩,.s ⟨#[]⟩,.n .u64 0,.b false,.s ⟨#[]⟩,.s ⟨#[]⟩,.s ⟨#[]⟩,.n .u64 0,.b false,.s ⟨#[]⟩,.s ⟨#[]⟩,.s ⟨#[]⟩,.n .u64 0,.b false,.s ⟨#[]⟩,.s ⟨#[]⟩,.s ⟨#[]⟩,.n .u64 0,.b false,.s ⟨#[]⟩,.s ⟨#[]⟩,.s ⟨#[]⟩,.n .u64 0,.b false,.s ⟨#[]⟩,.s ⟨#[]⟩,.s ⟨#[]⟩,.n .u64 0,.b false,.s ⟨#[]⟩,.s ⟨#[]⟩,.s ⟨#[]⟩,.n .u64 0,.b false,.s ⟨#[]⟩,.s ⟨#[]⟩,.s ⟨#[]⟩,.n .u64 0,.b false,.s ⟨#[]⟩,.s ⟨#[]⟩,.s ⟨#[]⟩,.n .u64 0,.b false,.s ⟨#[]⟩,.s ⟨#[]⟩,.s ⟨#[]⟩,.n .u64 0,.b false,.s ⟨#[]⟩,.s ⟨#[]⟩,.s ⟨#[]⟩,.n .u64 0,.b false,.s ⟨#[]⟩,.s ⟨#[]⟩,.s ⟨#[]⟩,.n .u64 0,.b false,.s ⟨#[]⟩,.s ⟨#[]⟩,.s ⟨#[]⟩,.n .u64 0,.b false,.s ⟨#[]⟩,.s ⟨#[]⟩,.s ⟨#[]⟩,.n .u64 0,.b false,.s ⟨#[]⟩,.s ⟨#[]⟩,.s ⟨#[]⟩,.n .u64 0,.b false,.s ⟨#[]⟩,.s ⟨#[]⟩,.s ⟨#[]⟩,.n .u64 0,.b false,.s ⟨#[]⟩,.s ⟨#[]⟩,.s ⟨#[]⟩,.n .u64 0,.b false,.s ⟨#[]⟩,.s ⟨#[]⟩,.s ⟨#[]⟩,.n .u64 0,.b false,.s ⟨#[]⟩,.s ⟨#[]⟩,.s ⟨#[]⟩,.n .u64 0,.b false,.s ⟨#[]⟩,.s ⟨#[]⟩,.s ⟨#[]⟩,.n .u64 0,.b false,.s ⟨#[]⟩,.s ⟨#[]⟩,.s ⟨#[]⟩,.n .u64 0,.b false,.s ⟨#[]⟩,.s ⟨#[]⟩,.s ⟨#[]⟩,.n .u64 0,.b false] [(0,5,(.t 3)),(5,5,(.t 4)),(10,5,(.t 5)),(15,5,(.t 6)),(20,5,(.t 7)),(25,5,(.t 9)),(30,5,(.t 11)),(35,5,(.t 13)),(40,5,(.t 15)),(45,5,(.t 17)),(50,5,(.t 19)),(55,5,(.t 21)),(60,5,(.t 23)),(65,5,(.t 25)),(70,5,(.t 27)),(75,5,(.t 29)),(80,5,(.t 31)),(85,5,(.t 33)),(90,5,(.t 35)),(95,5,(.t 37)),(100,5,(.t 39)),(105,5,(.t 41)),(110,5,(.t 43)),(115,5,(.t 45)),(120,5,(.t 47)),(125,5,(.t 49)),(130,5,(.t 51)),(135,5,(.t 53)),(140,5,(.t 55)),(145,5,(.t 57)),(150,5,(.t 59)),(155,5,(.t 61)),(160,5,(.t 63)),(165,5,(.t 65)),(170,5,(.t 67)),(175,5,(.t 68))]),(aJ 180 0 69)]
abbrev avq:AF:=⟨70,(aM amM (aM amL (aM amK (aM amJ .ret)))),[.ld 180 true (.t 0)]⟩
theorem amN:fB av (fc av 97) 97=some avq:=by kernel_rfl
abbrev amx:=[aK 4]
abbrev amw:=[mt 5 0,o2 6 96 [.t 5],mt 7 1,o2 8 95 [.t 6,.t 7],mt 4 8]
abbrev avp:AF:=⟨9,(aM amx (aM amw .ret)),[.mv (.t 4)]⟩
theorem amy:fB av (fc av 68) 68=some avp:=by kernel_rfl
abbrev amk:=[aK 2]
abbrev amj:=[mt 3 0,⟨some 4,none,.sn false (.t 3)⟩]
abbrev ami:=[aK 2]
abbrev amh:=[o1 5 (.bs 5 1 0 [] []),mt 6 0,o1 7 (.app 5 1 1 (.t 5) (.t 6)),mt 2 7]
abbrev avo:AF:=⟨8,(aM amk (aN amj 4 ami (aM amh .ret))),[.mv (.t 2)]⟩
theorem aml:fB av (fc av 96) 96=some avo:=by kernel_rfl
abbrev al4:=[aK 4]
abbrev al3:=[mt 8 1,o2 9 129 [.t 8],mt 1 9]
abbrev al2:=[mt 10 1,o2 11 130 [.t 10],mt 5 11]
abbrev al1:=[mt 12 5,o1 13 (.bin .sub (ci 8) (.t 12)),o1 14 (.bin .shl (.c (.n .u8 255)) (.t 13)),mt 6 14]
abbrev al0:=[mt 15 0,mt 16 6,mt 17 1,mt 18 5,o1 19 (.bin .mul (ci 8) (.t 18)),aD 20 .shr 17 19,o1 21 (.cvi .u8 (.t 20)),aD 22 .or 16 21,o1 23 (.bs 5 1 1 [.n .u8 0] [(0,1,(.t 22))]),o1 24 (.app 5 1 1 (.t 15) (.t 23)),mt 0 24]
abbrev alZ:=[mt 25 5,aC 26 .sub 25 1,mt 7 26]
abbrev alY:=[mt 27 7,aC 28 .geq 27 0]
abbrev alX:=[mt 31 0,mt 32 1,mt 33 7,o1 34 (.bin .mul (ci 8) (.t 33)),aD 35 .shr 32 34,o1 36 (.cvi .u8 (.t 35)),o1 37 (.bs 5 1 1 [.n .u8 0] [(0,1,(.t 36))]),o1 38 (.app 5 1 1 (.t 31) (.t 37)),mt 0 38]
abbrev al6:AC:=(.reg alX)
abbrev alW:=[mt 29 7,aC 30 .sub 29 1,mt 7 30]
abbrev VE:AC:=(.seq (aM alY (.cond (.t 28) .skip (.exit 0))) (.seq (.block 1 al6) (.reg alW)))
abbrev VD:AC:=(.loop VE)
abbrev VC:=[mt 39 0,mt 4 39]
abbrev avn:AF:=⟨40,(aM al4 (aM al3 (aM al2 (aM al1 (aM al0 (.seq (aM alZ (.block 0 VD)) (aM VC .ret))))))),[.mv (.t 4)]⟩
theorem al5:fB av (fc av 95) 95=some avn:=by kernel_rfl
abbrev alJ:=[aE 2 0]
abbrev alI:=[mt 3 0,aC 4 .lss 3 0,mt 5 4,o4 6 5 (.mv (.t 0)),o4 7 5 (.bin .gtr (.t 6) (ci 9007199254740991)),aG 8 5 7]
abbrev alH:=[aE 2 0]
abbrev alG:=[mt 9 0,mt 2 9]
abbrev avm:AF:=⟨10,(aM alJ (aN alI 8 alH (aM alG .ret))),[.mv (.t 2)]⟩
theorem alK:fB av (fc av 129) 129=some avm:=by kernel_rfl
abbrev alu:=[aE 2 0]
abbrev als:=[mt 3 0,o1 4 (.cvi .u64 (.t 3)),o2 5 175 [.t 4],aC 6 .sub 5 1,⟨some 7,none,.mo (.mx (ci 0) (.t 6))⟩,aC 8 .quo 7 7,mt 2 8]
abbrev avl:AF:=⟨9,(aM alu (aM als .ret)),[.mv (.t 2)]⟩
theorem alv:fB av (fc av 130) 130=some avl:=by kernel_rfl
abbrev alk:=[aE 2 0]
abbrev alj:=[mt 3 0,o1 4 (.cvi .u32 (.t 3)),o2 5 200 [.t 4],mt 2 5]
abbrev ali:=[mt 6 0,o2 7 201 [.t 6],mt 2 7]
abbrev avk:AF:=⟨8,(aM alk (.seq (.cond (.c (.b false)) (aM alj .ret) .skip) (aM ali .ret))),[.mv (.t 2)]⟩
theorem alm:fB av (fc av 175) 175=some avk:=by kernel_rfl
abbrev alg:=[aE 2 0]
abbrev alf:=[mt 3 0,o1 4 (.bin .geq (.t 3) (.c (.n .u64 4294967296)))]
abbrev ale:=[mt 5 0,o1 6 (.bin .shr (.t 5) (.c (.n .u64 32))),mt 0 6]
abbrev ald:=[aE 2 32]
abbrev alc:=[mt 7 0,o1 8 (.bin .geq (.t 7) (.c (.n .u64 65536)))]
abbrev alb:=[mt 9 0,o1 10 (.bin .shr (.t 9) (.c (.n .u64 16))),mt 0 10]
abbrev ala:=[mt 11 2,aC 12 .add 11 16,mt 2 12]
abbrev ak9:=[mt 13 0,o1 14 (.bin .geq (.t 13) (.c (.n .u64 256)))]
abbrev ak8:=[mt 15 0,o1 16 (.bin .shr (.t 15) (.c (.n .u64 8))),mt 0 16]
abbrev ak7:=[mt 17 2,aC 18 .add 17 8,mt 2 18]
abbrev Ds:=[mt 19 2,mt 20 0,o1 21 (.cvi .u8 (.t 20)),o1 22 (.sx (.c (.s ⟨#[0,1,2,2,3,3,3,3,4,4,4,4,4,4,4,4,5,5,5,5,5,5,5,5,5,5,5,5,5,5,5,5,6,6,6,6,6,6,6,6,6,6,6,6,6,6,6,6,6,6,6,6,6,6,6,6,6,6,6,6,6,6,6,6,7,7,7,7,7,7,7,7,7,7,7,7,7,7,7,7,7,7,7,7,7,7,7,7,7,7,7,7,7,7,7,7,7,7,7,7,7,7,7,7,7,7,7,7,7,7,7,7,7,7,7,7,7,7,7,7,7,7,7,7,7,7,7,7,8,8,8,8,8,8,8,8,8,8,8,8,8,8,8,8,8,8,8,8,8,8,8,8,8,8,8,8,8,8,8,8,8,8,8,8,8,8,8,8,8,8,8,8,8,8,8,8,8,8,8,8,8,8,8,8,8,8,8,8,8,8,8,8,8,8,8,8,8,8,8,8,8,8,8,8,8,8,8,8,8,8,8,8,8,8,8,8,8,8,8,8,8,8,8,8,8,8,8,8,8,8,8,8,8,8,8,8,8,8,8,8,8,8,8,8,8,8,8,8,8,8,8,8,8,8,8,8]⟩)) (.t 21)),o1 23 (.cvi .i64 (.t 22)),aD 24 .add 19 23,mt 2 24]
abbrev avj:AF:=⟨25,(aM alg (.seq (aM alf (.cond (.t 4) (aM ale (.reg ald)) .skip)) (.seq (aM alc (.cond (.t 8) (aM alb (.reg ala)) .skip)) (.seq (aM ak9 (.cond (.t 14) (aM ak8 (.reg ak7)) .skip)) (aM Ds .ret))))),[.mv (.t 2)]⟩
theorem alh:fB av (fc av 201) 201=some avj:=by kernel_rfl
abbrev ak5:=[o1 2 (.mv (.c (.n .u32 0)))]
abbrev ak4:=[mt 3 0]
abbrev ak3:=[o1 2 (.mv (.c (.n .u32 1)))]
abbrev ak2:=[o1 2 (.mv (.c (.n .u32 0)))]
abbrev avi:AF:=⟨4,(aM ak5 (aN ak4 3 ak3 (aM ak2 .ret))),[.mv (.t 2)]⟩
theorem ak6:fB av (fc av 69) 69=some avi:=by kernel_rfl
abbrev ak0:=[o1 2 (.mv (.c .p0))]
abbrev akZ:=[mt 3 0,az 4 3,aC 5 .leq 4 1024,o2 6 115 [.t 5,(ci 0),(ci 6)]]
abbrev akY:=[mt 7 0,o1 8 (.bs 3 1 1 [aq 0] [(0,1,(.c (aq (-1))))]),mt 9 0,az 10 9,o2 11 116 [.t 8,.t 10],o1 12 (.bd [.sl0,aq 0,.sl0] [(0,1,(.t 7)),(2,1,(.t 11))]),aF 13 173 0 12,mt 2 13]
abbrev avh:AF:=⟨14,(aM ak0 (aM akZ (aM akY .ret))),[.mv (.t 2)]⟩
theorem ak1:fB av (fc av 83) 83=some avh:=by kernel_rfl
abbrev akS:=[mt 6 0,o1 7 (.un .not (.t 6))]
abbrev au5:AF:=⟨12,(aM akS (.cond (.t 7) .die .skip)),[]⟩
theorem akT:fB av (fc av 115) 115=some au5:=by kernel_rfl
abbrev akO:=[aK 4]
abbrev akN:=[mt 9 1,aC 10 .lss 9 0]
abbrev akM:=[mt 13 0,az 14 13,o1 15 (.cvi .u64 (.t 14)),mt 16 1,o1 17 (.cvi .u64 (.t 16)),o2 18 85 [.t 15,.t 17],mt 12 18,aA 19 0 12,aA 20 1 12,mt 5 19,mt 6 20]
abbrev akL:=[mt 21 5,o1 22 (.bin .gtr (.t 21) (.c (.n .u64 0))),mt 23 22,o4 24 23 (.mv (.t 6)),o4 25 23 (.bin .gtr (.t 24) (.c (.n .u64 9223372036854775807))),aG 26 23 25]
abbrev akK:=[mt 28 6,o1 29 (.cvi .i64 (.t 28)),o1 30 (.ms 3 1 8 [aq 0] (.t 29) (.t 29)),mt 7 30]
abbrev akJ:=[mt 31 7,mt 32 0,⟨some 33,none,.mo (.cp 1 (.t 31) (.t 32))⟩,mt 8 33]
abbrev akI:=[mt 34 8,mt 35 7,az 36 35,aD 37 .lss 34 36]
abbrev akQ:List (Nat×AO):=[(2,mt 38 8),(2,mt 39 7),(2,mt 40 8),(2,o1 41 (.sl 1 (.t 39) (some (.t 40)) none)),(2,mt 42 7),(2,mt 43 8),(2,o1 44 (.sl 1 (.t 42) none (some (.t 43)))),(3,⟨some 45,none,.mo (.cp 1 (.t 41) (.t 44))⟩),(2,(aD 46 .add 38 45)),(2,mt 8 46)]
abbrev akR:AC:=(.mix akQ)
abbrev MJ:AC:=(.seq (aM akI (.cond (.t 37) .skip (.exit 0))) (.block 1 akR))
abbrev R9:AC:=(.loop MJ)
abbrev R8:=[mt 47 7,mt 4 47]
abbrev au4:AF:=⟨48,(aM akO (.seq (aM akN (.cond (.t 10) .die .skip)) (aM akM (.seq (aM akL (.cond (.t 26) .die .skip)) (aM akK (aM akJ (.seq (.block 0 R9) (aM R8 .ret)))))))),[.mv (.t 4)]⟩
theorem akP:fB av (fc av 116) 116=some au4:=by kernel_rfl
abbrev akG:=[o1 4 (.mv (.c (.n .u64 0))),o1 5 (.mv (.c (.n .u64 0)))]
abbrev akF:=[mt 11 0,o1 12 (.cvi .u32 (.t 11)),mt 13 1,o1 14 (.cvi .u32 (.t 13)),o2 15 118 [.t 12,.t 14],mt 10 15,aA 16 0 10,aA 17 1 10,mt 6 16,mt 7 17]
abbrev akE:=[mt 18 6,o1 19 (.cvi .u64 (.t 18)),mt 20 7,o1 21 (.cvi .u64 (.t 20)),mt 4 19,mt 5 21]
abbrev akD:=[mt 23 0,mt 24 1,o2 25 119 [.t 23,.t 24],mt 22 25,aA 26 0 22,aA 27 1 22,mt 8 26,mt 9 27]
abbrev akC:=[mt 28 8,mt 29 9,mt 4 28,mt 5 29]
abbrev au3:AF:=⟨30,(aM akG (.seq (.cond (.c (.b false)) (aM akF (aM akE .ret)) .skip) (aM akD (aM akC .ret)))),[.mv (.t 4),.mv (.t 5)]⟩
theorem akH:fB av (fc av 85) 85=some au3:=by kernel_rfl
abbrev akA:=[o1 4 (.mv (.c (.n .u64 0))),o1 5 (.mv (.c (.n .u64 0)))]
abbrev akz:=[mt 14 0,o1 15 (.bin .and (.t 14) (.c (.n .u64 4294967295))),mt 6 15]
abbrev aky:=[mt 16 0,o1 17 (.bin .shr (.t 16) (.c (.n .u64 32))),mt 7 17]
abbrev akx:=[mt 18 1,o1 19 (.bin .and (.t 18) (.c (.n .u64 4294967295))),mt 8 19]
abbrev akw:=[mt 20 1,o1 21 (.bin .shr (.t 20) (.c (.n .u64 32))),mt 9 21]
abbrev akv:=[mt 22 6,mt 23 8,aD 24 .mul 22 23,mt 10 24]
abbrev aku:=[mt 25 7,mt 26 8,aD 27 .mul 25 26,mt 28 10,o1 29 (.bin .shr (.t 28) (.c (.n .u64 32))),aD 30 .add 27 29,mt 11 30]
abbrev akt:=[mt 31 11,o1 32 (.bin .and (.t 31) (.c (.n .u64 4294967295))),mt 12 32]
abbrev aks:=[mt 33 11,o1 34 (.bin .shr (.t 33) (.c (.n .u64 32))),mt 13 34]
abbrev akr:=[mt 35 12,mt 36 6,mt 37 9,aD 38 .mul 36 37,aD 39 .add 35 38,mt 12 39]
abbrev R7:=[mt 40 7,mt 41 9,aD 42 .mul 40 41,mt 43 13,aD 44 .add 42 43,mt 45 12,o1 46 (.bin .shr (.t 45) (.c (.n .u64 32))),aD 47 .add 44 46,mt 4 47]
abbrev R6:=[mt 48 0,mt 49 1,aD 50 .mul 48 49,mt 5 50]
abbrev au2:AF:=⟨51,(aM akA (aM akz (aM aky (aM akx (aM akw (aM akv (aM aku (aM akt (aM aks (aM akr (aM R7 (aM R6 .ret)))))))))))),[.mv (.t 4),.mv (.t 5)]⟩
theorem akB:fB av (fc av 119) 119=some au2:=by kernel_rfl
abbrev ako:=[aK 2]
abbrev akn:=[mt 4 0,o2 5 117 [.t 4,(ci 0),(.c .p0)],mt 3 5]
abbrev akq:List (Nat×AO):=[(2,mt 6 0),(2,(aO 7 6)),(2,(ay 8 1 7)),(2,mt 10 0),(2,(aO 11 10)),(2,(ay 12 0 11)),(2,mt 16 0),(2,(aO 17 16)),(2,(ay 18 1 17)),(1,(aw 9 8)),(1,(aw 13 12)),(2,(az 14 13)),(2,(aD 15 .eql 9 14)),(1,(aw 19 18)),(3,o2 20 115 [.t 15,.t 19,(ci 15)])]
abbrev akm:=[mt 21 3,mt 2 21]
abbrev au1:AF:=⟨22,(aM ako (aM akn (.seq (.mix akq) (aM akm .ret)))),[.mv (.t 2)]⟩
theorem akp:fB av (fc av 84) 84=some au1:=by kernel_rfl
abbrev akj:=[aK 6]
abbrev aki:=[aK 7]
abbrev akl:List (Nat×AO):=[(2,mt 10 0),(2,(aO 11 10)),(2,(ay 12 1 11)),(2,mt 14 0),(2,(aO 15 14)),(2,(ay 16 0 15)),(1,(aw 13 12)),(1,(aw 17 16)),(2,(az 18 17)),(2,(aD 19 .lss 13 18))]
abbrev akk:List (Nat×AO):=[(2,mt 20 0),(2,(aO 21 20)),(2,(ay 22 0 21)),(2,mt 24 0),(2,(aO 25 24)),(2,(ay 26 1 25)),(1,(aw 23 22)),(1,(aw 27 26)),(2,(aB 28 2 23 27)),(2,(ay 29 0 28)),(1,(aw 30 29)),(2,mt 8 30)]
abbrev akh:=[mt 32 8,aC 33 .eql 32 28,mt 34 33,o4 35 34 (.mv (.t 8)),o4 36 34 (.bin .eql (.t 35) (ci 31)),aG 37 34 36,mt 31 37]
abbrev akg:=[mt 38 7,mt 6 38]
abbrev akf:=[mt 40 8,o2 41 169 [.t 40],mt 39 41]
abbrev ake:=[mt 42 7,mt 43 0,mt 44 1,aC 45 .add 44 1,mt 46 2,o2 47 170 [.t 43,.t 45,.t 46],o1 48 (.bs 140 5 1 [aq 0,aq 0,aq 0,.sl0,.sl0] [(0,5,(.t 47))]),o1 49 (.app 140 5 72 (.t 42) (.t 48)),mt 7 49]
abbrev akd:=[mt 51 8,aC 52 .eql 51 30,mt 50 52]
abbrev akc:=[mt 53 2,o1 54 (.eq true .p (.t 53) (.c .p0)),mt 55 0,aO 56 55,ay 57 1 56,aw 58 57,o2 59 115 [.t 54,.t 58,(ci 15)]]
abbrev R1:List (Nat×AO):=[(2,mt 60 2),(2,mt 61 2),(2,(aO 62 61)),(2,mt 64 0),(2,(aO 65 64)),(2,(ay 66 1 65)),(1,(aw 63 62)),(1,(aw 67 66)),(0,o1 68 (.bs 3 1 1 [aq 0] [(0,1,(.t 67))])),(3,o1 69 (.app 3 1 8 (.t 63) (.t 68))),(2,(aO 70 60)),(3,(aJ 1 70 69))]
abbrev R4:AC:=(aM akh (.cond (.t 31) (aM akg .ret) (aM akf (.cond (.t 39) (aM ake (.exit 1)) (aM akd (.cond (.t 50) (aM akc (.mix R1)) .skip))))))
abbrev RZ:=[mt 71 7,az 72 71,mt 9 72]
abbrev RY:=[mt 73 9,aC 74 .gtr 73 0,mt 75 74,o5 76 75 (.mv (.t 7)),o5 77 75 (.mv (.t 9)),o5 78 75 (.bin .sub (.t 77) (ci 1)),o5 79 75 (.ia 5 (.t 76) (.t 78)),o5 80 75 (.fa 0 (.t 79)),o5 81 75 (.ld 1 false (.t 80)),o5 82 75 (.bin .eql (.t 81) (.c (aq (-1)))),aI 83 75 82]
abbrev RX:=[mt 84 7,mt 85 9,aC 86 .sub 85 1,aB 87 5 84 86,ay 88 2 87,aw 89 88,aC 90 .add 89 1,aB 91 5 84 86,ay 92 2 91,(aJ 1 92 90)]
abbrev R0:List (Nat×AO):=[(2,mt 93 7),(2,mt 94 0),(2,(aO 95 94)),(2,(ay 96 1 95)),(2,mt 98 0),(2,(aO 99 98)),(2,(ay 100 1 99)),(1,(aw 97 96)),(1,(aw 101 100)),(2,(aC 102 .add 101 1)),(2,o1 103 (.bd [aq 0,aq 0,aq 0,.sl0,.sl0] [(0,1,(.c (aq (-1)))),(1,1,(.t 97)),(2,1,(.t 102))])),(3,o1 104 (.bs 140 5 1 [aq 0,aq 0,aq 0,.sl0,.sl0] [(0,5,(.t 103))])),(3,o1 105 (.app 140 5 72 (.t 93) (.t 104))),(2,mt 7 105)]
abbrev RV:=[mt 106 0,aO 107 106,ay 108 1 107,aw 109 108,aC 110 .add 109 1,aO 111 106,ay 112 1 111,(aJ 1 112 110)]
abbrev R3:AC:=(.seq (.mix akk) (.seq (.block 2 R4) (.seq (aM RZ (aM RY (.cond (.t 83) (.reg RX) (.mix R0)))) (.reg RV))))
abbrev R5:AC:=(.seq (.seq (.mix akl) (.cond (.t 19) .skip (.exit 0))) (.block 1 R3))
abbrev R2:AC:=(.loop R5)
abbrev RU:=[mt 113 7,mt 6 113]
abbrev au0:AF:=⟨114,(aM akj (aM aki (.seq (.block 0 R2) (aM RU .ret)))),[.mv (.t 6)]⟩
theorem MI:fB av (fc av 117) 117=some au0:=by kernel_rfl
abbrev aka:=[o1 2 (.mv (.c (.b false)))]
abbrev aj9:=[mt 3 0,aC 4 .eql 3 27,mt 5 4,o4 6 5 (.mv (.t 0)),o4 7 5 (.bin .eql (.t 6) (ci 29)),aG 8 5 7,mt 2 8]
abbrev auZ:AF:=⟨9,(aM aka (aM aj9 .ret)),[.mv (.t 2)]⟩
theorem akb:fB av (fc av 169) 169=some auZ:=by kernel_rfl
abbrev aj6:=[o1 6 (.al 140 [aq 0,aq 0,aq 0,.sl0,.sl0])]
abbrev aj5:=[mt 12 1,aC 13 .leq 12 8,mt 14 0,aO 15 14,ay 16 1 15,aw 17 16,o2 18 115 [.t 13,.t 17,(ci 15)]]
abbrev aj8:List (Nat×AO):=[(2,mt 19 0),(2,(aO 20 19)),(2,(ay 21 0 20)),(2,mt 23 0),(2,(aO 24 23)),(2,(ay 25 1 24)),(2,mt 30 0),(2,(aO 31 30)),(2,(ay 32 1 31)),(1,(aw 22 21)),(1,(aw 26 25)),(2,(aB 27 2 22 26)),(2,(ay 28 0 27)),(1,(aw 29 28)),(1,(aw 33 32)),(2,o1 34 (.bd [aq 0,aq 0,aq 0,.sl0,.sl0] [(0,1,(.t 29)),(1,1,(.t 33))])),(0,o1 7 (.al 140 [aq 0,aq 0,aq 0,.sl0,.sl0])),(3,(aJ 5 7 34))]
abbrev aj4:=[o1 8 (.al 95 [.sl0])]
abbrev aj3:=[ay 35 0 7,aw 36 35,aC 37 .eql 36 29]
abbrev aj2:=[mt 2 8]
abbrev aj1:=[mt 38 0,aO 39 38,ay 40 1 39,aw 41 40,aC 42 .add 41 1,aO 43 38,ay 44 1 43,(aJ 1 44 42)]
abbrev aj0:=[mt 45 0,mt 46 1,mt 47 2,o2 48 117 [.t 45,.t 46,.t 47],ay 49 3 7,(aJ 1 49 48)]
abbrev ajZ:=[ay 50 1 7,aw 51 50,mt 9 51]
abbrev aj7:List (Nat×AO):=[(2,(ay 52 0 7)),(1,(aw 53 52)),(2,(aC 54 .eql 53 27)),(2,mt 55 54),(2,o5 56 55 (.mv (.t 0))),(2,o5 57 55 (.nc (.t 56))),(2,o5 58 55 (.fa 1 (.t 57))),(2,o5 60 55 (.mv (.t 0))),(2,o5 61 55 (.nc (.t 60))),(2,o5 62 55 (.fa 0 (.t 61))),(1,o5 59 55 (.ld 1 false (.t 58))),(1,o5 63 55 (.ld 1 false (.t 62))),(2,o5 64 55 (.len (.t 63))),(2,o5 65 55 (.bin .lss (.t 59) (.t 64))),(2,(aI 66 55 65)),(2,mt 67 66),(2,o5 68 67 (.mv (.t 0))),(2,o5 69 67 (.nc (.t 68))),(2,o5 70 67 (.fa 0 (.t 69))),(2,o5 72 67 (.mv (.t 0))),(2,o5 73 67 (.nc (.t 72))),(2,o5 74 67 (.fa 1 (.t 73))),(1,o5 71 67 (.ld 1 false (.t 70))),(1,o5 75 67 (.ld 1 false (.t 74))),(2,o5 76 67 (.ia 2 (.t 71) (.t 75))),(2,o5 77 67 (.fa 0 (.t 76))),(1,o5 78 67 (.ld 1 false (.t 77))),(2,o5 79 67 (.bin .eql (.t 78) (ci 28))),(2,(aI 80 67 79))]
abbrev RO:List (Nat×AO):=[(2,mt 81 0),(2,(aO 82 81)),(2,(ay 83 2 82)),(2,mt 85 9),(2,mt 86 0),(2,(aO 87 86)),(2,(ay 88 1 87)),(1,(aw 84 83)),(1,(aw 89 88)),(2,(aB 90 1 84 85)),(3,(aJ 1 90 89))]
abbrev RK:=[mt 91 0,aO 92 91,ay 93 1 92,aw 94 93,mt 9 94]
abbrev RJ:=[mt 95 0,aO 96 95,ay 97 1 96,aw 98 97,aC 99 .add 98 1,aO 100 95,ay 101 1 100,(aJ 1 101 99)]
abbrev RI:=[mt 102 0,mt 103 1,mt 104 2,o2 105 117 [.t 102,.t 103,.t 104],ay 106 4 7,(aJ 1 106 105)]
abbrev RN:List (Nat×AO):=[(2,mt 107 0),(2,(aO 108 107)),(2,(ay 109 1 108)),(2,mt 111 0),(2,(aO 112 111)),(2,(ay 113 0 112)),(2,mt 131 0),(2,(aO 132 131)),(2,(ay 133 1 132)),(1,(aw 110 109)),(1,(aw 114 113)),(2,(az 115 114)),(2,(aD 116 .lss 110 115)),(2,mt 117 116),(2,o5 118 117 (.mv (.t 0))),(2,o5 119 117 (.nc (.t 118))),(2,o5 120 117 (.fa 0 (.t 119))),(2,o5 122 117 (.mv (.t 0))),(2,o5 123 117 (.nc (.t 122))),(2,o5 124 117 (.fa 1 (.t 123))),(1,o5 121 117 (.ld 1 false (.t 120))),(1,o5 125 117 (.ld 1 false (.t 124))),(2,o5 126 117 (.ia 2 (.t 121) (.t 125))),(2,o5 127 117 (.fa 0 (.t 126))),(1,o5 128 117 (.ld 1 false (.t 127))),(2,o5 129 117 (.bin .eql (.t 128) (ci 31))),(2,(aI 130 117 129)),(1,(aw 134 133)),(3,o2 135 115 [.t 130,.t 134,(ci 15)])]
abbrev RM:List (Nat×AO):=[(2,mt 136 0),(2,(aO 137 136)),(2,(ay 138 2 137)),(2,mt 140 9),(2,mt 141 0),(2,(aO 142 141)),(2,(ay 143 2 142)),(2,mt 145 0),(2,(aO 146 145)),(2,(ay 147 1 146)),(2,mt 149 0),(2,(aO 150 149)),(2,(ay 151 1 150)),(2,(ay 153 1 7)),(1,(aw 139 138)),(1,(aw 144 143)),(1,(aw 148 147)),(1,(aw 152 151)),(2,(aB 155 1 139 140)),(1,(aw 154 153)),(0,(aJ 1 155 152)),(2,(aB 156 1 144 148)),(3,(aJ 1 156 154))]
abbrev RH:=[aw 157 8,az 158 157,aE 159 0]
abbrev RG:=[aD 160 .lss 159 158]
abbrev RF:=[aB 161 1 157 159,aw 162 161,mt 11 162]
abbrev RL:List (Nat×AO):=[(2,mt 163 0),(2,(aO 164 163)),(2,(ay 165 2 164)),(2,mt 167 11),(2,mt 168 0),(2,(aO 169 168)),(2,(ay 170 1 169)),(1,(aw 166 165)),(1,(aw 171 170)),(2,(aB 172 1 166 167)),(3,(aJ 1 172 171))]
abbrev RQ:AC:=(aM RF (.mix RL))
abbrev RE:=[aC 173 .add 159 1,mt 159 173]
abbrev RR:AC:=(aM RG (.seq (.cond (.t 160) .skip (.exit 0)) (.seq (.block 1 RQ) (.reg RE))))
abbrev RP:AC:=(.loop RR)
abbrev RD:=[mt 174 0,aO 175 174,ay 176 1 175,aw 177 176,aC 178 .add 177 1,aO 179 174,ay 180 1 179,(aJ 1 180 178)]
abbrev RC:=[mt 181 0,aO 182 181,ay 183 1 182,aw 184 183,ay 185 2 7,(aJ 1 185 184)]
abbrev RB:=[ax 186 5 7,(aJ 5 6 186)]
abbrev auY:AF:=⟨187,(aM aj6 (aM aj5 (.seq (.mix aj8) (aM aj4 (.seq (aM aj3 (.cond (.t 37) (.reg aj2) .skip)) (aM aj1 (aM aj0 (aM ajZ (.seq (.seq (.mix aj7) (.cond (.t 80) (.seq (.mix RO) (aM RK (aM RJ (.reg RI)))) .skip)) (.seq (.mix RN) (.seq (.mix RM) (.seq (aM RH (.block 0 RP)) (aM RD (aM RC (aM RB .ret))))))))))))))),[.ld 5 true (.t 6)]⟩
theorem MH:fB av (fc av 170) 170=some auY:=by kernel_rfl
abbrev ajY:List (Nat×AO):=[(1,(ax 2 3 0)),(1,(ax 3 3 0)),(0,o2 4 32 [.t 3]),(3,o2 5 31 [.t 2,.t 4]),(3,(aJ 4 1 5))]
abbrev ajX:=[ay 6 0 1,aw 7 6,aC 8 .leq 7 281474976710656,o2 9 33 [.t 8,(ci 0),(ci 18)]]
abbrev auX:AF:=⟨10,(.seq (.mix ajY) (.reg ajX)),[]⟩
theorem MG:fB av (fc av 30) 30=some auX:=by kernel_rfl
abbrev ajV:=[aF 1 25 0 0,o1 2 (.al 83 [.f0,.f0])]
abbrev ajU:=[o1 3 (.mf 58 [] [.t 1]),o1 4 (.bd [.f0,.f0] [(0,1,(.c (.f 57 [] []))),(1,1,(.t 3))]),(aJ 2 2 4)]
abbrev auW:AF:=⟨5,(aM ajV (aM ajU .ret)),[.ld 2 true (.t 2)]⟩
theorem ajW:fB av (fc av 32) 32=some auW:=by kernel_rfl
abbrev ajR:=[aK 11]
abbrev ajQ:=[mt 15 3,o2 16 59 [.t 15],mt 12 16]
abbrev ajP:=[mt 17 12,az 18 17,aE 19 0]
abbrev ajO:=[aD 20 .lss 19 18]
abbrev ajN:=[mt 21 19,mt 13 21]
abbrev ajM:=[ay 22 2 5,aw 23 22,mt 24 0,mt 25 1,o1 26 (.sl 2 (.t 23) (some (.t 24)) (some (.t 25))),mt 27 13,o1 28 (.cvi .u32 (.t 27)),o1 29 (.bd [aq 0,.n .u32 0] [(0,1,(ci 2)),(1,1,(.t 28))]),o2 30 60 [.t 26,.t 29],mt 14 30]
abbrev ajL:=[mt 32 2,aC 33 .lss 32 3,mt 31 33]
abbrev ajT:List (Nat×AO):=[(2,mt 34 12),(2,mt 35 13),(2,mt 36 3),(2,mt 37 13),(2,(aB 38 2 36 37)),(2,mt 40 3),(2,mt 41 13),(2,(aB 42 2 40 41)),(2,mt 44 4),(2,mt 45 13),(2,(aB 46 2 44 45)),(1,(ax 39 2 38)),(1,(ax 43 2 42)),(1,(ax 47 2 46)),(0,o2 48 62 [.t 43,.t 47]),(3,o2 49 61 [.t 39,.t 48]),(2,(aB 50 2 34 35)),(3,(aJ 2 50 49))]
abbrev ajK:=[mt 52 14,mt 51 52]
abbrev ajJ:=[mt 53 12,mt 54 13,o2 55 63 [],aB 56 2 53 54,(aJ 2 56 55)]
abbrev Rz:AC:=(aM ajL (.cond (.t 31) (.mix ajT) (aM ajK (.cond (.t 51) (.reg ajJ) .skip))))
abbrev Ry:AC:=(aM ajN (aM ajM (.block 2 Rz)))
abbrev Rv:=[aC 57 .add 19 1,mt 19 57]
abbrev RA:AC:=(aM ajO (.seq (.cond (.t 20) .skip (.exit 0)) (.seq (.block 1 Ry) (.reg Rv))))
abbrev Rx:AC:=(.loop RA)
abbrev Ru:=[mt 58 12,mt 11 58]
abbrev auS:AF:=⟨59,(aM ajR (aM ajQ (.seq (aM ajP (.block 0 Rx)) (aM Ru .ret)))),[.mv (.t 11)]⟩
theorem ajS:fB av (fc av 58) 58=some auS:=by kernel_rfl
abbrev ajH:=[aK 2]
abbrev ajG:=[mt 3 0,⟨some 4,none,.sn false (.t 3)⟩]
abbrev ajF:=[aK 2]
abbrev ajE:=[o1 5 (.bs 127 2 0 [] []),mt 6 0,o1 7 (.app 127 2 16 (.t 5) (.t 6)),mt 2 7]
abbrev auR:AF:=⟨8,(aM ajH (aN ajG 4 ajF (aM ajE .ret))),[.mv (.t 2)]⟩
theorem ajI:fB av (fc av 59) 59=some auR:=by kernel_rfl
abbrev ajC:=[aF 3 54 0 1,o1 4 (.mv (.c (.b false)))]
abbrev ajB:=[mt 5 0,ax 6 2 3,o2 7 91 [.t 5,.t 6],aC 8 .geq 7 0,mt 4 8]
abbrev auQ:AF:=⟨9,(aM ajC (aM ajB .ret)),[.mv (.t 4)]⟩
theorem ajD:fB av (fc av 60) 60=some auQ:=by kernel_rfl
abbrev ajv:=[aF 3 54 0 1,aE 4 0]
abbrev aju:=[mt 6 0,az 7 6,aE 8 0]
abbrev ajt:=[aD 9 .lss 8 7]
abbrev ajs:=[mt 10 8,mt 5 10]
abbrev ajx:List (Nat×AO):=[(2,mt 12 0),(2,mt 13 5),(2,(aB 14 2 12 13)),(1,(ax 11 2 3)),(1,(ax 15 2 14)),(2,o1 16 (.eq false (.st [(0,1,.n),(1,1,.n)]) (.t 11) (.t 15)))]
abbrev ajr:=[mt 17 5,mt 4 17]
abbrev ajz:AC:=(aM ajs (.seq (.mix ajx) (.cond (.t 16) (aM ajr .ret) .skip)))
abbrev ajq:=[aC 18 .add 8 1,mt 8 18]
abbrev ajA:AC:=(aM ajt (.seq (.cond (.t 9) .skip (.exit 0)) (.seq (.block 1 ajz) (.reg ajq))))
abbrev ajy:AC:=(.loop ajA)
abbrev Rt:=[o1 4 (.mv (.c (aq (-1))))]
abbrev auP:AF:=⟨19,(aM ajv (.seq (aM aju (.block 0 ajy)) (aM Rt .ret))),[.mv (.t 4)]⟩
theorem ajw:fB av (fc av 91) 91=some auP:=by kernel_rfl
abbrev ajo:=[aF 2 127 0 0,aF 3 127 0 1,o1 4 (.al 127 [aq 0,aq 0])]
abbrev ajn:=[ax 5 2 2,ax 6 2 3,o2 7 92 [.t 5,.t 6],o1 8 (.un .not (.t 7))]
abbrev ajm:=[o1 9 (.bd [aq 0,aq 0] []),(aJ 2 4 9)]
abbrev ajl:=[ay 10 0 2,aw 11 10,ay 12 0 3,aw 13 12,⟨some 14,none,.mo (.mi (.t 11) (.t 13))⟩,ay 15 1 2,aw 16 15,ay 17 1 3,aw 18 17,⟨some 19,none,.mo (.mx (.t 16) (.t 18))⟩,o1 20 (.bd [aq 0,aq 0] [(0,1,(.t 14)),(1,1,(.t 19))]),(aJ 2 4 20)]
abbrev auO:AF:=⟨21,(aM ajo (aN ajn 8 ajm (aM ajl .ret))),[.ld 2 true (.t 4)]⟩
theorem ajp:fB av (fc av 62) 62=some auO:=by kernel_rfl
abbrev ajj:=[aF 2 127 0 0,aF 3 127 0 1,o1 4 (.mv (.c (.b false)))]
abbrev aji:=[ax 5 2 2,o2 6 128 [.t 5],aC 7 .eql 6 0,mt 8 7,o5 9 8 (.ld 2 true (.t 3)),⟨some 10,some (8,true),.cl (.c (.f 128 [] [])) [.t 9]⟩,o5 11 8 (.bin .eql (.t 10) (ci 0)),aI 12 8 11,mt 4 12]
abbrev auN:AF:=⟨13,(aM ajj (aM aji .ret)),[.mv (.t 4)]⟩
theorem ajk:fB av (fc av 92) 92=some auN:=by kernel_rfl
abbrev ajf:=[aF 1 127 0 0,aE 2 0]
abbrev aje:=[ay 4 0 1,aw 5 4,aC 6 .lss 5 0,mt 7 6,o4 8 7 (.fa 0 (.t 1)),o4 9 7 (.ld 1 false (.t 8)),o4 10 7 (.bin .gtr (.t 9) (ci 4294967295)),aG 11 7 10,mt 12 11,o4 13 12 (.fa 1 (.t 1)),o4 14 12 (.ld 1 false (.t 13)),o4 15 12 (.bin .lss (.t 14) (ci 0)),aG 16 12 15,mt 17 16,o4 18 17 (.fa 1 (.t 1)),o4 19 17 (.ld 1 false (.t 18)),o4 20 17 (.bin .gtr (.t 19) (ci 4294967295)),aG 21 17 20,mt 3 21]
abbrev ajd:=[aE 2 2]
abbrev ajc:=[ay 23 0 1,aw 24 23,ay 25 1 1,aw 26 25,aD 27 .gtr 24 26,mt 22 27]
abbrev ajb:=[aE 2 29]
abbrev ajh:AC:=(aM aje (.cond (.t 3) (aM ajd .ret) (aM ajc (.cond (.t 22) (aM ajb .ret) .skip))))
abbrev aja:=[aE 2 0]
abbrev auM:AF:=⟨28,(aM ajf (.seq (.block 0 ajh) (aM aja .ret))),[.mv (.t 2)]⟩
theorem ajg:fB av (fc av 128) 128=some auM:=by kernel_rfl
abbrev ai8:=[aF 2 127 0 0,aF 3 127 0 1,o1 4 (.al 127 [aq 0,aq 0])]
abbrev ai7:=[ax 7 2 2,ax 8 2 3,o2 9 92 [.t 7,.t 8],o1 10 (.un .not (.t 9))]
abbrev ai6:=[o1 11 (.bd [aq 0,aq 0] []),(aJ 2 4 11)]
abbrev ai5:=[ay 12 0 3,aw 13 12,ay 14 0 2,aw 15 14,aD 16 .lss 13 15]
abbrev ai4:=[ay 17 0 2,o3 (.st 1 (.t 17) (ci 0))]
abbrev ai3:=[ay 18 1 3,aw 19 18,ay 20 1 2,aw 21 20,aD 22 .gtr 19 21]
abbrev ai2:=[o1 23 (.bd [aq 0,aq 0,aq 0] [(0,1,(ci 255)),(1,1,(ci 65535)),(2,1,(ci 4294967295))]),aE 24 0]
abbrev ai1:=[aC 25 .lss 24 3]
abbrev ai0:=[o1 26 (.ix 3 1 false (.t 23) (.t 24)),mt 6 26]
abbrev aiZ:=[mt 27 6,ay 28 1 3,aw 29 28,aD 30 .geq 27 29]
abbrev Rp:=[mt 31 6,ay 32 1 2,(aJ 1 32 31)]
abbrev Rr:AC:=(aM ai0 (aM aiZ (.cond (.t 30) (aM Rp (.exit 0)) .skip)))
abbrev Ro:=[aC 33 .add 24 1,mt 24 33]
abbrev Rs:AC:=(aM ai1 (.seq (.cond (.t 25) .skip (.exit 0)) (.seq (.block 1 Rr) (.reg Ro))))
abbrev Rq:AC:=(.loop Rs)
abbrev Rn:=[ax 34 2 2,(aJ 2 4 34)]
abbrev auL:AF:=⟨35,(aM ai8 (aN ai7 10 ai6 (.seq (aM ai5 (.cond (.t 16) (.reg ai4) .skip)) (.seq (aM ai3 (.cond (.t 22) (aM ai2 (.block 0 Rq)) .skip)) (aM Rn .ret))))),[.ld 2 true (.t 4)]⟩
theorem ai9:fB av (fc av 61) 61=some auL:=by kernel_rfl
abbrev aiX:=[o1 0 (.al 127 [aq 0,aq 0])]
abbrev aiW:=[o1 1 (.bd [aq 0,aq 0] [(1,1,(ci 4294967295))]),(aJ 2 0 1)]
abbrev auK:AF:=⟨2,(aM aiX (aM aiW .ret)),[.ld 2 true (.t 0)]⟩
theorem aiY:fB av (fc av 63) 63=some auK:=by kernel_rfl
abbrev aiS:=[aF 2 25 0 0,aF 3 83 0 1,o1 4 (.al 38 [aq 0,aq 0,aq 0,.sl0])]
abbrev aiR:=[ay 14 2 2,aw 15 14,o2 16 52 [.t 15],mt 13 16,aA 17 0 13,aA 18 1 13,mt 5 17,mt 6 18]
abbrev aiQ:=[mt 19 6,aC 20 .eql 19 0,mt 21 6,o2 22 33 [.t 20,(ci 0),.t 21]]
abbrev aiP:=[ax 23 3 2,mt 24 5,ax 25 2 3,⟨some 26,none,.mo (.mm)⟩,o1 27 (.bd [.sl0,aq 0,.sl0,.sl0,.f0,.f0,.sl0,.sl0,aq 0,.sl0,.cv (.map none)] [(0,3,(.t 23)),(3,1,(.t 24)),(4,2,(.t 25)),(10,1,(.t 26))]),aF 28 124 0 27,mt 7 28]
abbrev aiV:List (Nat×AO):=[(2,mt 29 7),(2,(ay 32 1 2)),(1,(aw 33 32)),(0,o2 30 54 [(.c (.n .u32 0))]),(0,o1 31 (.bs 127 2 1 [aq 0,aq 0] [(0,2,(.t 30))])),(3,o2 34 53 [.t 31,.t 33]),(2,(aO 35 29)),(2,(ay 36 6 35)),(3,(aJ 1 36 34))]
abbrev aiO:=[mt 37 7,ay 38 2 2,aw 39 38,az 40 39,o2 41 55 [.t 37,(ci 0),.t 40,(ci 0),(ci 0)],o1 8 (.al 130 [aq 0,aq 0]),(aJ 2 8 41)]
abbrev aiN:=[mt 42 7,ay 43 2 2,aw 44 43,az 45 44,o2 46 56 [.t 42,.t 45,(ci 0)]]
abbrev aiU:List (Nat×AO):=[(2,(ay 47 0 8)),(2,(ay 49 1 8)),(2,mt 51 7),(2,(aO 52 51)),(2,(ay 53 8 52)),(1,(aw 48 47)),(1,(aw 50 49)),(1,(aw 54 53)),(2,o1 55 (.bd [aq 0,aq 0,aq 0,.sl0] [(0,1,(.t 48)),(1,1,(.t 50)),(2,1,(.t 54))])),(0,o1 9 (.al 38 [aq 0,aq 0,aq 0,.sl0])),(3,(aJ 4 9 55))]
abbrev aiM:=[ay 56 2 2,aw 57 56,az 58 57,aE 59 0]
abbrev aiL:=[aD 60 .lss 59 58]
abbrev Rj:=[mt 61 59,mt 10 61]
abbrev Ri:=[mt 63 7,aO 64 63,ay 65 10 64,aw 66 65,mt 67 10,⟨some 68,none,.mo (.lz (.agg [aq 0,aq 0,.sl0]) true (.t 66) (.t 67))⟩,mt 62 68,aA 69 0 62,aA 70 1 62,o1 11 (.al 48 [aq 0,aq 0,.sl0]),(aJ 3 11 69),mt 12 70]
abbrev Rh:=[mt 71 12]
abbrev Rg:=[ay 72 3 9,aw 73 72,ax 74 3 11,o1 75 (.bs 48 3 1 [aq 0,aq 0,.sl0] [(0,3,(.t 74))]),o1 76 (.app 48 3 40 (.t 73) (.t 75)),ay 77 3 9,(aJ 1 77 76)]
abbrev Rl:AC:=(aM Rj (aM Ri (aM Rh (.cond (.t 71) (.reg Rg) .skip))))
abbrev Rf:=[aC 78 .add 59 1,mt 59 78]
abbrev Rm:AC:=(aM aiL (.seq (.cond (.t 60) .skip (.exit 0)) (.seq (.block 1 Rl) (.reg Rf))))
abbrev Rk:AC:=(.loop Rm)
abbrev Re:=[ax 79 4 9,(aJ 4 4 79)]
abbrev auJ:AF:=⟨80,(aM aiS (aM aiR (aM aiQ (aM aiP (.seq (.mix aiV) (aM aiO (aM aiN (.seq (.mix aiU) (.seq (aM aiM (.block 0 Rk)) (aM Re .ret)))))))))),[.ld 4 true (.t 4)]⟩
theorem aiT:fB av (fc av 31) 31=some auJ:=by kernel_rfl
abbrev aiJ:=[mt 6 0,o1 7 (.un .not (.t 6))]
abbrev aiI:=[mt 8 1,mt 9 2,o2 10 64 [.t 8,.t 9]]
abbrev aum:AF:=⟨11,(aM aiJ (.cond (.t 7) (.reg aiI) .skip)),[]⟩
theorem MF:fB av (fc av 33) 33=some aum:=by kernel_rfl
abbrev aiG:=[o1 2 (.al 127 [aq 0,aq 0])]
abbrev aiF:=[mt 3 0,o1 4 (.cvi .i64 (.t 3)),mt 5 0,o1 6 (.cvi .i64 (.t 5)),o1 7 (.bd [aq 0,aq 0] [(0,1,(.t 4)),(1,1,(.t 6))]),(aJ 2 2 7)]
abbrev aul:AF:=⟨8,(aM aiG (aM aiF .ret)),[.ld 2 true (.t 2)]⟩
theorem aiH:fB av (fc av 54) 54=some aul:=by kernel_rfl
abbrev aiB:=[aK 4]
abbrev aiA:=[mt 9 1,aC 10 .lss 9 0]
abbrev aiz:=[mt 13 0,az 14 13,o1 15 (.cvi .u64 (.t 14)),mt 16 1,o1 17 (.cvi .u64 (.t 16)),o2 18 85 [.t 15,.t 17],mt 12 18,aA 19 0 12,aA 20 1 12,mt 5 19,mt 6 20]
abbrev aiy:=[mt 21 5,o1 22 (.bin .gtr (.t 21) (.c (.n .u64 0))),mt 23 22,o4 24 23 (.mv (.t 6)),o4 25 23 (.bin .gtr (.t 24) (.c (.n .u64 9223372036854775807))),aG 26 23 25]
abbrev aix:=[mt 28 6,o1 29 (.cvi .i64 (.t 28)),o1 30 (.ms 127 2 16 [aq 0,aq 0] (.t 29) (.t 29)),mt 7 30]
abbrev aiw:=[mt 31 7,mt 32 0,⟨some 33,none,.mo (.cp 2 (.t 31) (.t 32))⟩,mt 8 33]
abbrev aiv:=[mt 34 8,mt 35 7,az 36 35,aD 37 .lss 34 36]
abbrev aiD:List (Nat×AO):=[(2,mt 38 8),(2,mt 39 7),(2,mt 40 8),(2,o1 41 (.sl 2 (.t 39) (some (.t 40)) none)),(2,mt 42 7),(2,mt 43 8),(2,o1 44 (.sl 2 (.t 42) none (some (.t 43)))),(3,⟨some 45,none,.mo (.cp 2 (.t 41) (.t 44))⟩),(2,(aD 46 .add 38 45)),(2,mt 8 46)]
abbrev aiE:AC:=(.mix aiD)
abbrev ME:AC:=(.seq (aM aiv (.cond (.t 37) .skip (.exit 0))) (.block 1 aiE))
abbrev Rd:AC:=(.loop ME)
abbrev Rc:=[mt 47 7,mt 4 47]
abbrev auk:AF:=⟨48,(aM aiB (.seq (aM aiA (.cond (.t 10) .die .skip)) (aM aiz (.seq (aM aiy (.cond (.t 26) .die .skip)) (aM aix (aM aiw (.seq (.block 0 Rd) (aM Rc .ret)))))))),[.mv (.t 4)]⟩
theorem aiC:fB av (fc av 53) 53=some auk:=by kernel_rfl
abbrev ait:=[o1 10 (.al 130 [aq 0,aq 0])]
abbrev ais:=[o1 11 (.al 130 [aq 0,aq 0])]
abbrev air:=[mt 14 1,mt 12 14]
abbrev aiq:=[mt 15 12,mt 16 2,aD 17 .lss 15 16]
abbrev aip:=[o1 13 (.al 130 [aq 0,aq 0])]
abbrev aio:=[mt 20 0,aO 21 20,ay 22 0 21,ay 23 2 22,aw 24 23,mt 25 12,aB 26 2 24 25,ay 27 0 26,aw 28 27]
abbrev ain:=[aC 34 .eql 28 27,mt 33 34]
abbrev aim:=[mt 36 0,mt 37 12,mt 38 3,mt 39 4,o2 40 86 [.t 36,.t 37,.t 38,.t 39],mt 35 40,aA 41 0 35,aA 42 1 35,(aJ 2 13 41),mt 12 42]
abbrev ail:=[aC 44 .eql 28 29,mt 43 44]
abbrev aik:=[mt 46 0,mt 47 12,mt 48 3,o2 49 87 [.t 46,.t 47,.t 48],mt 45 49,aA 50 0 45,aA 51 1 45,(aJ 2 13 50),mt 12 51]
abbrev Q6:=[aC 53 .eql 28 30,mt 52 53]
abbrev Q5:=[mt 54 0,mt 55 12,mt 56 3,o2 57 88 [.t 54,.t 55,.t 56,(.c (.s ⟨#[116]⟩))]]
abbrev Q4:=[mt 58 0,mt 59 12,mt 60 4,o2 61 56 [.t 58,.t 59,.t 60]]
abbrev Q7:List (Nat×AO):=[(2,mt 62 0),(2,mt 63 0),(2,(aO 64 63)),(2,(ay 65 9 64)),(2,mt 67 0),(2,(aO 68 67)),(2,(ay 69 6 68)),(1,(aw 66 65)),(1,(aw 70 69)),(0,o1 71 (.bs 46 1 1 [.sl0] [(0,1,(.t 70))])),(3,o1 72 (.app 46 1 24 (.t 66) (.t 71))),(2,(aO 73 62)),(2,(ay 74 9 73)),(3,(aJ 1 74 72))]
abbrev Q3:=[o1 75 (.bd [aq 0,aq 0] [(0,1,(ci 1))]),(aJ 2 13 75)]
abbrev Q2:=[mt 29 0,mt 30 12,mt 31 3,o2 32 89 [.t 29,.t 30,.t 31],(aJ 2 13 32)]
abbrev Ra:AC:=(aM ain (.cond (.t 33) (.reg aim) (aM ail (.cond (.t 43) (.reg aik) (aM Q6 (.cond (.t 52) (aM Q5 (aM Q4 (.seq (.mix Q7) (.reg Q3)))) (.reg Q2)))))))
abbrev Q0:=[ax 76 2 11,ax 77 2 13,o2 78 90 [.t 76,.t 77],(aJ 2 11 78)]
abbrev Q9:AC:=(aM aip (.seq (aM aio (.block 2 Ra)) (.reg Q0)))
abbrev QZ:=[mt 18 12,aC 19 .add 18 1,mt 12 19]
abbrev Rb:AC:=(.seq (aM aiq (.cond (.t 17) .skip (.exit 0))) (.seq (.block 1 Q9) (.reg QZ)))
abbrev Q8:AC:=(.loop Rb)
abbrev QY:=[ax 79 2 11,(aJ 2 10 79)]
abbrev auj:AF:=⟨80,(aM ait (aM ais (.seq (aM air (.block 0 Q8)) (aM QY .ret)))),[.ld 2 true (.t 10)]⟩
theorem aiu:fB av (fc av 55) 55=some auj:=by kernel_rfl
abbrev aih:=[o1 8 (.al 130 [aq 0,aq 0]),aE 9 0]
abbrev aig:=[mt 18 0,mt 19 1,mt 20 2,o2 21 88 [.t 18,.t 19,.t 20,(.c (.s ⟨#[116]⟩))]]
abbrev aif:=[mt 22 0,aO 23 22,ay 24 3 23,aw 25 24,mt 26 1,aB 27 1 25 26,aw 28 27,mt 10 28]
abbrev aie:=[mt 29 10,mt 11 29]
abbrev aij:List (Nat×AO):=[(2,mt 30 0),(2,(aO 31 30)),(2,(ay 32 6 31)),(2,mt 34 0),(2,(aO 35 34)),(2,(ay 36 7 35)),(1,(aw 33 32)),(2,mt 12 33),(1,(aw 37 36)),(2,(az 38 37)),(2,mt 13 38)]
abbrev aid:=[mt 39 0,mt 40 1,aC 41 .add 40 1,mt 42 10,mt 43 13,mt 44 3,o2 45 55 [.t 39,.t 41,.t 42,.t 43,.t 44],o1 46 (.bd [aq 0,aq 0] []),o1 14 (.al 130 [aq 0,aq 0]),o1 15 (.al 130 [aq 0,aq 0]),(aJ 2 14 45),(aJ 2 15 46)]
abbrev aic:=[mt 47 0,mt 48 10,mt 49 13,o2 50 56 [.t 47,.t 48,.t 49]]
abbrev aib:=[mt 51 0,aO 52 51,ay 53 6 52,aw 54 53,mt 16 54]
abbrev aia:=[mt 55 0,mt 56 12,aO 57 55,ay 58 6 57,(aJ 1 58 56)]
abbrev ah9:=[mt 59 0,aO 60 59,ay 61 0 60,ay 62 2 61,aw 63 62,mt 64 10,aB 65 2 63 64,ay 66 0 65,aw 67 66,aC 68 .eql 67 28]
abbrev QX:=[mt 69 0,aO 70 69,ay 71 3 70,aw 72 71,mt 73 10,aB 74 1 72 73,aw 75 74,mt 11 75]
abbrev QW:=[mt 76 0,mt 77 10,aC 78 .add 77 1,mt 79 11,mt 80 13,mt 81 3,o2 82 55 [.t 76,.t 78,.t 79,.t 80,.t 81],(aJ 2 15 82)]
abbrev QV:=[mt 83 0,mt 84 11,mt 85 13,o2 86 56 [.t 83,.t 84,.t 85]]
abbrev QU:=[mt 87 0,mt 88 16,mt 89 0,aO 90 89,ay 91 6 90,aw 92 91,o2 93 120 [.t 88,.t 92],aO 94 87,ay 95 6 94,(aJ 1 95 93)]
abbrev QT:=[ay 96 0 14,aw 97 96,ay 98 0 15,aw 99 98,⟨some 100,none,.mo (.mx (.t 97) (.t 99))⟩,ay 101 1 14,aw 102 101,ay 103 1 15,aw 104 103,⟨some 105,none,.mo (.mx (.t 102) (.t 104))⟩,o1 106 (.bd [aq 0,aq 0] [(0,1,(.t 100)),(1,1,(.t 105))]),o1 17 (.al 130 [aq 0,aq 0]),(aJ 2 17 106)]
abbrev QS:=[ax 107 2 17,o1 108 (.bd [aq 0,aq 0] [(0,1,(ci 1))]),o2 109 90 [.t 107,.t 108],mt 110 11,(aJ 2 8 109),mt 9 110]
abbrev aui:AF:=⟨111,(aM aih (aM aig (aM aif (aM aie (.seq (.mix aij) (aM aid (aM aic (aM aib (aM aia (.seq (aM ah9 (.cond (.t 68) (aM QX (aM QW (.reg QV))) .skip)) (aM QU (aM QT (aM QS .ret))))))))))))),[.ld 2 true (.t 8),.mv (.t 9)]⟩
theorem aii:fB av (fc av 86) 86=some aui:=by kernel_rfl
abbrev ah5:=[aK 8]
abbrev ah4:=[mt 13 0,aO 14 13,ay 15 7 14,aw 16 15,az 17 16,mt 18 3,o1 19 (.lns (.t 18)),aD 20 .sub 17 19,mt 9 20]
abbrev ah3:=[mt 21 9,mt 22 2,aD 23 .geq 21 22,mt 24 1,o2 25 33 [.t 23,.t 24,(ci 14)]]
abbrev ah2:=[mt 26 0,aO 27 26,ay 28 7 27,aw 29 28,mt 30 9,o1 31 (.sl 3 (.t 29) (some (.t 30)) none),o2 32 123 [.t 31],mt 10 32]
abbrev ah1:=[mt 33 10,az 34 33,aE 35 0]
abbrev ah0:=[aD 36 .lss 35 34]
abbrev ahZ:=[mt 37 35,aB 38 3 33 35,ax 39 3 38,o1 12 (.al 221 [.b false,aq 0,aq 0]),mt 11 37,(aJ 3 12 39)]
abbrev ah7:List (Nat×AO):=[(2,mt 40 3),(2,mt 41 11),(2,o1 42 (.sx (.t 40) (.t 41))),(2,o1 43 (.bin .neq (.t 42) (.c (.n .u8 110)))),(2,mt 44 43),(2,o5 45 44 (.mv (.t 3))),(2,o5 46 44 (.mv (.t 11))),(2,o5 47 44 (.sx (.t 45) (.t 46))),(2,o5 48 44 (.bin .neq (.t 47) (.c (.n .u8 116)))),(2,(aI 49 44 48)),(2,mt 50 49),(2,o4 51 50 (.mv (.t 3))),(2,o4 52 50 (.mv (.t 11))),(2,o4 53 50 (.sx (.t 51) (.t 52))),(2,o4 54 50 (.bin .eql (.t 53) (.c (.n .u8 116)))),(2,o4 55 50 (.fa 0 (.t 12))),(2,mt 59 1),(1,o4 56 50 (.ld 1 false (.t 55))),(2,o4 57 50 (.eq false .b (.t 54) (.t 56))),(2,(aG 58 50 57)),(3,o2 60 33 [.t 58,.t 59,(ci 13)])]
abbrev ah8:AC:=(aM ahZ (.mix ah7))
abbrev ahY:=[aC 61 .add 35 1,mt 35 61]
abbrev QR:AC:=(aM ah0 (.seq (.cond (.t 36) .skip (.exit 0)) (.seq (.block 1 ah8) (.reg ahY))))
abbrev QQ:AC:=(.loop QR)
abbrev QP:=[mt 62 0,mt 63 0,aO 64 63,ay 65 7 64,aw 66 65,mt 67 9,o1 68 (.sl 3 (.t 66) none (some (.t 67))),aO 69 62,ay 70 7 69,(aJ 1 70 68)]
abbrev QO:=[mt 71 10,mt 8 71]
abbrev auh:AF:=⟨72,(aM ah5 (aM ah4 (aM ah3 (aM ah2 (.seq (aM ah1 (.block 0 QQ)) (aM QP (aM QO .ret))))))),[.mv (.t 8)]⟩
theorem ah6:fB av (fc av 88) 88=some auh:=by kernel_rfl
abbrev ahW:=[aK 2]
abbrev ahV:=[mt 3 0,⟨some 4,none,.sn false (.t 3)⟩]
abbrev ahU:=[aK 2]
abbrev ahT:=[o1 5 (.bs 221 3 0 [] []),mt 6 0,o1 7 (.app 221 3 24 (.t 5) (.t 6)),mt 2 7]
abbrev aug:AF:=⟨8,(aM ahW (aN ahV 4 ahU (aM ahT .ret))),[.mv (.t 2)]⟩
theorem ahX:fB av (fc av 123) 123=some aug:=by kernel_rfl
abbrev ahR:=[mt 6 0,aO 7 6,ay 8 7 7,aw 9 8,az 10 9,mt 11 2,aD 12 .eql 10 11,mt 13 1,o2 14 33 [.t 12,.t 13,(ci 14)]]
abbrev auf:AF:=⟨15,(.reg ahR),[]⟩
theorem ahS:fB av (fc av 56) 56=some auf:=by kernel_rfl
abbrev ahL:=[aK 4]
abbrev ahK:=[mt 7 0,o2 8 59 [.t 7],mt 5 8]
abbrev ahJ:=[mt 9 5,az 10 9,aE 11 0]
abbrev ahI:=[aD 12 .lss 11 10]
abbrev ahH:=[mt 13 11,mt 6 13]
abbrev ahN:List (Nat×AO):=[(2,mt 14 5),(2,mt 15 6),(2,mt 16 0),(2,mt 17 6),(2,(aB 18 2 16 17)),(2,mt 20 1),(2,mt 21 6),(2,(aB 22 2 20 21)),(1,(ax 19 2 18)),(1,(ax 23 2 22)),(3,o2 24 62 [.t 19,.t 23]),(2,(aB 25 2 14 15)),(3,(aJ 2 25 24))]
abbrev ahP:AC:=(aM ahH (.mix ahN))
abbrev ahG:=[aC 26 .add 11 1,mt 11 26]
abbrev ahQ:AC:=(aM ahI (.seq (.cond (.t 12) .skip (.exit 0)) (.seq (.block 1 ahP) (.reg ahG))))
abbrev ahO:AC:=(.loop ahQ)
abbrev QN:=[mt 27 5,mt 4 27]
abbrev aue:AF:=⟨28,(aM ahL (aM ahK (.seq (aM ahJ (.block 0 ahO)) (aM QN .ret)))),[.mv (.t 4)]⟩
theorem ahM:fB av (fc av 120) 120=some aue:=by kernel_rfl
abbrev ahE:=[aF 2 130 0 0,aF 3 130 0 1,o1 4 (.al 130 [aq 0,aq 0])]
abbrev ahD:=[ay 5 0 2,aw 6 5,ay 7 0 3,aw 8 7,aD 9 .add 6 8,⟨some 10,none,.mo (.mi (.t 9) (ci 281474976710657))⟩,ay 11 1 2,aw 12 11,ay 13 1 3,aw 14 13,aD 15 .add 12 14,⟨some 16,none,.mo (.mi (.t 15) (ci 281474976710657))⟩,o1 17 (.bd [aq 0,aq 0] [(0,1,(.t 10)),(1,1,(.t 16))]),(aJ 2 4 17)]
abbrev aud:AF:=⟨18,(aM ahE (aM ahD .ret)),[.ld 2 true (.t 4)]⟩
theorem ahF:fB av (fc av 90) 90=some aud:=by kernel_rfl
abbrev ahk:=[o1 6 (.al 130 [aq 0,aq 0]),aE 7 0]
abbrev ahj:=[mt 17 0,mt 18 1,mt 19 2,o2 20 88 [.t 17,.t 18,.t 19,(.c (.s ⟨#[110]⟩))],o1 21 (.ia 3 (.t 20) (ci 0)),ay 22 1 21,ay 23 1 22,aw 24 23,mt 8 24]
abbrev ahi:=[mt 25 8,aC 26 .leq 25 65536,mt 27 1,o2 28 33 [.t 26,.t 27,(ci 18)]]
abbrev ahn:List (Nat×AO):=[(2,mt 30 0),(2,(aO 31 30)),(2,(ay 32 4 31)),(2,(ay 33 0 32)),(2,mt 35 1),(2,mt 36 8),(2,mt 37 0),(2,(aO 38 37)),(2,(ay 39 6 38)),(1,(aw 34 33)),(1,(aw 40 39)),(3,⟨some 41,none,.cl (.t 34) [.t 35,.t 36,.t 40]⟩),(2,mt 29 41),(2,(aA 42 0 29)),(2,(aA 43 1 29)),(2,mt 9 42),(2,mt 8 43)]
abbrev ahm:List (Nat×AO):=[(2,mt 44 0),(2,(aO 45 44)),(2,(ay 46 3 45)),(2,mt 48 1),(2,mt 51 0),(2,(aO 52 51)),(2,(ay 53 7 52)),(2,mt 56 0),(2,(aO 57 56)),(2,(ay 58 9 57)),(1,(aw 47 46)),(2,(aB 49 1 47 48)),(1,(aw 50 49)),(2,mt 10 50),(1,(aw 54 53)),(2,(az 55 54)),(2,mt 11 55),(1,(aw 59 58)),(2,mt 12 59)]
abbrev ahh:=[o1 13 (.al 130 [aq 0,aq 0])]
abbrev ahg:=[aE 14 1]
abbrev ahf:=[mt 62 0,mt 63 0,mt 64 9,aO 65 62,ay 66 6 65,(aJ 1 66 64),aO 67 63,ay 68 9 67,o3 (.st 1 (.t 68) (.c .sl0))]
abbrev ahe:=[mt 69 0,mt 70 1,aC 71 .add 70 1,mt 72 10,mt 73 11,mt 74 11,o2 75 55 [.t 69,.t 71,.t 72,.t 73,.t 74],(aJ 2 13 75)]
abbrev ahd:=[mt 76 0,mt 77 10,mt 78 11,o2 79 56 [.t 76,.t 77,.t 78]]
abbrev QE:=[mt 80 0,aO 81 80,ay 82 6 81,aw 83 82,mt 84 9,o2 85 121 [.t 83,.t 84]]
abbrev QG:List (Nat×AO):=[(2,mt 86 0),(2,(aO 87 86)),(2,(ay 88 4 87)),(2,(ay 89 1 88)),(2,mt 91 1),(2,mt 92 10),(2,mt 93 14),(2,mt 94 9),(2,mt 95 0),(2,(aO 96 95)),(2,(ay 97 6 96)),(1,(aw 90 89)),(1,(aw 98 97)),(3,⟨some 99,none,.cl (.t 90) [.t 91,.t 92,.t 93,.t 94,.t 98]⟩),(2,mt 9 99)]
abbrev QK:AC:=(aM ahf (aM ahe (aM ahd (.seq (aM QE (.cond (.t 85) (.exit 0) .skip)) (.mix QG)))))
abbrev QD:=[mt 60 14,aC 61 .add 60 1,mt 14 61]
abbrev QM:AC:=(.seq (.block 1 QK) (.reg QD))
abbrev QJ:AC:=(.loop QM)
abbrev QF:List (Nat×AO):=[(2,mt 100 0),(2,(aO 101 100)),(2,(ay 102 10 101)),(2,mt 104 1),(2,mt 105 1),(2,mt 106 8),(2,mt 107 9),(1,(aw 103 102)),(0,o2 108 59 [.t 107]),(2,o1 109 (.bd [aq 0,aq 0,.sl0] [(0,1,(.t 105)),(1,1,(.t 106)),(2,1,(.t 108))])),(3,⟨none,none,.mo (.mu (.t 103) (.t 104) (.t 109))⟩)]
abbrev QC:=[mt 110 0,mt 111 9,aO 112 110,ay 113 6 112,(aJ 1 113 111)]
abbrev QB:=[mt 114 0,aO 115 114,ay 116 9 115,aw 117 116,az 118 117,aE 119 0]
abbrev QA:=[aD 120 .lss 119 118]
abbrev Qz:=[aB 121 1 117 119,aw 122 121,mt 16 122]
abbrev Qy:=[mt 123 0,mt 124 0,aO 125 124,ay 126 6 125,aw 127 126,mt 128 16,o2 129 120 [.t 127,.t 128],aO 130 123,ay 131 6 130,(aJ 1 131 129)]
abbrev QI:AC:=(aM Qz (.reg Qy))
abbrev Qx:=[aC 132 .add 119 1,mt 119 132]
abbrev QL:AC:=(aM QA (.seq (.cond (.t 120) .skip (.exit 2)) (.seq (.block 3 QI) (.reg Qx))))
abbrev QH:AC:=(.loop QL)
abbrev Qw:=[mt 133 0,mt 134 12,aO 135 133,ay 136 9 135,(aJ 1 136 134)]
abbrev Qv:=[ax 137 2 13,mt 138 8,o2 139 122 [.t 137,.t 138],o1 140 (.bd [aq 0,aq 0] [(0,1,(ci 1))]),o2 141 90 [.t 139,.t 140],mt 142 10,(aJ 2 6 141),mt 7 142]
abbrev at0:AF:=⟨143,(aM ahk (aM ahj (aM ahi (.seq (.mix ahn) (.seq (.mix ahm) (aM ahh (.seq (aM ahg (.block 0 QJ)) (.seq (.mix QF) (aM QC (.seq (aM QB (.block 2 QH)) (aM Qw (aM Qv .ret)))))))))))),[.ld 2 true (.t 6),.mv (.t 7)]⟩
theorem ahl:fB av (fc av 87) 87=some at0:=by kernel_rfl
abbrev ahb:=[o1 4 (.mv (.c (.b false)))]
abbrev aha:=[mt 5 0,mt 6 1,o2 7 171 [.t 5,.t 6,(.c (.f 172 [] []))],mt 4 7]
abbrev atZ:AF:=⟨8,(aM ahb (aM aha .ret)),[.mv (.t 4)]⟩
theorem ahc:fB av (fc av 121) 121=some atZ:=by kernel_rfl
abbrev ag7:=[o1 6 (.mv (.c (.b false)))]
abbrev ag6:=[mt 10 0,az 11 10,mt 12 1,az 13 12,aD 14 .neq 11 13]
abbrev ag5:=[o1 6 (.mv (.c (.b false)))]
abbrev ag4:=[mt 15 0,az 16 15,aE 17 0]
abbrev ag3:=[aD 18 .lss 17 16]
abbrev ag2:=[mt 19 17,aB 20 2 15 17,ax 21 2 20,o1 8 (.al 127 [aq 0,aq 0]),mt 7 19,(aJ 2 8 21)]
abbrev ag1:=[mt 22 1,mt 23 7,aB 24 2 22 23,ax 25 2 24,o1 9 (.al 127 [aq 0,aq 0]),(aJ 2 9 25)]
abbrev ag0:=[mt 26 2,ax 27 2 8,ax 28 2 9,⟨some 29,none,.cl (.t 26) [.t 27,.t 28]⟩,o1 30 (.un .not (.t 29))]
abbrev agZ:=[o1 6 (.mv (.c (.b false)))]
abbrev ag9:AC:=(aM ag2 (aM ag1 (aM ag0 (.cond (.t 30) (aM agZ .ret) .skip))))
abbrev Qs:=[aC 31 .add 17 1,mt 17 31]
abbrev Qu:AC:=(aM ag3 (.seq (.cond (.t 18) .skip (.exit 0)) (.seq (.block 1 ag9) (.reg Qs))))
abbrev Qt:AC:=(.loop Qu)
abbrev Qr:=[o1 6 (.mv (.c (.b true)))]
abbrev atY:AF:=⟨32,(aM ag7 (aN ag6 14 ag5 (.seq (aM ag4 (.block 0 Qt)) (aM Qr .ret)))),[.mv (.t 6)]⟩
theorem ag8:fB av (fc av 171) 171=some atY:=by kernel_rfl
abbrev agW:=[aF 2 130 0 0,aF 3 3 0 1,o1 4 (.al 130 [aq 0,aq 0])]
abbrev agV:=[o1 6 (.mf 173 [] [.t 3]),mt 5 6]
abbrev agY:List (Nat×AO):=[(2,mt 7 5),(2,(ay 8 0 2)),(2,mt 13 5),(2,(ay 14 1 2)),(1,(aw 9 8)),(2,(aC 10 .add 9 1)),(1,(aw 15 14)),(0,⟨some 11,none,.mo (.mi (.t 10) (ci 281474976710657))⟩),(0,⟨some 12,none,.cl (.t 7) [.t 11]⟩),(3,⟨some 16,none,.cl (.t 13) [.t 15]⟩),(2,o1 17 (.bd [aq 0,aq 0] [(0,1,(.t 12)),(1,1,(.t 16))])),(3,(aJ 2 4 17))]
abbrev atX:AF:=⟨18,(aM agW (aM agV (.seq (.mix agY) .ret))),[.ld 2 true (.t 4)]⟩
theorem agX:fB av (fc av 122) 122=some atX:=by kernel_rfl
abbrev agT:=[aE 3 0]
abbrev agS:=[aw 4 1,aC 5 .gtr 4 0,mt 6 5,o5 7 6 (.mv (.t 0)),o5 8 6 (.ld 1 false (.t 1)),o5 9 6 (.bin .quo (ci 281474976710657) (.t 8)),o5 10 6 (.bin .gtr (.t 7) (.t 9)),aI 11 6 10]
abbrev agR:=[aE 3 281474976710657]
abbrev agQ:=[mt 12 0,aw 13 1,aD 14 .mul 12 13,⟨some 15,none,.mo (.mi (.t 14) (ci 281474976710657))⟩,mt 3 15]
abbrev atW:AF:=⟨16,(aM agT (aN agS 11 agR (aM agQ .ret))),[.mv (.t 3)]⟩
theorem agU:fB av (fc av 173) 173=some atW:=by kernel_rfl
abbrev agN:=[o1 6 (.al 130 [aq 0,aq 0])]
abbrev agM:=[mt 15 0,aO 16 15,ay 17 0 16,ay 18 2 17,aw 19 18,mt 20 1,aB 21 2 19 20,ax 22 2 21,o1 7 (.al 54 [aq 0,.n .u32 0]),(aJ 2 7 22)]
abbrev agL:=[ay 24 0 7,aw 25 24,o2 26 103 [.t 25],mt 23 26,aA 27 0 23,aA 28 1 23,aA 29 2 23,mt 8 27,mt 9 28,mt 10 29]
abbrev agK:=[mt 30 0,mt 31 1,mt 32 2,mt 33 8,o2 34 88 [.t 30,.t 31,.t 32,.t 33],mt 11 34]
abbrev agJ:=[o1 35 (.bd [aq 0,aq 0] [(0,1,(ci 1))]),o1 12 (.al 130 [aq 0,aq 0]),(aJ 2 12 35)]
abbrev agI:=[ay 36 0 7,aw 37 36]
abbrev agH:=[aC 71 .eql 37 0,mt 70 71]
abbrev agG:=[mt 72 0,mt 73 1,ay 74 1 7,aw 75 74,o2 76 54 [.t 75],o2 77 125 [.t 76],o1 78 (.bs 221 3 1 [.b false,aq 0,aq 0] [(0,3,(.t 77))]),o2 79 124 [.t 72,.t 73,.t 78]]
abbrev agF:=[aC 81 .eql 37 1,mt 80 81]
abbrev agP:List (Nat×AO):=[(2,mt 82 0),(2,mt 83 1),(2,mt 84 0),(2,(aO 85 84)),(2,(ay 86 6 85)),(2,(ay 88 1 7)),(1,(aw 87 86)),(1,(aw 89 88)),(2,(aB 90 2 87 89)),(1,(ax 91 2 90)),(3,o2 92 125 [.t 91]),(3,o1 93 (.bs 221 3 1 [.b false,aq 0,aq 0] [(0,3,(.t 92))])),(3,o2 94 124 [.t 82,.t 83,.t 93])]
abbrev Ql:=[aC 96 .eql 37 2,mt 95 96]
abbrev Qk:=[mt 97 0,mt 98 0,aO 99 98,ay 100 6 99,aw 101 100,o2 102 59 [.t 101],aO 103 97,ay 104 6 103,(aJ 1 104 102)]
abbrev Qp:List (Nat×AO):=[(2,mt 105 0),(2,(aO 106 105)),(2,(ay 107 6 106)),(2,(ay 109 1 7)),(2,mt 111 11),(2,o1 112 (.ia 3 (.t 111) (ci 0))),(2,(ay 113 1 112)),(1,(aw 108 107)),(1,(aw 110 109)),(1,(ax 114 2 113)),(2,(aB 115 2 108 110)),(3,(aJ 2 115 114))]
abbrev Qj:=[aC 117 .eql 37 3,mt 116 117]
abbrev Qi:=[mt 118 0,mt 119 1,mt 120 0,mt 121 1,mt 122 11,o1 123 (.ia 3 (.t 122) (ci 0)),ax 124 3 123,o2 125 126 [.t 120,.t 121,.t 124],o2 126 125 [.t 125],o1 127 (.bs 221 3 1 [.b false,aq 0,aq 0] [(0,3,(.t 126))]),o2 128 124 [.t 118,.t 119,.t 127]]
abbrev Qh:=[aC 130 .eql 37 4,mt 129 130]
abbrev Qg:=[mt 131 0,mt 132 1,mt 133 11,o1 134 (.ia 3 (.t 133) (ci 0)),ax 135 3 134,o2 136 126 [.t 131,.t 132,.t 135]]
abbrev Qf:=[aC 138 .eql 37 5,mt 137 138]
abbrev Qo:List (Nat×AO):=[(2,mt 139 0),(2,mt 140 1),(2,mt 141 11),(2,o1 142 (.ia 3 (.t 141) (ci 0))),(2,mt 144 11),(2,o1 145 (.ia 3 (.t 144) (ci 0))),(1,(ax 143 3 142)),(1,(ax 146 3 145)),(3,o1 147 (.bs 221 3 2 [.b false,aq 0,aq 0,.b false,aq 0,aq 0] [(0,3,(.t 143)),(3,3,(.t 146))])),(3,o2 148 124 [.t 139,.t 140,.t 147])]
abbrev Qe:=[aC 150 .eql 37 7,mt 149 150]
abbrev Qn:List (Nat×AO):=[(2,mt 151 0),(2,mt 152 1),(2,mt 153 11),(2,o1 154 (.ia 3 (.t 153) (ci 1))),(2,mt 156 11),(2,o1 157 (.ia 3 (.t 156) (ci 0))),(1,(ax 155 3 154)),(1,(ax 158 3 157)),(3,o1 159 (.bs 221 3 2 [.b false,aq 0,aq 0,.b false,aq 0,aq 0] [(0,3,(.t 155)),(3,3,(.t 158))])),(3,o2 160 124 [.t 151,.t 152,.t 159])]
abbrev Qd:=[aC 162 .eql 37 6,mt 161 162]
abbrev Qc:=[aC 163 .eql 37 35,mt 161 163]
abbrev Qb:=[aC 165 .eql 37 34,mt 164 165]
abbrev Qa:=[ay 166 1 12,o3 (.st 1 (.t 166) (ci 1))]
abbrev P9:=[aC 168 .eql 37 32,mt 167 168]
abbrev P8:=[mt 169 0,mt 170 1,o2 171 63 [],o2 172 125 [.t 171],o1 173 (.bs 221 3 1 [.b false,aq 0,aq 0] [(0,3,(.t 172))]),o2 174 124 [.t 169,.t 170,.t 173]]
abbrev P7:=[aC 176 .eql 37 26,mt 175 176]
abbrev P6:=[mt 177 0,mt 178 1,o1 179 (.bd [aq 0,aq 0] [(1,1,(ci 1))]),o2 180 125 [.t 179],o1 181 (.bs 221 3 1 [.b false,aq 0,aq 0] [(0,3,(.t 180))]),o2 182 124 [.t 177,.t 178,.t 181]]
abbrev P5:=[mt 38 9,o1 39 (.bin .eql (.t 38) (.c (.s ⟨#[116]⟩)))]
abbrev P4:=[mt 40 0,mt 41 1,o1 42 (.bd [.b false,aq 0,aq 0] [(0,1,(.c (.b true)))]),o1 43 (.bs 221 3 1 [.b false,aq 0,aq 0] [(0,3,(.t 42))]),o2 44 124 [.t 40,.t 41,.t 43]]
abbrev Qm:List (Nat×AO):=[(2,(ay 46 0 7)),(1,(aw 47 46)),(2,mt 48 11),(2,o1 49 (.ia 3 (.t 48) (ci 0))),(2,(ay 50 1 49)),(1,(ax 51 2 50)),(2,mt 52 11),(2,o1 53 (.ia 3 (.t 52) (ci 1))),(2,(ay 54 1 53)),(1,(ax 55 2 54))]
abbrev P0:AT:=(.alt (o2 56 127 [.t 47,.t 51,.t 55]) (.alt (mt 45 56) (.alt (aA 57 0 45) (.alt (aA 58 1 45) (.alt (o1 13 (.al 127 [aq 0,aq 0])) (.alt (aJ 2 13 57) (.alt (mt 14 58) .fin .none) .none) .none) (.alt (o1 13 (.al 127 [aq 0,aq 0])) (.alt (aA 58 1 45) (.alt (aJ 2 13 57) (.alt (mt 14 58) .fin .none) .none) (.alt (aJ 2 13 57) (.alt (aA 58 1 45) (.alt (mt 14 58) .fin .none) .none) .none)) .none)) (.alt (aA 58 1 45) (.alt (aA 57 0 45) (.alt (o1 13 (.al 127 [aq 0,aq 0])) (.alt (aJ 2 13 57) (.alt (mt 14 58) .fin .none) .none) .none) (.alt (o1 13 (.al 127 [aq 0,aq 0])) (.alt (aA 57 0 45) (.alt (aJ 2 13 57) (.alt (mt 14 58) .fin .none) .none) .none) .none)) (.alt (o1 13 (.al 127 [aq 0,aq 0])) (.alt (aA 57 0 45) (.alt (aA 58 1 45) (.alt (aJ 2 13 57) (.alt (mt 14 58) .fin .none) .none) (.alt (aJ 2 13 57) (.alt (aA 58 1 45) (.alt (mt 14 58) .fin .none) .none) .none)) (.alt (aA 58 1 45) (.alt (aA 57 0 45) (.alt (aJ 2 13 57) (.alt (mt 14 58) .fin .none) .none) .none) .none)) .none))) (.alt (o1 13 (.al 127 [aq 0,aq 0])) (.alt (mt 45 56) (.alt (aA 57 0 45) (.alt (aA 58 1 45) (.alt (aJ 2 13 57) (.alt (mt 14 58) .fin .none) .none) (.alt (aJ 2 13 57) (.alt (aA 58 1 45) (.alt (mt 14 58) .fin .none) .none) .none)) (.alt (aA 58 1 45) (.alt (aA 57 0 45) (.alt (aJ 2 13 57) (.alt (mt 14 58) .fin .none) .none) .none) .none)) .none) .none)) (.alt (o1 13 (.al 127 [aq 0,aq 0])) (.alt (o2 56 127 [.t 47,.t 51,.t 55]) (.alt (mt 45 56) (.alt (aA 57 0 45) (.alt (aA 58 1 45) (.alt (aJ 2 13 57) (.alt (mt 14 58) .fin .none) .none) (.alt (aJ 2 13 57) (.alt (aA 58 1 45) (.alt (mt 14 58) .fin .none) .none) .none)) (.alt (aA 58 1 45) (.alt (aA 57 0 45) (.alt (aJ 2 13 57) (.alt (mt 14 58) .fin .none) .none) .none) .none)) .none) .none) .none))
abbrev P3:=[mt 59 14,aC 60 .eql 59 0,mt 61 1,mt 62 14,o2 63 33 [.t 60,.t 61,.t 62]]
abbrev P2:=[mt 64 0,mt 65 1,ax 66 2 13,o2 67 125 [.t 66],o1 68 (.bs 221 3 1 [.b false,aq 0,aq 0] [(0,3,(.t 67))]),o2 69 124 [.t 64,.t 65,.t 68]]
abbrev Qq:AC:=(aM agH (.cond (.t 70) (.reg agG) (aM agF (.cond (.t 80) (.mix agP) (aM Ql (.cond (.t 95) (aM Qk (.mix Qp)) (aM Qj (.cond (.t 116) (.reg Qi) (aM Qh (.cond (.t 129) (.reg Qg) (aM Qf (.cond (.t 137) (.mix Qo) (aM Qe (.cond (.t 149) (.mix Qn) (.seq (aM Qd (.cond (.t 161) .skip (.reg Qc))) (.cond (.t 161) .skip (aM Qb (.cond (.t 164) (.reg Qa) (aM P9 (.cond (.t 167) (.reg P8) (aM P7 (.cond (.t 175) (.reg P6) (.seq (aM P5 (.cond (.t 39) (aM P4 (.exit 0)) .skip)) (.seq (.frk Qm P0) (aM P3 (.reg P2))))))))))))))))))))))))))
abbrev P1:=[ax 183 2 12,(aJ 2 6 183)]
abbrev atV:AF:=⟨184,(aM agN (aM agM (aM agL (aM agK (aM agJ (.seq (aM agI (.block 0 Qq)) (aM P1 .ret))))))),[.ld 2 true (.t 6)]⟩
theorem agO:fB av (fc av 89) 89=some atV:=by kernel_rfl
abbrev agC:=[o1 2 (.mv (.c (.s ⟨#[]⟩))),o1 3 (.mv (.c (.s ⟨#[]⟩))),o1 4 (.mv (.c (.b false)))]
abbrev agB:=[mt 8 0,o2 9 70 [.t 8],mt 7 9,aA 10 0 7,aA 11 1 7,o1 5 (.al 146 [.s ⟨#[]⟩,.s ⟨#[]⟩,.s ⟨#[]⟩,.n .u64 0,.b false]),(aJ 5 5 10),mt 6 11]
abbrev agE:List (Nat×AO):=[(2,(ay 12 1 5)),(2,(ay 14 2 5)),(2,mt 16 6),(1,(aw 13 12)),(2,mt 2 13),(1,(aw 15 14)),(2,mt 3 15),(2,mt 4 16)]
abbrev atU:AF:=⟨17,(aM agC (aM agB (.seq (.mix agE) .ret))),[.mv (.t 2),.mv (.t 3),.mv (.t 4)]⟩
theorem agD:fB av (fc av 103) 103=some atU:=by kernel_rfl
abbrev agz:=[aF 1 127 0 0,o1 2 (.al 221 [.b false,aq 0,aq 0])]
abbrev agy:=[ax 3 2 1,o1 4 (.bd [.b false,aq 0,aq 0] [(1,2,(.t 3))]),(aJ 3 2 4)]
abbrev atT:AF:=⟨5,(aM agz (aM agy .ret)),[.ld 3 true (.t 2)]⟩
theorem agA:fB av (fc av 125) 125=some atT:=by kernel_rfl
abbrev agv:=[mt 6 0,mt 7 0,aO 8 7,ay 9 7 8,aw 10 9,mt 11 2,o1 12 (.app 221 3 24 (.t 10) (.t 11)),aO 13 6,ay 14 7 13,(aJ 1 14 12)]
abbrev agu:=[mt 15 0,aO 16 15,ay 17 7 16,aw 18 17,az 19 18,aC 20 .leq 19 32,mt 21 1,o2 22 33 [.t 20,.t 21,(ci 14)]]
abbrev agx:List (Nat×AO):=[(2,mt 23 0),(2,mt 24 0),(2,(aO 25 24)),(2,(ay 26 8 25)),(2,mt 28 0),(2,(aO 29 28)),(2,(ay 30 7 29)),(1,(aw 27 26)),(1,(aw 31 30)),(2,(az 32 31)),(3,⟨some 33,none,.mo (.mx (.t 27) (.t 32))⟩),(2,(aO 34 23)),(2,(ay 35 8 34)),(3,(aJ 1 35 33))]
abbrev atS:AF:=⟨36,(aM agv (aM agu (.mix agx))),[]⟩
theorem agw:fB av (fc av 124) 124=some atS:=by kernel_rfl
abbrev agr:=[aF 5 221 0 2,o1 6 (.al 127 [aq 0,aq 0])]
abbrev agt:List (Nat×AO):=[(2,mt 8 0),(2,(aO 9 8)),(2,(ay 10 0 9)),(2,(ay 11 0 10)),(2,mt 13 0),(2,(aO 14 13)),(2,(ay 15 0 14)),(2,(ay 16 2 15)),(2,mt 18 1),(1,(aw 12 11)),(1,(aw 17 16)),(2,(aB 19 2 17 18)),(2,(ay 20 1 19)),(1,(aw 21 20)),(2,(aB 22 2 12 21)),(1,(ax 23 2 22)),(0,o1 7 (.al 68 [.b false,aq 0])),(3,(aJ 2 7 23))]
abbrev agq:=[ay 24 1 5,ay 25 1 24,aw 26 25,ay 27 1 7,aw 28 27,aD 29 .lss 26 28,mt 30 1,o2 31 33 [.t 29,.t 30,(ci 16)]]
abbrev agp:=[ay 32 0 7,aw 33 32]
abbrev ago:=[o2 34 63 [],(aJ 2 6 34)]
abbrev agn:=[o1 35 (.bd [aq 0,aq 0] [(1,1,(ci 255))]),(aJ 2 6 35)]
abbrev atR:AF:=⟨36,(aM agr (.seq (.mix agt) (aM agq (aN agp 33 ago (aM agn .ret))))),[.ld 2 true (.t 6)]⟩
theorem ags:fB av (fc av 126) 126=some atR:=by kernel_rfl
abbrev af1:=[aF 4 127 0 1,aF 5 127 0 2,o1 6 (.al 127 [aq 0,aq 0]),aE 7 0]
abbrev af0:=[ax 15 2 4,ax 16 2 5,o1 17 (.bs 127 2 2 [aq 0,aq 0,aq 0,aq 0] [(0,2,(.t 15)),(2,2,(.t 16))]),az 18 17,aE 19 0]
abbrev afZ:=[aD 20 .lss 19 18]
abbrev afY:=[aB 21 2 17 19,ax 22 2 21,o1 9 (.al 127 [aq 0,aq 0]),(aJ 2 9 22)]
abbrev afX:=[ax 23 2 9,o2 24 128 [.t 23],mt 10 24]
abbrev afW:=[mt 25 10,aC 26 .neq 25 0]
abbrev afV:=[o1 27 (.bd [aq 0,aq 0] []),mt 28 10,(aJ 2 6 27),mt 7 28]
abbrev af3:AC:=(aM afY (aM afX (aM afW (.cond (.t 26) (aM afV .ret) .skip))))
abbrev afU:=[aC 29 .add 19 1,mt 19 29]
abbrev af4:AC:=(aM afZ (.seq (.cond (.t 20) .skip (.exit 0)) (.seq (.block 1 af3) (.reg afU))))
abbrev PZ:AC:=(.loop af4)
abbrev PX:=[o2 31 174 [],mt 32 0,⟨some 33,none,.mo (.lk .f0 true (.t 31) (.t 32))⟩,mt 30 33,aA 34 0 30,aA 35 1 30,mt 11 34,mt 12 35]
abbrev PW:=[mt 37 12,o1 38 (.un .not (.t 37)),mt 39 38,o5 40 39 (.mv (.t 0)),o5 41 39 (.bin .lss (.t 40) (ci 21)),o5 42 39 (.mv (.t 41)),o4 43 42 (.mv (.t 0)),o4 44 42 (.bin .gtr (.t 43) (ci 26)),o5 45 39 (.pick (.t 42) (.c (.b true)) (.t 44)),aI 46 39 45,mt 36 46]
abbrev PV:=[o1 47 (.bd [aq 0,aq 0] []),(aJ 2 6 47),aE 7 1]
abbrev PU:=[mt 49 12,o1 50 (.un .not (.t 49)),mt 48 50]
abbrev PS:=[o1 51 (.bd [aq 0,aq 0] [(1,1,(ci 1))]),(aJ 2 6 51),aE 7 0]
abbrev PR:=[ay 53 0 5,aw 54 53,aC 55 .eql 54 0,mt 56 55,o5 57 56 (.mv (.t 0)),o5 58 56 (.bin .eql (.t 57) (ci 11)),o5 59 56 (.mv (.t 58)),o4 60 59 (.mv (.t 0)),o4 61 59 (.bin .eql (.t 60) (ci 12)),o5 62 56 (.pick (.t 59) (.c (.b true)) (.t 61)),aI 63 56 62,mt 52 63]
abbrev PP:=[o1 64 (.bd [aq 0,aq 0] []),(aJ 2 6 64),aE 7 17]
abbrev PN:=[ay 66 0 4,aw 67 66,ay 68 1 4,aw 69 68,aD 70 .eql 67 69,mt 71 70,o5 72 71 (.fa 0 (.t 5)),o5 73 71 (.ld 1 false (.t 72)),o5 74 71 (.fa 1 (.t 5)),o5 75 71 (.ld 1 false (.t 74)),o5 76 71 (.bin .eql (.t 73) (.t 75)),aI 77 71 76,mt 65 77]
abbrev PM:=[mt 79 0,ay 80 0 4,aw 81 80,o1 82 (.cvi .u32 (.t 81)),ay 83 0 5,aw 84 83,o1 85 (.cvi .u32 (.t 84)),o2 86 152 [.t 79,.t 82,.t 85],mt 78 86,aA 87 0 78,aA 88 1 78,mt 13 87,mt 14 88]
abbrev PL:=[mt 89 13,o2 90 54 [.t 89],mt 91 14,(aJ 2 6 90),mt 7 91]
abbrev PY:AC:=(aM PW (.cond (.t 36) (aM PV .ret) (aM PU (.cond (.t 48) (aM PS .ret) (aM PR (.cond (.t 52) (aM PP .ret) (aM PN (.cond (.t 65) (aM PM (aM PL .ret)) .skip))))))))
abbrev PK:=[mt 92 11,ay 93 0 4,aw 94 93,ay 95 1 4,aw 96 95,ay 97 0 5,aw 98 97,ay 99 1 5,aw 100 99,o1 101 (.bd [aq 0,aq 0,aq 0,aq 0] [(0,1,(.t 94)),(1,1,(.t 96)),(2,1,(.t 98)),(3,1,(.t 100))]),⟨some 102,none,.cl (.t 92) [.t 101]⟩,(aJ 2 6 102),aE 7 0]
abbrev atG:AF:=⟨103,(aM af1 (.seq (aM af0 (.block 0 PZ)) (aM PX (.seq (.block 2 PY) (aM PK .ret))))),[.ld 2 true (.t 6),.mv (.t 7)]⟩
theorem af2:fB av (fc av 127) 127=some atG:=by kernel_rfl
abbrev afS:=[o1 0 (.mv (.c (.cv (.map none))))]
abbrev afR:=[⟨some 1,none,.mo (.mm)⟩,⟨none,none,.mo (.mu (.t 1) (ci 8) (.c (.f 187 [] [])))⟩,⟨none,none,.mo (.mu (.t 1) (ci 9) (.c (.f 188 [] [])))⟩,⟨none,none,.mo (.mu (.t 1) (ci 10) (.c (.f 189 [] [])))⟩,⟨none,none,.mo (.mu (.t 1) (ci 11) (.c (.f 190 [] [])))⟩,⟨none,none,.mo (.mu (.t 1) (ci 12) (.c (.f 191 [] [])))⟩,⟨none,none,.mo (.mu (.t 1) (ci 13) (.c (.f 192 [] [])))⟩,⟨none,none,.mo (.mu (.t 1) (ci 14) (.c (.f 193 [] [])))⟩,⟨none,none,.mo (.mu (.t 1) (ci 15) (.c (.f 194 [] [])))⟩,⟨none,none,.mo (.mu (.t 1) (ci 16) (.c (.f 195 [] [])))⟩,⟨none,none,.mo (.mu (.t 1) (ci 17) (.c (.f 196 [] [])))⟩,⟨none,none,.mo (.mu (.t 1) (ci 18) (.c (.f 197 [] [])))⟩,⟨none,none,.mo (.mu (.t 1) (ci 19) (.c (.f 198 [] [])))⟩,⟨none,none,.mo (.mu (.t 1) (ci 20) (.c (.f 199 [] [])))⟩,mt 2 1,mt 0 2]
abbrev atF:AF:=⟨3,(aM afS (aM afR .ret)),[.mv (.t 0)]⟩
theorem afT:fB av (fc av 174) 174=some atF:=by kernel_rfl
abbrev afO:=[o1 6 (.mv (.c (.n .u32 0))),aE 7 0]
abbrev afN:=[o2 11 179 [],mt 12 0,⟨some 13,none,.mo (.lk .f0 true (.t 11) (.t 12))⟩,mt 10 13,aA 14 0 10,aA 15 1 10,mt 8 14,mt 9 15]
abbrev afM:=[mt 17 9,o1 18 (.un .not (.t 17)),mt 16 18]
abbrev afL:=[o1 6 (.mv (.c (.n .u32 0))),aE 7 1]
abbrev afK:=[mt 20 2,o1 21 (.bin .eql (.t 20) (.c (.n .u32 0))),mt 22 21,o5 23 22 (.mv (.t 0)),o5 24 22 (.bin .eql (.t 23) (ci 11)),o5 25 22 (.mv (.t 24)),o4 26 25 (.mv (.t 0)),o4 27 25 (.bin .eql (.t 26) (ci 12)),o5 28 22 (.pick (.t 25) (.c (.b true)) (.t 27)),aI 29 22 28,mt 19 29]
abbrev afJ:=[o1 6 (.mv (.c (.n .u32 0))),aE 7 17]
abbrev afQ:AC:=(aM afM (.cond (.t 16) (aM afL .ret) (aM afK (.cond (.t 19) (aM afJ .ret) .skip))))
abbrev afI:=[mt 30 8,mt 31 1,mt 32 2,⟨some 33,none,.cl (.t 30) [.t 31,.t 32]⟩,mt 6 33,aE 7 0]
abbrev atD:AF:=⟨34,(aM afO (aM afN (.seq (.block 0 afQ) (aM afI .ret)))),[.mv (.t 6),.mv (.t 7)]⟩
theorem afP:fB av (fc av 152) 152=some atD:=by kernel_rfl
abbrev afG:=[o1 0 (.mv (.c (.cv (.map none))))]
abbrev afF:=[⟨some 1,none,.mo (.mm)⟩,⟨none,none,.mo (.mu (.t 1) (ci 8) (.c (.f 202 [] [])))⟩,⟨none,none,.mo (.mu (.t 1) (ci 9) (.c (.f 203 [] [])))⟩,⟨none,none,.mo (.mu (.t 1) (ci 10) (.c (.f 204 [] [])))⟩,⟨none,none,.mo (.mu (.t 1) (ci 11) (.c (.f 205 [] [])))⟩,⟨none,none,.mo (.mu (.t 1) (ci 12) (.c (.f 206 [] [])))⟩,⟨none,none,.mo (.mu (.t 1) (ci 13) (.c (.f 207 [] [])))⟩,⟨none,none,.mo (.mu (.t 1) (ci 14) (.c (.f 208 [] [])))⟩,⟨none,none,.mo (.mu (.t 1) (ci 15) (.c (.f 209 [] [])))⟩,⟨none,none,.mo (.mu (.t 1) (ci 16) (.c (.f 210 [] [])))⟩,⟨none,none,.mo (.mu (.t 1) (ci 17) (.c (.f 211 [] [])))⟩,⟨none,none,.mo (.mu (.t 1) (ci 18) (.c (.f 212 [] [])))⟩,⟨none,none,.mo (.mu (.t 1) (ci 19) (.c (.f 213 [] [])))⟩,⟨none,none,.mo (.mu (.t 1) (ci 20) (.c (.f 214 [] [])))⟩,⟨none,none,.mo (.mu (.t 1) (ci 21) (.c (.f 215 [] [])))⟩,⟨none,none,.mo (.mu (.t 1) (ci 22) (.c (.f 216 [] [])))⟩,⟨none,none,.mo (.mu (.t 1) (ci 23) (.c (.f 217 [] [])))⟩,⟨none,none,.mo (.mu (.t 1) (ci 24) (.c (.f 218 [] [])))⟩,⟨none,none,.mo (.mu (.t 1) (ci 25) (.c (.f 219 [] [])))⟩,⟨none,none,.mo (.mu (.t 1) (ci 26) (.c (.f 220 [] [])))⟩,mt 2 1,mt 0 2]
abbrev atC:AF:=⟨3,(aM afG (aM afF .ret)),[.mv (.t 0)]⟩
theorem afH:fB av (fc av 179) 179=some atC:=by kernel_rfl
abbrev afD:=[aF 2 25 0 0,aF 3 38 0 1,aE 4 0,aE 5 0]
abbrev afC:=[ax 10 3 2,ax 11 4 3,o2 12 34 [.t 10,.t 11],mt 9 12,aA 13 0 9,aA 14 1 9,aA 15 2 9,o1 6 (.al 88 [.sl0,.cv (.map none)]),(aJ 2 6 13),mt 7 14,mt 8 15]
abbrev afB:=[mt 16 8,aC 17 .neq 16 0]
abbrev afA:=[mt 18 8,aE 4 0,mt 5 18]
abbrev afz:=[ax 19 2 6,mt 20 7,ax 21 2 6,o1 22 (.mf 36 [.t 21] []),o2 23 35 [.t 19,.t 20,.t 22,(ci 1)],o2 24 23 [.t 23],aA 25 0 24,aA 26 1 24,mt 4 25,mt 5 26]
abbrev atB:AF:=⟨27,(aM afD (aM afC (aN afB 17 afA (aM afz .ret)))),[.mv (.t 4),.mv (.t 5)]⟩
theorem afE:fB av (fc av 13) 13=some atB:=by kernel_rfl
abbrev afx:=[aF 2 25 0 0,aF 3 38 0 1,o1 4 (.al 88 [.sl0,.cv (.map none)]),aK 5,aE 6 0]
abbrev afw:=[ax 19 3 2,o2 20 28 [.t 19],mt 18 20,aA 21 0 18,aA 22 1 18,mt 7 21,mt 8 22]
abbrev afv:=[mt 23 8,aC 24 .neq 23 0]
abbrev afu:=[o1 25 (.bd [.sl0,.cv (.map none)] []),mt 26 8,(aJ 2 4 25),aK 5,mt 6 26]
abbrev aft:=[ay 28 2 2,aw 29 28,o2 30 65 [.t 29],mt 27 30,aA 31 0 27,aA 32 1 27,mt 9 31,mt 10 32]
abbrev afs:=[mt 33 10,aC 34 .neq 33 0]
abbrev afr:=[o1 35 (.bd [.sl0,.cv (.map none)] []),mt 36 10,(aJ 2 4 35),aK 5,mt 6 36]
abbrev afq:=[mt 37 9,az 38 37,ay 39 3 3,aw 40 39,az 41 40,aD 42 .neq 38 41]
abbrev afp:=[o1 43 (.bd [.sl0,.cv (.map none)] []),(aJ 2 4 43),aK 5,aE 6 23]
abbrev afo:=[ay 44 2 2,aw 45 44,⟨some 46,none,.mo (.mm)⟩,o1 47 (.bd [.sl0,.cv (.map none)] [(0,1,(.t 45)),(1,1,(.t 46))]),o1 11 (.al 88 [.sl0,.cv (.map none)]),(aJ 2 11 47)]
abbrev PF:=[o1 12 (.mv (.c (.b false)))]
abbrev PE:=[mt 48 9,az 49 48,aE 50 0]
abbrev PD:=[aD 51 .lss 50 49]
abbrev PB:=[mt 52 50,aB 53 1 48 50,aw 54 53,mt 13 52,mt 14 54]
abbrev PA:=[ay 55 3 3,aw 56 55,mt 57 13,aB 58 3 56 57,ax 59 3 58,o1 15 (.al 48 [aq 0,aq 0,.sl0]),(aJ 3 15 59)]
abbrev Pz:=[ay 60 0 15,aw 61 60,mt 62 14,aD 63 .neq 61 62]
abbrev Py:=[o1 64 (.bd [.sl0,.cv (.map none)] []),(aJ 2 4 64),aK 5,aE 6 23]
abbrev Px:=[mt 65 12,mt 66 65,o4 67 66 (.fa 1 (.t 15)),o4 68 66 (.ld 1 false (.t 67)),o4 69 66 (.bin .lss (.t 68) (ci 0)),aG 70 66 69,mt 71 70,o4 72 71 (.fa 1 (.t 15)),o4 73 71 (.ld 1 false (.t 72)),o4 74 71 (.bin .gtr (.t 73) (ci 65536)),aG 75 71 74,mt 12 75]
abbrev Pw:=[ay 76 1 11,aw 77 76,mt 78 14,ay 79 1 15,aw 80 79,⟨none,none,.mo (.mu (.t 77) (.t 78) (.t 80))⟩]
abbrev PH:AC:=(aM PB (aM PA (aN Pz 63 Py (aM Px (.reg Pw)))))
abbrev Pv:=[aC 81 .add 50 1,mt 50 81]
abbrev PJ:AC:=(aM PD (.seq (.cond (.t 51) .skip (.exit 0)) (.seq (.block 1 PH) (.reg Pv))))
abbrev PG:AC:=(.loop PJ)
abbrev Pu:=[mt 82 12]
abbrev Pt:=[o1 83 (.bd [.sl0,.cv (.map none)] []),(aJ 2 4 83),aK 5,aE 6 2]
abbrev Ps:=[ay 85 2 2,aw 86 85,o2 87 50 [.t 86],mt 84 87,aA 88 0 84,aA 89 1 84,aA 90 2 84,mt 16 88,mt 17 89,mt 10 90]
abbrev Pq:=[ax 91 2 11,mt 92 16,mt 93 10,(aJ 2 4 91),mt 5 92,mt 6 93]
abbrev atA:AF:=⟨94,(aM afx (.seq (aM afw (aM afv (.cond (.t 24) (aM afu .ret) .skip))) (aM aft (aN afs 34 afr (aN afq 42 afp (aM afo (aM PF (.seq (aM PE (.block 0 PG)) (aN Pu 82 Pt (aM Ps (aM Pq .ret))))))))))),[.ld 2 true (.t 4),.mv (.t 5),.mv (.t 6)]⟩
theorem afy:fB av (fc av 34) 34=some atA:=by kernel_rfl
abbrev afm:=[aK 2,aE 3 0]
abbrev afl:=[mt 11 0,o2 12 50 [.t 11],mt 10 12,aA 13 0 10,aA 14 1 10,aA 15 2 10,mt 4 13,mt 5 14,mt 6 15]
abbrev afk:=[mt 16 6,aC 17 .neq 16 0]
abbrev afj:=[mt 18 6,aK 2,mt 3 18]
abbrev afi:=[aK 7]
abbrev afh:=[mt 19 0,az 20 19,aE 21 0]
abbrev afg:=[aD 22 .lss 21 20]
abbrev aff:=[mt 23 21,aB 24 2 19 21,ax 25 2 24,o1 9 (.al 54 [aq 0,.n .u32 0]),mt 8 23,(aJ 2 9 25)]
abbrev afe:=[ay 26 0 9,aw 27 26,aC 28 .eql 27 29]
abbrev afd:=[mt 29 7,mt 30 8,o1 31 (.bs 3 1 1 [aq 0] [(0,1,(.t 30))]),o1 32 (.app 3 1 8 (.t 29) (.t 31)),mt 7 32]
abbrev Po:AC:=(aM aff (aM afe (.cond (.t 28) (.reg afd) .skip)))
abbrev Pm:=[aC 33 .add 21 1,mt 21 33]
abbrev Pp:AC:=(aM afg (.seq (.cond (.t 22) .skip (.exit 0)) (.seq (.block 1 Po) (.reg Pm))))
abbrev Pn:AC:=(.loop Pp)
abbrev Pk:=[mt 34 7,mt 2 34,aE 3 0]
abbrev atz:AF:=⟨35,(aM afm (aM afl (aN afk 17 afj (aM afi (.seq (aM afh (.block 0 Pn)) (aM Pk .ret)))))),[.mv (.t 2),.mv (.t 3)]⟩
theorem afn:fB av (fc av 65) 65=some atz:=by kernel_rfl
abbrev afb:=[aF 3 88 0 0,aE 6 0]
abbrev afa:=[mt 7 2,mt 8 1,aD 9 .sub 7 8,mt 6 9]
abbrev aty:AF:=⟨10,(aM afb (aM afa .ret)),[.mv (.t 6)]⟩
theorem afc:fB av (fc av 36) 36=some aty:=by kernel_rfl
abbrev ae7:=[aF 4 88 0 0,aE 8 0]
abbrev ae6:=[aE 9 0]
abbrev ae5:=[mt 13 1,az 14 13,aE 15 0]
abbrev ae4:=[aD 16 .lss 15 14]
abbrev ae3:=[aB 17 5 13 15,ax 18 5 17,o1 11 (.al 140 [aq 0,aq 0,aq 0,.sl0,.sl0]),(aJ 5 11 18)]
abbrev ae2:=[aE 12 0]
abbrev ae1:=[ay 19 0 11,aw 20 19]
abbrev ae0:=[aC 28 .eql 20 27,mt 27 28]
abbrev ae9:List (Nat×AO):=[(2,mt 29 3),(2,(ay 31 3 11)),(2,mt 33 2),(2,mt 34 3),(2,(ay 37 4 11)),(2,mt 39 2),(2,mt 40 3),(1,(ax 30 2 4)),(1,(aw 32 31)),(1,(ax 36 2 4)),(1,(aw 38 37)),(0,o2 35 35 [.t 30,.t 32,.t 33,.t 34]),(3,o2 41 35 [.t 36,.t 38,.t 39,.t 40]),(3,⟨some 42,none,.mo (.mx (.t 35) (.t 41))⟩),(3,o2 43 66 [.t 29,.t 42]),(2,mt 12 43)]
abbrev aeZ:=[aC 45 .eql 20 29,mt 44 45]
abbrev Pe:List (Nat×AO):=[(2,mt 46 3),(2,mt 47 3),(2,(ay 49 3 11)),(2,mt 51 2),(2,mt 52 3),(2,(ay 55 1 4)),(2,(ay 57 1 11)),(1,(ax 48 2 4)),(1,(aw 50 49)),(1,(aw 56 55)),(1,(aw 58 57)),(4,⟨some 59,none,.mo (.lk (aq 0) false (.t 56) (.t 58))⟩),(0,o2 53 35 [.t 48,.t 50,.t 51,.t 52]),(0,o2 54 66 [.t 47,.t 53]),(3,o2 60 24 [.t 54,.t 59]),(3,o2 61 66 [.t 46,.t 60]),(2,mt 12 61)]
abbrev Pd:=[mt 21 2,ay 22 1 11,aw 23 22,ay 24 2 11,aw 25 24,⟨some 26,none,.cl (.t 21) [.t 23,.t 25]⟩,mt 12 26]
abbrev Ph:AC:=(aM ae0 (.cond (.t 27) (.mix ae9) (aM aeZ (.cond (.t 44) (.mxl Pe) (.reg Pd)))))
abbrev Pc:=[mt 62 9,mt 63 12,o2 64 66 [.t 62,.t 63],mt 9 64]
abbrev Pg:AC:=(aM ae3 (aM ae2 (.seq (aM ae1 (.block 2 Ph)) (.reg Pc))))
abbrev Pb:=[aC 65 .add 15 1,mt 15 65]
abbrev Pj:AC:=(aM ae4 (.seq (.cond (.t 16) .skip (.exit 0)) (.seq (.block 1 Pg) (.reg Pb))))
abbrev Pf:AC:=(.loop Pj)
abbrev Pa:=[mt 66 9,mt 8 66]
abbrev atx:AF:=⟨67,(aM ae7 (aM ae6 (.seq (aM ae5 (.block 0 Pf)) (aM Pa .ret)))),[.mv (.t 8)]⟩
theorem ae8:fB av (fc av 35) 35=some atx:=by kernel_rfl
abbrev aeX:=[aE 4 0]
abbrev aeW:=[mt 5 0,mt 6 1,aD 7 .add 5 6,⟨some 8,none,.mo (.mi (.t 7) (ci 281474976710657))⟩,mt 4 8]
abbrev atw:AF:=⟨9,(aM aeX (aM aeW .ret)),[.mv (.t 4)]⟩
theorem aeY:fB av (fc av 66) 66=some atw:=by kernel_rfl
abbrev aeL:=[aE 4 0]
abbrev aeK:=[mt 5 1,aC 6 .gtr 5 0,mt 7 6,o5 8 7 (.mv (.t 0)),o5 9 7 (.mv (.t 1)),o5 10 7 (.bin .quo (ci 281474976710657) (.t 9)),o5 11 7 (.bin .gtr (.t 8) (.t 10)),aI 12 7 11]
abbrev aeJ:=[aE 4 281474976710657]
abbrev aeI:=[mt 13 0,mt 14 1,aD 15 .mul 13 14,⟨some 16,none,.mo (.mi (.t 15) (ci 281474976710657))⟩,mt 4 16]
abbrev atj:AF:=⟨17,(aM aeL (aN aeK 12 aeJ (aM aeI .ret))),[.mv (.t 4)]⟩
theorem MC:fB av (fc av 24) 24=some atj:=by kernel_rfl
abbrev aeG:=[aE 2 0,aE 3 0]
abbrev aeF:=[mt 4 0,aC 5 .geq 4 281474976710657]
abbrev aeE:=[aE 2 0,aE 3 18]
abbrev aeD:=[mt 6 0,mt 2 6,aE 3 0]
abbrev ati:AF:=⟨7,(aM aeG (aN aeF 5 aeE (aM aeD .ret))),[.mv (.t 2),.mv (.t 3)]⟩
theorem aeH:fB av (fc av 23) 23=some ati:=by kernel_rfl
abbrev aeB:=[aF 1 25 0 0,aE 2 0,aE 3 0]
abbrev aeA:=[ax 11 3 1,o2 12 38 [.t 11],mt 10 12,aA 13 0 10,aA 14 1 10,mt 4 13,mt 5 14]
abbrev aez:=[mt 15 5,aC 16 .neq 15 0]
abbrev aey:=[mt 17 5,aE 2 0,mt 3 17]
abbrev aex:=[ay 18 1 1,aw 19 18,aC 20 .add 19 32,aC 21 .add 20 16,o1 22 (.bin .mul (ci 4) (.t 21)),mt 6 22]
abbrev aew:=[ay 23 0 1,aw 24 23,az 25 24,aE 26 0]
abbrev aev:=[aD 27 .lss 26 25]
abbrev aeu:=[aB 28 2 24 26,ax 29 2 28,o1 8 (.al 68 [.b false,aq 0]),(aJ 2 8 29)]
abbrev aet:=[ay 30 1 8,aw 31 30,mt 9 31]
abbrev aes:=[ay 32 0 8,aw 33 32]
abbrev O6:=[mt 34 9,aC 35 .mul 34 4,mt 9 35]
abbrev O5:=[mt 36 6,mt 37 9,aD 38 .add 36 37,mt 6 38]
abbrev O8:AC:=(aM aeu (aM aet (.seq (aM aes (.cond (.t 33) (.reg O6) .skip)) (.reg O5))))
abbrev O4:=[aC 39 .add 26 1,mt 26 39]
abbrev O9:AC:=(aM aev (.seq (.cond (.t 27) .skip (.exit 0)) (.seq (.block 1 O8) (.reg O4))))
abbrev O7:AC:=(.loop O9)
abbrev O3:=[mt 40 6,mt 2 40,aE 3 0]
abbrev ath:AF:=⟨41,(aM aeB (.seq (aM aeA (aM aez (.cond (.t 16) (aM aey .ret) .skip))) (aM aex (.seq (aM aew (.block 0 O7)) (aM O3 .ret))))),[.mv (.t 2),.mv (.t 3)]⟩
theorem aeC:fB av (fc av 15) 15=some ath:=by kernel_rfl
abbrev aeq:=[aF 2 25 0 0,o1 4 (.al 29 [aq 0,aq 0]),aE 5 0]
abbrev aep:=[ax 12 3 2,o2 13 12 [.t 12],mt 11 13,aA 14 0 11,aA 15 1 11,aA 16 2 11,o1 6 (.al 38 [aq 0,aq 0,aq 0,.sl0]),(aJ 4 6 14),mt 7 15,mt 8 16]
abbrev aeo:=[mt 18 8,aC 19 .neq 18 0,mt 17 19]
abbrev aen:=[o1 20 (.bd [aq 0,aq 0] []),mt 21 8,(aJ 2 4 20),mt 5 21]
abbrev aem:=[mt 23 1,aC 24 .lss 23 0,mt 25 24,o4 26 25 (.mv (.t 1)),o4 27 25 (.bin .gtr (.t 26) (ci 65536)),aG 28 25 27,mt 22 28]
abbrev ael:=[o1 29 (.bd [aq 0,aq 0] []),(aJ 2 4 29),aE 5 2]
abbrev aer:AC:=(aM aeo (.cond (.t 17) (aM aen .ret) (aM aem (.cond (.t 22) (aM ael .ret) .skip))))
abbrev aek:=[ax 31 3 2,o2 32 15 [.t 31],mt 30 32,aA 33 0 30,aA 34 1 30,mt 9 33,mt 8 34]
abbrev aej:=[mt 35 8,aC 36 .neq 35 0]
abbrev aei:=[o1 37 (.bd [aq 0,aq 0] []),mt 38 8,(aJ 2 4 37),mt 5 38]
abbrev O2:=[ay 40 0 6,aw 41 40,mt 42 1,aC 43 .add 42 1,o2 44 24 [.t 41,.t 43],o2 45 23 [.t 44],mt 39 45,aA 46 0 39,aA 47 1 39,mt 10 46,mt 8 47]
abbrev O1:=[mt 48 8,aC 49 .neq 48 0]
abbrev O0:=[o1 50 (.bd [aq 0,aq 0] []),mt 51 8,(aJ 2 4 50),mt 5 51]
abbrev OZ:=[mt 52 9,mt 53 10,o1 54 (.bd [aq 0,aq 0] [(0,1,(.t 52)),(1,1,(.t 53))]),(aJ 2 4 54),aE 5 0]
abbrev atg:AF:=⟨55,(aM aeq (aM aep (.seq (.block 0 aer) (aM aek (aN aej 36 aei (aM O2 (aN O1 49 O0 (aM OZ .ret)))))))),[.ld 2 true (.t 4),.mv (.t 5)]⟩
theorem MB:fB av (fc av 10) 10=some atg:=by kernel_rfl
abbrev aef:=[aF 2 29 0 0,aF 3 29 0 1,o1 4 (.al 29 [aq 0,aq 0])]
abbrev aeh:List (Nat×AO):=[(2,(ay 5 0 2)),(2,(ay 7 0 3)),(2,(ay 10 1 2)),(2,(ay 12 1 3)),(1,(aw 6 5)),(1,(aw 8 7)),(1,(aw 11 10)),(1,(aw 13 12)),(0,o2 9 43 [.t 6,.t 8]),(3,o2 14 43 [.t 11,.t 13]),(2,o1 15 (.bd [aq 0,aq 0] [(0,1,(.t 9)),(1,1,(.t 14))])),(3,(aJ 2 4 15))]
abbrev ate:AF:=⟨16,(aM aef (.seq (.mix aeh) .ret)),[.ld 2 true (.t 4)]⟩
theorem aeg:fB av (fc av 21) 21=some ate:=by kernel_rfl
abbrev aed:=[aE 4 0]
abbrev aec:=[mt 5 0,o2 6 44 [.t 5],o1 7 (.un .not (.t 6)),mt 8 7,o4 9 8 (.mv (.t 1)),⟨some 10,some (8,false),.cl (.c (.f 44 [] [])) [.t 9]⟩,o4 11 8 (.un .not (.t 10)),aG 12 8 11,mt 13 12,o4 14 13 (.mv (.t 0)),o4 15 13 (.mv (.t 1)),o4 16 13 (.bin .add (.t 14) (.t 15)),⟨some 17,some (13,false),.cl (.c (.f 44 [] [])) [.t 16]⟩,o4 18 13 (.un .not (.t 17)),aG 19 13 18]
abbrev aeb:=[aE 4 281474976710656]
abbrev aea:=[mt 20 0,mt 21 1,aD 22 .add 20 21,mt 4 22]
abbrev atd:AF:=⟨23,(aM aed (aN aec 19 aeb (aM aea .ret))),[.mv (.t 4)]⟩
theorem aee:fB av (fc av 43) 43=some atd:=by kernel_rfl
abbrev ad8:=[o1 2 (.mv (.c (.b false)))]
abbrev ad7:=[mt 3 0,aC 4 .geq 3 0,mt 5 4,o5 6 5 (.mv (.t 0)),o5 7 5 (.bin .leq (.t 6) (ci 281474976710656)),aI 8 5 7,mt 2 8]
abbrev apb:AF:=⟨9,(aM ad8 (aM ad7 .ret)),[.mv (.t 2)]⟩
theorem ad9:fB av (fc av 44) 44=some apb:=by kernel_rfl
abbrev ad5:=[aF 2 29 0 0,aF 3 29 0 1,o1 4 (.mv (.c (.b false)))]
abbrev ad4:=[ay 5 0 2,aw 6 5,o2 7 44 [.t 6],mt 8 7,o5 9 8 (.fa 1 (.t 2)),o5 10 8 (.ld 1 false (.t 9)),⟨some 11,some (8,true),.cl (.c (.f 44 [] [])) [.t 10]⟩,aI 12 8 11,mt 13 12,o5 14 13 (.fa 0 (.t 3)),o5 15 13 (.ld 1 false (.t 14)),⟨some 16,some (13,true),.cl (.c (.f 44 [] [])) [.t 15]⟩,aI 17 13 16,mt 18 17,o5 19 18 (.fa 1 (.t 3)),o5 20 18 (.ld 1 false (.t 19)),⟨some 21,some (18,true),.cl (.c (.f 44 [] [])) [.t 20]⟩,aI 22 18 21,mt 23 22,o5 24 23 (.fa 0 (.t 2)),o5 25 23 (.ld 1 false (.t 24)),o5 26 23 (.fa 0 (.t 3)),o5 27 23 (.ld 1 false (.t 26)),o5 28 23 (.bin .leq (.t 25) (.t 27)),aI 29 23 28,mt 30 29,o5 31 30 (.fa 1 (.t 2)),o5 32 30 (.ld 1 false (.t 31)),o5 33 30 (.fa 1 (.t 3)),o5 34 30 (.ld 1 false (.t 33)),o5 35 30 (.bin .leq (.t 32) (.t 34)),aI 36 30 35,mt 4 36]
abbrev apa:AF:=⟨37,(aM ad5 (aM ad4 .ret)),[.mv (.t 4)]⟩
theorem ad6:fB av (fc av 22) 22=some apa:=by kernel_rfl
abbrev XR:=[aF 2 25 0 0,o1 4 (.mv (.c (.b false)))]
abbrev XQ:=[ax 9 3 2,o2 10 8 [.t 9],o1 11 (.un .not (.t 10))]
abbrev XP:=[o2 12 9 [],mt 4 12]
abbrev XO:=[ax 14 3 2,mt 15 1,o2 16 10 [.t 14,.t 15],mt 13 16,aA 17 0 13,aA 18 1 13,o1 5 (.al 29 [aq 0,aq 0]),(aJ 2 5 17),mt 6 18]
abbrev XN:=[ax 20 3 2,mt 21 1,o2 22 11 [.t 20,.t 21],mt 19 22,aA 23 0 19,aA 24 1 19,o1 7 (.al 29 [aq 0,aq 0]),(aJ 2 7 23),mt 8 24]
abbrev XM:=[ax 25 2 5,ax 26 2 7,o1 27 (.eq false (.st [(0,1,.n),(1,1,.n)]) (.t 25) (.t 26)),mt 28 27,o5 29 28 (.mv (.t 6)),o5 30 28 (.mv (.t 8)),o5 31 28 (.bin .eql (.t 29) (.t 30)),aI 32 28 31,mt 33 32,⟨some 34,some (33,true),.cl (.c (.f 9 [] [])) []⟩,aI 35 33 34,mt 4 35]
abbrev ams:AF:=⟨36,(aM XR (aN XQ 11 XP (aM XO (aM XN (aM XM .ret))))),[.mv (.t 4)]⟩
theorem XS:fB av (fc av 3) 3=some ams:=by kernel_rfl
abbrev XK:=[aF 2 25 0 0,o1 4 (.al 29 [aq 0,aq 0]),aE 5 0]
abbrev XJ:=[ax 13 3 2,o2 14 25 [.t 13],mt 12 14,aA 15 0 12,aA 16 1 12,aA 17 2 12,o1 6 (.al 38 [aq 0,aq 0,aq 0,.sl0]),(aJ 4 6 15),mt 7 16,mt 8 17]
abbrev XI:=[mt 18 8,aC 19 .neq 18 0]
abbrev XH:=[o1 20 (.bd [aq 0,aq 0] []),mt 21 8,(aJ 2 4 20),mt 5 21]
abbrev XG:=[mt 22 1,aC 23 .lss 22 0,mt 24 23,o4 25 24 (.mv (.t 1)),o4 26 24 (.bin .gtr (.t 25) (ci 65536)),aG 27 24 26]
abbrev XF:=[o1 28 (.bd [aq 0,aq 0] []),(aJ 2 4 28),aE 5 2]
abbrev XE:=[ax 30 3 2,o2 31 26 [.t 30],mt 29 31,aA 32 0 29,aA 33 1 29,mt 9 32,mt 10 33]
abbrev XD:=[ay 34 0 6,aw 35 34,mt 36 1,aC 37 .add 36 1,o2 38 27 [.t 35,.t 37],mt 11 38]
abbrev XC:=[mt 39 11,aC 40 .gtr 39 281474976710656]
abbrev XB:=[o1 41 (.bd [aq 0,aq 0] []),(aJ 2 4 41),aE 5 18]
abbrev KV:=[mt 42 9,mt 43 11,o1 44 (.bd [aq 0,aq 0] [(0,1,(.t 42)),(1,1,(.t 43))]),(aJ 2 4 44),aE 5 0]
abbrev amr:AF:=⟨45,(aM XK (aM XJ (aN XI 19 XH (aN XG 27 XF (aM XE (aM XD (aN XC 40 XB (aM KV .ret)))))))),[.ld 2 true (.t 4),.mv (.t 5)]⟩
theorem XL:fB av (fc av 11) 11=some amr:=by kernel_rfl
end Go.Proofs.YtdpkgnmmikebdaaGreat