/- A part of the proof of AllocateNeeds: Pb. No condition. -/
import Derived.Test.YteopfmnnhlhbmaaHn41
import Derived.Test.YteopfmnnhlhbmaaHn31
import Derived.Test.YteopfmnnhlhbmaaHn28
set_option linter.unusedSimpArgs false
set_option linter.unusedVariables false
set_option linter.constructorNameAsVariable false
set_option maxRecDepth 100000
set_option maxHeartbeats 4000000
namespace Go.Proofs.Yteopfmnnhlhbmaa
open Go.RowKit
def RI.box(i:RI):Value:= .agg #[.int .i64 i.op,.int .i64 i.to,.int .i64 i.a,.int .i64 i.b,.int .u32 i.arg]
def zV(w:World)(c1 c2:List Value)(z:World):Prop:=
 Below w.heap.size w z/\dI z w.heap.size c1 25/\dI z (w.heap.size+1) c2 60/\z.heap.size=w.heap.size+2
theorem eu(w:World)(c1 c2:List Value):zV w c1 c2 ((w.alloc (.cells c1.toArray 25)).alloc (.cells c2.toArray 60)):=by
 refine⟨((Below.refl _ _).alloc (by simp) _).alloc (by simp) _,?_,?_,by simp⟩
 ·unfold dI
  rw[Below.heap_alloc _ _ _ (by simp)]
  exact bK _ _
 ·have:=bK (w.alloc (.cells c1.toArray 25)) (.cells c2.toArray 60)
  unfold dI
  simpa using this
theorem nf(arsA codeA:Option Addr)(nA arsC nC codeC:Nat)(regs spills:Int)(op to a bb arg:Int)(w:World)(hA:nA<=9223372036854775807)(harg:0<=arg/\arg<4294967296)(u1 u2 u3:Bool)(hu1:cH op=u1)(hu2:dT op=u2)(hu3:ee op=u3)
  (hk:dA op=false):
  Calls Try.prog 72 #[.agg #[.slice arsA nA arsC,.int .i64 regs,.int .i64 spills,.slice codeA nC codeC],.agg #[.int .i64 op,.int .i64 to,.int .i64 a,.int .i64 bb,.int .u32 arg]] w λe w'=>
   e= .returned (.int .i64 1)
   /\Below w.heap.size w w':=by
 have hparts:∀W,Calls Try.prog 82 #[.int .i64 op] W λe w'=>e= .returned (.tuple #[.bool u1,.bool u2,.bool u3,.bool (dA op)])/\w'=W:=λW=>by
  have:=et op W
  rw[hu1,hu2,hu3] at this
  exact this
 rw[hk] at hparts
 have HP:=Lib.hid hparts
 clear hparts hk hu1 hu2 hu3
 go_enter Try.func72,Try.ntmps72
 go_upto_region 1 with(fail)
 refine cG _ (eu w [.slice arsA nA arsC,.int .i64 regs,.int .i64 spills,.slice codeA nC codeC] [.int .i64 op,.int .i64 to,.int .i64 a,.int .i64 bb,.int .u32 arg]) ?_
 rintro z ⟨hb,b1,b2,hz⟩
 have a0:z.cell? ⟨w.heap.size,0,none⟩=some (.slice arsA nA arsC):=b1.cell 0
 have a1:z.cell? ⟨w.heap.size,1,none⟩=some (.int .i64 regs):=b1.cell 1
 have a1':z.cell? ⟨w.heap.size,0+1,none⟩=some (.int .i64 regs):=b1.cell 1
 have a2:z.cell? ⟨w.heap.size,0+1+1,none⟩=some (.int .i64 spills):=b1.cell 2
 have a3:z.cell? ⟨w.heap.size,0+1+1+1,none⟩=some (.slice codeA nC codeC):=b1.cell 3
 have c0:z.cell? ⟨w.heap.size+1,0,none⟩=some (.int .i64 op):=b2.cell 0
 have c1:z.cell? ⟨w.heap.size+1,1,none⟩=some (.int .i64 to):=b2.cell 1
 have c2:z.cell? ⟨w.heap.size+1,2,none⟩=some (.int .i64 a):=b2.cell 2
 have c3:z.cell? ⟨w.heap.size+1,3,none⟩=some (.int .i64 bb):=b2.cell 3
 have c4:z.cell? ⟨w.heap.size+1,4,none⟩=some (.int .u32 arg):=b2.cell 4
 have l0:w.heap.size<z.heap.size:=by omega
 have l1:w.heap.size+1<z.heap.size:=by omega
 have HB:=Lib.hid hb
 clear hb b1 b2 hz
 go_wp2_with fail
 refine(HP.out z).mono ?_
 rintro e z2 ⟨rfl,rfl⟩
 go_wp2
 go_ret
 exact⟨rfl,HB.out⟩
theorem m9(arsA codeA:Option Addr)(nA arsC nC codeC:Nat)(regs spills:Int)(op to a bb arg:Int)(w:World)(hA:nA<=9223372036854775807)(harg:0<=arg/\arg<4294967296)(u1 u2 u3:Bool)(hu1:cH op=u1)(hu2:dT op=u2)(hu3:ee op=u3)
  (hk:dA op=true) (e1:aF regs to u1=false):
  Calls Try.prog 72 #[.agg #[.slice arsA nA arsC,.int .i64 regs,.int .i64 spills,.slice codeA nC codeC],.agg #[.int .i64 op,.int .i64 to,.int .i64 a,.int .i64 bb,.int .u32 arg]] w λe w'=>
   e= .returned (.int .i64 2)
   /\Below w.heap.size w w':=by
 have hparts:∀W,Calls Try.prog 82 #[.int .i64 op] W λe w'=>e= .returned (.tuple #[.bool u1,.bool u2,.bool u3,.bool (dA op)])/\w'=W:=λW=>by
  have:=et op W
  rw[hu1,hu2,hu3] at this
  exact this
 rw[hk] at hparts
 have HP:=Lib.hid hparts
 clear hparts hk hu1 hu2 hu3
 go_enter Try.func72,Try.ntmps72
 go_upto_region 1 with(fail)
 refine cG _ (eu w [.slice arsA nA arsC,.int .i64 regs,.int .i64 spills,.slice codeA nC codeC] [.int .i64 op,.int .i64 to,.int .i64 a,.int .i64 bb,.int .u32 arg]) ?_
 rintro z ⟨hb,b1,b2,hz⟩
 have a0:z.cell? ⟨w.heap.size,0,none⟩=some (.slice arsA nA arsC):=b1.cell 0
 have a1:z.cell? ⟨w.heap.size,1,none⟩=some (.int .i64 regs):=b1.cell 1
 have a1':z.cell? ⟨w.heap.size,0+1,none⟩=some (.int .i64 regs):=b1.cell 1
 have a2:z.cell? ⟨w.heap.size,0+1+1,none⟩=some (.int .i64 spills):=b1.cell 2
 have a3:z.cell? ⟨w.heap.size,0+1+1+1,none⟩=some (.slice codeA nC codeC):=b1.cell 3
 have c0:z.cell? ⟨w.heap.size+1,0,none⟩=some (.int .i64 op):=b2.cell 0
 have c1:z.cell? ⟨w.heap.size+1,1,none⟩=some (.int .i64 to):=b2.cell 1
 have c2:z.cell? ⟨w.heap.size+1,2,none⟩=some (.int .i64 a):=b2.cell 2
 have c3:z.cell? ⟨w.heap.size+1,3,none⟩=some (.int .i64 bb):=b2.cell 3
 have c4:z.cell? ⟨w.heap.size+1,4,none⟩=some (.int .u32 arg):=b2.cell 4
 have l0:w.heap.size<z.heap.size:=by omega
 have l1:w.heap.size+1<z.heap.size:=by omega
 have HB:=Lib.hid hb
 clear hb b1 b2 hz
 go_wp2_with fail
 refine(HP.out z).mono ?_
 rintro e z2 ⟨rfl,rfl⟩
 go_wp2_with fail
 refine bo [0,2,3,8,10,11,17,19,20,26,30,28] [(2,0),(2,2),(2,3),(1,1),(1,4),(0,5),(0,6),(0,7),(2,8),(2,10),(2,11),(1,9),(0,12),(0,13),(0,14),(0,15),(0,16),(2,17),(2,19),(2,20),(1,18),(0,21),(0,22),(0,23),(0,24),(0,25),(2,26),(2,30),(1,27),(2,28),(1,29),(0,31),(0,32),(0,33),(0,34)] (by kernel_rfl) (by kernel_rfl) (λc a d v w h=>by cases d<;>exact h) ?_
 simp only[ax,List.filterMap_cons,List.filterMap_nil,List.getElem?_toArray,List.getElem?_cons_succ,List.getElem?_cons_zero,Option.map_some]
 repeat ((first|refine aQ (λK hK=>?_)|refine aM (λK hK=>?_));go_simp;refine hK _ ?_;clear hK K)
 repeat (first
  |((first|refine aQ (λK hK=>?_)|refine aM (λK hK=>?_));go_simp;refine hK _ ?_;clear hK K)
  |(refine bD ?_;go_wp2_with (first|(go_at_call 92;refine(dw _ _ _ _).mono ?_;rintro e w' ⟨rfl,rfl⟩)|(go_at_call 93;refine(fv _ _ _ _ _ _ _ _ _ _).mono ?_;rintro e w9 ⟨rfl,hb9⟩));refine⟨by first|exact a7 (Below.refl _ _).drew|exact a7 (bi hb9),?_⟩))
 refine bM ?_
 go_wp2
 go_ret
 exact⟨rfl,by first|exact HB.out.drew|exact HB.out.trans ((bi hb9).mono HB.out.size)⟩
theorem m8(arsA codeA:Option Addr)(nA arsC nC codeC:Nat)(regs spills:Int)(op to a bb arg:Int)(w:World)(hA:nA<=9223372036854775807)(harg:0<=arg/\arg<4294967296)(u1 u2 u3:Bool)(hu1:cH op=u1)(hu2:dT op=u2)(hu3:ee op=u3)
  (hk:dA op=true) (e1:aF regs to u1=true) (e2:aF regs a u2=false):
  Calls Try.prog 72 #[.agg #[.slice arsA nA arsC,.int .i64 regs,.int .i64 spills,.slice codeA nC codeC],.agg #[.int .i64 op,.int .i64 to,.int .i64 a,.int .i64 bb,.int .u32 arg]] w λe w'=>
   e= .returned (.int .i64 2)
   /\Below w.heap.size w w':=by
 have hparts:∀W,Calls Try.prog 82 #[.int .i64 op] W λe w'=>e= .returned (.tuple #[.bool u1,.bool u2,.bool u3,.bool (dA op)])/\w'=W:=λW=>by
  have:=et op W
  rw[hu1,hu2,hu3] at this
  exact this
 rw[hk] at hparts
 have HP:=Lib.hid hparts
 clear hparts hk hu1 hu2 hu3
 go_enter Try.func72,Try.ntmps72
 go_upto_region 1 with(fail)
 refine cG _ (eu w [.slice arsA nA arsC,.int .i64 regs,.int .i64 spills,.slice codeA nC codeC] [.int .i64 op,.int .i64 to,.int .i64 a,.int .i64 bb,.int .u32 arg]) ?_
 rintro z ⟨hb,b1,b2,hz⟩
 have a0:z.cell? ⟨w.heap.size,0,none⟩=some (.slice arsA nA arsC):=b1.cell 0
 have a1:z.cell? ⟨w.heap.size,1,none⟩=some (.int .i64 regs):=b1.cell 1
 have a1':z.cell? ⟨w.heap.size,0+1,none⟩=some (.int .i64 regs):=b1.cell 1
 have a2:z.cell? ⟨w.heap.size,0+1+1,none⟩=some (.int .i64 spills):=b1.cell 2
 have a3:z.cell? ⟨w.heap.size,0+1+1+1,none⟩=some (.slice codeA nC codeC):=b1.cell 3
 have c0:z.cell? ⟨w.heap.size+1,0,none⟩=some (.int .i64 op):=b2.cell 0
 have c1:z.cell? ⟨w.heap.size+1,1,none⟩=some (.int .i64 to):=b2.cell 1
 have c2:z.cell? ⟨w.heap.size+1,2,none⟩=some (.int .i64 a):=b2.cell 2
 have c3:z.cell? ⟨w.heap.size+1,3,none⟩=some (.int .i64 bb):=b2.cell 3
 have c4:z.cell? ⟨w.heap.size+1,4,none⟩=some (.int .u32 arg):=b2.cell 4
 have l0:w.heap.size<z.heap.size:=by omega
 have l1:w.heap.size+1<z.heap.size:=by omega
 have HB:=Lib.hid hb
 clear hb b1 b2 hz
 go_wp2_with fail
 refine(HP.out z).mono ?_
 rintro e z2 ⟨rfl,rfl⟩
 go_wp2_with fail
 refine bo [0,2,3,8,10,11,17,19,20,26,30,28] [(2,0),(2,2),(2,3),(1,1),(1,4),(0,5),(0,6),(0,7),(2,8),(2,10),(2,11),(1,9),(0,12),(0,13),(0,14),(0,15),(0,16),(2,17),(2,19),(2,20),(1,18),(0,21),(0,22),(0,23),(0,24),(0,25),(2,26),(2,30),(1,27),(2,28),(1,29),(0,31),(0,32),(0,33),(0,34)] (by kernel_rfl) (by kernel_rfl) (λc a d v w h=>by cases d<;>exact h) ?_
 simp only[ax,List.filterMap_cons,List.filterMap_nil,List.getElem?_toArray,List.getElem?_cons_succ,List.getElem?_cons_zero,Option.map_some]
 repeat ((first|refine aQ (λK hK=>?_)|refine aM (λK hK=>?_));go_simp;refine hK _ ?_;clear hK K)
 repeat (first
  |((first|refine aQ (λK hK=>?_)|refine aM (λK hK=>?_));go_simp;refine hK _ ?_;clear hK K)
  |(refine bD ?_;go_wp2_with (first|(go_at_call 92;refine(dw _ _ _ _).mono ?_;rintro e w' ⟨rfl,rfl⟩)|(go_at_call 93;refine(fv _ _ _ _ _ _ _ _ _ _).mono ?_;rintro e w9 ⟨rfl,hb9⟩));refine⟨by first|exact a7 (Below.refl _ _).drew|exact a7 (bi hb9),?_⟩))
 refine bM ?_
 go_wp2
 go_ret
 exact⟨rfl,by first|exact HB.out.drew|exact HB.out.trans ((bi hb9).mono HB.out.size)⟩
theorem m7(arsA codeA:Option Addr)(nA arsC nC codeC:Nat)(regs spills:Int)(op to a bb arg:Int)(w:World)(hA:nA<=9223372036854775807)(harg:0<=arg/\arg<4294967296)(u1 u2 u3:Bool)(hu1:cH op=u1)(hu2:dT op=u2)(hu3:ee op=u3)
  (hk:dA op=true) (e1:aF regs to u1=true) (e2:aF regs a u2=true) (e3:aF regs bb u3=false):
  Calls Try.prog 72 #[.agg #[.slice arsA nA arsC,.int .i64 regs,.int .i64 spills,.slice codeA nC codeC],.agg #[.int .i64 op,.int .i64 to,.int .i64 a,.int .i64 bb,.int .u32 arg]] w λe w'=>
   e= .returned (.int .i64 2)
   /\Below w.heap.size w w':=by
 have hparts:∀W,Calls Try.prog 82 #[.int .i64 op] W λe w'=>e= .returned (.tuple #[.bool u1,.bool u2,.bool u3,.bool (dA op)])/\w'=W:=λW=>by
  have:=et op W
  rw[hu1,hu2,hu3] at this
  exact this
 rw[hk] at hparts
 have HP:=Lib.hid hparts
 clear hparts hk hu1 hu2 hu3
 go_enter Try.func72,Try.ntmps72
 go_upto_region 1 with(fail)
 refine cG _ (eu w [.slice arsA nA arsC,.int .i64 regs,.int .i64 spills,.slice codeA nC codeC] [.int .i64 op,.int .i64 to,.int .i64 a,.int .i64 bb,.int .u32 arg]) ?_
 rintro z ⟨hb,b1,b2,hz⟩
 have a0:z.cell? ⟨w.heap.size,0,none⟩=some (.slice arsA nA arsC):=b1.cell 0
 have a1:z.cell? ⟨w.heap.size,1,none⟩=some (.int .i64 regs):=b1.cell 1
 have a1':z.cell? ⟨w.heap.size,0+1,none⟩=some (.int .i64 regs):=b1.cell 1
 have a2:z.cell? ⟨w.heap.size,0+1+1,none⟩=some (.int .i64 spills):=b1.cell 2
 have a3:z.cell? ⟨w.heap.size,0+1+1+1,none⟩=some (.slice codeA nC codeC):=b1.cell 3
 have c0:z.cell? ⟨w.heap.size+1,0,none⟩=some (.int .i64 op):=b2.cell 0
 have c1:z.cell? ⟨w.heap.size+1,1,none⟩=some (.int .i64 to):=b2.cell 1
 have c2:z.cell? ⟨w.heap.size+1,2,none⟩=some (.int .i64 a):=b2.cell 2
 have c3:z.cell? ⟨w.heap.size+1,3,none⟩=some (.int .i64 bb):=b2.cell 3
 have c4:z.cell? ⟨w.heap.size+1,4,none⟩=some (.int .u32 arg):=b2.cell 4
 have l0:w.heap.size<z.heap.size:=by omega
 have l1:w.heap.size+1<z.heap.size:=by omega
 have HB:=Lib.hid hb
 clear hb b1 b2 hz
 go_wp2_with fail
 refine(HP.out z).mono ?_
 rintro e z2 ⟨rfl,rfl⟩
 go_wp2_with fail
 refine bo [0,2,3,8,10,11,17,19,20,26,30,28] [(2,0),(2,2),(2,3),(1,1),(1,4),(0,5),(0,6),(0,7),(2,8),(2,10),(2,11),(1,9),(0,12),(0,13),(0,14),(0,15),(0,16),(2,17),(2,19),(2,20),(1,18),(0,21),(0,22),(0,23),(0,24),(0,25),(2,26),(2,30),(1,27),(2,28),(1,29),(0,31),(0,32),(0,33),(0,34)] (by kernel_rfl) (by kernel_rfl) (λc a d v w h=>by cases d<;>exact h) ?_
 simp only[ax,List.filterMap_cons,List.filterMap_nil,List.getElem?_toArray,List.getElem?_cons_succ,List.getElem?_cons_zero,Option.map_some]
 repeat ((first|refine aQ (λK hK=>?_)|refine aM (λK hK=>?_));go_simp;refine hK _ ?_;clear hK K)
 repeat (first
  |((first|refine aQ (λK hK=>?_)|refine aM (λK hK=>?_));go_simp;refine hK _ ?_;clear hK K)
  |(refine bD ?_;go_wp2_with (first|(go_at_call 92;refine(dw _ _ _ _).mono ?_;rintro e w' ⟨rfl,rfl⟩)|(go_at_call 93;refine(fv _ _ _ _ _ _ _ _ _ _).mono ?_;rintro e w9 ⟨rfl,hb9⟩));refine⟨by first|exact a7 (Below.refl _ _).drew|exact a7 (bi hb9),?_⟩))
 refine bM ?_
 go_wp2
 go_ret
 exact⟨rfl,by first|exact HB.out.drew|exact HB.out.trans ((bi hb9).mono HB.out.size)⟩
theorem m6(arsA codeA:Option Addr)(nA arsC nC codeC:Nat)(regs spills:Int)(op to a bb arg:Int)(w:World)(hA:nA<=9223372036854775807)(harg:0<=arg/\arg<4294967296)(u1 u2 u3:Bool)(hu1:cH op=u1)(hu2:dT op=u2)(hu3:ee op=u3)
  (hk:dA op=true) (e1:aF regs to u1=true) (e2:aF regs a u2=true) (e3:aF regs bb u3=true) (e4:decide (ii nA spills op<=arg)=true):
  Calls Try.prog 72 #[.agg #[.slice arsA nA arsC,.int .i64 regs,.int .i64 spills,.slice codeA nC codeC],.agg #[.int .i64 op,.int .i64 to,.int .i64 a,.int .i64 bb,.int .u32 arg]] w λe w'=>
   e= .returned (.int .i64 2)
   /\Below w.heap.size w w':=by
 have hparts:∀W,Calls Try.prog 82 #[.int .i64 op] W λe w'=>e= .returned (.tuple #[.bool u1,.bool u2,.bool u3,.bool (dA op)])/\w'=W:=λW=>by
  have:=et op W
  rw[hu1,hu2,hu3] at this
  exact this
 rw[hk] at hparts
 have HP:=Lib.hid hparts
 clear hparts hk hu1 hu2 hu3
 go_enter Try.func72,Try.ntmps72
 go_upto_region 1 with(fail)
 refine cG _ (eu w [.slice arsA nA arsC,.int .i64 regs,.int .i64 spills,.slice codeA nC codeC] [.int .i64 op,.int .i64 to,.int .i64 a,.int .i64 bb,.int .u32 arg]) ?_
 rintro z ⟨hb,b1,b2,hz⟩
 have a0:z.cell? ⟨w.heap.size,0,none⟩=some (.slice arsA nA arsC):=b1.cell 0
 have a1:z.cell? ⟨w.heap.size,1,none⟩=some (.int .i64 regs):=b1.cell 1
 have a1':z.cell? ⟨w.heap.size,0+1,none⟩=some (.int .i64 regs):=b1.cell 1
 have a2:z.cell? ⟨w.heap.size,0+1+1,none⟩=some (.int .i64 spills):=b1.cell 2
 have a3:z.cell? ⟨w.heap.size,0+1+1+1,none⟩=some (.slice codeA nC codeC):=b1.cell 3
 have c0:z.cell? ⟨w.heap.size+1,0,none⟩=some (.int .i64 op):=b2.cell 0
 have c1:z.cell? ⟨w.heap.size+1,1,none⟩=some (.int .i64 to):=b2.cell 1
 have c2:z.cell? ⟨w.heap.size+1,2,none⟩=some (.int .i64 a):=b2.cell 2
 have c3:z.cell? ⟨w.heap.size+1,3,none⟩=some (.int .i64 bb):=b2.cell 3
 have c4:z.cell? ⟨w.heap.size+1,4,none⟩=some (.int .u32 arg):=b2.cell 4
 have l0:w.heap.size<z.heap.size:=by omega
 have l1:w.heap.size+1<z.heap.size:=by omega
 have HB:=Lib.hid hb
 clear hb b1 b2 hz
 go_wp2_with fail
 refine(HP.out z).mono ?_
 rintro e z2 ⟨rfl,rfl⟩
 go_wp2_with fail
 refine bo [0,2,3,8,10,11,17,19,20,26,30,28] [(2,0),(2,2),(2,3),(1,1),(1,4),(0,5),(0,6),(0,7),(2,8),(2,10),(2,11),(1,9),(0,12),(0,13),(0,14),(0,15),(0,16),(2,17),(2,19),(2,20),(1,18),(0,21),(0,22),(0,23),(0,24),(0,25),(2,26),(2,30),(1,27),(2,28),(1,29),(0,31),(0,32),(0,33),(0,34)] (by kernel_rfl) (by kernel_rfl) (λc a d v w h=>by cases d<;>exact h) ?_
 simp only[ax,List.filterMap_cons,List.filterMap_nil,List.getElem?_toArray,List.getElem?_cons_succ,List.getElem?_cons_zero,Option.map_some]
 repeat ((first|refine aQ (λK hK=>?_)|refine aM (λK hK=>?_));go_simp;refine hK _ ?_;clear hK K)
 repeat (first
  |((first|refine aQ (λK hK=>?_)|refine aM (λK hK=>?_));go_simp;refine hK _ ?_;clear hK K)
  |(refine bD ?_;go_wp2_with (first|(go_at_call 92;refine(dw _ _ _ _).mono ?_;rintro e w' ⟨rfl,rfl⟩)|(go_at_call 93;refine(fv _ _ _ _ _ _ _ _ _ _).mono ?_;rintro e w9 ⟨rfl,hb9⟩));refine⟨by first|exact a7 (Below.refl _ _).drew|exact a7 (bi hb9),?_⟩))
 refine bM ?_
 go_wp2
 go_ret
 exact⟨rfl,by first|exact HB.out.drew|exact HB.out.trans ((bi hb9).mono HB.out.size)⟩
theorem mZ(arsA codeA:Option Addr)(nA arsC nC codeC:Nat)(regs spills:Int)(op to a bb arg:Int)(w:World)(hA:nA<=9223372036854775807)(harg:0<=arg/\arg<4294967296)(u1 u2 u3:Bool)(hu1:cH op=u1)(hu2:dT op=u2)(hu3:ee op=u3)
  (hk:dA op=true) (e1:aF regs to u1=true) (e2:aF regs a u2=true) (e3:aF regs bb u3=true) (e4:decide (ii nA spills op<=arg)=false):
  Calls Try.prog 72 #[.agg #[.slice arsA nA arsC,.int .i64 regs,.int .i64 spills,.slice codeA nC codeC],.agg #[.int .i64 op,.int .i64 to,.int .i64 a,.int .i64 bb,.int .u32 arg]] w λe w'=>
   e= .returned (.int .i64 0)
   /\Below w.heap.size w w':=by
 have hparts:∀W,Calls Try.prog 82 #[.int .i64 op] W λe w'=>e= .returned (.tuple #[.bool u1,.bool u2,.bool u3,.bool (dA op)])/\w'=W:=λW=>by
  have:=et op W
  rw[hu1,hu2,hu3] at this
  exact this
 rw[hk] at hparts
 have HP:=Lib.hid hparts
 clear hparts hk hu1 hu2 hu3
 go_enter Try.func72,Try.ntmps72
 go_upto_region 1 with(fail)
 refine cG _ (eu w [.slice arsA nA arsC,.int .i64 regs,.int .i64 spills,.slice codeA nC codeC] [.int .i64 op,.int .i64 to,.int .i64 a,.int .i64 bb,.int .u32 arg]) ?_
 rintro z ⟨hb,b1,b2,hz⟩
 have a0:z.cell? ⟨w.heap.size,0,none⟩=some (.slice arsA nA arsC):=b1.cell 0
 have a1:z.cell? ⟨w.heap.size,1,none⟩=some (.int .i64 regs):=b1.cell 1
 have a1':z.cell? ⟨w.heap.size,0+1,none⟩=some (.int .i64 regs):=b1.cell 1
 have a2:z.cell? ⟨w.heap.size,0+1+1,none⟩=some (.int .i64 spills):=b1.cell 2
 have a3:z.cell? ⟨w.heap.size,0+1+1+1,none⟩=some (.slice codeA nC codeC):=b1.cell 3
 have c0:z.cell? ⟨w.heap.size+1,0,none⟩=some (.int .i64 op):=b2.cell 0
 have c1:z.cell? ⟨w.heap.size+1,1,none⟩=some (.int .i64 to):=b2.cell 1
 have c2:z.cell? ⟨w.heap.size+1,2,none⟩=some (.int .i64 a):=b2.cell 2
 have c3:z.cell? ⟨w.heap.size+1,3,none⟩=some (.int .i64 bb):=b2.cell 3
 have c4:z.cell? ⟨w.heap.size+1,4,none⟩=some (.int .u32 arg):=b2.cell 4
 have l0:w.heap.size<z.heap.size:=by omega
 have l1:w.heap.size+1<z.heap.size:=by omega
 have HB:=Lib.hid hb
 clear hb b1 b2 hz
 go_wp2_with fail
 refine(HP.out z).mono ?_
 rintro e z2 ⟨rfl,rfl⟩
 go_wp2_with fail
 refine bo [0,2,3,8,10,11,17,19,20,26,30,28] [(2,0),(2,2),(2,3),(1,1),(1,4),(0,5),(0,6),(0,7),(2,8),(2,10),(2,11),(1,9),(0,12),(0,13),(0,14),(0,15),(0,16),(2,17),(2,19),(2,20),(1,18),(0,21),(0,22),(0,23),(0,24),(0,25),(2,26),(2,30),(1,27),(2,28),(1,29),(0,31),(0,32),(0,33),(0,34)] (by kernel_rfl) (by kernel_rfl) (λc a d v w h=>by cases d<;>exact h) ?_
 simp only[ax,List.filterMap_cons,List.filterMap_nil,List.getElem?_toArray,List.getElem?_cons_succ,List.getElem?_cons_zero,Option.map_some]
 repeat ((first|refine aQ (λK hK=>?_)|refine aM (λK hK=>?_));go_simp;refine hK _ ?_;clear hK K)
 repeat (first
  |((first|refine aQ (λK hK=>?_)|refine aM (λK hK=>?_));go_simp;refine hK _ ?_;clear hK K)
  |(refine bD ?_;go_wp2_with (first|(go_at_call 92;refine(dw _ _ _ _).mono ?_;rintro e w' ⟨rfl,rfl⟩)|(go_at_call 93;refine(fv _ _ _ _ _ _ _ _ _ _).mono ?_;rintro e w9 ⟨rfl,hb9⟩));refine⟨by first|exact a7 (Below.refl _ _).drew|exact a7 (bi hb9),?_⟩))
 refine bM ?_
 go_wp2
 go_ret
 exact⟨rfl,by first|exact HB.out.drew|exact HB.out.trans ((bi hb9).mono HB.out.size)⟩
theorem kI(arsA codeA:Option Addr)(nA arsC nC codeC:Nat)(regs spills:Int)(i:RI)(w:World)(hA:nA<=9223372036854775807)(harg:0<=i.arg/\i.arg<4294967296):
  Calls Try.prog 72 #[.agg #[.slice arsA nA arsC,.int .i64 regs,.int .i64 spills,.slice codeA nC codeC],.agg #[.int .i64 i.op,.int .i64 i.to,.int .i64 i.a,.int .i64 i.b,.int .u32 i.arg]] w λe w'=>e= .returned (.int .i64 (dD regs spills nA i))/\Below w.heap.size w w':=by
 unfold dD
 cases hk:dA i.op with
 |false=>exact nf arsA codeA nA arsC nC codeC regs spills i.op i.to i.a i.b i.arg w hA harg _ _ _ rfl rfl rfl hk
 |true=>
  rw[if_neg (by simp)]
  cases e1:aF regs i.to (cH i.op) with
  |false=>
   rw[if_pos (.inl rfl)]
   exact m9 arsA codeA nA arsC nC codeC regs spills i.op i.to i.a i.b i.arg w hA harg _ _ _ rfl rfl rfl hk e1
  |true=>
   cases e2:aF regs i.a (dT i.op) with
   |false=>
    rw[if_pos (.inr (.inl rfl))]
    exact m8 arsA codeA nA arsC nC codeC regs spills i.op i.to i.a i.b i.arg w hA harg _ _ _ rfl rfl rfl hk e1 e2
   |true=>
    cases e3:aF regs i.b (ee i.op) with
    |false=>
     rw[if_pos (.inr (.inr (.inl rfl)))]
     exact m7 arsA codeA nA arsC nC codeC regs spills i.op i.to i.a i.b i.arg w hA harg _ _ _ rfl rfl rfl hk e1 e2 e3
    |true=>
     by_cases h4:ch nA spills i.op<i.arg
     ·rw[if_pos (.inr (.inr (.inr h4)))]
      exact m6 arsA codeA nA arsC nC codeC regs spills i.op i.to i.a i.b i.arg w hA harg _ _ _ rfl rfl rfl hk e1 e2 e3 (decide_eq_true (by unfold ii;omega))
     ·rw[if_neg (by rintro (h|h|h|h)<;>first|cases h|exact h4 h)]
      exact mZ arsA codeA nA arsC nC codeC regs spills i.op i.to i.a i.b i.arg w hA harg _ _ _ rfl rfl rfl hk e1 e2 e3 (decide_eq_false (by unfold ii;omega))
end Go.Proofs.Yteopfmnnhlhbmaa