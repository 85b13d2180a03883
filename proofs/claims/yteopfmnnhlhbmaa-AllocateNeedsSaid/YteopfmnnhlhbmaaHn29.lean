/- A part of the proof of AllocateNeeds: O2. No condition. -/
import Derived.Test.YteopfmnnhlhbmaaHn27
import Derived.Test.YteopfmnnhlhbmaaHn28
set_option linter.unusedSimpArgs false
set_option linter.unusedVariables false
set_option linter.constructorNameAsVariable false
set_option maxRecDepth 100000
set_option maxHeartbeats 4000000
namespace Go.Proofs.Yteopfmnnhlhbmaa
open Go.RowKit
theorem gD(arsA codeA:Option Addr)(nA arsC nC codeC:Nat)(regs spills op:Int)(w:World)(hA:nA<=9223372036854775807)(hs:0<=spills/\spills<=1024):
  Calls Try.prog 85 #[.agg #[.slice arsA nA arsC,.int .i64 regs,.int .i64 spills,.slice codeA nC codeC],.int .i64 op] w λe w'=>e= .returned (.int .i64 (ch nA spills op))/\Below w.heap.size w w':=by
 have hb:Below w.heap.size w (w.alloc (.cells #[.slice arsA nA arsC,.int .i64 regs,.int .i64 spills,.slice codeA nC codeC] 25)):=(Below.refl _ _).alloc (Nat.le_refl _) _
 by_cases h0:op=0
 ·subst h0
  go_enter Try.func85,Try.ntmps85
  go_wp2
  go_ret
  exact⟨rfl,hb⟩
 by_cases h3:op=3
 ·subst h3
  go_enter Try.func85,Try.ntmps85
  go_wp2
  go_ret
  exact⟨g9 (by simp[ch]),hb⟩
 by_cases h4:op=4
 ·subst h4
  go_enter Try.func85,Try.ntmps85
  go_wp2
  go_ret
  exact⟨g9 (by simp[ch]),hb⟩
 by_cases h35:op=35
 ·subst h35
  go_enter Try.func85,Try.ntmps85
  go_wp2
  go_ret
  exact⟨rfl,hb⟩
 by_cases h29:op=29
 ·subst h29
  go_enter Try.func85,Try.ntmps85
  go_wp2
  go_ret
  exact⟨rfl,hb⟩
 by_cases h37:op=37
 ·subst h37
  go_enter Try.func85,Try.ntmps85
  go_wp2
  go_ret
  exact⟨g9 (by simp[ch]),hb⟩
 by_cases h38:op=38
 ·subst h38
  go_enter Try.func85,Try.ntmps85
  go_wp2
  go_ret
  exact⟨g9 (by simp[ch]),hb⟩
 have e:ch nA spills op=0:=by simp[ch,h0,h3,h4,h35,h29,h37,h38]
 rw[e]
 clear e
 have q0:(op==0)=false:=by simpa using h0
 have q3:(op==3)=false:=by simpa using h3
 have q4:(op==4)=false:=by simpa using h4
 have q35:(op==35)=false:=by simpa using h35
 have q29:(op==29)=false:=by simpa using h29
 have q37:(op==37)=false:=by simpa using h37
 have q38:(op==38)=false:=by simpa using h38
 go_enter Try.func85,Try.ntmps85
 go_wp2
 go_ret
 exact⟨rfl,hb⟩
theorem w7(n:Int)(used:Bool)(b:Nat)(regs:Int)(w:World)(hc:w.cell? ⟨b,1,none⟩=some (.int .i64 regs)):
  Calls Try.prog 84 #[.int .i64 n,.bool used,.pointer (some ⟨b,0,none⟩)] w λe w'=>e= .returned (.bool (aF regs n used))/\w=w':=by
 cases used with
 |true=>
  by_cases h:0<=n
  all_goals
   go_enter Try.func84,Try.ntmps84
   go_wp2
   go_ret
   exact⟨jb (by simp[aF,h];try omega),rfl⟩
 |false=>
  go_enter Try.func84,Try.ntmps84
  go_wp2
  go_ret
  exact⟨jb (by by_cases h:n= -1<;>simp[aF,h]),rfl⟩
theorem i9(n:Int)(used:Bool)(b:Nat)(regs:Int)(w:World)(hc:w.cell? ⟨b,1,none⟩=some (.int .i64 regs))(r:Bool)(hr:aF regs n used=r):
  Calls Try.prog 84 #[.int .i64 n,.bool used,.pointer (some ⟨b,0,none⟩)] w λe w'=>e= .returned (.bool r)/\w=w':=by
 rw[<-hr];exact w7 n used b regs w hc
theorem ep{w:World}{b:Nat}{t:TypeId}(h:dI w b (aG iJ) t){op:Nat}(hop:op<39):
  w.cell? ⟨b,op*4,none⟩=some (.bool (dA op))/\w.cell? ⟨b,op*4+1,none⟩=some (.bool (cH op))/\w.cell? ⟨b,op*4+2,none⟩=some (.bool (dT op))/\w.cell? ⟨b,op*4+3,none⟩=some (.bool (ee op)):=by
 have e:=Ac ⟨op,hop⟩
 simp only at e
 have g:=λj (hj:j<4)=>fH iJ op j (show op<39 from hop) hj
 rw[e] at g
 rw[Nat.mul_comm op 4]
 exact⟨(h.cell _).trans (g 0 (by omega)),(h.cell _).trans (g 1 (by omega)),(h.cell _).trans (g 2 (by omega)),(h.cell _).trans (g 3 (by omega))⟩
theorem vR(arsA codeA:Option Addr)(nA arsC nC codeC:Nat)(regs spills op to a bb arg:Int)(w:World)(h:op<0\/39<=op):
  Calls Try.prog 63 #[.agg #[.slice arsA nA arsC,.int .i64 regs,.int .i64 spills,.slice codeA nC codeC],.agg #[.int .i64 op,.int .i64 to,.int .i64 a,.int .i64 bb,.int .u32 arg],.agg (aG iJ).toArray] w λe w'=>e= .returned (.int .i64 1)/\Below w.heap.size w w':=by
 rcases h with h|h
 ·go_enter Try.func63,Try.ntmps63
  go_wp2
  go_ret
  exact⟨rfl,(((Below.refl _ _).alloc (by simp) _).alloc (by simp) _).alloc (by simp;omega) _⟩
 ·have h2:¬op<0:=by omega
  go_enter Try.func63,Try.ntmps63
  go_wp2
  go_ret
  exact⟨rfl,(((Below.refl _ _).alloc (by simp) _).alloc (by simp) _).alloc (by simp;omega) _⟩
def zY(w:World)(arsA codeA:Option Addr)(nA arsC nC codeC:Nat)(regs spills op to a bb arg:Int)(z:World):Prop:=
 Below w.heap.size w z/\dI z w.heap.size [.slice arsA nA arsC,.int .i64 regs,.int .i64 spills,.slice codeA nC codeC] 25/\dI z (w.heap.size+1) [.int .i64 op,.int .i64 to,.int .i64 a,.int .i64 bb,.int .u32 arg] 60/\
  dI z (w.heap.size+1+1) (aG iJ) 105/\w.heap.size+2<z.heap.size
theorem ey(w:World)(arsA codeA:Option Addr)(nA arsC nC codeC:Nat)(regs spills op to a bb arg:Int):
  zY w arsA codeA nA arsC nC codeC regs spills op to a bb arg (((w.alloc (.cells #[.slice arsA nA arsC,.int .i64 regs,.int .i64 spills,.slice codeA nC codeC] 25)).alloc (.cells #[.int .i64 op,.int .i64 to,.int .i64 a,.int .i64 bb,.int .u32 arg] 60)).alloc (.cells (aG iJ).toArray 105)):=by
 refine⟨(((Below.refl _ _).alloc (by simp) _).alloc (by simp) _).alloc (by simp;omega) _,?_,?_,?_,by simp⟩
 ·unfold dI
  rw[Below.heap_alloc _ _ _ (by simp;omega),Below.heap_alloc _ _ _ (by simp)]
  exact bK _ _
 ·unfold dI
  rw[Below.heap_alloc _ _ _ (by simp)]
  exact nR _ _ _
 ·have:=bK ((w.alloc (.cells #[.slice arsA nA arsC,.int .i64 regs,.int .i64 spills,.slice codeA nC codeC] 25)).alloc (.cells #[.int .i64 op,.int .i64 to,.int .i64 a,.int .i64 bb,.int .u32 arg] 60)) (.cells (aG iJ).toArray 105)
  unfold dI
  simpa using this
theorem sU(arsA codeA:Option Addr)(nA arsC nC codeC:Nat)(regs spills:Int)(op:Nat)(to a bb arg:Int)(w:World)(h:op<39)(hk:dA op=false):
  Calls Try.prog 63 #[.agg #[.slice arsA nA arsC,.int .i64 regs,.int .i64 spills,.slice codeA nC codeC],.agg #[.int .i64 (op:Int),.int .i64 to,.int .i64 a,.int .i64 bb,.int .u32 arg],.agg (aG iJ).toArray] w λe w'=>e= .returned (.int .i64 1)/\Below w.heap.size w w':=by
 have h0:(0:Int)<=(op:Int)/\(op:Int)<39/\¬(op:Int)<0/\¬(39<=(op:Int)):=by omega
 go_enter Try.func63,Try.ntmps63
 go_upto_region 1 with(fail)
 refine cG _ (ey w arsA codeA nA arsC nC codeC regs spills op to a bb arg) ?_
 rintro z ⟨hb,b1,b2,b3,hz⟩
 have q:=(ep b3 h).1
 rw[hk] at q
 have c0:z.cell? ⟨w.heap.size+1,0,none⟩=some (.int .i64 (op:Int)):=b2.cell 0
 have HB:=Lib.hid hb
 clear b1 b2 b3 hb
 go_wp2
 go_ret
 exact⟨rfl,HB.out⟩
theorem ze(arsA codeA:Option Addr)(nA arsC nC codeC:Nat)(regs spills:Int)(op:Nat)(to a bb arg:Int)(w:World)(h:op<39)(hk:dA op=true)(hA:nA<=9223372036854775807)(hs:0<=spills/\spills<=1024)(harg:0<=arg/\arg<4294967296)(e1:aF regs to (cH op)=false):
  Calls Try.prog 63 #[.agg #[.slice arsA nA arsC,.int .i64 regs,.int .i64 spills,.slice codeA nC codeC],.agg #[.int .i64 (op:Int),.int .i64 to,.int .i64 a,.int .i64 bb,.int .u32 arg],.agg (aG iJ).toArray] w λe w'=>e= .returned (.int .i64 2)/\Below w.heap.size w w':=by
 have h0:(0:Int)<=(op:Int)/\(op:Int)<39/\¬(op:Int)<0/\¬(39<=(op:Int)):=by omega
 have hmf:∀(fn:Fn) (first cap:Array Value) (w:World),(Instr.makeFunc fn first cap).run Try.prog w= .ok (.func fn first cap) w:=λ_ _ _ _=>rfl
 have HE1:=Lib.hid e1
 clear e1
 go_enter Try.func63,Try.ntmps63
 go_upto_region 1 with(fail)
 refine cG _ (ey w arsA codeA nA arsC nC codeC regs spills op to a bb arg) ?_
 rintro z ⟨hb,b1,b2,b3,hz⟩
 obtain⟨q0,q1,q2,q3⟩:=ep b3 h
 rw[hk] at q0
 have c0:z.cell? ⟨w.heap.size+1,0,none⟩=some (.int .i64 (op:Int)):=b2.cell 0
 have c1:z.cell? ⟨w.heap.size+1,1,none⟩=some (.int .i64 to):=b2.cell 1
 have c2:z.cell? ⟨w.heap.size+1,2,none⟩=some (.int .i64 a):=b2.cell 2
 have c3:z.cell? ⟨w.heap.size+1,3,none⟩=some (.int .i64 bb):=b2.cell 3
 have c4:z.cell? ⟨w.heap.size+1,4,none⟩=some (.int .u32 arg):=b2.cell 4
 have d0:z.cell? ⟨w.heap.size,0,none⟩=some (.slice arsA nA arsC):=b1.cell 0
 have d1:z.cell? ⟨w.heap.size,1,none⟩=some (.int .i64 regs):=b1.cell 1
 have d1':z.cell? ⟨w.heap.size,0+1,none⟩=some (.int .i64 regs):=b1.cell 1
 have d2:z.cell? ⟨w.heap.size,0+1+1,none⟩=some (.int .i64 spills):=b1.cell 2
 have d3:z.cell? ⟨w.heap.size,0+1+1+1,none⟩=some (.slice codeA nC codeC):=b1.cell 3
 have HB:=Lib.hid hb
 have hz0:w.heap.size<z.heap.size:=by omega
 have hz1:w.heap.size+1<z.heap.size:=by omega
 have hz2:w.heap.size+1+1<z.heap.size:=by omega
 clear b1 b2 b3 hb
 have dz:∀o,(z.alloc o).drew.cell? ⟨w.heap.size,1,none⟩=some (.int .i64 regs):=λo=>by show(z.alloc o).cell? _=_;rw[World.cell?_alloc_past _ _ _ hz0];exact d1
 have HDZ:=Lib.hid dz
 clear dz
 go_wp2_with fail
 refine bo [0,1,3,8,9,11,17,18,20,26,30,28] [(2,0),(2,1),(2,3),(1,2),(1,4),(0,5),(0,6),(0,7),(2,8),(2,9),(2,11),(1,10),(0,12),(0,13),(0,14),(0,15),(0,16),(2,17),(2,18),(2,20),(1,19),(0,21),(0,22),(0,23),(0,24),(0,25),(2,26),(2,30),(1,27),(2,28),(1,29),(0,31),(0,32),(0,33),(0,34)] (by kernel_rfl) (by kernel_rfl) (λc a d v w h=>by cases d<;>exact h) ?_
 simp only[ax,List.filterMap_cons,List.filterMap_nil,List.getElem?_toArray,List.getElem?_cons_succ,List.getElem?_cons_zero,Option.map_some]
 repeat ((first|refine aQ (λK hK=>?_)|refine aM (λK hK=>?_));go_simp;refine hK _ ?_;clear hK K)
 repeat (first
  |((first|refine aQ (λK hK=>?_)|refine aM (λK hK=>?_));go_simp;refine hK _ ?_;clear hK K)
  |(refine bD ?_;go_wp2_with (first|(go_at_call 84;refine(i9 _ _ _ regs _ (HDZ.out _) _ (by first|exact HE1.out)).mono ?_;rintro e w' ⟨rfl,rfl⟩)|(go_at_call 85;refine(gD _ _ _ _ _ _ _ _ _ _ hA hs).mono ?_;rintro e w9 ⟨rfl,hb9⟩));refine⟨by first|exact a7 (Below.refl _ _).drew|exact a7 (bi hb9),?_⟩))
 refine bM ?_
 go_wp2
 go_ret
 exact⟨rfl,(HB.out.alloc (by have:=HB.out.size;omega) _).drew⟩
theorem zd(arsA codeA:Option Addr)(nA arsC nC codeC:Nat)(regs spills:Int)(op:Nat)(to a bb arg:Int)(w:World)(h:op<39)(hk:dA op=true)(hA:nA<=9223372036854775807)(hs:0<=spills/\spills<=1024)(harg:0<=arg/\arg<4294967296)(e1:aF regs to (cH op)=true)(e2:aF regs a (dT op)=false):
  Calls Try.prog 63 #[.agg #[.slice arsA nA arsC,.int .i64 regs,.int .i64 spills,.slice codeA nC codeC],.agg #[.int .i64 (op:Int),.int .i64 to,.int .i64 a,.int .i64 bb,.int .u32 arg],.agg (aG iJ).toArray] w λe w'=>e= .returned (.int .i64 2)/\Below w.heap.size w w':=by
 have h0:(0:Int)<=(op:Int)/\(op:Int)<39/\¬(op:Int)<0/\¬(39<=(op:Int)):=by omega
 have hmf:∀(fn:Fn) (first cap:Array Value) (w:World),(Instr.makeFunc fn first cap).run Try.prog w= .ok (.func fn first cap) w:=λ_ _ _ _=>rfl
 have HE1:=Lib.hid e1
 clear e1
 have HE2:=Lib.hid e2
 clear e2
 go_enter Try.func63,Try.ntmps63
 go_upto_region 1 with(fail)
 refine cG _ (ey w arsA codeA nA arsC nC codeC regs spills op to a bb arg) ?_
 rintro z ⟨hb,b1,b2,b3,hz⟩
 obtain⟨q0,q1,q2,q3⟩:=ep b3 h
 rw[hk] at q0
 have c0:z.cell? ⟨w.heap.size+1,0,none⟩=some (.int .i64 (op:Int)):=b2.cell 0
 have c1:z.cell? ⟨w.heap.size+1,1,none⟩=some (.int .i64 to):=b2.cell 1
 have c2:z.cell? ⟨w.heap.size+1,2,none⟩=some (.int .i64 a):=b2.cell 2
 have c3:z.cell? ⟨w.heap.size+1,3,none⟩=some (.int .i64 bb):=b2.cell 3
 have c4:z.cell? ⟨w.heap.size+1,4,none⟩=some (.int .u32 arg):=b2.cell 4
 have d0:z.cell? ⟨w.heap.size,0,none⟩=some (.slice arsA nA arsC):=b1.cell 0
 have d1:z.cell? ⟨w.heap.size,1,none⟩=some (.int .i64 regs):=b1.cell 1
 have d1':z.cell? ⟨w.heap.size,0+1,none⟩=some (.int .i64 regs):=b1.cell 1
 have d2:z.cell? ⟨w.heap.size,0+1+1,none⟩=some (.int .i64 spills):=b1.cell 2
 have d3:z.cell? ⟨w.heap.size,0+1+1+1,none⟩=some (.slice codeA nC codeC):=b1.cell 3
 have HB:=Lib.hid hb
 have hz0:w.heap.size<z.heap.size:=by omega
 have hz1:w.heap.size+1<z.heap.size:=by omega
 have hz2:w.heap.size+1+1<z.heap.size:=by omega
 clear b1 b2 b3 hb
 have dz:∀o,(z.alloc o).drew.cell? ⟨w.heap.size,1,none⟩=some (.int .i64 regs):=λo=>by show(z.alloc o).cell? _=_;rw[World.cell?_alloc_past _ _ _ hz0];exact d1
 have HDZ:=Lib.hid dz
 clear dz
 go_wp2_with fail
 refine bo [0,1,3,8,9,11,17,18,20,26,30,28] [(2,0),(2,1),(2,3),(1,2),(1,4),(0,5),(0,6),(0,7),(2,8),(2,9),(2,11),(1,10),(0,12),(0,13),(0,14),(0,15),(0,16),(2,17),(2,18),(2,20),(1,19),(0,21),(0,22),(0,23),(0,24),(0,25),(2,26),(2,30),(1,27),(2,28),(1,29),(0,31),(0,32),(0,33),(0,34)] (by kernel_rfl) (by kernel_rfl) (λc a d v w h=>by cases d<;>exact h) ?_
 simp only[ax,List.filterMap_cons,List.filterMap_nil,List.getElem?_toArray,List.getElem?_cons_succ,List.getElem?_cons_zero,Option.map_some]
 repeat ((first|refine aQ (λK hK=>?_)|refine aM (λK hK=>?_));go_simp;refine hK _ ?_;clear hK K)
 repeat (first
  |((first|refine aQ (λK hK=>?_)|refine aM (λK hK=>?_));go_simp;refine hK _ ?_;clear hK K)
  |(refine bD ?_;go_wp2_with (first|(go_at_call 84;refine(i9 _ _ _ regs _ (HDZ.out _) _ (by first|exact HE1.out|exact HE2.out)).mono ?_;rintro e w' ⟨rfl,rfl⟩)|(go_at_call 85;refine(gD _ _ _ _ _ _ _ _ _ _ hA hs).mono ?_;rintro e w9 ⟨rfl,hb9⟩));refine⟨by first|exact a7 (Below.refl _ _).drew|exact a7 (bi hb9),?_⟩))
 refine bM ?_
 go_wp2
 go_ret
 exact⟨rfl,(HB.out.alloc (by have:=HB.out.size;omega) _).drew⟩
theorem zc(arsA codeA:Option Addr)(nA arsC nC codeC:Nat)(regs spills:Int)(op:Nat)(to a bb arg:Int)(w:World)(h:op<39)(hk:dA op=true)(hA:nA<=9223372036854775807)(hs:0<=spills/\spills<=1024)(harg:0<=arg/\arg<4294967296)(e1:aF regs to (cH op)=true)(e2:aF regs a (dT op)=true)(e3:aF regs bb (ee op)=false):
  Calls Try.prog 63 #[.agg #[.slice arsA nA arsC,.int .i64 regs,.int .i64 spills,.slice codeA nC codeC],.agg #[.int .i64 (op:Int),.int .i64 to,.int .i64 a,.int .i64 bb,.int .u32 arg],.agg (aG iJ).toArray] w λe w'=>e= .returned (.int .i64 2)/\Below w.heap.size w w':=by
 have h0:(0:Int)<=(op:Int)/\(op:Int)<39/\¬(op:Int)<0/\¬(39<=(op:Int)):=by omega
 have hmf:∀(fn:Fn) (first cap:Array Value) (w:World),(Instr.makeFunc fn first cap).run Try.prog w= .ok (.func fn first cap) w:=λ_ _ _ _=>rfl
 have HE1:=Lib.hid e1
 clear e1
 have HE2:=Lib.hid e2
 clear e2
 have HE3:=Lib.hid e3
 clear e3
 go_enter Try.func63,Try.ntmps63
 go_upto_region 1 with(fail)
 refine cG _ (ey w arsA codeA nA arsC nC codeC regs spills op to a bb arg) ?_
 rintro z ⟨hb,b1,b2,b3,hz⟩
 obtain⟨q0,q1,q2,q3⟩:=ep b3 h
 rw[hk] at q0
 have c0:z.cell? ⟨w.heap.size+1,0,none⟩=some (.int .i64 (op:Int)):=b2.cell 0
 have c1:z.cell? ⟨w.heap.size+1,1,none⟩=some (.int .i64 to):=b2.cell 1
 have c2:z.cell? ⟨w.heap.size+1,2,none⟩=some (.int .i64 a):=b2.cell 2
 have c3:z.cell? ⟨w.heap.size+1,3,none⟩=some (.int .i64 bb):=b2.cell 3
 have c4:z.cell? ⟨w.heap.size+1,4,none⟩=some (.int .u32 arg):=b2.cell 4
 have d0:z.cell? ⟨w.heap.size,0,none⟩=some (.slice arsA nA arsC):=b1.cell 0
 have d1:z.cell? ⟨w.heap.size,1,none⟩=some (.int .i64 regs):=b1.cell 1
 have d1':z.cell? ⟨w.heap.size,0+1,none⟩=some (.int .i64 regs):=b1.cell 1
 have d2:z.cell? ⟨w.heap.size,0+1+1,none⟩=some (.int .i64 spills):=b1.cell 2
 have d3:z.cell? ⟨w.heap.size,0+1+1+1,none⟩=some (.slice codeA nC codeC):=b1.cell 3
 have HB:=Lib.hid hb
 have hz0:w.heap.size<z.heap.size:=by omega
 have hz1:w.heap.size+1<z.heap.size:=by omega
 have hz2:w.heap.size+1+1<z.heap.size:=by omega
 clear b1 b2 b3 hb
 have dz:∀o,(z.alloc o).drew.cell? ⟨w.heap.size,1,none⟩=some (.int .i64 regs):=λo=>by show(z.alloc o).cell? _=_;rw[World.cell?_alloc_past _ _ _ hz0];exact d1
 have HDZ:=Lib.hid dz
 clear dz
 go_wp2_with fail
 refine bo [0,1,3,8,9,11,17,18,20,26,30,28] [(2,0),(2,1),(2,3),(1,2),(1,4),(0,5),(0,6),(0,7),(2,8),(2,9),(2,11),(1,10),(0,12),(0,13),(0,14),(0,15),(0,16),(2,17),(2,18),(2,20),(1,19),(0,21),(0,22),(0,23),(0,24),(0,25),(2,26),(2,30),(1,27),(2,28),(1,29),(0,31),(0,32),(0,33),(0,34)] (by kernel_rfl) (by kernel_rfl) (λc a d v w h=>by cases d<;>exact h) ?_
 simp only[ax,List.filterMap_cons,List.filterMap_nil,List.getElem?_toArray,List.getElem?_cons_succ,List.getElem?_cons_zero,Option.map_some]
 repeat ((first|refine aQ (λK hK=>?_)|refine aM (λK hK=>?_));go_simp;refine hK _ ?_;clear hK K)
 repeat (first
  |((first|refine aQ (λK hK=>?_)|refine aM (λK hK=>?_));go_simp;refine hK _ ?_;clear hK K)
  |(refine bD ?_;go_wp2_with (first|(go_at_call 84;refine(i9 _ _ _ regs _ (HDZ.out _) _ (by first|exact HE1.out|exact HE2.out|exact HE3.out)).mono ?_;rintro e w' ⟨rfl,rfl⟩)|(go_at_call 85;refine(gD _ _ _ _ _ _ _ _ _ _ hA hs).mono ?_;rintro e w9 ⟨rfl,hb9⟩));refine⟨by first|exact a7 (Below.refl _ _).drew|exact a7 (bi hb9),?_⟩))
 refine bM ?_
 go_wp2
 go_ret
 exact⟨rfl,(HB.out.alloc (by have:=HB.out.size;omega) _).drew⟩
theorem zb(arsA codeA:Option Addr)(nA arsC nC codeC:Nat)(regs spills:Int)(op:Nat)(to a bb arg:Int)(w:World)(h:op<39)(hk:dA op=true)(hA:nA<=9223372036854775807)(hs:0<=spills/\spills<=1024)(harg:0<=arg/\arg<4294967296)(e1:aF regs to (cH op)=true)(e2:aF regs a (dT op)=true)(e3:aF regs bb (ee op)=true)(e4:decide (ch nA spills op<arg)=true):
  Calls Try.prog 63 #[.agg #[.slice arsA nA arsC,.int .i64 regs,.int .i64 spills,.slice codeA nC codeC],.agg #[.int .i64 (op:Int),.int .i64 to,.int .i64 a,.int .i64 bb,.int .u32 arg],.agg (aG iJ).toArray] w λe w'=>e= .returned (.int .i64 2)/\Below w.heap.size w w':=by
 have h0:(0:Int)<=(op:Int)/\(op:Int)<39/\¬(op:Int)<0/\¬(39<=(op:Int)):=by omega
 have hmf:∀(fn:Fn) (first cap:Array Value) (w:World),(Instr.makeFunc fn first cap).run Try.prog w= .ok (.func fn first cap) w:=λ_ _ _ _=>rfl
 have HE1:=Lib.hid e1
 clear e1
 have HE2:=Lib.hid e2
 clear e2
 have HE3:=Lib.hid e3
 clear e3
 go_enter Try.func63,Try.ntmps63
 go_upto_region 1 with(fail)
 refine cG _ (ey w arsA codeA nA arsC nC codeC regs spills op to a bb arg) ?_
 rintro z ⟨hb,b1,b2,b3,hz⟩
 obtain⟨q0,q1,q2,q3⟩:=ep b3 h
 rw[hk] at q0
 have c0:z.cell? ⟨w.heap.size+1,0,none⟩=some (.int .i64 (op:Int)):=b2.cell 0
 have c1:z.cell? ⟨w.heap.size+1,1,none⟩=some (.int .i64 to):=b2.cell 1
 have c2:z.cell? ⟨w.heap.size+1,2,none⟩=some (.int .i64 a):=b2.cell 2
 have c3:z.cell? ⟨w.heap.size+1,3,none⟩=some (.int .i64 bb):=b2.cell 3
 have c4:z.cell? ⟨w.heap.size+1,4,none⟩=some (.int .u32 arg):=b2.cell 4
 have d0:z.cell? ⟨w.heap.size,0,none⟩=some (.slice arsA nA arsC):=b1.cell 0
 have d1:z.cell? ⟨w.heap.size,1,none⟩=some (.int .i64 regs):=b1.cell 1
 have d1':z.cell? ⟨w.heap.size,0+1,none⟩=some (.int .i64 regs):=b1.cell 1
 have d2:z.cell? ⟨w.heap.size,0+1+1,none⟩=some (.int .i64 spills):=b1.cell 2
 have d3:z.cell? ⟨w.heap.size,0+1+1+1,none⟩=some (.slice codeA nC codeC):=b1.cell 3
 have HB:=Lib.hid hb
 have hz0:w.heap.size<z.heap.size:=by omega
 have hz1:w.heap.size+1<z.heap.size:=by omega
 have hz2:w.heap.size+1+1<z.heap.size:=by omega
 clear b1 b2 b3 hb
 have dz:∀o,(z.alloc o).drew.cell? ⟨w.heap.size,1,none⟩=some (.int .i64 regs):=λo=>by show(z.alloc o).cell? _=_;rw[World.cell?_alloc_past _ _ _ hz0];exact d1
 have HDZ:=Lib.hid dz
 clear dz
 go_wp2_with fail
 refine bo [0,1,3,8,9,11,17,18,20,26,30,28] [(2,0),(2,1),(2,3),(1,2),(1,4),(0,5),(0,6),(0,7),(2,8),(2,9),(2,11),(1,10),(0,12),(0,13),(0,14),(0,15),(0,16),(2,17),(2,18),(2,20),(1,19),(0,21),(0,22),(0,23),(0,24),(0,25),(2,26),(2,30),(1,27),(2,28),(1,29),(0,31),(0,32),(0,33),(0,34)] (by kernel_rfl) (by kernel_rfl) (λc a d v w h=>by cases d<;>exact h) ?_
 simp only[ax,List.filterMap_cons,List.filterMap_nil,List.getElem?_toArray,List.getElem?_cons_succ,List.getElem?_cons_zero,Option.map_some]
 repeat ((first|refine aQ (λK hK=>?_)|refine aM (λK hK=>?_));go_simp;refine hK _ ?_;clear hK K)
 repeat (first
  |((first|refine aQ (λK hK=>?_)|refine aM (λK hK=>?_));go_simp;refine hK _ ?_;clear hK K)
  |(refine bD ?_;go_wp2_with (first|(go_at_call 84;refine(i9 _ _ _ regs _ (HDZ.out _) _ (by first|exact HE1.out|exact HE2.out|exact HE3.out)).mono ?_;rintro e w' ⟨rfl,rfl⟩)|(go_at_call 85;refine(gD _ _ _ _ _ _ _ _ _ _ hA hs).mono ?_;rintro e w9 ⟨rfl,hb9⟩));refine⟨by first|exact a7 (Below.refl _ _).drew|exact a7 (bi hb9),?_⟩))
 refine bM ?_
 go_wp2
 go_ret
 exact⟨rfl,((HB.out.alloc (by have:=HB.out.size;omega) _).drew).trans (hb9.mono (by have:=HB.out.size;simp;omega))⟩
theorem za(arsA codeA:Option Addr)(nA arsC nC codeC:Nat)(regs spills:Int)(op:Nat)(to a bb arg:Int)(w:World)(h:op<39)(hk:dA op=true)(hA:nA<=9223372036854775807)(hs:0<=spills/\spills<=1024)(harg:0<=arg/\arg<4294967296)(e1:aF regs to (cH op)=true)(e2:aF regs a (dT op)=true)(e3:aF regs bb (ee op)=true)(e4:decide (ch nA spills op<arg)=false):
  Calls Try.prog 63 #[.agg #[.slice arsA nA arsC,.int .i64 regs,.int .i64 spills,.slice codeA nC codeC],.agg #[.int .i64 (op:Int),.int .i64 to,.int .i64 a,.int .i64 bb,.int .u32 arg],.agg (aG iJ).toArray] w λe w'=>e= .returned (.int .i64 0)/\Below w.heap.size w w':=by
 have h0:(0:Int)<=(op:Int)/\(op:Int)<39/\¬(op:Int)<0/\¬(39<=(op:Int)):=by omega
 have hmf:∀(fn:Fn) (first cap:Array Value) (w:World),(Instr.makeFunc fn first cap).run Try.prog w= .ok (.func fn first cap) w:=λ_ _ _ _=>rfl
 have HE1:=Lib.hid e1
 clear e1
 have HE2:=Lib.hid e2
 clear e2
 have HE3:=Lib.hid e3
 clear e3
 go_enter Try.func63,Try.ntmps63
 go_upto_region 1 with(fail)
 refine cG _ (ey w arsA codeA nA arsC nC codeC regs spills op to a bb arg) ?_
 rintro z ⟨hb,b1,b2,b3,hz⟩
 obtain⟨q0,q1,q2,q3⟩:=ep b3 h
 rw[hk] at q0
 have c0:z.cell? ⟨w.heap.size+1,0,none⟩=some (.int .i64 (op:Int)):=b2.cell 0
 have c1:z.cell? ⟨w.heap.size+1,1,none⟩=some (.int .i64 to):=b2.cell 1
 have c2:z.cell? ⟨w.heap.size+1,2,none⟩=some (.int .i64 a):=b2.cell 2
 have c3:z.cell? ⟨w.heap.size+1,3,none⟩=some (.int .i64 bb):=b2.cell 3
 have c4:z.cell? ⟨w.heap.size+1,4,none⟩=some (.int .u32 arg):=b2.cell 4
 have d0:z.cell? ⟨w.heap.size,0,none⟩=some (.slice arsA nA arsC):=b1.cell 0
 have d1:z.cell? ⟨w.heap.size,1,none⟩=some (.int .i64 regs):=b1.cell 1
 have d1':z.cell? ⟨w.heap.size,0+1,none⟩=some (.int .i64 regs):=b1.cell 1
 have d2:z.cell? ⟨w.heap.size,0+1+1,none⟩=some (.int .i64 spills):=b1.cell 2
 have d3:z.cell? ⟨w.heap.size,0+1+1+1,none⟩=some (.slice codeA nC codeC):=b1.cell 3
 have HB:=Lib.hid hb
 have hz0:w.heap.size<z.heap.size:=by omega
 have hz1:w.heap.size+1<z.heap.size:=by omega
 have hz2:w.heap.size+1+1<z.heap.size:=by omega
 clear b1 b2 b3 hb
 have dz:∀o,(z.alloc o).drew.cell? ⟨w.heap.size,1,none⟩=some (.int .i64 regs):=λo=>by show(z.alloc o).cell? _=_;rw[World.cell?_alloc_past _ _ _ hz0];exact d1
 have HDZ:=Lib.hid dz
 clear dz
 go_wp2_with fail
 refine bo [0,1,3,8,9,11,17,18,20,26,30,28] [(2,0),(2,1),(2,3),(1,2),(1,4),(0,5),(0,6),(0,7),(2,8),(2,9),(2,11),(1,10),(0,12),(0,13),(0,14),(0,15),(0,16),(2,17),(2,18),(2,20),(1,19),(0,21),(0,22),(0,23),(0,24),(0,25),(2,26),(2,30),(1,27),(2,28),(1,29),(0,31),(0,32),(0,33),(0,34)] (by kernel_rfl) (by kernel_rfl) (λc a d v w h=>by cases d<;>exact h) ?_
 simp only[ax,List.filterMap_cons,List.filterMap_nil,List.getElem?_toArray,List.getElem?_cons_succ,List.getElem?_cons_zero,Option.map_some]
 repeat ((first|refine aQ (λK hK=>?_)|refine aM (λK hK=>?_));go_simp;refine hK _ ?_;clear hK K)
 repeat (first
  |((first|refine aQ (λK hK=>?_)|refine aM (λK hK=>?_));go_simp;refine hK _ ?_;clear hK K)
  |(refine bD ?_;go_wp2_with (first|(go_at_call 84;refine(i9 _ _ _ regs _ (HDZ.out _) _ (by first|exact HE1.out|exact HE2.out|exact HE3.out)).mono ?_;rintro e w' ⟨rfl,rfl⟩)|(go_at_call 85;refine(gD _ _ _ _ _ _ _ _ _ _ hA hs).mono ?_;rintro e w9 ⟨rfl,hb9⟩));refine⟨by first|exact a7 (Below.refl _ _).drew|exact a7 (bi hb9),?_⟩))
 refine bM ?_
 go_wp2
 go_ret
 exact⟨rfl,((HB.out.alloc (by have:=HB.out.size;omega) _).drew).trans (hb9.mono (by have:=HB.out.size;simp;omega))⟩
theorem n3(arsA codeA:Option Addr)(nA arsC nC codeC:Nat)(regs spills op to a bb arg:Int)(w:World)(hA:nA<=9223372036854775807)(hs:0<=spills/\spills<=1024)(harg:0<=arg/\arg<4294967296):
  Calls Try.prog 63 #[.agg #[.slice arsA nA arsC,.int .i64 regs,.int .i64 spills,.slice codeA nC codeC],.agg #[.int .i64 op,.int .i64 to,.int .i64 a,.int .i64 bb,.int .u32 arg],.agg (aG iJ).toArray] w λe w'=>e= .returned (.int .i64 (dD regs spills nA ⟨op,to,a,bb,arg⟩))/\Below w.heap.size w w':=by
 by_cases h:op<0\/39<=op
 ·have e:dD regs spills nA ⟨op,to,a,bb,arg⟩=1:=by
   have:dA op=false:=by simp[dA];omega
   simp[dD,this]
  rw[e];exact vR arsA codeA nA arsC nC codeC regs spills op to a bb arg w h
 obtain⟨n,rfl⟩:∃n:Nat,op=(n:Int):=⟨op.toNat,by omega⟩
 have hn:n<39:=by omega
 cases hk:dA n with
 |false=>
  have e:dD regs spills nA ⟨n,to,a,bb,arg⟩=1:=by simp[dD,hk]
  rw[e];exact sU arsA codeA nA arsC nC codeC regs spills n to a bb arg w hn hk
 |true=>
  cases e1:aF regs to (cH n) with
  |false=>
   have e:dD regs spills nA ⟨n,to,a,bb,arg⟩=2:=by simp[dD,hk,e1]
   rw[e];exact ze arsA codeA nA arsC nC codeC regs spills n to a bb arg w hn hk hA hs harg e1
  |true=>
   cases e2:aF regs a (dT n) with
   |false=>
    have e:dD regs spills nA ⟨n,to,a,bb,arg⟩=2:=by simp[dD,hk,e1,e2]
    rw[e];exact zd arsA codeA nA arsC nC codeC regs spills n to a bb arg w hn hk hA hs harg e1 e2
   |true=>
    cases e3:aF regs bb (ee n) with
    |false=>
     have e:dD regs spills nA ⟨n,to,a,bb,arg⟩=2:=by simp[dD,hk,e1,e2,e3]
     rw[e];exact zc arsA codeA nA arsC nC codeC regs spills n to a bb arg w hn hk hA hs harg e1 e2 e3
    |true=>
     by_cases e4:ch nA spills n<arg
     ·have e:dD regs spills nA ⟨n,to,a,bb,arg⟩=2:=by simp[dD,hk,e1,e2,e3,e4]
      rw[e];exact zb arsA codeA nA arsC nC codeC regs spills n to a bb arg w hn hk hA hs harg e1 e2 e3 (by simp[e4])
     ·have e:dD regs spills nA ⟨n,to,a,bb,arg⟩=0:=by simp[dD,hk,e1,e2,e3,e4]
      rw[e];exact za arsA codeA nA arsC nC codeC regs spills n to a bb arg w hn hk hA hs harg e1 e2 e3 (by simp[e4])
end Go.Proofs.Yteopfmnnhlhbmaa