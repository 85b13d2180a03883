/- A part of the proof of AllocateNeeds: O. No condition. -/
import Derived.Deep.Cut
import Derived.Deep.LoopGhost
import Derived.Laws.Tables
import Derived.Lib.Hide
import Derived.StillTailTactics
import Derived.Test.YteopfmnnhlhbmaaHn03
import Derived.Test.YteopfmnnhlhbmaaHn25
import Derived.Test.YteopfmnnhlhbmaaHn02
set_option linter.unusedSimpArgs false
set_option linter.unusedVariables false
set_option linter.constructorNameAsVariable false
set_option maxRecDepth 100000
set_option maxHeartbeats 4000000
namespace Go.Proofs.Yteopfmnnhlhbmaa
open Go.RowKit
abbrev Sh:=Bool×Bool×Bool×Bool
def Ag(p:Sh):List Value:=[.bool p.1,.bool p.2.1,.bool p.2.2.1,.bool p.2.2.2]
def aG:List Sh->List Value
 |[]=>[]
 |p::l=> .bool p.1:: .bool p.2.1:: .bool p.2.2.1:: .bool p.2.2.2::aG l
theorem fH:∀(l:List Sh) (i j:Nat),i<l.length->j<4->(aG l)[4*i+j]? =(Ag (l.getD i (false,false,false,false)))[j]?
 |[],i,j,h,_=>by simp at h
 |p::l,0,j,h,hj=>by
  have:j=0\/j=1\/j=2\/j=3:=by omega
  rcases this with rfl|rfl|rfl|rfl<;>rfl
 |p::l,i+1,j,h,hj=>by
  have e:4*(i+1)+j=4*i+j+4:=by omega
  rw[e]
  simp only[aG,List.getElem?_cons_succ,List.getD_cons_succ]
  exact fH l i j (by simpa using h) hj
theorem i4:∀(l:List Sh) (i:Nat) (p:Sh),i<l.length->((((aG l).set (4*i) (.bool p.1)).set (4*i+1) (.bool p.2.1)).set (4*i+2) (.bool p.2.2.1)).set (4*i+3) (.bool p.2.2.2)=aG (l.set i p)
 |[],i,p,h=>by simp at h
 |q::l,0,p,h=>rfl
 |q::l,i+1,p,h=>by
  have e:4*(i+1)=4*i+4:=by omega
  have e1:4*i+4+1=(4*i+1)+4:=by omega
  have e2:4*i+4+2=(4*i+2)+4:=by omega
  have e3:4*i+4+3=(4*i+3)+4:=by omega
  rw[e,e1,e2,e3]
  simp only[aG,List.set_cons_succ]
  rw[i4 l i p (by simpa using h)]
def iK(p:Sh):List Nat->List Sh->List Sh
 |[],l=>l
 |i::is,l=>iK p is (l.set i p)
theorem gr(p:Sh):∀(is:List Nat) (l:List Sh),(iK p is l).length=l.length
 |[],l=>rfl
 |i::is,l=>by simp only[iK,gr p is,List.length_set]
theorem ns(p:Sh)(i:Nat):∀(is:List Nat) (l:List Sh),iK p (is++[i]) l=(iK p is l).set i p
 |[],l=>rfl
 |j::is,l=>by simp only[List.cons_append,iK,ns p i is]
def F8:List Sh:=List.replicate 39 (false,false,false,false)
def nK:List Nat:=[8,9,10,11,12,13,14,15,16,17,18,19,20,21,22,23,24,25]
def jq:List Nat:=[0,32,33,38]
def jp:List Nat:=[3,23,26,36]
def jo:List Nat:=[27,30,29,34,35,37]
def iG:List Nat:=[28,31]
def tb1:List Sh:=iK (true,true,true,true) nK F8
def tb2:List Sh:=iK (true,true,false,false) jq tb1
def tb3:List Sh:=iK (true,true,true,false) jp tb2
def tb4:List Sh:=iK (true,false,true,false) jo tb3
def tb5:List Sh:=iK (true,false,false,false) iG tb4
def iJ:List Sh:=tb5.set 4 (true,false,true,true)
theorem Ac:∀op:Fin 39,iJ.getD op.1 (false,false,false,false)=(dA op.1,cH op.1,dT op.1,ee op.1):=by decide
theorem dI.tab{w:World}{b:Nat}{l:List Sh}{t:TypeId}(h:dI w b (aG l) t){i:Nat}(hi:i<l.length)(p0 p1 p2 p3:Bool):
  dI ((((w.setCell ⟨b,i*4,none⟩ (.bool p0)).setCell ⟨b,i*4+1,none⟩ (.bool p1)).setCell ⟨b,i*4+2,none⟩ (.bool p2)).setCell ⟨b,i*4+3,none⟩ (.bool p3)) b (aG (l.set i (p0,p1,p2,p3))) t:=by
 have:=(((h.set (4*i) (.bool p0)).set (4*i+1) (.bool p1)).set (4*i+2) (.bool p2)).set (4*i+3) (.bool p3)
 rw[i4 l i (p0,p1,p2,p3) hi] at this
 rw[Nat.mul_comm i 4]
 exact this
structure pw(w:World)(j:Nat)(lits is:List Nat)(p:Sh)(l:List Sh)(k:Nat)(wr:World):Prop where
 le:k<=is.length
 res:dI wr w.heap.size (aG F8) 105
 out:dI wr (w.heap.size+1) (aG (iK p (is.take k) l)) 105
 lit:lits≠[]->dI wr j (lits.map λ(n:Nat)=> .int .i64 (n:Int)) 3
 size:w.heap.size+2<=wr.heap.size
 bel:Below w.heap.size w wr
theorem pw.store{w:World}{j:Nat}{lits is:List Nat}{p:Sh}{l:List Sh}{k:Nat}{wr:World}(h:pw w j lits is p l k wr)(hj:lits≠[]->w.heap.size+1<j)(hl:l.length=39){i:Nat}(hk:k<is.length)(hi:is.getD k 0=i)(hi2:i<39){p0 p1 p2 p3:Bool}(hp:p=(p0,p1,p2,p3)):
  pw w j lits is p l (k+1) ((((wr.setCell ⟨w.heap.size+1,i*4,none⟩ (.bool p0)).setCell ⟨w.heap.size+1,i*4+1,none⟩ (.bool p1)).setCell ⟨w.heap.size+1,i*4+2,none⟩ (.bool p2)).setCell ⟨w.heap.size+1,i*4+3,none⟩ (.bool p3)):=by
 subst hp
 have hx:w.heap.size<=w.heap.size+1:=by omega
 have n0:w.heap.size≠w.heap.size+1:=by omega
 refine⟨hk,((((h.res.other n0 _).other n0 _).other n0 _).other n0 _),?_,λhne=>?_,by simp[World.setCell];exact h.size,(((h.bel.setCell hx _).setCell hx _).setCell hx _).setCell hx _⟩
 ·rw[List.take_succ_eq_append_getElem hk,ns]
  have:is[k]=i:=by rw[<-hi,List.getD_eq_getElem?_getD,List.getElem?_eq_getElem hk];rfl
  rw[this]
  exact h.out.tab (by rw[gr,hl];exact hi2) p0 p1 p2 p3
 ·have nj:j≠w.heap.size+1:=by have:=hj hne;omega
  exact(((((h.lit hne).other nj _).other nj _).other nj _).other nj _)
theorem pw.cells{w:World}{j:Nat}{lits is:List Nat}{p:Sh}{l:List Sh}{k:Nat}{wr:World}(h:pw w j lits is p l k wr)(hl:l.length=39){i:Nat}(hi:i<39):
  ∃v0 v1 v2 v3,wr.cell? ⟨w.heap.size+1,i*4,none⟩=some v0/\wr.cell? ⟨w.heap.size+1,i*4+1,none⟩=some v1/\wr.cell? ⟨w.heap.size+1,i*4+2,none⟩=some v2/\wr.cell? ⟨w.heap.size+1,i*4+3,none⟩=some v3:=by
 have hlen:i<(iK p (is.take k) l).length:=by rw[gr,hl];exact hi
 have g:=λj (hj:j<4)=>fH _ i j hlen hj
 rw[Nat.mul_comm i 4]
 exact⟨_,_,_,_,(h.out.cell _).trans (g 0 (by omega)),(h.out.cell _).trans (g 1 (by omega)),(h.out.cell _).trans (g 2 (by omega)),(h.out.cell _).trans (g 3 (by omega))⟩
theorem pw.next{w:World}{j:Nat}{lits is:List Nat}{p:Sh}{l:List Sh}{k:Nat}{wr:World}(h:pw w j lits is p l k wr)(hk:k=is.length)(p2:Sh)(is2:List Nat)(cs:Array Value)(hcs:cs=(is2.map λ(n:Nat)=>Value.int .i64 (n:Int)).toArray):
  pw w wr.heap.size is2 is2 p2 (iK p is l) 0 (wr.alloc (.cells cs 3)):=by
 subst hk
 have hb:Below wr.heap.size wr (wr.alloc (.cells cs 3)):=(Below.refl _ _).alloc (Nat.le_refl _) _
 refine⟨by omega,h.res.below hb h.res.lt,?_,λ_=>?_,by have:=h.size;simp;omega,h.bel.trans (hb.mono h.bel.size)⟩
 ·have:=h.out.below hb h.out.lt
  rw[List.take_length] at this
  exact this
 ·rw[hcs];exact bK _ _
def og(w:World)(j:Nat)(lits is:List Nat)(p:Sh)(l:List Sh)(from_:Nat)(i:Value)(wr:World):Prop:=
 ∃n:Nat,i= .int .i64 (n:Int)/\from_<=n/\pw w j lits is p l (n-from_) wr
theorem vd:∀k,k<18->nK.getD k 0=8+k:=by decide
theorem pQ{w:World}{g:Nat}{old:List Value}{t:TypeId}(h:dI w g old t){cs:Array Value}:(w.setRow g cs).heap[g]? =some (.cells cs t (0,0)):=by
 unfold dI at h
 simp[World.setRow,Array.getElem?_modify,h]
theorem ph{w w':World}(h:Below w.heap.size w w')(cs:Array Value):Below w.heap.size w (w'.setRow w.heap.size cs):=
 ⟨h.os,h.tape,h.output,by simp[World.setRow];exact h.size,λk hk=>by
  rw[<-h.block k hk]
  simp only[World.setRow,Array.getElem?_modify]
  rw[if_neg (by omega)]⟩
theorem rH(w:World):Calls Try.prog 62 #[] w λe w'=>e= .returned (.agg (aG iJ).toArray)/\Below w.heap.size w w':=by
 have z87:Try.zeroCells105=(aG F8).toArray:=by kernel_rfl
 have st1:∀wr,wr=(w.alloc (.cells Try.zeroCells105 105)).alloc (.cells Try.zeroCells105 105)->og w 0 [] nK (true,true,true,true) F8 8 (.int .i64 8) wr:=by
  rintro wr rfl
  rw[z87]
  exact⟨8,rfl,by omega,by omega,by unfold dI;rw[Below.heap_alloc _ _ _ (by simp)];exact bK _ _,nR _ _ _,λh=>absurd rfl h,by simp,((Below.refl _ _).alloc (by simp) _).alloc (by simp) _⟩
 have H1:=Lib.hid st1
 clear st1 z87
 go_enter Try.func62,Try.ntmps62
 go_wp2_with fail
 go_loopw [2] (λi wr=>og w 0 [] nK (true,true,true,true) F8 8 i wr) (λi _=>26-(intOf i).toNat)
 case atStart=>exact H1.out _ rfl
 case round=>
  clear H1
  obtain⟨n,rfl,hn8,SA⟩:=hrel
  have hk:n-8<=18:=SA.le
  by_cases hlt:n<26
  ·have S2:=SA.store (λh=>absurd rfl h) rfl (show n-8<18 by omega) (show nK.getD (n-8) 0=n by rw[vd _ (by omega)];omega) (by omega) (p0:=true) (p1:=true) (p2:=true) (p3:=true) rfl
   obtain⟨v0,v1,v2,v3,q0,q1,q2,q3⟩:=SA.cells rfl (show n<39 by omega)
   have z0:=SA.out.frozen (n*4)
   have z1:=SA.out.frozen (n*4+1)
   have z2:=SA.out.frozen (n*4+2)
   have z3:=SA.out.frozen (n*4+3)
   have HS:=Lib.hid S2
   have hnn:(0:Int)<=n/\(n:Int)<39/\(n:Int)<=25:=by omega
   clear S2 SA
   go_wp2
   go_roundw
   case rel=>exact⟨n+1,by simp,by omega,by have:=HS.out;rw[show n-8+1=n+1-8 by omega] at this;exact this⟩
   case measure=>simp[intOf];omega
  ·have SN:=(SA.next (by show n-8=_;simp[nK];omega) (true,true,false,false) jq #[.int .i64 0,.int .i64 32,.int .i64 33,.int .i64 38] rfl)
   have hwz:=SA.size
   have HN:=Lib.hid SN
   clear SN SA
   obtain⟨w20,hw20⟩:∃z:World,z=wr:=⟨wr,rfl⟩
   subst hw20
   go_wp2
   go_loopw [20] (λi wr=>og w w20.heap.size jq jq (true,true,false,false) tb1 0 i wr) (λi _=>4-(intOf i).toNat)
   case atStart=>exact⟨0,rfl,by omega,HN.out⟩
   case round=>
    clear HN
    obtain⟨n,rfl,_,SA⟩:=hrel
    have hk:n-0<=4:=SA.le
    by_cases hlt:n<4
    ·obtain⟨m,hm⟩:∃m,jq.getD n 0=m:=⟨_,rfl⟩
     have hm39:m<39:=by rw[<-hm];exact(show ∀n,n<4->jq.getD n 0<39 by decide) n hlt
     have S2:=SA.store (λ_=>by omega) rfl (show n-0<4 by omega) hm hm39 (p0:=true) (p1:=true) (p2:=false) (p3:=false) rfl
     obtain⟨v0,v1,v2,v3,q0,q1,q2,q3⟩:=SA.cells rfl hm39
     have ql:wr.cell? ⟨w20.heap.size,n,none⟩=some (.int .i64 (m:Int)):=by
      rw[(SA.lit (by simp[jq])).cell,List.getElem?_map,<-hm,List.getD_eq_getElem?_getD,List.getElem?_eq_getElem (show n<jq.length from hlt)];rfl
     have z0:=SA.out.frozen (m*4)
     have z1:=SA.out.frozen (m*4+1)
     have z2:=SA.out.frozen (m*4+2)
     have z3:=SA.out.frozen (m*4+3)
     have HS:=Lib.hid S2
     have hnn:(0:Int)<=n/\(n:Int)<4:=by omega
     have hmm:(0:Int)<=m/\(m:Int)<39:=by omega
     clear S2 SA hm
     go_wp2
     go_roundw
     case rel=>exact⟨n+1,by simp,by omega,HS.out⟩
     case measure=>simp[intOf];omega
    ·have SN:=(SA.next (by show n-0=_;simp[jq];omega) (true,true,true,false) jp #[.int .i64 3,.int .i64 23,.int .i64 26,.int .i64 36] rfl)
     have hwz:=SA.size
     have HN:=Lib.hid SN
     clear SN SA
     obtain⟨w30,hw30⟩:∃z:World,z=wr:=⟨wr,rfl⟩
     subst hw30
     go_wp2
     go_loopw [30] (λi wr=>og w w30.heap.size jp jp (true,true,true,false) tb2 0 i wr) (λi _=>4-(intOf i).toNat)
     case atStart=>exact⟨0,rfl,by omega,HN.out⟩
     case round=>
      clear HN
      obtain⟨n,rfl,_,SA⟩:=hrel
      have hk:n-0<=4:=SA.le
      by_cases hlt:n<4
      ·obtain⟨m,hm⟩:∃m,jp.getD n 0=m:=⟨_,rfl⟩
       have hm39:m<39:=by rw[<-hm];exact(show ∀n,n<4->jp.getD n 0<39 by decide) n hlt
       have S2:=SA.store (λ_=>by omega) rfl (show n-0<4 by omega) hm hm39 (p0:=true) (p1:=true) (p2:=true) (p3:=false) rfl
       obtain⟨v0,v1,v2,v3,q0,q1,q2,q3⟩:=SA.cells rfl hm39
       have ql:wr.cell? ⟨w30.heap.size,n,none⟩=some (.int .i64 (m:Int)):=by
        rw[(SA.lit (by simp[jp])).cell,List.getElem?_map,<-hm,List.getD_eq_getElem?_getD,List.getElem?_eq_getElem (show n<jp.length from hlt)];rfl
       have z0:=SA.out.frozen (m*4)
       have z1:=SA.out.frozen (m*4+1)
       have z2:=SA.out.frozen (m*4+2)
       have z3:=SA.out.frozen (m*4+3)
       have HS:=Lib.hid S2
       have hnn:(0:Int)<=n/\(n:Int)<4:=by omega
       have hmm:(0:Int)<=m/\(m:Int)<39:=by omega
       clear S2 SA hm
       go_wp2
       go_roundw
       case rel=>exact⟨n+1,by simp,by omega,HS.out⟩
       case measure=>simp[intOf];omega
      ·have SN:=(SA.next (by show n-0=_;simp[jp];omega) (true,false,true,false) jo #[.int .i64 27,.int .i64 30,.int .i64 29,.int .i64 34,.int .i64 35,.int .i64 37] rfl)
       have hwz:=SA.size
       have HN:=Lib.hid SN
       clear SN SA
       obtain⟨w40,hw40⟩:∃z:World,z=wr:=⟨wr,rfl⟩
       subst hw40
       go_wp2
       go_loopw [40] (λi wr=>og w w40.heap.size jo jo (true,false,true,false) tb3 0 i wr) (λi _=>6-(intOf i).toNat)
       case atStart=>exact⟨0,rfl,by omega,HN.out⟩
       case round=>
        clear HN
        obtain⟨n,rfl,_,SA⟩:=hrel
        have hk:n-0<=6:=SA.le
        by_cases hlt:n<6
        ·obtain⟨m,hm⟩:∃m,jo.getD n 0=m:=⟨_,rfl⟩
         have hm39:m<39:=by rw[<-hm];exact(show ∀n,n<6->jo.getD n 0<39 by decide) n hlt
         have S2:=SA.store (λ_=>by omega) rfl (show n-0<6 by omega) hm hm39 (p0:=true) (p1:=false) (p2:=true) (p3:=false) rfl
         obtain⟨v0,v1,v2,v3,q0,q1,q2,q3⟩:=SA.cells rfl hm39
         have ql:wr.cell? ⟨w40.heap.size,n,none⟩=some (.int .i64 (m:Int)):=by
          rw[(SA.lit (by simp[jo])).cell,List.getElem?_map,<-hm,List.getD_eq_getElem?_getD,List.getElem?_eq_getElem (show n<jo.length from hlt)];rfl
         have z0:=SA.out.frozen (m*4)
         have z1:=SA.out.frozen (m*4+1)
         have z2:=SA.out.frozen (m*4+2)
         have z3:=SA.out.frozen (m*4+3)
         have HS:=Lib.hid S2
         have hnn:(0:Int)<=n/\(n:Int)<6:=by omega
         have hmm:(0:Int)<=m/\(m:Int)<39:=by omega
         clear S2 SA hm
         go_wp2
         go_roundw
         case rel=>exact⟨n+1,by simp,by omega,HS.out⟩
         case measure=>simp[intOf];omega
        ·have SN:=(SA.next (by show n-0=_;simp[jo];omega) (true,false,false,false) iG #[.int .i64 28,.int .i64 31] rfl)
         have hwz:=SA.size
         have HN:=Lib.hid SN
         clear SN SA
         obtain⟨w50,hw50⟩:∃z:World,z=wr:=⟨wr,rfl⟩
         subst hw50
         go_wp2
         go_loopw [50] (λi wr=>og w w50.heap.size iG iG (true,false,false,false) tb4 0 i wr) (λi _=>2-(intOf i).toNat)
         case atStart=>exact⟨0,rfl,by omega,HN.out⟩
         case round=>
          clear HN
          obtain⟨n,rfl,_,SA⟩:=hrel
          have hk:n-0<=2:=SA.le
          by_cases hlt:n<2
          ·obtain⟨m,hm⟩:∃m,iG.getD n 0=m:=⟨_,rfl⟩
           have hm39:m<39:=by rw[<-hm];exact(show ∀n,n<2->iG.getD n 0<39 by decide) n hlt
           have S2:=SA.store (λ_=>by omega) rfl (show n-0<2 by omega) hm hm39 (p0:=true) (p1:=false) (p2:=false) (p3:=false) rfl
           obtain⟨v0,v1,v2,v3,q0,q1,q2,q3⟩:=SA.cells rfl hm39
           have ql:wr.cell? ⟨w50.heap.size,n,none⟩=some (.int .i64 (m:Int)):=by
            rw[(SA.lit (by simp[iG])).cell,List.getElem?_map,<-hm,List.getD_eq_getElem?_getD,List.getElem?_eq_getElem (show n<iG.length from hlt)];rfl
           have z0:=SA.out.frozen (m*4)
           have z1:=SA.out.frozen (m*4+1)
           have z2:=SA.out.frozen (m*4+2)
           have z3:=SA.out.frozen (m*4+3)
           have HS:=Lib.hid S2
           have hnn:(0:Int)<=n/\(n:Int)<2:=by omega
           have hmm:(0:Int)<=m/\(m:Int)<39:=by omega
           clear S2 SA hm
           go_wp2
           go_roundw
           case rel=>exact⟨n+1,by simp,by omega,HS.out⟩
           case measure=>simp[intOf];omega
          ·have hb5:dI wr (w.heap.size+1) (aG tb5) 105:=by
            have:=SA.out
            rw[show n-0=iG.length by simp[iG];omega,List.take_length] at this
            exact this
           obtain⟨v0,v1,v2,v3,q0,q1,q2,q3⟩:=SA.cells rfl (show 4<39 by omega)
           have z0:=SA.out.frozen (4*4)
           have z1:=SA.out.frozen (4*4+1)
           have z2:=SA.out.frozen (4*4+2)
           have z3:=SA.out.frozen (4*4+3)
           have hbl:=SA.bel
           have hres:=SA.res
           have HA:=Lib.hid (And.intro hb5 (And.intro hbl hres))
           clear SA hb5 hbl hres
           go_upto_region 27 with(fail)
           refine cG (λz=>dI z (w.heap.size+1) (aG iJ) 105/\dI z w.heap.size (aG F8) 105/\Below w.heap.size w z) ?_ ?_
           ·obtain⟨b1,b2,b3'⟩:=HA.out
            have n0:w.heap.size≠w.heap.size+1:=by omega
            have hx:w.heap.size<=w.heap.size+1:=by omega
            exact⟨b1.tab (i:=4) (by decide) true false true true,((((b3'.other n0 _).other n0 _).other n0 _).other n0 _),(((b2.setCell hx _).setCell hx _).setCell hx _).setCell hx _⟩
           rintro z ⟨b1,b2,b3⟩
           clear HA q0 q1 q2 q3 z0 z1 z2 z3
           go_wp2_with (first|(refine wpList_load_row rfl _ _ rfl (w.heap.size+1) rfl 105 (aG iJ).toArray (0,0) _ b1 Try.underlying105 rfl (by kernel_rfl) ?_)|(refine wpList_store_row rfl _ _ _ rfl w.heap.size (aG iJ).toArray rfl rfl 105 (aG F8).toArray b2 (by kernel_rfl) (by kernel_rfl) (by kernel_rfl) ?_))
           refine bodyPost_ret (v:= .agg (aG iJ).toArray) (results_cell_row rfl _ _ w.heap.size 105 (aG iJ).toArray (0,0) _ rfl (pQ b2) Try.underlying105 rfl (by kernel_rfl)) rfl ⟨rfl,ph b3 _⟩
end Go.Proofs.Yteopfmnnhlhbmaa