/- A part of the proof of CostAdds: EvL. No condition. -/
import Derived.LoopN
import Derived.Test.YtdpkgnmmikebdaaGreatGg11
set_option linter.unusedSimpArgs false
set_option linter.unusedVariables false
set_option linter.constructorNameAsVariable false
set_option maxRecDepth 100000
set_option maxHeartbeats 4000000
namespace Go.Proofs.YtdpkgnmmikebdaaGreat
open Go.RowKit
inductive AC where
 |skip
 |reg (l:List AO)
 |dfr (l:List AO) (f:AX) (as:List AX)
 |mix (l:List (Nat×AO))
 |mxl (l:List (Nat×AO))
 |frk (l:List (Nat×AO)) (T:AT)
 |seq (a b:AC)
 |cond (c:AX) (a b:AC)
 |block (id:Nat) (b:AC)
 |loop (b:AC)
 |exit (id:Nat)
 |ret
 |rf (g:AX) (p1 p2:Nat) (asg body:AC)
 |die
inductive AE where
 |normal
 |exit (id:Nat)
 |ret
def AE.to:AE->Exit
 |.normal=> .normal
 |.exit id=> .exit id
 |.ret=> .ret
abbrev bu:=Nat->Option (List Nat×List Nat×List (Nat×Nat)×Option PT)
def ZN(n:Nat)(ps:Array Tmp)(g:AX)(x y:AC):Option AC:=match ps with
 |⟨[p1,p2]⟩=>if p1<n/\p2<n then some (.rf g p1 p2 x y) else none
 |_=>none
def qB(P:Program)(n:Nat)(hints:bu)(id:Nat)(ops:Array Oper)(dr:Bool):Option AC:=if dr=true then match hints id with
   |some (fl,pu,pl,none)=>if sM .any ops fl pu (pl.map cg)=true then(match dT P n ops fl pl with
    |some l=>some (.mix l)
    |none=>(kB P n ops fl pl).map .mxl) else none
   |some (fl,pu,pl,some T)=>if uy .any ops fl pu pl T=true/\pl.all (λp=>p.1==1||p.1==2)=true then(dT P n ops fl pl).bind λl=>(nR P n ops T).map λt=> .frk l t else none
   |none=>none
  else match fh P n ops ops.toList with
   |some l=>some (.reg l)
   |none=>(Wu P n ops ops.toList).map λp=> .dfr p.1 p.2.1 p.2.2
def cA(P:Program)(n:Nat)(hints:bu):Code->Option AC
 |.skip=>some .skip
 |.region id ops dr=>some ((qB P n hints id ops dr).getD .die)
 |.seq a b=>(cA P n hints a).bind λx=>(cA P n hints b).map λy=> .seq x y
 |.cond c a b=>(aG c).bind λc=>(cA P n hints a).bind λx=>(cA P n hints b).map λy=> .cond c x y
 |.block id b=>(cA P n hints b).map (.block id ·)
 |.loop b=>(cA P n hints b).map .loop
 |.exit id=>some (.exit id)
 |.ret=>some .ret
 |.rangeFunc g ps asg body=>(aG g).bind λg=>(cA P n hints asg).bind λx=>(cA P n hints body).bind λy=>ZN n ps g x y
 |_=>none
def C9(body:Tr AV->AH->Option (AE×Tr AV×AH)):Nat->Tr AV->AH->Option (AE×Tr AV×AH)
 |0,_,_=>none
 |k+1,e,H=>match body e H with
  |some (.normal,e',H')=>C9 body k e' H'
  |some (.exit i,e',H')=>some (.exit i,e',H')
  |some (.ret,e',H')=>some (.ret,e',H')
  |none=>none
def AC.run(call:iH)(lf:Nat):AC->Tr AV->AH->Option (AE×Tr AV×AH)
 |.skip,e,H=>some (.normal,e,H)
 |.reg l,e,H=>match o9 call l e H with
  |some (e',H')=>some (.normal,e',H')
  |none=>none
 |.mix l,e,H=>match mr call {H with low:=2^40} l e {H with low:=2^40} with
  |some (e',H')=>some (.normal,e',{H' with low:=min H.low H'.low})
  |none=>if(WL call l e H).all (λb=>(H.at b).isSome)=true then match eZ call false (WL call l e H) H true l e H with
    |some (e',H')=>some (.normal,e',H')
    |none=>none
   else none
 |.mxl l,e,H=>if(WL call l e H).all (λb=>(H.at b).isSome)=true then match eZ call true (WL call l e H) H true l e H with
    |some (e',H')=>some (.normal,e',H')
    |none=>none
   else none
 |.frk _ _,_,_=>none
 |.dfr l f as,e,H=>match o9 call l e H with
  |some (e',H')=>if We e' f as=true then some (.normal,e',H') else none
  |none=>none
 |.seq a b,e,H=>match a.run call lf e H with
  |some (.normal,e',H')=>b.run call lf e' H'
  |some (.exit i,e',H')=>some (.exit i,e',H')
  |some (.ret,e',H')=>some (.ret,e',H')
  |none=>none
 |.cond c a b,e,H=>match c.ev e with
  |some (.b true)=>a.run call lf e H
  |some (.b false)=>b.run call lf e H
  |_=>none
 |.block id b,e,H=>match b.run call lf e H with
  |some (.normal,e',H')=>some (.normal,e',H')
  |some (.exit i,e',H')=>if i=id then some (.normal,e',H') else some (.exit i,e',H')
  |some (.ret,e',H')=>some (.ret,e',H')
  |none=>none
 |.loop b,e,H=>C9 (b.run call lf) lf e H
 |.exit id,e,H=>some (.exit id,e,H)
 |.ret,e,H=>some (.ret,e,H)
 |.rf _ _ _ _ _,_,_=>none
 |.die,_,_=>none
section
variable {P:Program} {B n:Nat} {hints:bu} {call:iH}
end
end Go.Proofs.YtdpkgnmmikebdaaGreat