/- A part of the proof of CostLimits. No condition. -/
import Derived.LoopN
import Derived.Test.YtdpkgnmmikebdaaGreatGi11
set_option linter.unusedSimpArgs false
set_option linter.unusedVariables false
set_option linter.constructorNameAsVariable false
set_option maxRecDepth 100000
set_option maxHeartbeats 4000000
namespace Go.Proofs.YtdpkgnmmikebdaaGreat
open Go.RowKit
inductive AC where
 |skip
 |reg (l:List AO)
 |dfr (l:List AO) (f:AX) (as:List AX)
 |mix (l:List (Nat×AO))
 |mxl (l:List (Nat×AO))
 |frk (l:List (Nat×AO)) (T:AT)
 |seq (a b:AC)
 |cond (c:AX) (a b:AC)
 |block (id:Nat) (b:AC)
 |loop (b:AC)
 |exit (id:Nat)
 |ret
 |rf (g:AX) (p1 p2:Nat) (asg body:AC)
 |die
inductive AE where
 |normal
 |exit (id:Nat)
 |ret
def AE.to:AE->Exit
 |.normal=> .normal
 |.exit id=> .exit id
 |.ret=> .ret
abbrev gN:=Nat->Option (List Nat×List Nat×List (Nat×Nat)×Option PT)
def rfA(n:Nat)(ps:Array Tmp)(g:AX)(x y:AC):Option AC:=match ps with
 |⟨[p1,p2]⟩=>if p1<n/\p2<n then some (.rf g p1 p2 x y) else none
 |_=>none
def xq(P:Program)(n:Nat)(hints:gN)(id:Nat)(ops:Array Oper)(dr:Bool):Option AC:=if dr=true then match hints id with
   |some (fl,pu,pl,none)=>if zw .any ops fl pu (pl.map iZ)=true then(match kO P n ops fl pl with
    |some l=>some (.mix l)
    |none=>(rj P n ops fl pl).map .mxl) else none
   |some (fl,pu,pl,some T)=>if Bc .any ops fl pu pl T=true/\pl.all (λp=>p.1==1||p.1==2)=true then(kO P n ops fl pl).bind λl=>(um P n ops T).map λt=> .frk l t else none
   |none=>none
  else match mD P n ops ops.toList with
   |some l=>some (.reg l)
   |none=>(anW P n ops ops.toList).map λp=> .dfr p.1 p.2.1 p.2.2
def ji(P:Program)(n:Nat)(hints:gN):Code->Option AC
 |.skip=>some .skip
 |.region id ops dr=>some ((xq P n hints id ops dr).getD .die)
 |.seq a b=>(ji P n hints a).bind λx=>(ji P n hints b).map λy=> .seq x y
 |.cond c a b=>(fF c).bind λc=>(ji P n hints a).bind λx=>(ji P n hints b).map λy=> .cond c x y
 |.block id b=>(ji P n hints b).map (.block id ·)
 |.loop b=>(ji P n hints b).map .loop
 |.exit id=>some (.exit id)
 |.ret=>some .ret
 |.rangeFunc g ps asg body=>(fF g).bind λg=>(ji P n hints asg).bind λx=>(ji P n hints body).bind λy=>rfA n ps g x y
 |_=>none
def MU(body:Tr AV->AH->Option (AE×Tr AV×AH)):Nat->Tr AV->AH->Option (AE×Tr AV×AH)
 |0,_,_=>none
 |k+1,e,H=>match body e H with
  |some (.normal,e',H')=>MU body k e' H'
  |some (.exit i,e',H')=>some (.exit i,e',H')
  |some (.ret,e',H')=>some (.ret,e',H')
  |none=>none
def AC.run(call:oX)(lf:Nat):AC->Tr AV->AH->Option (AE×Tr AV×AH)
 |.skip,e,H=>some (.normal,e,H)
 |.reg l,e,H=>match vr call l e H with
  |some (e',H')=>some (.normal,e',H')
  |none=>none
 |.mix l,e,H=>match sX call {H with low:=2^40} l e {H with low:=2^40} with
  |some (e',H')=>some (.normal,e',{H' with low:=min H.low H'.low})
  |none=>if(wOf call l e H).all (λb=>(H.at b).isSome)=true then match mw call false (wOf call l e H) H true l e H with
    |some (e',H')=>some (.normal,e',H')
    |none=>none
   else none
 |.mxl l,e,H=>if(wOf call l e H).all (λb=>(H.at b).isSome)=true then match mw call true (wOf call l e H) H true l e H with
    |some (e',H')=>some (.normal,e',H')
    |none=>none
   else none
 |.frk _ _,_,_=>none
 |.dfr l f as,e,H=>match vr call l e H with
  |some (e',H')=>if anI e' f as=true then some (.normal,e',H') else none
  |none=>none
 |.seq a b,e,H=>match a.run call lf e H with
  |some (.normal,e',H')=>b.run call lf e' H'
  |some (.exit i,e',H')=>some (.exit i,e',H')
  |some (.ret,e',H')=>some (.ret,e',H')
  |none=>none
 |.cond c a b,e,H=>match c.ev e with
  |some (.b true)=>a.run call lf e H
  |some (.b false)=>b.run call lf e H
  |_=>none
 |.block id b,e,H=>match b.run call lf e H with
  |some (.normal,e',H')=>some (.normal,e',H')
  |some (.exit i,e',H')=>if i=id then some (.normal,e',H') else some (.exit i,e',H')
  |some (.ret,e',H')=>some (.ret,e',H')
  |none=>none
 |.loop b,e,H=>MU (b.run call lf) lf e H
 |.exit id,e,H=>some (.exit id,e,H)
 |.ret,e,H=>some (.ret,e,H)
 |.rf _ _ _ _ _,_,_=>none
 |.die,_,_=>none
section
variable {P:Program} {B n:Nat} {hints:gN} {call:oX}
end
end Go.Proofs.YtdpkgnmmikebdaaGreat