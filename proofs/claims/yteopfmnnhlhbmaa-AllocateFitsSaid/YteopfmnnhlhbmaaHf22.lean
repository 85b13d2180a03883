/- A part of the proof of AllocateFits: GxF. No condition. -/
import Derived.Test.YteopfmnnhlhbmaaHf21
set_option linter.unusedSimpArgs false
set_option linter.unusedVariables false
set_option linter.constructorNameAsVariable false
set_option maxRecDepth 100000
set_option maxHeartbeats 4000000
namespace Go.Proofs.Yteopfmnnhlhbmaa
open Go.RowKit
def rx(P:Program)(n:Nat)(hints:bI)(K:Nat->Bool)(ro:Option Nat)(ds:List Nat)(cc:AX)(x y:AC)(e:Tr AV)(H:AH)(Q:List Nat->AE->Tr AV->AH->Prop):Prop:=match cc.ev e with
 |some (.b t)=>(t=true->GX P n hints K ro ds x e H Q)/\(t=false->GX P n hints K ro ds y e H Q)
 |_=>False
def goX(ro:Option Nat):AC->Bool
 |.loop _=>false
 |.frk _ _=>false
 |.rf _ _ _ _ _=>false
 |.mix _=>ro.isNone
 |_=>true
attribute [reducible] goX
def Ik(K:Nat->Bool):AC->Bool
 |.reg l=>sN K l
 |.mix l=>l.all λx=>gQ K x.2.dst
 |_=>true
def kZ(P:Program)(n:Nat)(hints:bI)(K:Nat->Bool)(ro:Option Nat)(ds:List Nat)(ac:AC)(e:Tr AV)(H:AH)(Q:List Nat->AE->Tr AV->AH->Prop):Prop:=match ac with
 |.skip=>Q ds .normal e H
 |.exit i=>Q ds (.exit i) e H
 |.ret=>Q ds .ret e H
 |.seq x y=>GX P n hints K ro ds x e H (λds'=>gx (λe' H'=>GX P n hints K ro ds' y e' H' Q) (Q ds'))
 |.cond c x y=>rx P n hints K ro ds c x y e H Q
 |.block id x=>GX P n hints K ro ds x e H (λds'=>gW id (Q ds'))
 |.reg l=>eh P l e H (λe' H'=>Q ds .normal e' H')
 |.mix l=>ew P (H.setLow (2^40)) H.next true l e (H.setLow (2^40)) (λe' H'=>Q ds .normal e' (H'.setLow (min H.low H'.low)))
 |.loop _=>False
 |.frk _ _=>False
 |.rf _ _ _ _ _=>False
 |.die=>False
theorem GX.go{P:Program}{n:Nat}{hints:bI}{K:Nat->Bool}{ro:Option Nat}{ds:List Nat}{ac:AC}{e:Tr AV}{H:AH}{Q:List Nat->AE->Tr AV->AH->Prop}(hm:P.follows .mixedOrders=true)(hg:goX ro ac=true)(hk:Ik K ac=true)(h:kZ P n hints K ro ds ac e H Q):GX P n hints K ro ds ac e H Q:=by
 cases ac with
 |skip=>exact GX.skip h
 |exit i=>exact GX.exit h
 |ret=>exact GX.ret h
 |seq x y=>exact GX.seq h
 |cond c x y=>
  have h:rx P n hints K ro ds c x y e H Q:=h
  unfold rx at h
  split at h
  ·rename_i t ht
   exact GX.cond ht h.1 h.2
  ·exact h.elim
 |block id x=>exact GX.block h
 |reg l=>exact GX.reg hk h
 |mix l=>
  cases ro with
  |some l=>cases hg
  |none=>exact GX.mix hm H.next hk (by rw[Nat.sub_self];trivial) h
 |loop x=>cases hg
 |frk l T=>cases hg
 |rf _ _ _ _ _=>cases hg
 |die=>exact(show False from h).elim
section
variable {P:Program} {n:Nat} {hints:bI} {K:Nat->Bool} {ro:Option Nat} {ds:List Nat} {e:Tr AV} {H:AH} {Q:List Nat->AE->Tr AV->AH->Prop}
theorem kZ.skip:kZ P n hints K ro ds .skip e H Q=Q ds .normal e H:=id rfl
theorem kZ.exit(i:Nat):kZ P n hints K ro ds (.exit i) e H Q=Q ds (.exit i) e H:=id rfl
theorem kZ.ret:kZ P n hints K ro ds .ret e H Q=Q ds .ret e H:=id rfl
theorem kZ.seq(x y:AC):kZ P n hints K ro ds (.seq x y) e H Q=GX P n hints K ro ds x e H (λds'=>gx (λe' H'=>GX P n hints K ro ds' y e' H' Q) (Q ds')):=id rfl
theorem kZ.cond(c:AX)(x y:AC):kZ P n hints K ro ds (.cond c x y) e H Q=rx P n hints K ro ds c x y e H Q:=id rfl
theorem kZ.block(id:Nat)(x:AC):kZ P n hints K ro ds (.block id x) e H Q=GX P n hints K ro ds x e H (λds'=>gW id (Q ds')):=_root_.id rfl
theorem kZ.reg(l:List AO):kZ P n hints K ro ds (.reg l) e H Q=eh P l e H (λe' H'=>Q ds .normal e' H'):=id rfl
theorem kZ.mix(l:List (Nat×AO)):kZ P n hints K ro ds (.mix l) e H Q=ew P (H.setLow (2^40)) H.next true l e (H.setLow (2^40)) (λe' H'=>Q ds .normal e' (H'.setLow (min H.low H'.low))):=id rfl
end
attribute [go_sem] kZ.skip kZ.exit kZ.ret kZ.seq kZ.cond kZ.block kZ.reg kZ.mix rx xy
theorem B8{P:Program}{f:FuncId}{hints:bI}{F:AF}(hF:bK P hints f=some F){args:List AV}(hlen:args.length<=F.nt/\F.nt<100000){Pr:(Nat->Option OB)->Prop}{Post:(Nat->Option OB)->List RT->(Nat->Option OB)->Prop}
  (h:∀M,Pr M->GX P F.nt hints (λ_=>false) none [] F.code (aF (bM 0 args)) (bc (eT M) []) (Cn F.res λv H=>∃(rs:List RT) (N:Nat->Option OB) (l:List AV),Post M rs N/\v=bB l/\dR rs l H/\∀r x,N r=some x->H.ob r=some x/\xE x=true)):iz P f args Pr Post:=λM hp=>
 yH hF hlen.1 (GX.wk (Wk.arg _ _ _ (by omega)) (h M hp))
end Go.Proofs.Yteopfmnnhlhbmaa