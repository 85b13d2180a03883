/- A part of the proof of AllocateNeeds: GxF. No condition. -/
import Derived.Test.YteopfmnnhlhbmaaHn21
set_option linter.unusedSimpArgs false
set_option linter.unusedVariables false
set_option linter.constructorNameAsVariable false
set_option maxRecDepth 100000
set_option maxHeartbeats 4000000
namespace Go.Proofs.Yteopfmnnhlhbmaa
open Go.RowKit
def qT(P:Program)(n:Nat)(hints:bz)(K:Nat->Bool)(ro:Option Nat)(ds:List Nat)(cc:AX)(x y:AC)(e:Tr AV)(H:AH)(Q:List Nat->AE->Tr AV->AH->Prop):Prop:=match cc.ev e with
 |some (.b t)=>(t=true->GX P n hints K ro ds x e H Q)/\(t=false->GX P n hints K ro ds y e H Q)
 |_=>False
def goX(ro:Option Nat):AC->Bool
 |.loop _=>false
 |.frk _ _=>false
 |.rf _ _ _ _ _=>false
 |.mix _=>ro.isNone
 |_=>true
attribute [reducible] goX
def Hd(K:Nat->Bool):AC->Bool
 |.reg l=>sq K l
 |.mix l=>l.all λx=>gM K x.2.dst
 |_=>true
def kR(P:Program)(n:Nat)(hints:bz)(K:Nat->Bool)(ro:Option Nat)(ds:List Nat)(ac:AC)(e:Tr AV)(H:AH)(Q:List Nat->AE->Tr AV->AH->Prop):Prop:=match ac with
 |.skip=>Q ds .normal e H
 |.exit i=>Q ds (.exit i) e H
 |.ret=>Q ds .ret e H
 |.seq x y=>GX P n hints K ro ds x e H (λds'=>eT (λe' H'=>GX P n hints K ro ds' y e' H' Q) (Q ds'))
 |.cond c x y=>qT P n hints K ro ds c x y e H Q
 |.block id x=>GX P n hints K ro ds x e H (λds'=>eI id (Q ds'))
 |.reg l=>eF P l e H (λe' H'=>Q ds .normal e' H')
 |.mix l=>ea P (H.setLow (2^40)) H.next true l e (H.setLow (2^40)) (λe' H'=>Q ds .normal e' (H'.setLow (min H.low H'.low)))
 |.loop _=>False
 |.frk _ _=>False
 |.rf _ _ _ _ _=>False
 |.die=>False
theorem GX.go{P:Program}{n:Nat}{hints:bz}{K:Nat->Bool}{ro:Option Nat}{ds:List Nat}{ac:AC}{e:Tr AV}{H:AH}{Q:List Nat->AE->Tr AV->AH->Prop}(hm:P.follows .mixedOrders=true)(hg:goX ro ac=true)(hk:Hd K ac=true)(h:kR P n hints K ro ds ac e H Q):GX P n hints K ro ds ac e H Q:=by
 cases ac with
 |skip=>exact GX.skip h
 |exit i=>exact GX.exit h
 |ret=>exact GX.ret h
 |seq x y=>exact GX.seq h
 |cond c x y=>
  have h:qT P n hints K ro ds c x y e H Q:=h
  unfold qT at h
  split at h
  ·rename_i t ht
   exact GX.cond ht h.1 h.2
  ·exact h.elim
 |block id x=>exact GX.block h
 |reg l=>exact GX.reg hk h
 |mix l=>
  cases ro with
  |some l=>cases hg
  |none=>exact GX.mix hm H.next hk (by rw[Nat.sub_self];trivial) h
 |loop x=>cases hg
 |frk l T=>cases hg
 |rf _ _ _ _ _=>cases hg
 |die=>exact(show False from h).elim
section
variable {P:Program} {n:Nat} {hints:bz} {K:Nat->Bool} {ro:Option Nat} {ds:List Nat} {e:Tr AV} {H:AH} {Q:List Nat->AE->Tr AV->AH->Prop}
theorem kR.skip:kR P n hints K ro ds .skip e H Q=Q ds .normal e H:=id rfl
theorem kR.exit(i:Nat):kR P n hints K ro ds (.exit i) e H Q=Q ds (.exit i) e H:=id rfl
theorem kR.ret:kR P n hints K ro ds .ret e H Q=Q ds .ret e H:=id rfl
theorem kR.seq(x y:AC):kR P n hints K ro ds (.seq x y) e H Q=GX P n hints K ro ds x e H (λds'=>eT (λe' H'=>GX P n hints K ro ds' y e' H' Q) (Q ds')):=id rfl
theorem kR.cond(c:AX)(x y:AC):kR P n hints K ro ds (.cond c x y) e H Q=qT P n hints K ro ds c x y e H Q:=id rfl
theorem kR.block(id:Nat)(x:AC):kR P n hints K ro ds (.block id x) e H Q=GX P n hints K ro ds x e H (λds'=>eI id (Q ds')):=_root_.id rfl
theorem kR.reg(l:List AO):kR P n hints K ro ds (.reg l) e H Q=eF P l e H (λe' H'=>Q ds .normal e' H'):=id rfl
theorem kR.mix(l:List (Nat×AO)):kR P n hints K ro ds (.mix l) e H Q=ea P (H.setLow (2^40)) H.next true l e (H.setLow (2^40)) (λe' H'=>Q ds .normal e' (H'.setLow (min H.low H'.low))):=id rfl
end
attribute [go_sem] kR.skip kR.exit kR.ret kR.seq kR.cond kR.block kR.reg kR.mix qT xd
theorem Bo{P:Program}{f:FuncId}{hints:bz}{F:AF}(hF:bF P hints f=some F){args:List AV}(hlen:args.length<=F.nt/\F.nt<100000){Pr:(Nat->Option OB)->Prop}{Post:(Nat->Option OB)->List RT->(Nat->Option OB)->Prop}
  (h:∀M,Pr M->GX P F.nt hints (λ_=>false) none [] F.code (aE (bI 0 args)) (ba (eN M) []) (BE F.res λv H=>∃(rs:List RT) (N:Nat->Option OB) (l:List AV),Post M rs N/\v=bB l/\dS rs l H/\∀r x,N r=some x->H.ob r=some x/\xk x=true)):iw P f args Pr Post:=λM hp=>
 yl hF hlen.1 (GX.wk (Wk.arg _ _ _ (by omega)) (h M hp))
end Go.Proofs.Yteopfmnnhlhbmaa