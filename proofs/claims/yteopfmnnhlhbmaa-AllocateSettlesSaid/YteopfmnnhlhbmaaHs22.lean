/- A part of the proof of AllocateSettles: GxF. No condition. -/
import Derived.Test.YteopfmnnhlhbmaaHs21
set_option linter.unusedSimpArgs false
set_option linter.unusedVariables false
set_option linter.constructorNameAsVariable false
set_option maxRecDepth 100000
set_option maxHeartbeats 4000000
namespace Go.Proofs.Yteopfmnnhlhbmaa
open Go.RowKit
def qM(P:Program)(n:Nat)(hints:bI)(K:Nat->Bool)(ro:Option Nat)(ds:List Nat)(cc:AX)(x y:AC)(e:Tr AV)(H:AH)(Q:List Nat->AE->Tr AV->AH->Prop):Prop:=match cc.ev e with
 |some (.b t)=>(t=true->GX P n hints K ro ds x e H Q)/\(t=false->GX P n hints K ro ds y e H Q)
 |_=>False
def goX(ro:Option Nat):AC->Bool
 |.loop _=>false
 |.frk _ _=>false
 |.rf _ _ _ _ _=>false
 |.mix _=>ro.isNone
 |_=>true
attribute [reducible] goX
def Ho(K:Nat->Bool):AC->Bool
 |.reg l=>si K l
 |.mix l=>l.all λx=>gF K x.2.dst
 |_=>true
def kI(P:Program)(n:Nat)(hints:bI)(K:Nat->Bool)(ro:Option Nat)(ds:List Nat)(ac:AC)(e:Tr AV)(H:AH)(Q:List Nat->AE->Tr AV->AH->Prop):Prop:=match ac with
 |.skip=>Q ds .normal e H
 |.exit i=>Q ds (.exit i) e H
 |.ret=>Q ds .ret e H
 |.seq x y=>GX P n hints K ro ds x e H (λds'=>gh (λe' H'=>GX P n hints K ro ds' y e' H' Q) (Q ds'))
 |.cond c x y=>qM P n hints K ro ds c x y e H Q
 |.block id x=>GX P n hints K ro ds x e H (λds'=>gM id (Q ds'))
 |.reg l=>fm P l e H (λe' H'=>Q ds .normal e' H')
 |.mix l=>ei P (H.setLow (2^40)) H.next true l e (H.setLow (2^40)) (λe' H'=>Q ds .normal e' (H'.setLow (min H.low H'.low)))
 |.loop _=>False
 |.frk _ _=>False
 |.rf _ _ _ _ _=>False
 |.die=>False
theorem GX.go{P:Program}{n:Nat}{hints:bI}{K:Nat->Bool}{ro:Option Nat}{ds:List Nat}{ac:AC}{e:Tr AV}{H:AH}{Q:List Nat->AE->Tr AV->AH->Prop}(hm:P.follows .mixedOrders=true)(hg:goX ro ac=true)(hk:Ho K ac=true)(h:kI P n hints K ro ds ac e H Q):GX P n hints K ro ds ac e H Q:=by
 cases ac with
 |skip=>exact GX.skip h
 |exit i=>exact GX.exit h
 |ret=>exact GX.ret h
 |seq x y=>exact GX.seq h
 |cond c x y=>
  have h:qM P n hints K ro ds c x y e H Q:=h
  unfold qM at h
  split at h
  ·rename_i t ht
   exact GX.cond ht h.1 h.2
  ·exact h.elim
 |block id x=>exact GX.block h
 |reg l=>exact GX.reg hk h
 |mix l=>
  cases ro with
  |some l=>cases hg
  |none=>exact GX.mix hm H.next hk (by rw[Nat.sub_self];trivial) h
 |loop x=>cases hg
 |frk l T=>cases hg
 |rf _ _ _ _ _=>cases hg
 |die=>exact(show False from h).elim
section
variable {P:Program} {n:Nat} {hints:bI} {K:Nat->Bool} {ro:Option Nat} {ds:List Nat} {e:Tr AV} {H:AH} {Q:List Nat->AE->Tr AV->AH->Prop}
theorem kI.skip:kI P n hints K ro ds .skip e H Q=Q ds .normal e H:=id rfl
theorem kI.exit(i:Nat):kI P n hints K ro ds (.exit i) e H Q=Q ds (.exit i) e H:=id rfl
theorem kI.ret:kI P n hints K ro ds .ret e H Q=Q ds .ret e H:=id rfl
theorem kI.seq(x y:AC):kI P n hints K ro ds (.seq x y) e H Q=GX P n hints K ro ds x e H (λds'=>gh (λe' H'=>GX P n hints K ro ds' y e' H' Q) (Q ds')):=id rfl
theorem kI.cond(c:AX)(x y:AC):kI P n hints K ro ds (.cond c x y) e H Q=qM P n hints K ro ds c x y e H Q:=id rfl
theorem kI.block(id:Nat)(x:AC):kI P n hints K ro ds (.block id x) e H Q=GX P n hints K ro ds x e H (λds'=>gM id (Q ds')):=_root_.id rfl
theorem kI.reg(l:List AO):kI P n hints K ro ds (.reg l) e H Q=fm P l e H (λe' H'=>Q ds .normal e' H'):=id rfl
theorem kI.mix(l:List (Nat×AO)):kI P n hints K ro ds (.mix l) e H Q=ei P (H.setLow (2^40)) H.next true l e (H.setLow (2^40)) (λe' H'=>Q ds .normal e' (H'.setLow (min H.low H'.low))):=id rfl
end
attribute [go_sem] kI.skip kI.exit kI.ret kI.seq kI.cond kI.block kI.reg kI.mix qM xd
theorem Bs{P:Program}{f:FuncId}{hints:bI}{F:AF}(hF:bJ P hints f=some F){args:List AV}(hlen:args.length<=F.nt/\F.nt<100000){Pr:(Nat->Option OB)->Prop}{Post:(Nat->Option OB)->List RT->(Nat->Option OB)->Prop}
  (h:∀M,Pr M->GX P F.nt hints (λ_=>false) none [] F.code (aF (bN 0 args)) (a8 (eJ M) []) (BI F.res λv H=>∃(rs:List RT) (N:Nat->Option OB) (l:List AV),Post M rs N/\v=bG l/\ea rs l H/\∀r x,N r=some x->H.ob r=some x/\xk x=true)):ij P f args Pr Post:=λM hp=>
 yj hF hlen.1 (GX.wk (Wk.arg _ _ _ (by omega)) (h M hp))
end Go.Proofs.Yteopfmnnhlhbmaa