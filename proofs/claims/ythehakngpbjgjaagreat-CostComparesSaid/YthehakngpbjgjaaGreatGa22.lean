/- A part of the proof of CostCompares: EvMs. No condition. -/
import Derived.Test.YthehakngpbjgjaaGreatGa17
set_option linter.unusedSimpArgs false
set_option linter.unusedVariables false
set_option linter.constructorNameAsVariable false
set_option maxRecDepth 100000
set_option maxHeartbeats 4000000
namespace Go.Proofs.YthehakngpbjgjaaGreat
open Go.RowKit
section
variable (P:Program) (e:Tr AV) (H:AH) (Q:AV->AH->Prop)
theorem qd(x:MO):gK P e H (.mo x) Q=cI e H Q x:=id rfl
theorem Ba:cI e H Q .mm=mmP H Q:=id rfl
theorem Bd(z:AV)(ok:Bool)(x k:AX):cI e H Q (.lk z ok x k)=iR H Q z ok (x.ev e) (k.ev e):=id rfl
theorem A8(m k v:AX):cI e H Q (.mu m k v)=jx H Q (m.ev e) (k.ev e) (v.ev e):=id rfl
theorem Bb(z:AV)(m k:AX):cI e H Q (.me z m k)=jC H Q z (m.ev e) (k.ev e):=id rfl
theorem Be(m s v:AX):cI e H Q (.es m s v)=ki H Q (m.ev e) (s.ev e) (v.ev e):=id rfl
theorem A5(x:AX):cI e H Q (.rg x)=iJ H Q (x.ev e):=id rfl
theorem A6(x:AX):cI e H Q (.nx x)=jn H Q (x.ev e):=id rfl
theorem Bf(x:AX):cI e H Q (.en x)=kp H Q (x.ev e):=id rfl
theorem Bc(x:AX):cI e H Q (.ln x)=iQ H Q (x.ev e):=id rfl
theorem A9(neg:Bool)(x:AX):cI e H Q (.mn neg x)=gY H Q neg (x.ev e):=id rfl
theorem A7(x y:AX):cI e H Q (.mx x y)=iM H Q (x.ev e) (y.ev e):=id rfl
theorem nU(z:AV)(ok:Bool)(i:Int):iR H Q z ok (some (.cv (.map none))) (some (.n .i64 i))=Q (eE ok z false) H:=id rfl
theorem jP(z:AV)(ok:Bool)(i:Int)(r:Nat):iR H Q z ok (some (.cv (.map (some r)))) (some (.n .i64 i))=hY H Q z ok i (H.ob r):=id rfl
theorem Bh(z:AV)(ok:Bool)(i:Int)(m:c9):hY H Q z ok i (some (.mp m))=Q (m.look ok z i) H:=id rfl
theorem jw(r:Nat)(i:Int)(v:AV):jx H Q (some (.cv (.map (some r)))) (some (.n .i64 i)) (some v)=gW H Q r i v (H.ob r):=id rfl
theorem A4(r:Nat)(i:Int)(v:AV)(x:c9):gW H Q r i v (some (.mp x))=(x.own=true/\v.flat=true/\Q .u (H.clr.setOb r (.mp (x.put i v)))):=id rfl
theorem jB(z:AV)(r:Nat)(i:Int):jC H Q z (some (.cv (.map (some r)))) (some (.n .i64 i))=iP H Q z r i (H.ob r):=id rfl
theorem kh(r:Nat)(s:Int)(v:AV):ki H Q (some (.cv (.map (some r)))) (some (.n .i64 s)) (some v)=iT H Q r s v (H.ob r):=id rfl
theorem jd(r:Nat):iJ H Q (some (.cv (.map (some r))))=iK H Q r (H.ob r):=id rfl
theorem jm(t:Nat):jn H Q (some (.cv (.pointer (some ⟨t,0,none⟩))))=gg H Q t (H.ob t):=id rfl
theorem nF:iJ H Q (some (.cv (.map none)))=∀t,H.ob t=none->Q (.cv (.pointer (some ⟨t,0,none⟩))) (H.setOb t (.fix (.mapIter none 0 #[] 0))):=id rfl
theorem nJ(t a:Nat)(b:Array Nat)(c:Nat):gg H Q t (some (.fix (.mapIter none a b c)))=Q (.tup [.b false]) H:=id rfl
theorem A3(t:Nat)(y:iU):gg H Q t (some (.it y))=iL H Q t y (H.ob y.m):=id rfl
theorem ko(t:Nat):kp H Q (some (.cv (.pointer (some ⟨t,0,none⟩))))=iw H Q (H.ob t):=id rfl
theorem Bq(y:iU):iw H Q (some (.it y))=iy H Q y.cur:=id rfl
theorem kq(k:Int)(v:AV):iy H Q (some (k,v))=Q (.tup [.n .i64 k,v]) H:=id rfl
theorem nT:iQ H Q (some (.cv (.map none)))=Q (.n .i64 0) H:=id rfl
theorem jM(r:Nat):iQ H Q (some (.cv (.map (some r))))=hU H Q (H.ob r):=id rfl
theorem Bg(m:c9):hU H Q (some (.mp m))=Q (.n .i64 m.cnt) H:=id rfl
theorem nL(neg:Bool):gY H Q neg (some (.cv (.map none)))=Q (.b (!neg)) H:=id rfl
theorem jA(neg:Bool)(r:Nat):gY H Q neg (some (.cv (.map (some r))))=Q (.b neg) H:=id rfl
theorem jv(i j:Int):iM H Q (some (.n .i64 i)) (some (.n .i64 j))=Q (.n .i64 (if i<j then j else i)) H:=id rfl
end
/-! the goals at which a step stops-/
/-! objects-/
theorem kF(H:AH)(r:Nat)(x:OB)(b:Nat):(H.setOb r x).at b=H.at b:=id rfl
theorem fC(H:AH)(r:Nat)(x:OB):(H.setOb r x).next=H.next:=id rfl
theorem hJ(H:AH)(r:Nat)(x:OB):(H.setOb r x).low=H.low:=id rfl
theorem jk(H:AH)(r:Nat)(x:OB):(H.setOb r x).ob=jf H.ob r x:=id rfl
theorem Bu(H:AH)(b:Nat):H.clr.at b=H.at b:=id rfl
theorem ju(H:AH):H.clr.next=H.next:=id rfl
theorem nS(H:AH):H.clr.low=H.low:=id rfl
theorem A2(H:AH):H.clr.ob=Oy H.ob:=id rfl
theorem kM(H:AH)(N:Nat->Option OB)(b:Nat):(H.addOb N).at b=H.at b:=id rfl
theorem fD(H:AH)(N:Nat->Option OB):(H.addOb N).next=H.next:=id rfl
theorem hP(H:AH)(N:Nat->Option OB):(H.addOb N).low=H.low:=id rfl
theorem fW(H:AH):H.addOb (λ_=>none)=H:=by
 unfold AH.addOb
 cases H with
 |mk a b c ob mp=>
  congr 1
  funext r
  show(match ob r with|some x=>some x|none=>none)=ob r
  cases ob r<;>rfl
def Ql(ob N:Nat->Option OB):Nat->Option OB:=λr=>match ob r with
 |some x=>some x
 |none=>N r
theorem jl(H:AH)(N:Nat->Option OB):(H.addOb N).ob=Ql H.ob N:=id rfl
theorem A0(H:AH)(b:Nat)(x:AB):(H.upd b x).ob=H.ob:=id rfl
theorem gP(H:AH)(l:Nat):(H.setLow l).ob=H.ob:=id rfl
theorem fv(ob:Nat->Option OB)(r:Nat)(x:OB):jf ob r x r=some x:=if_pos rfl
theorem Bo(x:Bool):(AV.b x).flat=true:=id rfl
theorem Bn(k:IntKind)(x:Int):(AV.n k x).flat=true:=id rfl
theorem n7(v:Value):(AV.cv v).flat=true:=id rfl
theorem Ap(v:AV)(b:Bool):eE true v b= .tup [v,.b b]:=id rfl
theorem Aq(v:AV)(b:Bool):eE false v b=v:=id rfl
attribute [go_sem] qd Ba Bd A8 Bb Be A5 A6 Bf Bc A9 A7 nU jP Bh jw A4 jB kh jd nF jm A3 nJ ko Bq kq nT jM Bg nL jA jv
 kF fC hJ jk Bu ju nS A2 kM fD hP jl A0 gP A1 AH.kill_ob AH.mark_ob eM gm kL bb hO eI Bo Bn n7 fW Ap Aq fv
end Go.Proofs.YthehakngpbjgjaaGreat