/- A part of the proof of CostOrders: EvMs. No condition. -/
import Derived.Test.YthehakngpbjgjaaGreatGb17
set_option linter.unusedSimpArgs false
set_option linter.unusedVariables false
set_option linter.constructorNameAsVariable false
set_option maxRecDepth 100000
set_option maxHeartbeats 4000000
namespace Go.Proofs.YthehakngpbjgjaaGreat
open Go.RowKit
section
variable (P:Program) (e:Tr AV) (H:AH) (Q:AV->AH->Prop)
theorem OV(x:MO):gK P e H (.mo x) Q=cL e H Q x:=id rfl
theorem Bt:cL e H Q .mm=mmP H Q:=id rfl
theorem Bw(z:AV)(ok:Bool)(x k:AX):cL e H Q (.lk z ok x k)=je H Q z ok (x.ev e) (k.ev e):=id rfl
theorem Br(m k v:AX):cL e H Q (.mu m k v)=jO H Q (m.ev e) (k.ev e) (v.ev e):=id rfl
theorem Bu(z:AV)(m k:AX):cL e H Q (.me z m k)=jT H Q z (m.ev e) (k.ev e):=id rfl
theorem Bx(m s v:AX):cL e H Q (.es m s v)=kA H Q (m.ev e) (s.ev e) (v.ev e):=id rfl
theorem Bo(x:AX):cL e H Q (.rg x)=i8 H Q (x.ev e):=id rfl
theorem Bp(x:AX):cL e H Q (.nx x)=jE H Q (x.ev e):=id rfl
theorem Bz(x:AX):cL e H Q (.en x)=kG H Q (x.ev e):=id rfl
theorem Bv(x:AX):cL e H Q (.ln x)=jd H Q (x.ev e):=id rfl
theorem Bs(neg:Bool)(x:AX):cL e H Q (.mn neg x)=ij H Q neg (x.ev e):=id rfl
theorem Bq(x y:AX):cL e H Q (.mx x y)=jb H Q (x.ev e) (y.ev e):=id rfl
theorem oo(z:AV)(ok:Bool)(i:Int):je H Q z ok (some (.cv (.map none))) (some (.n .i64 i))=Q (eK ok z false) H:=id rfl
theorem j9(z:AV)(ok:Bool)(i:Int)(r:Nat):je H Q z ok (some (.cv (.map (some r)))) (some (.n .i64 i))=iw H Q z ok i (H.ob r):=id rfl
theorem BC(z:AV)(ok:Bool)(i:Int)(m:da):iw H Q z ok i (some (.mp m))=Q (m.look ok z i) H:=id rfl
theorem jN(r:Nat)(i:Int)(v:AV):jO H Q (some (.cv (.map (some r)))) (some (.n .i64 i)) (some v)=ig H Q r i v (H.ob r):=id rfl
theorem Bn(r:Nat)(i:Int)(v:AV)(x:da):ig H Q r i v (some (.mp x))=(x.own=true/\v.flat=true/\Q .u (H.clr.setOb r (.mp (x.put i v)))):=id rfl
theorem jS(z:AV)(r:Nat)(i:Int):jT H Q z (some (.cv (.map (some r)))) (some (.n .i64 i))=jc H Q z r i (H.ob r):=id rfl
theorem kz(r:Nat)(s:Int)(v:AV):kA H Q (some (.cv (.map (some r)))) (some (.n .i64 s)) (some v)=jf H Q r s v (H.ob r):=id rfl
theorem jv(r:Nat):i8 H Q (some (.cv (.map (some r))))=i9 H Q r (H.ob r):=id rfl
theorem jD(t:Nat):jE H Q (some (.cv (.pointer (some ⟨t,0,none⟩))))=gx H Q t (H.ob t):=id rfl
theorem nY:i8 H Q (some (.cv (.map none)))=∀t,H.ob t=none->Q (.cv (.pointer (some ⟨t,0,none⟩))) (H.setOb t (.fix (.mapIter none 0 #[] 0))):=id rfl
theorem n6(t a:Nat)(b:Array Nat)(c:Nat):gx H Q t (some (.fix (.mapIter none a b c)))=Q (.tup [.b false]) H:=id rfl
theorem Bm(t:Nat)(y:jg):gx H Q t (some (.it y))=ja H Q t y (H.ob y.m):=id rfl
theorem kF(t:Nat):kG H Q (some (.cv (.pointer (some ⟨t,0,none⟩))))=iQ H Q (H.ob t):=id rfl
theorem BM(y:jg):iQ H Q (some (.it y))=iR H Q y.cur:=id rfl
theorem kH(k:Int)(v:AV):iR H Q (some (k,v))=Q (.tup [.n .i64 k,v]) H:=id rfl
theorem om:jd H Q (some (.cv (.map none)))=Q (.n .i64 0) H:=id rfl
theorem j6(r:Nat):jd H Q (some (.cv (.map (some r))))=iv H Q (H.ob r):=id rfl
theorem BB(m:da):iv H Q (some (.mp m))=Q (.n .i64 m.cnt) H:=id rfl
theorem n8(neg:Bool):ij H Q neg (some (.cv (.map none)))=Q (.b (!neg)) H:=id rfl
theorem jR(neg:Bool)(r:Nat):ij H Q neg (some (.cv (.map (some r))))=Q (.b neg) H:=id rfl
theorem jM(i j:Int):jb H Q (some (.n .i64 i)) (some (.n .i64 j))=Q (.n .i64 (if i<j then j else i)) H:=id rfl
end
/-! the goals at which a step stops-/
/-! objects-/
theorem kW(H:AH)(r:Nat)(x:OB)(b:Nat):(H.setOb r x).at b=H.at b:=id rfl
theorem fI(H:AH)(r:Nat)(x:OB):(H.setOb r x).next=H.next:=id rfl
theorem iq(H:AH)(r:Nat)(x:OB):(H.setOb r x).low=H.low:=id rfl
theorem jB(H:AH)(r:Nat)(x:OB):(H.setOb r x).ob=jw H.ob r x:=id rfl
theorem BQ(H:AH)(b:Nat):H.clr.at b=H.at b:=id rfl
theorem jL(H:AH):H.clr.next=H.next:=id rfl
theorem ol(H:AH):H.clr.low=H.low:=id rfl
theorem Bl(H:AH):H.clr.ob=O3 H.ob:=id rfl
theorem lb(H:AH)(N:Nat->Option OB)(b:Nat):(H.addOb N).at b=H.at b:=id rfl
theorem fJ(H:AH)(N:Nat->Option OB):(H.addOb N).next=H.next:=id rfl
theorem iu(H:AH)(N:Nat->Option OB):(H.addOb N).low=H.low:=id rfl
theorem f9(H:AH):H.addOb (λ_=>none)=H:=by
 unfold AH.addOb
 cases H with
 |mk a b c ob mp=>
  congr 1
  funext r
  show(match ob r with|some x=>some x|none=>none)=ob r
  cases ob r<;>rfl
def QK(ob N:Nat->Option OB):Nat->Option OB:=λr=>match ob r with
 |some x=>some x
 |none=>N r
theorem jC(H:AH)(N:Nat->Option OB):(H.addOb N).ob=QK H.ob N:=id rfl
theorem Bj(H:AH)(b:Nat)(x:AB):(H.upd b x).ob=H.ob:=id rfl
theorem hO(H:AH)(l:Nat):(H.setLow l).ob=H.ob:=id rfl
theorem fC(ob:Nat->Option OB)(r:Nat)(x:OB):jw ob r x r=some x:=if_pos rfl
theorem BJ(x:Bool):(AV.b x).flat=true:=id rfl
theorem BI(k:IntKind)(x:Int):(AV.n k x).flat=true:=id rfl
theorem oB(v:Value):(AV.cv v).flat=true:=id rfl
theorem AW(v:AV)(b:Bool):eK true v b= .tup [v,.b b]:=id rfl
theorem AY(v:AV)(b:Bool):eK false v b=v:=id rfl
attribute [go_sem] OV Bt Bw Br Bu Bx Bo Bp Bz Bv Bs Bq oo j9 BC jN Bn jS kz jv nY jD Bm n6 kF BM kH om j6 BB n8 jR jM
 kW fI iq jB BQ jL ol Bl lb fJ iu jC Bj hO Bk AH.kill_ob AH.mark_ob eT gD la bc ir eO BJ BI oB f9 AW AY fC
end Go.Proofs.YthehakngpbjgjaaGreat