/- A part of the proof of AllocateNeeds: EvD. No condition. -/
import Derived.Deep.MidRow
import Derived.Test.YteopfmnnhlhbmaaHn04
set_option linter.unusedSimpArgs false
set_option linter.unusedVariables false
set_option linter.constructorNameAsVariable false
set_option maxRecDepth 100000
set_option maxHeartbeats 4000000
namespace Go.Proofs.Yteopfmnnhlhbmaa
open Go.RowKit
inductive AX where
 |t (i:Nat)
 |c (v:AV)
def AX.ev(e:Tr AV):AX->Option AV
 |.t i=>e.get i
 |.c v=>some v
def yG(e:Tr AV):List AX->Option (List AV)
 |[]=>some []
 |x::l=>match x.ev e with
  |some v=>(yG e l).map (v:: ·)
  |none=>none
inductive SH where
 |b
 |n
 |st (l:List (Nat×Nat×SH))
inductive AP where
 |mv (x:AX)
 |pick (c a b:AX)
 |ld (n:Nat) (row:Bool) (x:AX)
 |st (n:Nat) (x v:AX)
 |nc (x:AX)
 |bin (op:BinOp) (x y:AX)
 |un (op:UnOp) (x:AX)
 |cvi (k:IntKind) (x:AX)
 |fa (off:Nat) (x:AX)
 |fd (off n:Nat) (row:Bool) (x:AX)
 |ia (esz:Nat) (x i:AX)
 |iaa (m esz:Nat) (x i:AX)
 |ext (i:Nat) (x:AX)
 |len (x:AX)
 |cpc (x:AX)
 |clr (z:List AV) (x:AX)
 |mf (g:FuncId) (first cap:List AX)
 |al (ty:TypeId) (cells:List AV)
 |bx (ty:TypeId) (n:Nat) (x:AX)
 |bd (cells:List AV) (parts:List (Nat×Nat×AX))
 |bs (ty esz n:Nat) (cells:List AV) (parts:List (Nat×Nat×AX))
 |ms (ty esz byt:Nat) (z:List AV) (n c:AX)
 |sl (esz:Nat) (x:AX) (lo hi:Option AX)
 |app (ty esz byt:Nat) (s x:AX)
 |apm (ty esz byt:Nat) (z:List AV) (s n:AX)
 |se (x:AX) (lo:Option AX) (hi mx:AX)
 |ix (m esz:Nat) (row:Bool) (x i:AX)
 |eq (neg:Bool) (s:SH) (x y:AX)
def AV.val:AV->Option Value
 |.b x=>some (.bool x)
 |.n k x=>some (.int k x)
 |.s x=>some (.string x)
 |_=>none
def Pc:Value->Option AV
 |.bool x=>some (.b x)
 |.int k x=>some (.n k x)
 |.string x=>some (.s x)
 |_=>none
def gf(s:Sem Value):Option AV:=match s with
 |.pure v=>Pc v
 |_=>none
def AV.cells:AV->List AV
 |.agg l=>l
 |v=>[v]
def mh(e:Tr AV):List AV->List (Nat×Nat×AX)->Option (List AV)
 |cs,[]=>some cs
 |cs,(off,n,x)::l=>match x.ev e with
  |some v=>if v.cells.length=n/\off+n<=cs.length/\v.cells.all AV.one=true then mh e (cs.take off++v.cells++cs.drop (off+n)) l else none
  |none=>none
def Ak(r:Nat->AV)(j:Nat):Nat->List AV
 |0=>[]
 |n+1=>r j::Ak r (j+1) n
def gQ(e:Tr AV)(d:AV):Option AX->Option AV
 |some y=>y.ev e
 |none=>some d
def im(H:AH)(ty esz byt:Nat)(s:AV):Option (AV×AH):=match s with
 |.sl _ _ l c=>if l<=c then some (s,H) else none
 |s=>H.append ty esz byt s (.li []) 0
def SH.row:SH->Bool
 |.st _=>true
 |_=>false
def qf(o n:Nat)(row:Bool)(xs:List AV):Option AV:=if row=true then(if o+n<=xs.length then some (.agg ((xs.drop o).take n)) else none) else xs[o]?
def HH:Option Bool->Option Bool->Option Bool
 |some r,some r'=>some (r&&r')
 |_,_=>none
def vN(g:SH->AV->AV->Option Bool):List (Nat×Nat×SH)->List AV->List AV->Option Bool
 |[],_,_=>some true
 |(o,n,s)::l,xs,ys=>match qf o n s.row xs,qf o n s.row ys with
  |some a,some b=>HH (g s a b) (vN g l xs ys)
  |_,_=>none
def t8:Nat->SH->AV->AV->Option Bool
 |_+1,.b,.b a,.b b=>some (a==b)
 |_+1,.n,.n k a,.n k' b=>if k=k' then some (decide (a=b)) else none
 |d+1,.st l,.agg xs,.agg ys=>vN (t8 d) l xs ys
 |_,_,_,_=>none
def rD(n:Nat)(z:List AV):List AV:=(List.replicate n z).flatten
def AP.run(e:Tr AV)(H:AH):AP->Option (AV×AH)
 |.mv x=>(x.ev e).map (·,H)
 |.pick c a b=>match c.ev e with
  |some (.b true)=>(a.ev e).map (·,H)
  |some (.b false)=>(b.ev e).map (·,H)
  |_=>none
 |.ld n row x=>match x.ev e with
  |some (.p b o)=>if row then(H.loadN b o n).map (.agg ·,H) else(H.load b o).map (·,H)
  |some (.fp esz r j)=>if row then(if 0<n/\j+n<=esz then some (.agg (Ak r j n),H) else none) else(if j<esz then some (r j,H) else none)
  |_=>none
 |.st n x v=>match x.ev e,v.ev e with
  |some (.p b o),some v=>if v.cells.length=n/\v.cells.all AV.one=true then(H.storeN b o v.cells).map (.u,·) else none
  |_,_=>none
 |.nc x=>match x.ev e with
  |some (.p b o)=>some (.p b o,H)
  |some (.f g l1 l2)=>some (.f g l1 l2,H)
  |some (.fp esz r j)=>some (.fp esz r j,H)
  |_=>none
 |.bin op x y=>match x.ev e,y.ev e with
  |some (.n k a),some (.n k' b)=>(gf (binOp op 0 (.int k a) (.int k' b))).map (·,H)
  |some (.s a),some (.s b)=>(gf (binOp op 0 (.string a) (.string b))).map (·,H)
  |_,_=>none
 |.un op x=>match x.ev e with
  |some (.n k a)=>(gf (Op.unary op (.int k a))).map (·,H)
  |some (.b a)=>(gf (Op.unary op (.bool a))).map (·,H)
  |_=>none
 |.cvi k x=>match x.ev e with
  |some (.n _ a)=>some (.n k (k.wrap a),H)
  |_=>none
 |.fa off x=>match x.ev e with
  |some (.p b o)=>some (.p b (o+off),H)
  |some (.fp esz r j)=>some (.fp esz r (j+off),H)
  |_=>none
 |.fd off n row x=>match x.ev e with
  |some (.agg l)=>if off+n<=l.length then(if row then some (.agg ((l.drop off).take n),H) else(l[off]?).map (·,H)) else none
  |_=>none
 |.ia esz x i=>match x.ev e,i.ev e with
  |some (.sl b o m cap),some (.n _ j)=>if 0<=j/\j<m then some (.p b (o+j.toNat*esz),H) else none
  |some (.os b m),some (.n _ j)=>if 0<=j/\j<m then some (.p b (j.toNat*esz),H) else none
  |some (.fs esz' m row),some (.n _ j)=>if esz'=esz/\0<=j/\j<m then some (.fp esz (row j.toNat) 0,H) else none
  |_,_=>none
 |.iaa m esz x i=>match x.ev e,i.ev e with
  |some (.p b o),some (.n _ j)=>if 0<=j/\j<m then some (.p b (o+j.toNat*esz),H) else none
  |_,_=>none
 |.ext i x=>match x.ev e with
  |some (.tup l)=>(l[i]?).map (·,H)
  |_=>none
 |.len x=>match x.ev e with
  |some (.sl _ _ n _)=>some (.n .i64 n,H)
  |some (.os _ n)=>some (.n .i64 n,H)
  |some (.fs _ n _)=>some (.n .i64 n,H)
  |some .sl0=>some (.n .i64 0,H)
  |_=>none
 |.cpc x=>match x.ev e with
  |some .sl0=>some (.n .i64 0,H)
  |_=>none
 |.clr z x=>match x.ev e with
  |some (.sl b o n _)=>if 0<n/\0<z.length then(H.storeN b o (rD n z)).map (.tup [],·) else none
  |some (.os b n)=>if 0<n/\0<z.length then(H.storeN b 0 (rD n z)).map (.tup [],·) else none
  |_=>none
 |.mf g first cap=>match yG e first,yG e cap with
  |some l1,some l2=>some (.f g l1 l2,H)
  |_,_=>none
 |.al ty cells=>if H.next+1<2^40/\cells.length<2^40 then some (.p H.next 0,H.new ⟨cells.length,0,ty,λ_=> .u,eB cells,false,true,0⟩) else none
 |.bx ty n x=>match x.ev e with
  |some v=>if H.next+1<2^40/\v.cells.length<2^40/\v.cells.all AV.one=true then some (.p H.next 0,H.new ⟨v.cells.length,0,ty,λ_=> .u,eB v.cells,false,true,0⟩) else none
  |none=>none
 |.bd cells parts=>(mh e cells parts).map (.agg ·,H)
 |.bs ty esz n cells parts=>if n=0/\parts.isEmpty=true then some (.sl0,H) else match mh e cells parts with
  |some l=>if H.next+1<2^40/\0<l.length/\l.length=n*esz/\l.length<=2^24 then some (.sl H.next 0 n n,H.new ⟨l.length,esz,ty,λ_=> .u,eB l,false,true,0⟩) else none
  |none=>none
 |.ms ty esz byt z n c=>match n.ev e,c.ev e with
  |some (.n .i64 a),some (.n .i64 b)=>
   if H.next+1<2^40/\0<=a/\a<=b/\b<=16777216/\byt*b.toNat<=140737488355328/\z.length=esz/\0<esz/\b.toNat*esz<2^40 then
    if a=b then some (.os H.next a.toNat,H.new (aH ty esz a.toNat 0 (λ_ j=>z[j]?.getD .u))) else some (.sl H.next 0 a.toNat b.toNat,H.new ⟨b.toNat*esz,esz,ty,λi=>z[i%esz]?.getD .u,.nil,false,true,0⟩)
   else none
  |_,_=>none
 |.sl esz x lo hi=>match x.ev e with
  |some (.sl b o m cap)=>
   match gQ e (.n .i64 0) lo,gQ e (.n .i64 m) hi with
   |some (.n _ i),some (.n _ j)=>if 0<=i/\i<=j/\j<=cap/\(i=0\/i<cap) then some (.sl b (o+i.toNat*esz) (j.toNat-i.toNat) (cap-i.toNat),H) else none
   |_,_=>none
  |some (.os b m)=>
   match gQ e (.n .i64 0) lo,gQ e (.n .i64 m) hi with
   |some (.n _ i),some (.n _ j)=>if i=0/\0<=j/\j<=m then some (.os b j.toNat,H) else if 0<i/\i<=j/\j<=m/\i<m then some (.sl b (i.toNat*esz) (j.toNat-i.toNat) (m-i.toNat),H) else none
   |_,_=>none
  |some .sl0=>
   match gQ e (.n .i64 0) lo,gQ e (.n .i64 0) hi with
   |some (.n _ i),some (.n _ j)=>if i=0/\j=0 then some (.sl0,H) else none
   |_,_=>none
  |some (.fs esz' m row)=>
   match gQ e (.n .i64 0) lo,gQ e (.n .i64 m) hi with
   |some (.n _ i),some (.n _ j)=>if esz'=esz/\0<=i/\i<=j/\j<=m then some (.fs esz (j.toNat-i.toNat) (λk=>row (i.toNat+k)),H) else none
   |_,_=>none
  |_=>none
 |.se x lo hi mx=>match x.ev e,gQ e (.n .i64 0) lo,hi.ev e,mx.ev e with
  |some (.sl _ _ _ _),some (.n _ i),some (.n _ j),some (.n _ k)=>if i=0/\j=0/\k=0 then some (.sl0,H) else none
  |some (.os _ _),some (.n _ i),some (.n _ j),some (.n _ k)=>if i=0/\j=0/\k=0 then some (.sl0,H) else none
  |some (.fs _ _ _),some (.n _ i),some (.n _ j),some (.n _ k)=>if i=0/\j=0/\k=0 then some (.sl0,H) else none
  |some .sl0,some (.n _ i),some (.n _ j),some (.n _ k)=>if i=0/\j=0/\k=0 then some (.sl0,H) else none
  |_,_,_,_=>none
 |.eq neg s x y=>match x.ev e,y.ev e with
  |some a,some b=>match t8 9 s a b with
   |some r=>some (.b (if neg=true then !r else r),H)
   |none=>none
  |_,_=>none
 |.ix m esz row x i=>match x.ev e,i.ev e with
  |some (.agg l),some (.n _ j)=>if 0<=j/\j<m/\l.length=m*esz then(if row then some (.agg ((l.drop (j.toNat*esz)).take esz),H) else(l[j.toNat*esz]?).map (·,H)) else none
  |_,_=>none
 |.app ty esz byt s x=>match s.ev e,x.ev e with
  |some s,some (.sl b o n cap)=>if n=0 then im H ty esz byt s else
   match H.loadN b o (n*esz) with
   |some l=>if l.all AV.one=true then H.append ty esz byt s (.li l) n else none
   |none=>none
  |some s,some (.os b n)=>if n=0 then im H ty esz byt s else
   match H.loadN b 0 (n*esz) with
   |some l=>if l.all AV.one=true then H.append ty esz byt s (.li l) n else none
   |none=>none
  |some s,some .sl0=>im H ty esz byt s
  |some s,some (.fs esz' n row)=>if esz'=esz then H.append ty esz byt s (.fn (n*esz) (λi=>row (i / esz) (i%esz))) n else none
  |_,_=>none
 |.apm ty esz byt z s n=>match s.ev e,n.ev e with
  |some .sl0,some (.n .i64 a)=>if H.next+1<2^40/\0<a/\a<=16777216/\byt*a.toNat<=140737488355328/\z.length=esz/\0<esz/\a.toNat*esz<2^40 then some (.os H.next a.toNat,H.new (aH ty esz a.toNat 0 (λ_ j=>z[j]?.getD .u))) else none
  |_,_=>none
end Go.Proofs.Yteopfmnnhlhbmaa