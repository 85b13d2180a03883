/- A part of the proof of CostLimits. No condition. -/
import Derived.Deep.MidRow
import Derived.Test.YtdpkgnmmikebdaaGreatGi05
set_option linter.unusedSimpArgs false
set_option linter.unusedVariables false
set_option linter.constructorNameAsVariable false
set_option maxRecDepth 100000
set_option maxHeartbeats 4000000
namespace Go.Proofs.YtdpkgnmmikebdaaGreat
open Go.RowKit
inductive AX where
 |t (i:Nat)
 |c (v:AV)
def AX.ev(e:Tr AV):AX->Option AV
 |.t i=>e.get i
 |.c v=>some v
def yP(e:Tr AV):List AX->Option (List AV)
 |[]=>some []
 |x::l=>match x.ev e with
  |some v=>(yP e l).map (v:: ·)
  |none=>none
inductive SH where
 |b
 |n
 |p
 |st (l:List (Nat×Nat×SH))
inductive AP where
 |mv (x:AX)
 |pick (c a b:AX)
 |ld (n:Nat) (row:Bool) (x:AX)
 |st (n:Nat) (x v:AX)
 |nc (x:AX)
 |bin (op:BinOp) (x y:AX)
 |un (op:UnOp) (x:AX)
 |cvi (k:IntKind) (x:AX)
 |fa (off:Nat) (x:AX)
 |fd (off n:Nat) (row:Bool) (x:AX)
 |ia (esz:Nat) (x i:AX)
 |iaa (m esz:Nat) (x i:AX)
 |ext (i:Nat) (x:AX)
 |len (x:AX)
 |cpc (x:AX)
 |clr (z:List AV) (x:AX)
 |mf (g:FuncId) (first cap:List AX)
 |al (ty:TypeId) (cells:List AV)
 |bx (ty:TypeId) (n:Nat) (x:AX)
 |bd (cells:List AV) (parts:List (Nat×Nat×AX))
 |bs (ty esz n:Nat) (cells:List AV) (parts:List (Nat×Nat×AX))
 |ms (ty esz byt:Nat) (z:List AV) (n c:AX)
 |sl (esz:Nat) (x:AX) (lo hi:Option AX)
 |app (ty esz byt:Nat) (s x:AX)
 |apm (ty esz byt:Nat) (z:List AV) (s n:AX)
 |se (x:AX) (lo:Option AX) (hi mx:AX)
 |ix (m esz:Nat) (row:Bool) (x i:AX)
 |eq (neg:Bool) (s:SH) (x y:AX)
 |lns (x:AX)
 |sx (x i:AX)
def AV.val:AV->Option Value
 |.b x=>some (.bool x)
 |.n k x=>some (.int k x)
 |.s x=>some (.string x)
 |_=>none
def an0:Value->Option AV
 |.bool x=>some (.b x)
 |.int k x=>some (.n k x)
 |.string x=>some (.s x)
 |_=>none
def kt(s:Sem Value):Option AV:=match s with
 |.pure v=>an0 v
 |_=>none
def AV.cells:AV->List AV
 |.agg l=>l
 |v=>[v]
def tE(e:Tr AV):List AV->List (Nat×Nat×AX)->Option (List AV)
 |cs,[]=>some cs
 |cs,(off,n,x)::l=>match x.ev e with
  |some v=>if v.cells.length=n/\off+n<=cs.length/\v.cells.all AV.one=true then tE e (cs.take off++v.cells++cs.drop (off+n)) l else none
  |none=>none
def Lf(r:Nat->AV)(j:Nat):Nat->List AV
 |0=>[]
 |n+1=>r j::Lf r (j+1) n
def oT(e:Tr AV)(d:AV):Option AX->Option AV
 |some y=>y.ev e
 |none=>some d
def pm(H:AH)(ty esz byt:Nat)(s:AV):Option (AV×AH):=match s with
 |.sl _ _ l c=>if l<=c then some (s,H) else none
 |s=>H.append ty esz byt s (.li []) 0
def SH.row:SH->Bool
 |.st _=>true
 |_=>false
def xy(o n:Nat)(row:Bool)(xs:List AV):Option AV:=if row=true then(if o+n<=xs.length then some (.agg ((xs.drop o).take n)) else none) else xs[o]?
def aa9:Option Bool->Option Bool->Option Bool
 |some r,some r'=>some (r&&r')
 |_,_=>none
def CU(g:SH->AV->AV->Option Bool):List (Nat×Nat×SH)->List AV->List AV->Option Bool
 |[],_,_=>some true
 |(o,n,s)::l,xs,ys=>match xy o n s.row xs,xy o n s.row ys with
  |some a,some b=>aa9 (g s a b) (CU g l xs ys)
  |_,_=>none
def uk:Nat->SH->AV->AV->Option Bool
 |_+1,.b,.b a,.b b=>some (a==b)
 |_+1,.n,.n k a,.n k' b=>if k=k' then some (decide (a=b)) else none
 |_+1,.p,.p0,.p0=>some true
 |_+1,.p,.p _ _,.p0=>some false
 |d+1,.st l,.agg xs,.agg ys=>CU (uk d) l xs ys
 |_,_,_,_=>none
def yS(n:Nat)(z:List AV):List AV:=(List.replicate n z).flatten
def DH(op:BinOp)(k:IntKind)(a:Int)(k':IntKind)(b:Int):Option AV:=match k,k',op with
 |.i64,.i64,.add=>some (.n .i64 (IntKind.wrap .i64 (a+b)))
 |.i64,.i64,.sub=>some (.n .i64 (IntKind.wrap .i64 (a-b)))
 |.i64,.i64,.lss=>some (.b (decide (a<b)))
 |.i64,.i64,.leq=>some (.b (decide (a<=b)))
 |.i64,.i64,.gtr=>some (.b (decide (b<a)))
 |.i64,.i64,.geq=>some (.b (decide (b<=a)))
 |k,k',op=>kt (binOp op 0 (.int k a) (.int k' b))
theorem fW(op:BinOp)(k:IntKind)(a:Int)(k':IntKind)(b:Int):DH op k a k' b=kt (binOp op 0 (.int k a) (.int k' b)):=by
 unfold DH;split<;>rfl
def AP.w(e:Tr AV)(H:AH)(x:AX):Option (AV×AH):=(x.ev e).map (·,H)
def AP.y(e:Tr AV)(H:AH)(c:AX)(a:AX)(b:AX):Option (AV×AH):=match c.ev e with
  |some (.b true)=>(a.ev e).map (·,H)
  |some (.b false)=>(b.ev e).map (·,H)
  |_=>none
def AP.r(e:Tr AV)(H:AH)(n:Nat)(row:Bool)(x:AX):Option (AV×AH):=match x.ev e with
  |some (.p b o)=>if row then(H.loadN b o n).map (.agg ·,H) else(H.load b o).map (·,H)
  |some (.fp esz r j)=>if row then(if 0<n/\j+n<=esz then some (.agg (Lf r j n),H) else none) else(if j<esz then some (r j,H) else none)
  |_=>none
def AP.B(e:Tr AV)(H:AH)(n:Nat)(x:AX)(v:AX):Option (AV×AH):=match x.ev e,v.ev e with
  |some (.p b o),some v=>if v.cells.length=n/\v.cells.all AV.one=true then(H.storeN b o v.cells).map (.u,·) else none
  |_,_=>none
def AP.x(e:Tr AV)(H:AH)(x:AX):Option (AV×AH):=match x.ev e with
  |some (.p b o)=>some (.p b o,H)
  |some (.f g l1 l2)=>some (.f g l1 l2,H)
  |some (.fp esz r j)=>some (.fp esz r j,H)
  |_=>none
def AP.e(e:Tr AV)(H:AH)(op:BinOp)(x:AX)(y:AX):Option (AV×AH):=match x.ev e,y.ev e with
  |some (.n k a),some (.n k' b)=>(DH op k a k' b).map (·,H)
  |some (.s a),some (.s b)=>(kt (binOp op 0 (.string a) (.string b))).map (·,H)
  |_,_=>none
def AP.D(e:Tr AV)(H:AH)(op:UnOp)(x:AX):Option (AV×AH):=match x.ev e with
  |some (.n k a)=>(kt (Op.unary op (.int k a))).map (·,H)
  |some (.b a)=>(kt (Op.unary op (.bool a))).map (·,H)
  |_=>none
def AP.j(e:Tr AV)(H:AH)(k:IntKind)(x:AX):Option (AV×AH):=match x.ev e with
  |some (.n _ a)=>some (.n k (k.wrap a),H)
  |_=>none
def AP.m(e:Tr AV)(H:AH)(off:Nat)(x:AX):Option (AV×AH):=match x.ev e with
  |some (.p b o)=>some (.p b (o+off),H)
  |some (.fp esz r j)=>some (.fp esz r (j+off),H)
  |_=>none
def AP.n(e:Tr AV)(H:AH)(off:Nat)(n:Nat)(row:Bool)(x:AX):Option (AV×AH):=match x.ev e with
  |some (.agg l)=>if off+n<=l.length then(if row then some (.agg ((l.drop off).take n),H) else(l[off]?).map (·,H)) else none
  |_=>none
def AP.o(e:Tr AV)(H:AH)(esz:Nat)(x:AX)(i:AX):Option (AV×AH):=match x.ev e,i.ev e with
  |some (.sl b o m cap),some (.n _ j)=>if 0<=j/\j<m then some (.p b (o+j.toNat*esz),H) else none
  |some (.os b m),some (.n _ j)=>if 0<=j/\j<m then some (.p b (j.toNat*esz),H) else none
  |some (.fs esz' m row),some (.n _ j)=>if esz'=esz/\0<=j/\j<m then some (.fp esz (row j.toNat) 0,H) else none
  |_,_=>none
def AP.p(e:Tr AV)(H:AH)(m:Nat)(esz:Nat)(x:AX)(i:AX):Option (AV×AH):=match x.ev e,i.ev e with
  |some (.p b o),some (.n _ j)=>if 0<=j/\j<m then some (.p b (o+j.toNat*esz),H) else none
  |_,_=>none
def AP.l(e:Tr AV)(H:AH)(i:Nat)(x:AX):Option (AV×AH):=match x.ev e with
  |some (.tup l)=>(l[i]?).map (·,H)
  |_=>none
def AP.s(e:Tr AV)(H:AH)(x:AX):Option (AV×AH):=match x.ev e with
  |some (.sl _ _ n _)=>some (.n .i64 n,H)
  |some (.os _ n)=>some (.n .i64 n,H)
  |some (.fs _ n _)=>some (.n .i64 n,H)
  |some .sl0=>some (.n .i64 0,H)
  |_=>none
def AP.i(e:Tr AV)(H:AH)(x:AX):Option (AV×AH):=match x.ev e with
  |some .sl0=>some (.n .i64 0,H)
  |_=>none
def AP.h(e:Tr AV)(H:AH)(z:List AV)(x:AX):Option (AV×AH):=match x.ev e with
  |some (.sl b o n _)=>if 0<n/\0<z.length then(H.storeN b o (yS n z)).map (.tup [],·) else none
  |some (.os b n)=>if 0<n/\0<z.length then(H.storeN b 0 (yS n z)).map (.tup [],·) else none
  |_=>none
def AP.u(e:Tr AV)(H:AH)(g:FuncId)(first:List AX)(cap:List AX):Option (AV×AH):=match yP e first,yP e cap with
  |some l1,some l2=>some (.f g l1 l2,H)
  |_,_=>none
def AP.a(e:Tr AV)(H:AH)(ty:TypeId)(cells:List AV):Option (AV×AH):=if H.next+1<2^40/\cells.length<2^40 then some (.p H.next 0,H.new ⟨cells.length,0,ty,λ_=> .u,oh cells,false,true,0⟩) else none
def AP.g(e:Tr AV)(H:AH)(ty:TypeId)(n:Nat)(x:AX):Option (AV×AH):=match x.ev e with
  |some v=>if H.next+1<2^40/\v.cells.length<2^40/\v.cells.all AV.one=true then some (.p H.next 0,H.new ⟨v.cells.length,0,ty,λ_=> .u,oh v.cells,false,true,0⟩) else none
  |none=>none
def AP.d(e:Tr AV)(H:AH)(cells:List AV)(parts:List (Nat×Nat×AX)):Option (AV×AH):=(tE e cells parts).map (.agg ·,H)
def AP.f(e:Tr AV)(H:AH)(ty:Nat)(esz:Nat)(n:Nat)(cells:List AV)(parts:List (Nat×Nat×AX)):Option (AV×AH):=if n=0/\parts.isEmpty=true then some (.sl0,H) else match tE e cells parts with
  |some l=>if H.next+1<2^40/\0<l.length/\l.length=n*esz/\l.length<=2^24 then some (.sl H.next 0 n n,H.new ⟨l.length,esz,ty,λ_=> .u,oh l,false,true,0⟩) else none
  |none=>none
def AP.v(e:Tr AV)(H:AH)(ty:Nat)(esz:Nat)(byt:Nat)(z:List AV)(n:AX)(c:AX):Option (AV×AH):=match n.ev e,c.ev e with
  |some (.n .i64 a),some (.n .i64 b)=>
   if H.next+1<2^40/\0<=a/\a<=b/\b<=16777216/\byt*b.toNat<=140737488355328/\z.length=esz/\0<esz/\b.toNat*esz<2^40 then
    if a=b then some (.os H.next a.toNat,H.new (fg ty esz a.toNat 0 (λ_ j=>z[j]?.getD .u))) else some (.sl H.next 0 a.toNat b.toNat,H.new ⟨b.toNat*esz,esz,ty,λi=>z[i%esz]?.getD .u,.nil,false,true,0⟩)
   else none
  |_,_=>none
def AP.A(e:Tr AV)(H:AH)(esz:Nat)(x:AX)(lo:Option AX)(hi:Option AX):Option (AV×AH):=match x.ev e with
  |some (.sl b o m cap)=>
   match oT e (.n .i64 0) lo,oT e (.n .i64 m) hi with
   |some (.n _ i),some (.n _ j)=>if 0<=i/\i<=j/\j<=cap/\(i=0\/i<cap) then some (.sl b (o+i.toNat*esz) (j.toNat-i.toNat) (cap-i.toNat),H) else none
   |_,_=>none
  |some (.os b m)=>
   match oT e (.n .i64 0) lo,oT e (.n .i64 m) hi with
   |some (.n _ i),some (.n _ j)=>if i=0/\0<=j/\j<=m then some (.os b j.toNat,H) else if 0<i/\i<=j/\j<=m/\i<m then some (.sl b (i.toNat*esz) (j.toNat-i.toNat) (m-i.toNat),H) else if 0<i/\i=j/\j=m then some (.fs esz 0 (λ_ _=> .u),H) else none
   |_,_=>none
  |some .sl0=>
   match oT e (.n .i64 0) lo,oT e (.n .i64 0) hi with
   |some (.n _ i),some (.n _ j)=>if i=0/\j=0 then some (.sl0,H) else none
   |_,_=>none
  |some (.fs esz' m row)=>
   match oT e (.n .i64 0) lo,oT e (.n .i64 m) hi with
   |some (.n _ i),some (.n _ j)=>if esz'=esz/\0<=i/\i<=j/\j<=m then some (.fs esz (j.toNat-i.toNat) (λk=>row (i.toNat+k)),H) else none
   |_,_=>none
  |_=>none
def AP.z(e:Tr AV)(H:AH)(x:AX)(lo:Option AX)(hi:AX)(mx:AX):Option (AV×AH):=match x.ev e,oT e (.n .i64 0) lo,hi.ev e,mx.ev e with
  |some (.sl _ _ _ _),some (.n _ i),some (.n _ j),some (.n _ k)=>if i=0/\j=0/\k=0 then some (.sl0,H) else none
  |some (.os _ _),some (.n _ i),some (.n _ j),some (.n _ k)=>if i=0/\j=0/\k=0 then some (.sl0,H) else none
  |some (.fs _ _ _),some (.n _ i),some (.n _ j),some (.n _ k)=>if i=0/\j=0/\k=0 then some (.sl0,H) else none
  |some .sl0,some (.n _ i),some (.n _ j),some (.n _ k)=>if i=0/\j=0/\k=0 then some (.sl0,H) else none
  |_,_,_,_=>none
def AP.k(e:Tr AV)(H:AH)(neg:Bool)(s:SH)(x:AX)(y:AX):Option (AV×AH):=match x.ev e,y.ev e with
  |some a,some b=>match uk 9 s a b with
   |some r=>some (.b (if neg=true then !r else r),H)
   |none=>none
  |_,_=>none
def AP.t(e:Tr AV)(H:AH)(x:AX):Option (AV×AH):=match x.ev e with
  |some (.s b)=>some (.n .i64 b.size,H)
  |_=>none
def AP.C(e:Tr AV)(H:AH)(x:AX)(i:AX):Option (AV×AH):=match x.ev e,i.ev e with
  |some (.s b),some (.n _ j)=>if 0<=j then(b[j.toNat]?).map (λc=>(.n .u8 c.toNat,H)) else none
  |_,_=>none
def AP.q(e:Tr AV)(H:AH)(m:Nat)(esz:Nat)(row:Bool)(x:AX)(i:AX):Option (AV×AH):=match x.ev e,i.ev e with
  |some (.agg l),some (.n _ j)=>if 0<=j/\j<m/\l.length=m*esz then(if row then some (.agg ((l.drop (j.toNat*esz)).take esz),H) else(l[j.toNat*esz]?).map (·,H)) else none
  |_,_=>none
def AP.c(e:Tr AV)(H:AH)(ty:Nat)(esz:Nat)(byt:Nat)(s:AX)(x:AX):Option (AV×AH):=match s.ev e,x.ev e with
  |some s,some (.sl b o n cap)=>if n=0 then pm H ty esz byt s else
   match H.loadN b o (n*esz) with
   |some l=>if l.all AV.one=true then H.append ty esz byt s (.li l) n else none
   |none=>none
  |some s,some (.os b n)=>if n=0 then pm H ty esz byt s else
   match H.loadN b 0 (n*esz) with
   |some l=>if l.all AV.one=true then H.append ty esz byt s (.li l) n else none
   |none=>none
  |some s,some .sl0=>pm H ty esz byt s
  |some s,some (.fs esz' n row)=>if esz'=esz then H.append ty esz byt s (.fn (n*esz) (λi=>row (i / esz) (i%esz))) n else none
  |_,_=>none
def AP.b(e:Tr AV)(H:AH)(ty:Nat)(esz:Nat)(byt:Nat)(z:List AV)(s:AX)(n:AX):Option (AV×AH):=match s.ev e,n.ev e with
  |some .sl0,some (.n .i64 a)=>if H.next+1<2^40/\0<a/\a<=16777216/\byt*a.toNat<=140737488355328/\z.length=esz/\0<esz/\a.toNat*esz<2^40 then some (.os H.next a.toNat,H.new (fg ty esz a.toNat 0 (λ_ j=>z[j]?.getD .u))) else none
  |_,_=>none
def AP.run(e:Tr AV)(H:AH):AP->Option (AV×AH)
 |.mv x=>AP.w e H x
 |.pick c a b=>AP.y e H c a b
 |.ld n row x=>AP.r e H n row x
 |.st n x v=>AP.B e H n x v
 |.nc x=>AP.x e H x
 |.bin op x y=>AP.e e H op x y
 |.un op x=>AP.D e H op x
 |.cvi k x=>AP.j e H k x
 |.fa off x=>AP.m e H off x
 |.fd off n row x=>AP.n e H off n row x
 |.ia esz x i=>AP.o e H esz x i
 |.iaa m esz x i=>AP.p e H m esz x i
 |.ext i x=>AP.l e H i x
 |.len x=>AP.s e H x
 |.cpc x=>AP.i e H x
 |.clr z x=>AP.h e H z x
 |.mf g first cap=>AP.u e H g first cap
 |.al ty cells=>AP.a e H ty cells
 |.bx ty n x=>AP.g e H ty n x
 |.bd cells parts=>AP.d e H cells parts
 |.bs ty esz n cells parts=>AP.f e H ty esz n cells parts
 |.ms ty esz byt z n c=>AP.v e H ty esz byt z n c
 |.sl esz x lo hi=>AP.A e H esz x lo hi
 |.se x lo hi mx=>AP.z e H x lo hi mx
 |.eq neg s x y=>AP.k e H neg s x y
 |.lns x=>AP.t e H x
 |.sx x i=>AP.C e H x i
 |.ix m esz row x i=>AP.q e H m esz row x i
 |.app ty esz byt s x=>AP.c e H ty esz byt s x
 |.apm ty esz byt z s n=>AP.b e H ty esz byt z s n
theorem aqn:type_of% (And.intro @AP.A.eq_def (And.intro @AP.B.eq_def (And.intro @AP.C.eq_def (And.intro @AP.D.eq_def (And.intro @AP.a.eq_def (And.intro @AP.b.eq_def (And.intro @AP.c.eq_def (And.intro @AP.d.eq_def (And.intro @AP.e.eq_def (And.intro @AP.f.eq_def (And.intro @AP.g.eq_def (And.intro @AP.h.eq_def (And.intro @AP.i.eq_def (And.intro @AP.j.eq_def (And.intro @AP.k.eq_def (And.intro @AP.l.eq_def (And.intro @AP.m.eq_def (And.intro @AP.n.eq_def (And.intro @AP.o.eq_def (And.intro @AP.p.eq_def (And.intro @AP.q.eq_def (And.intro @AP.r.eq_def (And.intro @AP.s.eq_def (And.intro @AP.t.eq_def (And.intro @AP.u.eq_def (And.intro @AP.v.eq_def (And.intro @AP.w.eq_def (And.intro @AP.x.eq_def (And.intro @AP.y.eq_def (@AP.z.eq_def)))))))))))))))))))))))))))))):=And.intro @AP.A.eq_def (And.intro @AP.B.eq_def (And.intro @AP.C.eq_def (And.intro @AP.D.eq_def (And.intro @AP.a.eq_def (And.intro @AP.b.eq_def (And.intro @AP.c.eq_def (And.intro @AP.d.eq_def (And.intro @AP.e.eq_def (And.intro @AP.f.eq_def (And.intro @AP.g.eq_def (And.intro @AP.h.eq_def (And.intro @AP.i.eq_def (And.intro @AP.j.eq_def (And.intro @AP.k.eq_def (And.intro @AP.l.eq_def (And.intro @AP.m.eq_def (And.intro @AP.n.eq_def (And.intro @AP.o.eq_def (And.intro @AP.p.eq_def (And.intro @AP.q.eq_def (And.intro @AP.r.eq_def (And.intro @AP.s.eq_def (And.intro @AP.t.eq_def (And.intro @AP.u.eq_def (And.intro @AP.v.eq_def (And.intro @AP.w.eq_def (And.intro @AP.x.eq_def (And.intro @AP.y.eq_def (@AP.z.eq_def)))))))))))))))))))))))))))))
end Go.Proofs.YtdpkgnmmikebdaaGreat