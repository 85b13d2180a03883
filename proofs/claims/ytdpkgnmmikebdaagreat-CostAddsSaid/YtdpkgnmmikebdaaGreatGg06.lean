/- A part of the proof of CostAdds: EvD. No condition. -/
import Derived.Deep.MidRow
import Derived.Test.YtdpkgnmmikebdaaGreatGg05
set_option linter.unusedSimpArgs false
set_option linter.unusedVariables false
set_option linter.constructorNameAsVariable false
set_option maxRecDepth 100000
set_option maxHeartbeats 4000000
namespace Go.Proofs.YtdpkgnmmikebdaaGreat
open Go.RowKit
inductive AX where
 |t (i:Nat)
 |c (v:AV)
def AX.ev(e:Tr AV):AX->Option AV
 |.t i=>e.get i
 |.c v=>some v
def r9(e:Tr AV):List AX->Option (List AV)
 |[]=>some []
 |x::l=>match x.ev e with
  |some v=>(r9 e l).map (v:: ·)
  |none=>none
inductive SH where
 |b
 |n
 |p
 |st (l:List (Nat×Nat×SH))
inductive AP where
 |mv (x:AX)
 |pick (c a b:AX)
 |ld (n:Nat) (row:Bool) (x:AX)
 |st (n:Nat) (x v:AX)
 |nc (x:AX)
 |bin (op:BinOp) (x y:AX)
 |un (op:UnOp) (x:AX)
 |cvi (k:IntKind) (x:AX)
 |fa (off:Nat) (x:AX)
 |fd (off n:Nat) (row:Bool) (x:AX)
 |ia (esz:Nat) (x i:AX)
 |iaa (m esz:Nat) (x i:AX)
 |ext (i:Nat) (x:AX)
 |len (x:AX)
 |cpc (x:AX)
 |clr (z:List AV) (x:AX)
 |mf (g:FuncId) (first cap:List AX)
 |al (ty:TypeId) (cells:List AV)
 |bx (ty:TypeId) (n:Nat) (x:AX)
 |bd (cells:List AV) (parts:List (Nat×Nat×AX))
 |bs (ty esz n:Nat) (cells:List AV) (parts:List (Nat×Nat×AX))
 |ms (ty esz byt:Nat) (z:List AV) (n c:AX)
 |sl (esz:Nat) (x:AX) (lo hi:Option AX)
 |app (ty esz byt:Nat) (s x:AX)
 |apm (ty esz byt:Nat) (z:List AV) (s n:AX)
 |se (x:AX) (lo:Option AX) (hi mx:AX)
 |ix (m esz:Nat) (row:Bool) (x i:AX)
 |eq (neg:Bool) (s:SH) (x y:AX)
 |lns (x:AX)
 |sx (x i:AX)
def AV.val:AV->Option Value
 |.b x=>some (.bool x)
 |.n k x=>some (.int k x)
 |.s x=>some (.string x)
 |_=>none
def Wy:Value->Option AV
 |.bool x=>some (.b x)
 |.int k x=>some (.n k x)
 |.string x=>some (.s x)
 |_=>none
def dw(s:Sem Value):Option AV:=match s with
 |.pure v=>Wy v
 |_=>none
def AV.cells:AV->List AV
 |.agg l=>l
 |v=>[v]
def mW(e:Tr AV):List AV->List (Nat×Nat×AX)->Option (List AV)
 |cs,[]=>some cs
 |cs,(off,n,x)::l=>match x.ev e with
  |some v=>if v.cells.length=n/\off+n<=cs.length/\v.cells.all AV.one=true then mW e (cs.take off++v.cells++cs.drop (off+n)) l else none
  |none=>none
def Bz(r:Nat->AV)(j:Nat):Nat->List AV
 |0=>[]
 |n+1=>r j::Bz r (j+1) n
def iA(e:Tr AV)(d:AV):Option AX->Option AV
 |some y=>y.ev e
 |none=>some d
def i8(H:AH)(ty esz byt:Nat)(s:AV):Option (AV×AH):=match s with
 |.sl _ _ l c=>if l<=c then some (s,H) else none
 |s=>H.append ty esz byt s (.li []) 0
def SH.row:SH->Bool
 |.st _=>true
 |_=>false
def qE(o n:Nat)(row:Bool)(xs:List AV):Option AV:=if row=true then(if o+n<=xs.length then some (.agg ((xs.drop o).take n)) else none) else xs[o]?
def Kf:Option Bool->Option Bool->Option Bool
 |some r,some r'=>some (r&&r')
 |_,_=>none
def wA(g:SH->AV->AV->Option Bool):List (Nat×Nat×SH)->List AV->List AV->Option Bool
 |[],_,_=>some true
 |(o,n,s)::l,xs,ys=>match qE o n s.row xs,qE o n s.row ys with
  |some a,some b=>Kf (g s a b) (wA g l xs ys)
  |_,_=>none
def nP:Nat->SH->AV->AV->Option Bool
 |_+1,.b,.b a,.b b=>some (a==b)
 |_+1,.n,.n k a,.n k' b=>if k=k' then some (decide (a=b)) else none
 |_+1,.p,.p0,.p0=>some true
 |_+1,.p,.p _ _,.p0=>some false
 |d+1,.st l,.agg xs,.agg ys=>wA (nP d) l xs ys
 |_,_,_,_=>none
def sf(n:Nat)(z:List AV):List AV:=(List.replicate n z).flatten
def xF(op:BinOp)(k:IntKind)(a:Int)(k':IntKind)(b:Int):Option AV:=match k,k',op with
 |.i64,.i64,.add=>some (.n .i64 (IntKind.wrap .i64 (a+b)))
 |.i64,.i64,.sub=>some (.n .i64 (IntKind.wrap .i64 (a-b)))
 |.i64,.i64,.lss=>some (.b (decide (a<b)))
 |.i64,.i64,.leq=>some (.b (decide (a<=b)))
 |.i64,.i64,.gtr=>some (.b (decide (b<a)))
 |.i64,.i64,.geq=>some (.b (decide (b<=a)))
 |k,k',op=>dw (binOp op 0 (.int k a) (.int k' b))
theorem aP(op:BinOp)(k:IntKind)(a:Int)(k':IntKind)(b:Int):xF op k a k' b=dw (binOp op 0 (.int k a) (.int k' b)):=by
 unfold xF
 split<;>rfl
def AP.r_mv(e:Tr AV)(H:AH)(x:AX):Option (AV×AH):=(x.ev e).map (·,H)
def AP.r_pick(e:Tr AV)(H:AH)(c:AX)(a:AX)(b:AX):Option (AV×AH):=match c.ev e with
  |some (.b true)=>(a.ev e).map (·,H)
  |some (.b false)=>(b.ev e).map (·,H)
  |_=>none
def AP.r_ld(e:Tr AV)(H:AH)(n:Nat)(row:Bool)(x:AX):Option (AV×AH):=match x.ev e with
  |some (.p b o)=>if row then(H.loadN b o n).map (.agg ·,H) else(H.load b o).map (·,H)
  |some (.fp esz r j)=>if row then(if 0<n/\j+n<=esz then some (.agg (Bz r j n),H) else none) else(if j<esz then some (r j,H) else none)
  |_=>none
def AP.r_st(e:Tr AV)(H:AH)(n:Nat)(x:AX)(v:AX):Option (AV×AH):=match x.ev e,v.ev e with
  |some (.p b o),some v=>if v.cells.length=n/\v.cells.all AV.one=true then(H.storeN b o v.cells).map (.u,·) else none
  |_,_=>none
def AP.r_nc(e:Tr AV)(H:AH)(x:AX):Option (AV×AH):=match x.ev e with
  |some (.p b o)=>some (.p b o,H)
  |some (.f g l1 l2)=>some (.f g l1 l2,H)
  |some (.fp esz r j)=>some (.fp esz r j,H)
  |_=>none
def AP.r_bin(e:Tr AV)(H:AH)(op:BinOp)(x:AX)(y:AX):Option (AV×AH):=match x.ev e,y.ev e with
  |some (.n k a),some (.n k' b)=>(xF op k a k' b).map (·,H)
  |some (.s a),some (.s b)=>(dw (binOp op 0 (.string a) (.string b))).map (·,H)
  |_,_=>none
def AP.r_un(e:Tr AV)(H:AH)(op:UnOp)(x:AX):Option (AV×AH):=match x.ev e with
  |some (.n k a)=>(dw (Op.unary op (.int k a))).map (·,H)
  |some (.b a)=>(dw (Op.unary op (.bool a))).map (·,H)
  |_=>none
def AP.r_cvi(e:Tr AV)(H:AH)(k:IntKind)(x:AX):Option (AV×AH):=match x.ev e with
  |some (.n _ a)=>some (.n k (k.wrap a),H)
  |_=>none
def AP.r_fa(e:Tr AV)(H:AH)(off:Nat)(x:AX):Option (AV×AH):=match x.ev e with
  |some (.p b o)=>some (.p b (o+off),H)
  |some (.fp esz r j)=>some (.fp esz r (j+off),H)
  |_=>none
def AP.r_fd(e:Tr AV)(H:AH)(off:Nat)(n:Nat)(row:Bool)(x:AX):Option (AV×AH):=match x.ev e with
  |some (.agg l)=>if off+n<=l.length then(if row then some (.agg ((l.drop off).take n),H) else(l[off]?).map (·,H)) else none
  |_=>none
def AP.r_ia(e:Tr AV)(H:AH)(esz:Nat)(x:AX)(i:AX):Option (AV×AH):=match x.ev e,i.ev e with
  |some (.sl b o m cap),some (.n _ j)=>if 0<=j/\j<m then some (.p b (o+j.toNat*esz),H) else none
  |some (.os b m),some (.n _ j)=>if 0<=j/\j<m then some (.p b (j.toNat*esz),H) else none
  |some (.fs esz' m row),some (.n _ j)=>if esz'=esz/\0<=j/\j<m then some (.fp esz (row j.toNat) 0,H) else none
  |_,_=>none
def AP.r_iaa(e:Tr AV)(H:AH)(m:Nat)(esz:Nat)(x:AX)(i:AX):Option (AV×AH):=match x.ev e,i.ev e with
  |some (.p b o),some (.n _ j)=>if 0<=j/\j<m then some (.p b (o+j.toNat*esz),H) else none
  |_,_=>none
def AP.r_ext(e:Tr AV)(H:AH)(i:Nat)(x:AX):Option (AV×AH):=match x.ev e with
  |some (.tup l)=>(l[i]?).map (·,H)
  |_=>none
def AP.r_len(e:Tr AV)(H:AH)(x:AX):Option (AV×AH):=match x.ev e with
  |some (.sl _ _ n _)=>some (.n .i64 n,H)
  |some (.os _ n)=>some (.n .i64 n,H)
  |some (.fs _ n _)=>some (.n .i64 n,H)
  |some .sl0=>some (.n .i64 0,H)
  |_=>none
def AP.r_cpc(e:Tr AV)(H:AH)(x:AX):Option (AV×AH):=match x.ev e with
  |some .sl0=>some (.n .i64 0,H)
  |_=>none
def AP.r_clr(e:Tr AV)(H:AH)(z:List AV)(x:AX):Option (AV×AH):=match x.ev e with
  |some (.sl b o n _)=>if 0<n/\0<z.length then(H.storeN b o (sf n z)).map (.tup [],·) else none
  |some (.os b n)=>if 0<n/\0<z.length then(H.storeN b 0 (sf n z)).map (.tup [],·) else none
  |_=>none
def AP.r_mf(e:Tr AV)(H:AH)(g:FuncId)(first:List AX)(cap:List AX):Option (AV×AH):=match r9 e first,r9 e cap with
  |some l1,some l2=>some (.f g l1 l2,H)
  |_,_=>none
def AP.r_al(e:Tr AV)(H:AH)(ty:TypeId)(cells:List AV):Option (AV×AH):=if H.next+1<2^40/\cells.length<2^40 then some (.p H.next 0,H.new ⟨cells.length,0,ty,λ_=> .u,gH cells,false,true,0⟩) else none
def AP.r_bx(e:Tr AV)(H:AH)(ty:TypeId)(n:Nat)(x:AX):Option (AV×AH):=match x.ev e with
  |some v=>if H.next+1<2^40/\v.cells.length<2^40/\v.cells.all AV.one=true then some (.p H.next 0,H.new ⟨v.cells.length,0,ty,λ_=> .u,gH v.cells,false,true,0⟩) else none
  |none=>none
def AP.r_bd(e:Tr AV)(H:AH)(cells:List AV)(parts:List (Nat×Nat×AX)):Option (AV×AH):=(mW e cells parts).map (.agg ·,H)
def AP.r_bs(e:Tr AV)(H:AH)(ty:Nat)(esz:Nat)(n:Nat)(cells:List AV)(parts:List (Nat×Nat×AX)):Option (AV×AH):=if n=0/\parts.isEmpty=true then some (.sl0,H) else match mW e cells parts with
  |some l=>if H.next+1<2^40/\0<l.length/\l.length=n*esz/\l.length<=2^24 then some (.sl H.next 0 n n,H.new ⟨l.length,esz,ty,λ_=> .u,gH l,false,true,0⟩) else none
  |none=>none
def AP.r_ms(e:Tr AV)(H:AH)(ty:Nat)(esz:Nat)(byt:Nat)(z:List AV)(n:AX)(c:AX):Option (AV×AH):=match n.ev e,c.ev e with
  |some (.n .i64 a),some (.n .i64 b)=>
   if H.next+1<2^40/\0<=a/\a<=b/\b<=16777216/\byt*b.toNat<=140737488355328/\z.length=esz/\0<esz/\b.toNat*esz<2^40 then
    if a=b then some (.os H.next a.toNat,H.new (ai ty esz a.toNat 0 (λ_ j=>z[j]?.getD .u))) else some (.sl H.next 0 a.toNat b.toNat,H.new ⟨b.toNat*esz,esz,ty,λi=>z[i%esz]?.getD .u,.nil,false,true,0⟩)
   else none
  |_,_=>none
def AP.r_sl(e:Tr AV)(H:AH)(esz:Nat)(x:AX)(lo:Option AX)(hi:Option AX):Option (AV×AH):=match x.ev e with
  |some (.sl b o m cap)=>
   match iA e (.n .i64 0) lo,iA e (.n .i64 m) hi with
   |some (.n _ i),some (.n _ j)=>if 0<=i/\i<=j/\j<=cap/\(i=0\/i<cap) then some (.sl b (o+i.toNat*esz) (j.toNat-i.toNat) (cap-i.toNat),H) else none
   |_,_=>none
  |some (.os b m)=>
   match iA e (.n .i64 0) lo,iA e (.n .i64 m) hi with
   |some (.n _ i),some (.n _ j)=>if i=0/\0<=j/\j<=m then some (.os b j.toNat,H) else if 0<i/\i<=j/\j<=m/\i<m then some (.sl b (i.toNat*esz) (j.toNat-i.toNat) (m-i.toNat),H) else if 0<i/\i=j/\j=m then some (.fs esz 0 (λ_ _=> .u),H) else none
   |_,_=>none
  |some .sl0=>
   match iA e (.n .i64 0) lo,iA e (.n .i64 0) hi with
   |some (.n _ i),some (.n _ j)=>if i=0/\j=0 then some (.sl0,H) else none
   |_,_=>none
  |some (.fs esz' m row)=>
   match iA e (.n .i64 0) lo,iA e (.n .i64 m) hi with
   |some (.n _ i),some (.n _ j)=>if esz'=esz/\0<=i/\i<=j/\j<=m then some (.fs esz (j.toNat-i.toNat) (λk=>row (i.toNat+k)),H) else none
   |_,_=>none
  |_=>none
def AP.r_se(e:Tr AV)(H:AH)(x:AX)(lo:Option AX)(hi:AX)(mx:AX):Option (AV×AH):=match x.ev e,iA e (.n .i64 0) lo,hi.ev e,mx.ev e with
  |some (.sl _ _ _ _),some (.n _ i),some (.n _ j),some (.n _ k)=>if i=0/\j=0/\k=0 then some (.sl0,H) else none
  |some (.os _ _),some (.n _ i),some (.n _ j),some (.n _ k)=>if i=0/\j=0/\k=0 then some (.sl0,H) else none
  |some (.fs _ _ _),some (.n _ i),some (.n _ j),some (.n _ k)=>if i=0/\j=0/\k=0 then some (.sl0,H) else none
  |some .sl0,some (.n _ i),some (.n _ j),some (.n _ k)=>if i=0/\j=0/\k=0 then some (.sl0,H) else none
  |_,_,_,_=>none
def AP.r_eq(e:Tr AV)(H:AH)(neg:Bool)(s:SH)(x:AX)(y:AX):Option (AV×AH):=match x.ev e,y.ev e with
  |some a,some b=>match nP 9 s a b with
   |some r=>some (.b (if neg=true then !r else r),H)
   |none=>none
  |_,_=>none
def AP.r_lns(e:Tr AV)(H:AH)(x:AX):Option (AV×AH):=match x.ev e with
  |some (.s b)=>some (.n .i64 b.size,H)
  |_=>none
def AP.r_sx(e:Tr AV)(H:AH)(x:AX)(i:AX):Option (AV×AH):=match x.ev e,i.ev e with
  |some (.s b),some (.n _ j)=>if 0<=j then(b[j.toNat]?).map (λc=>(.n .u8 c.toNat,H)) else none
  |_,_=>none
def AP.r_ix(e:Tr AV)(H:AH)(m:Nat)(esz:Nat)(row:Bool)(x:AX)(i:AX):Option (AV×AH):=match x.ev e,i.ev e with
  |some (.agg l),some (.n _ j)=>if 0<=j/\j<m/\l.length=m*esz then(if row then some (.agg ((l.drop (j.toNat*esz)).take esz),H) else(l[j.toNat*esz]?).map (·,H)) else none
  |_,_=>none
def AP.r_app(e:Tr AV)(H:AH)(ty:Nat)(esz:Nat)(byt:Nat)(s:AX)(x:AX):Option (AV×AH):=match s.ev e,x.ev e with
  |some s,some (.sl b o n cap)=>if n=0 then i8 H ty esz byt s else
   match H.loadN b o (n*esz) with
   |some l=>if l.all AV.one=true then H.append ty esz byt s (.li l) n else none
   |none=>none
  |some s,some (.os b n)=>if n=0 then i8 H ty esz byt s else
   match H.loadN b 0 (n*esz) with
   |some l=>if l.all AV.one=true then H.append ty esz byt s (.li l) n else none
   |none=>none
  |some s,some .sl0=>i8 H ty esz byt s
  |some s,some (.fs esz' n row)=>if esz'=esz then H.append ty esz byt s (.fn (n*esz) (λi=>row (i / esz) (i%esz))) n else none
  |_,_=>none
def AP.r_apm(e:Tr AV)(H:AH)(ty:Nat)(esz:Nat)(byt:Nat)(z:List AV)(s:AX)(n:AX):Option (AV×AH):=match s.ev e,n.ev e with
  |some .sl0,some (.n .i64 a)=>if H.next+1<2^40/\0<a/\a<=16777216/\byt*a.toNat<=140737488355328/\z.length=esz/\0<esz/\a.toNat*esz<2^40 then some (.os H.next a.toNat,H.new (ai ty esz a.toNat 0 (λ_ j=>z[j]?.getD .u))) else none
  |_,_=>none
def AP.run(e:Tr AV)(H:AH):AP->Option (AV×AH)
 |.mv x=>AP.r_mv e H x
 |.pick c a b=>AP.r_pick e H c a b
 |.ld n row x=>AP.r_ld e H n row x
 |.st n x v=>AP.r_st e H n x v
 |.nc x=>AP.r_nc e H x
 |.bin op x y=>AP.r_bin e H op x y
 |.un op x=>AP.r_un e H op x
 |.cvi k x=>AP.r_cvi e H k x
 |.fa off x=>AP.r_fa e H off x
 |.fd off n row x=>AP.r_fd e H off n row x
 |.ia esz x i=>AP.r_ia e H esz x i
 |.iaa m esz x i=>AP.r_iaa e H m esz x i
 |.ext i x=>AP.r_ext e H i x
 |.len x=>AP.r_len e H x
 |.cpc x=>AP.r_cpc e H x
 |.clr z x=>AP.r_clr e H z x
 |.mf g first cap=>AP.r_mf e H g first cap
 |.al ty cells=>AP.r_al e H ty cells
 |.bx ty n x=>AP.r_bx e H ty n x
 |.bd cells parts=>AP.r_bd e H cells parts
 |.bs ty esz n cells parts=>AP.r_bs e H ty esz n cells parts
 |.ms ty esz byt z n c=>AP.r_ms e H ty esz byt z n c
 |.sl esz x lo hi=>AP.r_sl e H esz x lo hi
 |.se x lo hi mx=>AP.r_se e H x lo hi mx
 |.eq neg s x y=>AP.r_eq e H neg s x y
 |.lns x=>AP.r_lns e H x
 |.sx x i=>AP.r_sx e H x i
 |.ix m esz row x i=>AP.r_ix e H m esz row x i
 |.app ty esz byt s x=>AP.r_app e H ty esz byt s x
 |.apm ty esz byt z s n=>AP.r_apm e H ty esz byt z s n
end Go.Proofs.YtdpkgnmmikebdaaGreat