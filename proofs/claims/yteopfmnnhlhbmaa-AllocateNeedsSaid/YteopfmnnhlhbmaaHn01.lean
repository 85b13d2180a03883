/- A part of the proof of AllocateNeeds: EvA Pure Pm Pn. No condition. -/
import Derived.WalkKit
set_option linter.unusedSimpArgs false
set_option linter.unusedVariables false
set_option linter.constructorNameAsVariable false
set_option maxRecDepth 100000
set_option maxHeartbeats 4000000
namespace Go.Proofs.Yteopfmnnhlhbmaa
open Go.RowKit
/-! ### a trie over the numbers-/
inductive Tr(α:Type) where
 |nil
 |node (v:Option α) (l r:Tr α)
def Tr.get{α:Type}:Tr α->Nat->Option α
 |.nil,_=>none
 |.node v l r,k=>if k=0 then v else if k%2=1 then l.get (k / 2) else r.get (k / 2-1)
def Tr.set{α:Type}:Nat->Tr α->Nat->α->Tr α
 |0,t,_,_=>t
 |f+1,.nil,k,x=>if k=0 then .node (some x) .nil .nil else if k%2=1 then .node none (Tr.set f .nil (k / 2) x) .nil else .node none .nil (Tr.set f .nil (k / 2-1) x)
 |f+1,.node v l r,k,x=>if k=0 then .node (some x) l r else if k%2=1 then .node v (Tr.set f l (k / 2) x) r else .node v l (Tr.set f r (k / 2-1) x)
theorem Tr.get_set{α:Type}:∀(f:Nat) (t:Tr α) (k:Nat) (x:α) (j:Nat),k+1<2^f->(Tr.set f t k x).get j=if j=k then some x else t.get j
 |0,t,k,x,j,h=>by omega
 |f+1,t,k,x,j,h=>by
  have hp:2^(f+1)=2*2^f:=by rw[Nat.pow_succ,Nat.mul_comm]
  have ho:∀(l:Tr α),k≠0->k%2=1->(Tr.set f l (k / 2) x).get (j / 2)=if j / 2=k / 2 then some x else l.get (j / 2):=λl h1 h2=>Tr.get_set f l (k / 2) x (j / 2) (by omega)
  have he:∀(l:Tr α),k≠0->k%2≠1->(Tr.set f l (k / 2-1) x).get (j / 2-1)=if j / 2-1=k / 2-1 then some x else l.get (j / 2-1):=λl h1 h2=>Tr.get_set f l (k / 2-1) x (j / 2-1) (by omega)
  cases t with
  |nil=>
   unfold Tr.set
   by_cases k0:k=0
   ·rw[if_pos k0];subst k0
    simp only[Tr.get]
    split<;>simp
   rw[if_neg k0]
   by_cases k1:k%2=1
   ·rw[if_pos k1]
    simp only[Tr.get]
    by_cases j0:j=0
    ·rw[if_pos j0,if_neg (by omega)]
    rw[if_neg j0]
    by_cases j1:j%2=1
    ·rw[if_pos j1,ho _ k0 k1]
     by_cases e:j=k
     ·rw[if_pos e,if_pos (by omega)]
     ·rw[if_neg e,if_neg (by omega)];simp[Tr.get]
    ·rw[if_neg j1,if_neg (by intro e;subst e;exact j1 k1)]
   ·rw[if_neg k1]
    simp only[Tr.get]
    by_cases j0:j=0
    ·rw[if_pos j0,if_neg (by omega)]
    rw[if_neg j0]
    by_cases j1:j%2=1
    ·rw[if_pos j1,if_neg (by intro e;subst e;exact k1 j1)]
    ·rw[if_neg j1,he _ k0 k1]
     by_cases e:j=k
     ·rw[if_pos e,if_pos (by omega)]
     ·rw[if_neg e,if_neg (by omega)];simp[Tr.get]
  |node v l r=>
   unfold Tr.set
   by_cases k0:k=0
   ·rw[if_pos k0];subst k0
    simp only[Tr.get]
    split<;>simp
   rw[if_neg k0]
   by_cases k1:k%2=1
   ·rw[if_pos k1]
    simp only[Tr.get]
    by_cases j0:j=0
    ·rw[if_pos j0,if_pos j0,if_neg (by omega)]
    rw[if_neg j0,if_neg j0]
    by_cases j1:j%2=1
    ·rw[if_pos j1,if_pos j1,ho _ k0 k1]
     by_cases e:j=k
     ·rw[if_pos e,if_pos (by omega)]
     ·rw[if_neg e,if_neg (by omega)]
    ·rw[if_neg j1,if_neg j1,if_neg (by intro e;subst e;exact j1 k1)]
   ·rw[if_neg k1]
    simp only[Tr.get]
    by_cases j0:j=0
    ·rw[if_pos j0,if_pos j0,if_neg (by omega)]
    rw[if_neg j0,if_neg j0]
    by_cases j1:j%2=1
    ·rw[if_pos j1,if_pos j1,if_neg (by intro e;subst e;exact k1 j1)]
    ·rw[if_neg j1,if_neg j1,he _ k0 k1]
     by_cases e:j=k
     ·rw[if_pos e,if_pos (by omega)]
     ·rw[if_neg e,if_neg (by omega)]
/-! ### values and memory-/
inductive AV where
 |u
 |b (x:Bool)
 |n (k:IntKind) (x:Int)
 |s (x:ByteArray)
 |p0
 |p (blk off:Nat)
 |sl0
 |sl (blk off len cap:Nat)
 |f0
 |f (g:FuncId) (first cap:List AV)
 |agg (l:List AV)
 |tup (l:List AV)
 |cv (v:Value)
 |fs (esz len:Nat) (row:Nat->Nat->AV)
 |fp (esz:Nat) (row:Nat->AV) (j:Nat)
 |os (blk len:Nat)
 |bx (n:Nat) (row:Nat->AV)
def AV.one:AV->Bool
 |.agg _| .tup _| .u=>false
 |_=>true
def AV.pu:Nat->AV->Bool
 |_,.b _|_,.n _ _|_,.s _|_,.p0|_,.sl0|_,.f0|_,.cv _|_,.fs _ _ _|_,.fp _ _ _|_,.bx _ _=>true
 |k+1,.f _ l1 l2=>l1.all (AV.pu k)&&l2.all (AV.pu k)
 |k+1,.agg l=>l.all (AV.pu k)
 |k+1,.tup l=>l.all (AV.pu k)
 |_,_=>false
def AV.cell(v:AV):Bool:=v.pu 3&&v.one
def AV.flat:AV->Bool
 |.b _| .n _ _| .s _| .p0| .sl0| .f0| .cv _=>true
 |_=>false
structure AB where
 size:Nat
 esz:Nat
 ty:TypeId
 dflt:Nat->AV
 cells:Tr AV
 opn:Bool
 live:Bool
 fzn:Nat
def aH(ty esz n z:Nat)(row:Nat->Nat->AV):AB:=⟨n*esz,esz,ty,λi=>row (i / esz) (i%esz),.nil,true,true,z⟩
def AB.get(b:AB)(i:Nat):AV:=(b.cells.get i).getD (b.dflt i)
def AB.set(b:AB)(i:Nat)(v:AV):AB:={b with cells:=Tr.set 48 b.cells i v}
def pO(t:Tr AV)(o:Nat)(l:List AV):Tr AV:=(l.foldl (λ(p:Tr AV×Nat) v=>(Tr.set 48 p.1 p.2 v,p.2+1)) (t,o)).1
def eB(l:List AV):Tr AV:=pO .nil 0 l
structure dl where
 own:Bool
 get:Int->Option AV
 cnt:Nat
 stp:Option (Int×Int)
structure mP where
 m:Nat
 old:Int->Bool
 seen:Int->Bool
 cur:Option (Int×AV)
inductive OB where
 |mp (x:dl)
 |it (x:mP)
 |fix (o:Obj)
structure AH where
 blks:Tr AB
 next:Nat
 low:Nat
 ob:Nat->Option OB:=λ_=>none
def AH.at(H:AH)(b:Nat):Option AB:=match H.blks.get b with
 |some x=>if x.live then some x else none
 |none=>none
def AH.load(H:AH)(b o:Nat):Option AV:=match H.at b with
 |some x=>if o<x.size then some (x.get o) else none
 |none=>none
def AH.loadN(H:AH)(b o:Nat):Nat->Option (List AV)
 |0=>some []
 |n+1=>match H.load b o with
  |some v=>(H.loadN b (o+1) n).map (v:: ·)
  |none=>none
def AH.put(H:AH)(b:Nat)(x:AB):AH:={H with blks:=Tr.set 48 H.blks b x}
def AH.store(H:AH)(b o:Nat)(v:AV):Option AH:=match H.at b with
 |some x=>if o<x.size/\x.fzn<=o then some {H with blks:=Tr.set 48 H.blks b (x.set o v),low:=min H.low b} else none
 |none=>none
def AH.storeN(H:AH)(b o:Nat):List AV->Option AH
 |[]=>some H
 |v::l=>match H.store b o v with
  |some H'=>H'.storeN b (o+1) l
  |none=>none
def AH.new(H:AH)(x:AB):AH:={H with blks:=Tr.set 48 H.blks H.next x,next:=H.next+1}
structure RI where
 op:Int
 to:Int
 a:Int
 b:Int
 arg:Int
structure Ar where
 word:Bool
 size:Int
def RI.cells(i:RI):List Value:=[.int .i64 i.op,.int .i64 i.to,.int .i64 i.a,.int .i64 i.b,.int .u32 i.arg]
def RI.val(i:RI):Value:= .agg #[.int .i64 i.op,.int .i64 i.to,.int .i64 i.a,.int .i64 i.b,.int .u32 i.arg]
def Ar.val(i:Ar):Value:= .agg #[.bool i.word,.int .i64 i.size]
def RI.zero:RI:=⟨0,0,0,0,0⟩
instance:Inhabited RI:=⟨RI.zero⟩
instance:Inhabited Ar:=⟨⟨false,0⟩⟩
def cH(op:Int):Bool:=decide (op=0\/op=32\/op=33\/op=38\/op=3\/op=23\/op=26\/op=36\/(8<=op/\op<=25))
def dT(op:Int):Bool:=decide (op=3\/op=23\/op=26\/op=36\/op=27\/op=30\/op=29\/op=34\/op=35\/op=37\/op=4\/(8<=op/\op<=25))
def ee(op:Int):Bool:=decide (op=4\/(8<=op/\op<=25/\op≠23))
def dA(op:Int):Bool:=decide (op=0\/op=3\/op=4\/(8<=op/\op<=38))
def ch(nA spills:Int)(op:Int):Int:=
 if op=0 then 4294967295 else if op=3\/op=4 then nA-1 else if op=35 then 15 else if op=29 then 65536 else if op=37\/op=38 then spills-1 else 0
def aF(regs:Int)(n:Int)(used:Bool):Bool:=if used then decide (0<=n/\n<regs) else decide (n= -1)
def dD(regs spills nA:Int)(i:RI):Int:=
 if dA i.op=false then 1
 else if aF regs i.to (cH i.op)=false\/aF regs i.a (dT i.op)=false\/aF regs i.b (ee i.op)=false\/ch nA spills i.op<i.arg then 2 else 0
structure NB where
 loop:Bool
 within:Bool
 other:Bool
deriving DecidableEq
def bG(o:List NB):NB:=o.getLast?.getD ⟨false,false,false⟩
def aD(op:Int)(o:List NB):Option (List NB):=
 if op=27 then(if o.length<8 then some (o++[⟨false,(bG o).within,false⟩]) else none)
 else if op=29 then(if o.length<8 then some (o++[⟨true,true,false⟩]) else none)
 else if op=28 then(if o≠[]/\(bG o).loop=false/\(bG o).other=false then some (o.dropLast++[⟨(bG o).loop,(bG o).within,true⟩]) else none)
 else if op=30 then(if(bG o).within=true then some o else none)
 else if op=31 then(if o≠[] then some o.dropLast else none)
 else some o
def aX:List RI->Nat->List NB->Int×Bool
 |[],k,o=>(k,decide (0<o.length))
 |i::l,k,o=>match aD i.op o with
  |some o'=>aX l (k+1) o'
  |none=>(k,true)
theorem jn{op:Int}{o o':List NB}(h:aD op o=some o')(hl:o.length<=8):o'.length<=8:=by
 unfold aD at h
 (repeat' split at h)<;>first|(cases h;done)|(cases h;simp_all;try omega)|(simp at h)
 all_goals (try (subst h))<;>simp_all<;>omega
theorem nJ(cd:List RI)(k:Nat)(hk:k<cd.length)(o o':List NB)(h:aD (cd.getD k default).op o=some o'):aX (cd.drop k) k o=aX (cd.drop (k+1)) (k+1) o':=by
 rw[List.drop_eq_getElem_cons hk,aX]
 rw[List.getD_eq_getElem?_getD,List.getElem?_eq_getElem hk,Option.getD_some] at h
 rw[h]
theorem qr(cd:List RI)(k:Nat)(hk:k<cd.length)(o:List NB)(h:aD (cd.getD k default).op o=none):aX (cd.drop k) k o=((k:Int),true):=by
 rw[List.drop_eq_getElem_cons hk,aX]
 rw[List.getD_eq_getElem?_getD,List.getElem?_eq_getElem hk,Option.getD_some] at h
 rw[h]
theorem xD(cd:List RI)(o:List NB):aX (cd.drop cd.length) cd.length o=((cd.length:Int),decide (0<o.length)):=by
 rw[List.drop_length,aX]
def eb(o:List NB):List Value:=o.flatMap λb=>[.bool b.loop,.bool b.within,.bool b.other]
theorem dY(l:List NB)(p:NB):eb (l++[p])=eb l++[.bool p.loop,.bool p.within,.bool p.other]:=by simp[eb]
theorem da(l:List NB):(eb l).length=l.length*3:=by
 induction l with
 |nil=>rfl
 |cons p l ih=>simp only[eb,List.flatMap_cons,List.length_append,List.length_cons,List.length_nil] at*;omega
theorem dK(l:List NB)(p:NB):bG (l++[p])=p:=by simp[bG]
def cy:List Ar->Int->Option Int
 |[],n=>some n
 |a::l,n=>if a.size<1\/65536<a.size then none else cy l (n+a.size)
def bW(regs spills nA:Int):List RI->Nat->Option (Int×Int)
 |[],_=>none
 |i::l,k=>if dD regs spills nA i≠0 then some ((k:Int),dD regs spills nA i) else bW regs spills nA l (k+1)
def bA(ars:List Ar)(regs spills:Int)(cd:List RI):Int×Int:=
 if 8<ars.length then(0,6) else
 match cy ars 0 with
 |none=>(0,2)
 |some n=>if 65536<n\/regs<0\/1024<regs\/spills<0\/1024<spills then(0,2) else
  if 16384<cd.length then(0,6) else
  match bW regs spills ars.length cd 0 with
  |some r=>r
  |none=>if(aX cd 0 []).2 then((aX cd 0 []).1,15) else(0,0)
end Go.Proofs.Yteopfmnnhlhbmaa