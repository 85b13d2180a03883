/- A part of the proof of CostLimits. No condition. -/
import Derived.WalkKit
import Derived.Test.YtdpkgnmmikebdaaGreatGi00
set_option linter.unusedSimpArgs false
set_option linter.unusedVariables false
set_option linter.constructorNameAsVariable false
set_option maxRecDepth 100000
set_option maxHeartbeats 4000000
namespace Go.Proofs.YtdpkgnmmikebdaaGreat
open Go.RowKit
/-! ### a trie over the numbers-/
inductive Tr(α:Type) where
 |nil
 |node (v:Option α) (l r:Tr α)
def Tr.get{α:Type}:Tr α->Nat->Option α
 |.nil,_=>none
 |.node v l r,k=>Bool.casesOn (motive:=λ_=>Option α) (Nat.beq k 0) (Bool.casesOn (motive:=λ_=>Option α) (Nat.beq (Nat.mod k 2) 1) (r.get (Nat.sub (Nat.div k 2) 1)) (l.get (Nat.div k 2))) v
def Tr.set{α:Type}(f:Nat):Tr α->Nat->α->Tr α:=Nat.rec (motive:=λ_=>Tr α->Nat->α->Tr α) (λt _ _=>t)
 (λ_ ih t k x=>Tr.casesOn (motive:=λ_=>Tr α) t
  (Bool.casesOn (motive:=λ_=>Tr α) (Nat.beq k 0) (Bool.casesOn (motive:=λ_=>Tr α) (Nat.beq (Nat.mod k 2) 1) (.node none .nil (ih .nil (Nat.sub (Nat.div k 2) 1) x)) (.node none (ih .nil (Nat.div k 2) x) .nil)) (.node (some x) .nil .nil))
  (λv l r=>Bool.casesOn (motive:=λ_=>Tr α) (Nat.beq k 0) (Bool.casesOn (motive:=λ_=>Tr α) (Nat.beq (Nat.mod k 2) 1) (.node v l (ih r (Nat.sub (Nat.div k 2) 1) x)) (.node v (ih l (Nat.div k 2) x) r)) (.node (some x) l r))) f
theorem rA{β:Type}(a b c:β)(k:Nat):(Bool.casesOn (motive:=λ_=>β) (Nat.beq k 0) (Bool.casesOn (motive:=λ_=>β) (Nat.beq (Nat.mod k 2) 1) c b) a:β)=if k=0 then a else if k%2=1 then b else c:=by
 by_cases h0:k=0
 ·subst h0;rfl
 have e0:Nat.beq k 0=false:=by cases k<;>first|rfl|omega
 rw[if_neg h0,e0];by_cases h1:k%2=1
 ·rw[if_pos h1];show(Bool.casesOn (motive:=λ_=>β) (Nat.beq (k%2) 1) _ _:β)=_;rw[h1];rfl
 ·rw[if_neg h1];have h2:k%2=0:=aa;show(Bool.casesOn (motive:=λ_=>β) (Nat.beq (k%2) 1) _ _:β)=_;rw[h2];rfl
theorem Tr.get_nil{α:Type}(k:Nat):(Tr.nil:Tr α).get k=none:=rfl
theorem Tr.get_node{α:Type}(v:Option α)(l r:Tr α)(k:Nat):(Tr.node v l r).get k=if k=0 then v else if k%2=1 then l.get (k / 2) else r.get (k / 2-1):=rA v (l.get (k / 2)) (r.get (k / 2-1)) k
theorem Tr.set_zero{α:Type}(t:Tr α)(k:Nat)(x:α):Tr.set 0 t k x=t:=rfl
theorem Tr.set_nil{α:Type}(f k:Nat)(x:α):Tr.set (f+1) .nil k x=if k=0 then .node (some x) .nil .nil else if k%2=1 then .node none (Tr.set f .nil (k / 2) x) .nil else .node none .nil (Tr.set f .nil (k / 2-1) x):=rA _ _ _ k
theorem Tr.set_node{α:Type}(f:Nat)(v:Option α)(l r:Tr α)(k:Nat)(x:α):Tr.set (f+1) (.node v l r) k x=if k=0 then .node (some x) l r else if k%2=1 then .node v (Tr.set f l (k / 2) x) r else .node v l (Tr.set f r (k / 2-1) x):=rA _ _ _ k
theorem Tr.get_set{α:Type}:∀(f:Nat) (t:Tr α) (k:Nat) (x:α) (j:Nat),k+1<2^f->(Tr.set f t k x).get j=if j=k then some x else t.get j
 |0,t,k,x,j,h=>by omega
 |f+1,t,k,x,j,h=>by
  have hp:2^(f+1)=2*2^f:=by rw[Nat.pow_succ,apT]
  have ho:∀(l:Tr α),k≠0->k%2=1->(Tr.set f l (k / 2) x).get (j / 2)=if j / 2=k / 2 then some x else l.get (j / 2):=λl h1 h2=>Tr.get_set f l (k / 2) x (j / 2) aa
  have he:∀(l:Tr α),k≠0->k%2≠1->(Tr.set f l (k / 2-1) x).get (j / 2-1)=if j / 2-1=k / 2-1 then some x else l.get (j / 2-1):=λl h1 h2=>Tr.get_set f l (k / 2-1) x (j / 2-1) aa
  cases t with
  |nil=>
   rw[Tr.set_nil];by_cases k0:k=0
   ·exact aqo
   rw[if_neg k0];by_cases k1:k%2=1
   ·rw[if_pos k1];simp only[Tr.get_node,Tr.get_nil];by_cases j0:j=0
    ·rw[if_pos j0,if_neg aa]
    rw[if_neg j0];by_cases j1:j%2=1
    ·rw[if_pos j1,ho _ k0 k1];by_cases e:j=k
     ·rw[if_pos e,if_pos aa]
     ·rw[if_neg e,if_neg aa];simp[Tr.get_nil]
    ·rw[if_neg j1,if_neg (by intro e;subst e;exact j1 k1)]
   ·rw[if_neg k1];simp only[Tr.get_node,Tr.get_nil];by_cases j0:j=0
    ·rw[if_pos j0,if_neg aa]
    rw[if_neg j0];by_cases j1:j%2=1
    ·rw[if_pos j1,if_neg (by intro e;subst e;exact k1 j1)]
    ·rw[if_neg j1,he _ k0 k1];by_cases e:j=k
     ·rw[if_pos e,if_pos aa]
     ·rw[if_neg e,if_neg aa];simp[Tr.get_nil]
  |node v l r=>
   rw[Tr.set_node];by_cases k0:k=0
   ·exact aqo
   rw[if_neg k0];by_cases k1:k%2=1
   ·rw[if_pos k1];simp only[Tr.get_node,Tr.get_nil];by_cases j0:j=0
    ·rw[if_pos j0,if_pos j0,if_neg aa]
    rw[if_neg j0,if_neg j0];by_cases j1:j%2=1
    ·rw[if_pos j1,if_pos j1,ho _ k0 k1];by_cases e:j=k
     ·rw[if_pos e,if_pos aa]
     ·rw[if_neg e,if_neg aa]
    ·rw[if_neg j1,if_neg j1,if_neg (by intro e;subst e;exact j1 k1)]
   ·rw[if_neg k1];simp only[Tr.get_node,Tr.get_nil];by_cases j0:j=0
    ·rw[if_pos j0,if_pos j0,if_neg aa]
    rw[if_neg j0,if_neg j0];by_cases j1:j%2=1
    ·rw[if_pos j1,if_pos j1,if_neg (by intro e;subst e;exact k1 j1)]
    ·rw[if_neg j1,if_neg j1,he _ k0 k1];by_cases e:j=k
     ·rw[if_pos e,if_pos aa]
     ·rw[if_neg e,if_neg aa]
attribute [irreducible] Tr.set
/-! ### values and memory-/
inductive AV where
 |u
 |b (x:Bool)
 |n (k:IntKind) (x:Int)
 |s (x:ByteArray)
 |p0
 |p (blk off:Nat)
 |sl0
 |sl (blk off len cap:Nat)
 |f0
 |f (g:FuncId) (first cap:List AV)
 |agg (l:List AV)
 |tup (l:List AV)
 |cv (v:Value)
 |fs (esz len:Nat) (row:Nat->Nat->AV)
 |fp (esz:Nat) (row:Nat->AV) (j:Nat)
 |os (blk len:Nat)
 |bx (n:Nat) (row:Nat->AV)
 |fw (esz len:Nat) (row:Nat->Nat->AV)
 |mh (blk:Nat)
 |ow
def AV.one:AV->Bool
 |.agg _| .tup _| .u=>false
 |_=>true
def AV.pu:Nat->AV->Bool
 |_,.b _|_,.n _ _|_,.s _|_,.p0|_,.sl0|_,.f0|_,.cv _|_,.fs _ _ _|_,.fp _ _ _|_,.bx _ _|_,.fw _ _ _|_,.ow=>true
 |k+1,.f _ l1 l2=>l1.all (AV.pu k)&&l2.all (AV.pu k)
 |k+1,.agg l=>l.all (AV.pu k)
 |k+1,.tup l=>l.all (AV.pu k)
 |_,_=>false
def AV.cell(v:AV):Bool:=v.pu 3&&v.one
def AV.flat0:AV->Bool
 |.b _| .n _ _| .s _| .p0| .sl0| .f0| .cv _| .ow| .f _ [] []=>true
 |_=>false
def AV.flat:AV->Bool
 |.agg l=>l.all AV.flat0
 |v=>v.flat0
structure AB where
 size:Nat
 esz:Nat
 ty:TypeId
 dflt:Nat->AV
 cells:Tr AV
 opn:Bool
 live:Bool
 fzn:Nat
def fg(ty esz n z:Nat)(row:Nat->Nat->AV):AB:=⟨n*esz,esz,ty,λi=>row (i / esz) (i%esz),.nil,true,true,z⟩
def AB.get(b:AB)(i:Nat):AV:=(b.cells.get i).getD (b.dflt i)
def AB.set(b:AB)(i:Nat)(v:AV):AB:={b with cells:=Tr.set 48 b.cells i v}
def wR(t:Tr AV)(o:Nat)(l:List AV):Tr AV:=(l.foldl (λ(p:Tr AV×Nat) v=>(Tr.set 48 p.1 p.2 v,p.2+1)) (t,o)).1
def oh(l:List AV):Tr AV:=wR .nil 0 l
structure nG where
 own:Bool
 get:Int->Option AV
 cnt:Nat
 stp:Option (Int×Int)
structure Dn where
 m:Nat
 old:Int->Bool
 seen:Int->Bool
 cur:Option (Int×AV)
inductive OB where
 |mp (x:nG)
 |it (x:Dn)
 |fix (o:Obj)
structure AH where
 blks:Tr AB
 next:Nat
 low:Nat
 ob:Nat->Option OB:=λ_=>none
 mp:List (Nat×List (Int×AV)):=[]
def qv:List (Nat×List (Int×AV))->Nat->Option (List (Int×AV))
 |[],_=>none
 |(b',d)::l,b=>if b'=b then some d else qv l b
def Et(l:List (Nat×List (Int×AV)))(b:Nat)(d:List (Int×AV)):List (Nat×List (Int×AV)):=match l with
 |[]=>[(b,d)]
 |(b',d')::l=>if b'=b then(b,d)::l else(b',d')::Et l b d
def nh:List (Int×AV)->Int->Option AV
 |[],_=>none
 |(k',v)::l,k=>if k'=k then some v else nh l k
def zl(l:List (Int×AV))(k:Int)(v:AV):List (Int×AV):=match l with
 |[]=>[(k,v)]
 |(k',v')::l=>if k'=k then(k,v)::l else(k',v')::zl l k v
def AH.at(H:AH)(b:Nat):Option AB:=match H.blks.get b with
 |some x=>if x.live then some x else none
 |none=>none
def AH.load(H:AH)(b o:Nat):Option AV:=match H.at b with
 |some x=>if o<x.size then some (x.get o) else none
 |none=>none
def AH.loadN(H:AH)(b o:Nat):Nat->Option (List AV)
 |0=>some []
 |n+1=>match H.load b o with
  |some v=>(H.loadN b (o+1) n).map (v:: ·)
  |none=>none
def AH.put(H:AH)(b:Nat)(x:AB):AH:={H with blks:=Tr.set 48 H.blks b x}
def AH.store(H:AH)(b o:Nat)(v:AV):Option AH:=match H.at b with
 |some x=>if o<x.size/\x.fzn<=o then some {H with blks:=Tr.set 48 H.blks b (x.set o v),low:=min H.low b} else none
 |none=>none
def AH.storeN(H:AH)(b o:Nat):List AV->Option AH
 |[]=>some H
 |v::l=>match H.store b o v with
  |some H'=>H'.storeN b (o+1) l
  |none=>none
def AH.new(H:AH)(x:AB):AH:={H with blks:=Tr.set 48 H.blks H.next x,next:=H.next+1}
abbrev aq(n:Int):AV:=.n .i64 n
end Go.Proofs.YtdpkgnmmikebdaaGreat