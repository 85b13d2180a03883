/- A part of the proof of CostLimits. No condition. -/
import Derived.Test.YtdpkgnmmikebdaaGreatGi22
import Derived.Test.YtdpkgnmmikebdaaGreatGi23
import Derived.Test.YtdpkgnmmikebdaaGreatGi17
import Derived.Test.YtdpkgnmmikebdaaGreatGip
set_option linter.unusedSimpArgs false
set_option linter.unusedVariables false
set_option linter.constructorNameAsVariable false
set_option maxRecDepth 100000
set_option maxHeartbeats 4000000
namespace Go.Proofs.YtdpkgnmmikebdaaGreat
open Go.RowKit
theorem uO{α:Type}{p q:Prop}[Decidable p][Decidable q]{a b:α}(h:p↔q):(if p then a else b)=if q then a else b:=by simp only[h]
inductive Fo where
 |nil
 |pl (a b:Nat) (r:Fo)
 |br (op:Int) (a b:Nat) (x y:Fo) (r:Fo)
def Fo.len:Fo->Nat
 |.nil=>0
 |.pl _ _ r=>r.len+1
 |.br _ _ _ _ _ r=>r.len+1
def Fo.cell:Fo->Nat->Nat->AV
 |.nil,_,_=> .u
 |.pl a b r,i,j=>match i with
  |0=>if j=0 then aq (-1) else if j=1 then aq a else if j=2 then aq b else .sl0
  |i+1=>r.cell i j
 |.br op a b x y r,i,j=>match i with
  |0=>if j=0 then aq op else if j=1 then aq a else if j=2 then aq b else if j=3 then .fs 5 x.len x.cell else .fs 5 y.len y.cell
  |i+1=>r.cell i j
def Fo.app:Fo->Fo->Fo
 |.nil,z=>z
 |.pl a b r,z=> .pl a b (r.app z)
 |.br op a b x y r,z=> .br op a b x y (r.app z)
def Fo.lastOp:Fo->Int->Int
 |.nil,d=>d
 |.pl _ _ r,_=>r.lastOp (-1)
 |.br op _ _ _ _ r,_=>r.lastOp op
def Fo.lastB:Fo->Nat->Nat
 |.nil,d=>d
 |.pl _ b r,_=>r.lastB b
 |.br _ _ b _ _ r,_=>r.lastB b
def Fo.lastPl(f:Fo):Bool:=decide (f.lastOp 0= -1)
def Fo.bump:Fo->Fo
 |.nil=> .nil
 |.pl a b r=>if r.len=0 then .pl a (b+1) r else .pl a b r.bump
 |.br op a b x y r=>if r.len=0 then .br op a (b+1) x y r else .br op a b x y r.bump
def Fo.addPl(f:Fo)(p:Nat):Fo:=if f.lastPl=true then f.bump else f.app (.pl p (p+1) .nil)
theorem Fo.len_app:∀f z:Fo,(f.app z).len=f.len+z.len
 |.nil,z=>by simp[Fo.app,Fo.len]
 |.pl a b r,z=>by simp only[Fo.app,Fo.len,Fo.len_app r z];omega
 |.br op a b x y r,z=>by simp only[Fo.app,Fo.len,Fo.len_app r z];omega
theorem Fo.len_bump:∀f:Fo,f.bump.len=f.len
 |.nil=>rfl
 |.pl a b r=>by
  unfold Fo.bump;split
  ·rfl
  ·simp only[Fo.len,Fo.len_bump r]
 |.br op a b x y r=>by
  unfold Fo.bump;split
  ·rfl
  ·simp only[Fo.len,Fo.len_bump r]
theorem Fo.len0:∀{f:Fo},f.len=0->f= .nil
 |.nil,_=>rfl
 |.pl _ _ _,h=>by simp[Fo.len] at h
 |.br _ _ _ _ _ _,h=>by simp[Fo.len] at h
theorem Fo.cell_last:∀(f:Fo) (d:Int) (d2:Nat),0<f.len->f.cell (f.len-1) 0= aq (f.lastOp d)/\f.cell (f.len-1) 2= aq (f.lastB d2)
 |.nil,_,_,h=>absurd h (apJ _)
 |.pl a b r,d,d2,_=>by
  by_cases h:r.len=0
  ·obtain rfl:=Fo.len0 h;exact⟨rfl,rfl⟩
  ·have:=Fo.cell_last r (-1) b aa;simp only[Fo.len,Fo.lastOp,Fo.lastB,Nat.add_sub_cancel];rw[show r.len=(r.len-1)+1 by omega]
   simp only[Fo.cell];exact this
 |.br op a b x y r,d,d2,_=>by
  by_cases h:r.len=0
  ·obtain rfl:=Fo.len0 h;exact⟨rfl,rfl⟩
  ·have:=Fo.cell_last r op b aa;simp only[Fo.len,Fo.lastOp,Fo.lastB,Nat.add_sub_cancel];rw[show r.len=(r.len-1)+1 by omega]
   simp only[Fo.cell];exact this
theorem Fo.cell_bump:∀(f:Fo) (d2 i j:Nat),i<f.len->f.bump.cell i j=if i=f.len-1/\j=2 then aq ((f.lastB d2+1:Nat):Int) else f.cell i j
 |.nil,_,_,_,h=>absurd h (apg _)
 |.pl a b r,d2,i,j,hi=>by
  by_cases h:r.len=0
  ·obtain rfl:=Fo.len0 h;obtain rfl:i=0:=by simp[Fo.len] at hi;omega
   simp only[Fo.bump,Fo.len,if_true,Fo.cell,Fo.lastB,true_and];by_cases h2:j=2
   ·subst h2;rfl
   ·simp[h2]
  ·simp only[Fo.bump,if_neg h,Fo.len,Nat.add_sub_cancel,Fo.lastB] at hi ⊢;cases i with
   |zero=>rw[if_neg aa];rfl
   |succ i=>
    simp only[Fo.cell];rw[Fo.cell_bump r b i j aa];by_cases h3:i=r.len-1
    ·rw[uO (show(i=r.len-1/\j=2)↔(i+1=r.len/\j=2) by omega)]
    ·rw[if_neg aa,if_neg aa]
 |.br op a b x y r,d2,i,j,hi=>by
  by_cases h:r.len=0
  ·obtain rfl:=Fo.len0 h;obtain rfl:i=0:=by simp[Fo.len] at hi;omega
   simp only[Fo.bump,Fo.len,if_true,Fo.cell,Fo.lastB,true_and];by_cases h2:j=2
   ·subst h2;rfl
   ·simp[h2]
  ·simp only[Fo.bump,if_neg h,Fo.len,Nat.add_sub_cancel,Fo.lastB] at hi ⊢;cases i with
   |zero=>rw[if_neg aa];rfl
   |succ i=>
    simp only[Fo.cell];rw[Fo.cell_bump r b i j aa];by_cases h3:i=r.len-1
    ·rw[uO (show(i=r.len-1/\j=2)↔(i+1=r.len/\j=2) by omega)]
    ·rw[if_neg aa,if_neg aa]
theorem Fo.lastB_app:∀(f z:Fo) (d:Nat),(f.app z).lastB d=z.lastB (f.lastB d)
 |.nil,_,_=>rfl
 |.pl _ b r,z,d=>Fo.lastB_app r z b
 |.br _ _ b _ _ r,z,d=>Fo.lastB_app r z b
theorem Fo.lastB_bump:∀(f:Fo) (d:Nat),0<f.len->f.bump.lastB d=f.lastB d+1
 |.nil,_,h=>absurd h (apJ _)
 |.pl _ b r,d,_=>by
  unfold Fo.bump;split
  ·rename_i h;obtain rfl:=Fo.len0 h;rfl
  ·exact Fo.lastB_bump r b aa
 |.br _ _ b _ _ r,d,_=>by
  unfold Fo.bump;split
  ·rename_i h;obtain rfl:=Fo.len0 h;rfl
  ·exact Fo.lastB_bump r b aa
theorem Fo.last_len:∀{f:Fo},f.lastPl=true->0<f.len
 |.nil,h=>by simp[Fo.lastPl,Fo.lastOp] at h
 |.pl _ _ r,_=>Nat.succ_pos _
 |.br _ _ _ _ _ r,_=>Nat.succ_pos _
theorem Fo.cell_app:∀(f z:Fo) (i j:Nat),(f.app z).cell i j=if i<f.len then f.cell i j else z.cell (i-f.len) j
 |.nil,z,i,j=>by simp[Fo.app,Fo.len]
 |.pl a b r,z,0,j=>by simp[Fo.app,Fo.len,Fo.cell]
 |.br op a b x y r,z,0,j=>by simp[Fo.app,Fo.len,Fo.cell]
 |.pl a b r,z,i+1,j=>by
  simp only[Fo.app,Fo.len,Fo.cell,Fo.cell_app r z i j,Nat.add_lt_add_iff_right,Nat.add_sub_add_right]
 |.br op a b x y r,z,i+1,j=>by
  simp only[Fo.app,Fo.len,Fo.cell,Fo.cell_app r z i j,Nat.add_lt_add_iff_right,Nat.add_sub_add_right]
theorem Fo.cell_ok:∀(f:Fo) (i j:Nat),i<f.len->(f.cell i j).cell=true
 |.nil,i,j,h=>absurd h (apg i)
 |.pl a b r,0,j,h=>by
  simp only[Fo.cell]
  repeat' split
  all_goals rfl
 |.br op a b x y r,0,j,h=>by
  simp only[Fo.cell]
  repeat' split
  all_goals rfl
 |.pl a b r,i+1,j,h=>by
  simp only[Fo.cell];exact Fo.cell_ok r i j (by simp only[Fo.len] at h;omega)
 |.br op a b x y r,i+1,j,h=>by
  simp only[Fo.cell];exact Fo.cell_ok r i j (by simp only[Fo.len] at h;omega)
theorem Fo.cell_pu:∀(f:Fo) (i j:Nat),i<f.len->(f.cell i j).pu 3=true
 |.nil,i,j,h=>absurd h (apg i)
 |.pl a b r,0,j,h=>by
  simp only[Fo.cell]
  repeat' split
  all_goals rfl
 |.br op a b x y r,0,j,h=>by
  simp only[Fo.cell]
  repeat' split
  all_goals rfl
 |.pl a b r,i+1,j,h=>by
  simp only[Fo.cell];exact Fo.cell_pu r i j (by simp only[Fo.len] at h;omega)
 |.br op a b x y r,i+1,j,h=>by
  simp only[Fo.cell];exact Fo.cell_pu r i j (by simp only[Fo.len] at h;omega)
theorem Fo.cell_nm(q:Nat->Bool):∀(f:Fo) (i j:Nat),i<f.len->(f.cell i j).nm q 3=true
 |.nil,i,j,h=>absurd h (apg i)
 |.pl a b r,0,j,h=>by
  simp only[Fo.cell]
  repeat' split
  all_goals rfl
 |.br op a b x y r,0,j,h=>by
  simp only[Fo.cell]
  repeat' split
  all_goals rfl
 |.pl a b r,i+1,j,h=>by
  simp only[Fo.cell];exact Fo.cell_nm q r i j (by simp only[Fo.len] at h;omega)
 |.br op a b x y r,i+1,j,h=>by
  simp only[Fo.cell];exact Fo.cell_nm q r i j (by simp only[Fo.len] at h;omega)
/-! ### the reader-/
def fm(cs:am)(p:Nat):Int:=(cs.getD p (0,0)).1
abbrev LR:=Fo×Nat×List Int×List Int
def hY(pt:List Int)(v:Int):List Int->List Int
 |[]=>pt
 |i::l=>hY (pt.set i.toNat v) v l
def ku(cs:am)(op:Int)(p last:Nat)(x y:Fo)(lv0:List Int)(p2:Nat)(pt lv:List Int):Option (Except Nat (Fo×Nat×List Int×List Int)):=
 if p2<cs.length/\fm cs p2=31 then
  some (.ok (.br op p (p2+1) x y .nil,p2+1,hY ((pt.set last p2).set p2 p) p2 (if op=29 then lv else[]),if op=29 then lv0 else lv))
 else some (.error p2)
def kW(cs:am)(L:Nat->Bool->Nat->List Int->List Int->Option (Except Nat LR))(d:Nat)(inL:Bool)(p:Nat)(pt lv:List Int):Option (Except Nat (Fo×Nat×List Int×List Int)):=
 if 8<d then some (.error p) else
 match L d (inL||decide (fm cs p=29)) (p+1) pt (if fm cs p=29 then[] else lv) with
 |none=>none
 |some (.error x)=>some (.error x)
 |some (.ok (x,p1,pt1,lv1))=>
  if fm cs p=27/\p1<cs.length/\fm cs p1=28 then
   match L d (inL||decide (fm cs p=29)) (p1+1) (pt1.set p p1) lv1 with
   |none=>none
   |some (.error x)=>some (.error x)
   |some (.ok (y,p2,pt2,lv2))=>ku cs (fm cs p) p p1 x y lv p2 pt2 lv2
  else ku cs (fm cs p) p p x .nil lv p1 pt1 lv1
def lst(cs:am):Nat->Nat->Bool->Nat->List Int->List Int->Fo->Option (Except Nat LR)
 |0,_,_,_,_,_,_=>none
 |f+1,d,inL,p,pt,lv,out=>
  if cs.length<=p then some (.ok (out,p,pt,lv)) else
  if fm cs p=28\/fm cs p=31 then some (.ok (out,p,pt,lv)) else
  if fm cs p=27\/fm cs p=29 then
   match kW cs (λd inL p pt lv=>lst cs f d inL p pt lv .nil) (d+1) inL p pt lv with
   |none=>none
   |some (.error x)=>some (.error x)
   |some (.ok (b,p',pt',lv'))=>lst cs f d inL p' pt' lv' (out.app b)
  else if fm cs p=30/\inL=false then some (.error p)
  else lst cs f d inL (p+1) pt (if fm cs p=30 then lv++[(p:Int)] else lv) (out.addPl p)
def LOk(cs:am)(p:Nat)(lv:List Int)(r:Except Nat LR):Prop:=∀o p1 pt1 lv1,r= .ok (o,p1,pt1,lv1)->p<=p1/\p1<=cs.length/\pt1.length=cs.length/\lv1.length<=p1/\∀x ∈ lv1,x ∈ lv\/(0<=x/\x<cs.length)
def Dd(cs:am)(L:Nat->Bool->Nat->List Int->List Int->Option (Except Nat LR)):Prop:=∀d inL p pt lv r,p<=cs.length->pt.length=cs.length->lv.length<=p->L d inL p pt lv=some r->LOk cs p lv r
theorem nL:∀(l pt:List Int) (v:Int),(hY pt v l).length=pt.length
 |[],_,_=>rfl
 |i::l,pt,v=>by rw[hY,nL l,aph]
theorem Bk{cs:am}{op:Int}{p last p2 q:Nat}{x y:Fo}{lv0 lv pt lvx:List Int}{r:Except Nat LR}(h:ku cs op p last x y lv0 p2 pt lv=some r)(hp:q<=p2)(hpt:pt.length=cs.length)(h0:lv0.length<=p2)(h1:lv.length<=p2)(hx:op=29->lv0=lvx)(hy:op≠29->∀x ∈ lv,x ∈ lvx\/(0<=x/\x<cs.length)):LOk cs (q+1) lvx r/\∀o p1 pt1 lv1,r= .ok (o,p1,pt1,lv1)->o= .br op p (p2+1) x y .nil/\p1=p2+1:=by
 rw[ku] at h;split at h
 ·rename_i hc;have:=apl h;subst this;refine⟨λo p1 pt1 lv1 he=>?_,λo p1 pt1 lv1 he=>?_⟩
  ·cases he;refine⟨aa,aa,by rw[nL,aph,aph];exact hpt,?_,?_⟩
   ·split<;>omega
   ·intro z hz;split at hz
    ·rename_i ho;exact .inl (hx ho ▸ hz)
    ·rename_i ho;exact hy ho z hz
  ·cases he;exact⟨rfl,rfl⟩
 ·exact arf
theorem ry{cs:am}{L:Nat->Bool->Nat->List Int->List Int->Option (Except Nat LR)}(hL:Dd cs L){d p:Nat}{inL:Bool}{pt lv:List Int}{r:Except Nat LR}(hp:p<cs.length)(hpt:pt.length=cs.length)(hlv:lv.length<=p)(h:kW cs L d inL p pt lv=some r):
  LOk cs (p+1) lv r/\∀o p1 pt1 lv1,r= .ok (o,p1,pt1,lv1)->∃x y,o= .br (fm cs p) p p1 x y .nil:=by
 rw[kW] at h;split at h
 ·exact arf
 split at h
 ·cases h
 ·exact arf
 ·rename_i x p1 pt1 lv1 hl;have e1:=hL _ _ _ _ _ _ aa hpt arh hl x p1 pt1 lv1 rfl
  obtain⟨f1,f2,f3,f4,f5⟩:=e1;split at h
  ·rename_i hc;split at h
   ·cases h
   ·exact arf
   ·rename_i y p2 pt2 lv2 hl2;obtain⟨g1,g2,g3,g4,g5⟩:=hL _ _ _ _ _ _ aa (by rw[aph];exact f3) aa hl2 y p2 pt2 lv2 rfl
    have h29:fm cs p≠29:=by rw[hc.1];decide
    rw[if_neg h29] at f5;obtain⟨k1,k2⟩:=Bk (q:=p) (lvx:=lv) h aa g3 aa g4 (λ_=>rfl) (λ_ z hz=>(g5 z hz).elim (f5 z) .inr);refine⟨k1,λo q qt ql he=>?_⟩;obtain⟨m1,m2⟩:=k2 o q qt ql he;exact⟨x,y,by rw[m1,m2]⟩
  ·obtain⟨k1,k2⟩:=Bk (q:=p) (lvx:=lv) h aa f3 aa f4 (λ_=>rfl) (λho z hz=>by rw[if_neg ho] at f5;exact f5 z hz)
   refine⟨k1,λo q qt ql he=>?_⟩;obtain⟨m1,m2⟩:=k2 o q qt ql he;exact⟨x,.nil,by rw[m1,m2]⟩
theorem jn{cs:am}:∀(f d:Nat) (inL:Bool) (p:Nat) (pt lv:List Int) (out:Fo) (r:Except Nat LR),p<=cs.length->pt.length=cs.length->lv.length<=p->lst cs f d inL p pt lv out=some r->LOk cs p lv r:=by
 intro f;induction f with
 |zero=>intro d inL p pt lv out r _ _ _ h;cases h
 |succ f ih=>
  intro d inL p pt lv out r hp hpt hlv h;have triv:∀r',some (Except.ok (out,p,pt,lv))=some r'->LOk cs p lv r':=λr' h=>by
   have:=apl h;subst this;intro o p1 pt1 lv1 he;cases he;exact⟨bL _,hp,hpt,hlv,λx hx=> .inl hx⟩
  rw[lst] at h;split at h
  ·exact triv r h
  split at h
  ·exact triv r h
  split at h
  ·split at h
   ·cases h
   ·exact ari
   ·rename_i b p' pt' lv' hb;obtain⟨f1,f2,f3,f4,f5⟩:=(ry (λd inL p pt lv r h1 h2 h3 h4=>ih d inL p pt lv .nil r h1 h2 h3 h4) aa hpt hlv hb).1 b p' pt' lv' rfl;have:=ih d inL p' pt' lv' (out.app b) r f2 f3 f4 h;intro o p1 pt1 lv1 he;obtain⟨g1,g2,g3,g4,g5⟩:=this o p1 pt1 lv1 he;exact⟨aa,g2,g3,g4,λx hx=>(g5 x hx).elim (f5 x) .inr⟩
  ·split at h
   ·exact ari
   ·have:=ih d inL (p+1) pt _ (out.addPl p) r aa hpt arh h
    intro o p1 pt1 lv1 he;obtain⟨g1,g2,g3,g4,g5⟩:=this o p1 pt1 lv1 he;refine⟨aa,g2,g3,g4,λx hx=>(g5 x hx).elim (λhx=>?_) .inr⟩;split at hx
    ·rcases apS.1 hx with hx|hx
     ·exact .inl hx
     ·simp at hx;subst hx;exact .inr ⟨aa,aa⟩
    ·exact .inl hx
structure RS where
 out:List Int
 op:List Nat
 ot:List Int
def nk(cs:am)(l:List Nat):Bool:=l.any λb=>decide (fm cs b=29)
def gC(cs:am)(i:Nat)(s:RS):Option RS:=
 if fm cs i=27\/fm cs i=29 then if s.op.length=8 then none else some ⟨s.out.set i (-1),i::s.op,-1::s.ot⟩
 else if fm cs i=28 then match s.op,s.ot with
  |b::op,c::ot=>if fm cs b≠27\/0<=c then none else some ⟨(s.out.set i (-1)).set b i,b::op,(i:Int)::ot⟩
  |_,_=>none
 else if fm cs i=30 then if nk cs s.op=true then some ⟨s.out.set i (-1),s.op,s.ot⟩ else none
 else if fm cs i=31 then match s.op,s.ot with
  |b::op,c::ot=>some ⟨if 0<=c then((s.out.set i (-1)).set i b).set c.toNat i else((s.out.set i (-1)).set i b).set b i,op,ot⟩
  |_,_=>none
 else some ⟨s.out.set i (-1),s.op,s.ot⟩
def gW(cs:am):Nat->Nat->RS->Except Nat RS
 |0,_,s=> .ok s
 |n+1,i,s=>match gC cs i s with
  |none=> .error i
  |some s'=>gW cs n (i+1) s'
theorem qY(cs:am):∀(n m i:Nat) (s:RS),gW cs (n+m) i s=match gW cs n i s with
  |.error x=> .error x
  |.ok s'=>gW cs m (i+n) s'
 |0,m,i,s=>by simp[gW]
 |n+1,m,i,s=>by
  rw[show n+1+m=(n+m)+1 by omega,gW,gW]
  cases gC cs i s with
  |none=>rfl
  |some s'=>
   dsimp only;rw[qY cs n m (i+1) s',show i+1+n=i+(n+1) by omega]
def Fo.pl1:Fo->Bool
 |.pl _ _ _=>true
 |_=>false
def fM(cs:am)(out:List Int):Fo->Nat->Nat->Prop
 |.nil,a,b=>a=b
 |.pl x y r,a,b=>x=a/\a<y/\(∀k,a<=k->k<y->fm cs k≠27/\fm cs k≠29/\fm cs k≠28/\fm cs k≠31)/\r.pl1=false/\fM cs out r y b
 |.br op x y u v r,a,b=>x=a/\fm cs a=op/\(op=27\/op=29)/\(∃m:Nat,out.getD a 0=m/\(a<m/\(op=29->fm cs m=31))/\m<b/\fM cs out u (a+1) m/\
   ((fm cs m=28/\∃e:Nat,out.getD m 0=e/\m<e/\e<b/\fM cs out v (m+1) e/\y=e+1)\/(fm cs m≠28/\v= .nil/\y=m+1)))/\fM cs out r y b
theorem fM.le{cs:am}{out:List Int}:∀{o:Fo} {a b:Nat},fM cs out o a b->a<=b
 |.nil,a,b,h=>Nat.le_of_eq h
 |.pl x y r,a,b,h=>by
  obtain⟨_,h1,_,_,h2⟩:=h;have:=fM.le h2;omega
 |.br op x y u v r,a,b,h=>by
  obtain⟨_,_,_,⟨m,_,h1,_,_,h2⟩,h3⟩:=h;have:=fM.le h3;rcases h2 with⟨_,e,_,h4,_,_,h5⟩|⟨_,_,h5⟩<;>omega
theorem fM.congr{cs:am}{out out2:List Int}:∀{o:Fo} {a b:Nat},fM cs out o a b->(∀k,a<=k->k<b->out2.getD k 0=out.getD k 0)->fM cs out2 o a b
 |.nil,a,b,h,_=>h
 |.pl x y r,a,b,h,hc=>by
  obtain⟨h0,h1,h2,h3,h4⟩:=h;have:=h4.le;exact⟨h0,h1,h2,h3,h4.congr λk k1 k2=>hc k aa k2⟩
 |.br op x y u v r,a,b,h,hc=>by
  obtain⟨h0,h1,h2,⟨m,g1,g2,g3,g4,g5⟩,h4⟩:=h;have hr:=h4.le;refine⟨h0,h1,h2,⟨m,by rw[hc a (bL _) aa];exact g1,g2,g3,g4.congr λk k1 k2=>hc k aa aa,?_⟩,h4.congr λk k1 k2=>hc k ?_ k2⟩
  ·rcases g5 with⟨q0,e,q1,q2,q3,q4,q5⟩|⟨q0,q1,q2⟩
   ·exact .inl ⟨q0,e,by rw[hc m aa g3];exact q1,q2,q3,q4.congr λk k1 k2=>hc k aa aa,q5⟩
   ·exact arm
  ·rcases g5 with⟨_,e,_,q2,_,_,q5⟩|⟨_,_,q2⟩<;>omega
theorem fM.congr30{cs:am}{out out2:List Int}:∀{o:Fo} {a b:Nat},fM cs out o a b->(∀k,fm cs k≠30->out2.getD k 0=out.getD k 0)->fM cs out2 o a b
 |.nil,a,b,h,_=>h
 |.pl x y r,a,b,h,hc=>by
  obtain⟨h0,h1,h2,h3,h4⟩:=h;exact⟨h0,h1,h2,h3,h4.congr30 hc⟩
 |.br op x y u v r,a,b,h,hc=>by
  obtain⟨h0,h1,h2,⟨m,g1,g2,g3,g4,g5⟩,h4⟩:=h;refine⟨h0,h1,h2,⟨m,by rw[hc a (by rw[h1];rcases h2 with h2|h2<;>rw[h2]<;>decide)];exact g1,g2,g3,g4.congr30 hc,?_⟩,h4.congr30 hc⟩
  rcases g5 with⟨q0,e,q1,q2,q3,q4,q5⟩|⟨q0,q1,q2⟩
  ·exact .inl ⟨q0,e,by rw[hc m (by rw[q0];decide)];exact q1,q2,q3,q4.congr30 hc,q5⟩
  ·exact arm
theorem fM.app{cs:am}{out:List Int}:∀{o z:Fo} {a b c:Nat},fM cs out o a b->fM cs out z b c->(o.lastPl=true->z.pl1=false)->fM cs out (o.app z) a c
 |.nil,z,a,b,c,h,hz,_=>by cases h;exact hz
 |.pl x y r,z,a,b,c,h,hz,hl=>by
  obtain⟨h0,h1,h2,h3,h4⟩:=h;refine⟨h0,h1,h2,?_,h4.app hz λhr=>hl ?_⟩
  ·cases r with
   |nil=>exact hl (by simp[Fo.lastPl,Fo.lastOp])
   |pl _ _ _=>exact h3
   |br _ _ _ _ _ _=>rfl
  ·cases r with
   |nil=>simp[Fo.lastPl,Fo.lastOp] at hr
   |pl _ _ _=>exact hr
   |br _ _ _ _ _ _=>exact hr
 |.br op x y u v r,z,a,b,c,h,hz,hl=>by
  obtain⟨h0,h1,h2,⟨m,g1,g2,g3,g4,g5⟩,h4⟩:=h;have hle:=hz.le;refine⟨h0,h1,h2,⟨m,g1,g2,aa,g4,?_⟩,h4.app hz λhr=>hl ?_⟩
  ·rcases g5 with⟨q0,e,q1,q2,q3,q4,q5⟩|⟨q0,q1,q2⟩
   ·exact .inl ⟨q0,e,q1,q2,aa,q4,q5⟩
   ·exact arm
  ·cases r with
   |nil=>simp[Fo.lastPl,Fo.lastOp] at hr
   |pl _ _ _=>exact hr
   |br _ _ _ _ _ _=>exact hr
theorem fM.bump{cs:am}{out:List Int}:∀{o:Fo} {a p:Nat},fM cs out o a p->o.lastPl=true->fm cs p≠27->fm cs p≠29->fm cs p≠28->fm cs p≠31->fM cs out o.bump a (p+1)
 |.nil,a,p,h,hl,_,_,_,_=>by simp[Fo.lastPl,Fo.lastOp] at hl
 |.pl x y r,a,p,h,hl,h27,h29,h28,h31=>by
  obtain⟨h0,h1,h2,h3,h4⟩:=h;unfold Fo.bump;cases r with
  |nil=>
   rw[if_pos (show Fo.nil.len=0 from rfl)];have hy:y=p:=h4;subst hy;refine⟨h0,aa,λk k1 k2=>?_,rfl,rfl⟩;by_cases e:k=y
   ·subst e;exact⟨h27,h29,h28,h31⟩
   ·exact h2 k k1 aa
  |pl x2 y2 r2=>cases h3
  |br op2 x2 y2 u2 v2 r2=>
   rw[if_neg (by simp[Fo.len])]
   refine⟨h0,h1,h2,?_,h4.bump hl h27 h29 h28 h31⟩;unfold Fo.bump;split<;>rfl
 |.br op x y u v r,a,p,h,hl,h27,h29,h28,h31=>by
  obtain⟨h0,h1,h2,⟨m,g1,g2,g3,g4,g5⟩,h4⟩:=h;unfold Fo.bump;have g5':((fm cs m=28/\∃e:Nat,out.getD m 0=e/\m<e/\e<p+1/\fM cs out v (m+1) e/\y=e+1)\/(fm cs m≠28/\v= .nil/\y=m+1)):=by
   rcases g5 with⟨q0,e,q1,q2,q3,q4,q5⟩|⟨q0,q1,q2⟩
   ·exact .inl ⟨q0,e,q1,q2,aa,q4,q5⟩
   ·exact arm
  cases r with
  |nil=>
   have:op= -1:=of_decide_eq_true (show decide (op= -1)=true from hl);rcases h2 with h2|h2<;>rw[h2] at this<;>cases this
  |pl x2 y2 r2=>
   rw[if_neg (by simp[Fo.len])]
   exact arn
  |br op2 x2 y2 u2 v2 r2=>
   rw[if_neg (by simp[Fo.len])]
   exact arn
theorem fM.addPl{cs:am}{out:List Int}{o:Fo}{a p:Nat}(h:fM cs out o a p)(h27:fm cs p≠27)(h29:fm cs p≠29)(h28:fm cs p≠28)(h31:fm cs p≠31):fM cs out (o.addPl p) a (p+1):=by
 unfold Fo.addPl;split
 ·rename_i hl;exact h.bump hl h27 h29 h28 h31
 ·rename_i hl;refine h.app (b:=p) ⟨rfl,aa,λk k1 k2=>?_,rfl,rfl⟩ (λhl2=>absurd hl2 hl);obtain rfl:k=p:=aa;exact⟨h27,h29,h28,h31⟩
theorem gS{l:List Int}{q i:Nat}{v:Int}(h:i≠q):(l.set q v).getD i 0=l.getD i 0:=by
 simp only[apd,List.getElem?_set];rw[if_neg (Ne.symm h)]
theorem nK{l:List Int}{q:Nat}{v:Int}(h:q<l.length):(l.set q v).getD q 0=v:=by
 rw[i5 h,if_pos rfl]
def iu(cs:am)(p:Nat)(s:RS)(x:Nat):Prop:=
 (x<cs.length/\gW cs (cs.length-p) p s= .error x)\/(x=cs.length/\∃s',gW cs (cs.length-p) p s= .ok s'/\s'.op≠[])
structure Gm(cs:am)(p:Nat)(s:RS)(p1:Nat)(s':RS):Prop where
 run:gW cs (p1-p) p s= .ok s'
 op:s'.op=s.op
 ot:s'.ot=s.ot
 len:s'.out.length=cs.length
 low:∀i,i<p->s'.out.getD i 0=s.out.getD i 0
def t8(cs:am)(p:Nat)(s:RS)(a:Nat):Except Nat LR->Prop
 |.error x=>p<=x/\iu cs p s x
 |.ok (o,p1,_,_)=>∃s',Gm cs p s p1 s'/\(p1=cs.length\/fm cs p1=28\/fm cs p1=31)/\fM cs s'.out o a p1
def My(cs:am)(p:Nat)(s:RS):Except Nat LR->Prop
 |.error x=>p<=x/\iu cs p s x
 |.ok (o,p1,_,_)=>∃s',Gm cs p s p1 s'/\fM cs s'.out o p p1
theorem iu.step{cs:am}{p:Nat}{s s1:RS}{x:Nat}(hp:p<cs.length)(h1:gC cs p s=some s1)(h:iu cs (p+1) s1 x):iu cs p s x:=by
 have e:gW cs (cs.length-p) p s=gW cs (cs.length-(p+1)) (p+1) s1:=by
  rw[show cs.length-p=(cs.length-(p+1))+1 by omega,gW,h1]
 unfold iu;rw[e];exact h
theorem iu.skip{cs:am}{p p1:Nat}{s s1:RS}{x:Nat}(hp:p<=p1)(hp1:p1<=cs.length)(h1:gW cs (p1-p) p s= .ok s1)(h:iu cs p1 s1 x):iu cs p s x:=by
 have e:gW cs (cs.length-p) p s=gW cs (cs.length-p1) p1 s1:=by
  rw[show cs.length-p=(p1-p)+(cs.length-p1) by omega,qY,h1]
  show gW cs (cs.length-p1) (p+(p1-p)) s1=_;rw[show p+(p1-p)=p1 by omega]
 unfold iu;rw[e];exact h
theorem iu.here{cs:am}{p:Nat}{s:RS}(hp:p<cs.length)(h:gC cs p s=none):iu cs p s p:=by
 refine .inl ⟨hp,?_⟩;rw[show cs.length-p=(cs.length-(p+1))+1 by omega,gW,h]
theorem iu.fin{cs:am}{s:RS}(h:s.op≠[]):iu cs cs.length s cs.length:= .inr ⟨rfl,s,by rw[apt];rfl,h⟩
theorem oB{cs:am}{p:Nat}{s s1:RS}(h:gC cs p s=some s1):gW cs 1 p s= .ok s1:=by rw[gW,h];rfl
theorem nM{cs:am}{p p1 p2:Nat}{s s1:RS}{r:Except Nat RS}(hp:p<=p1)(hp1:p1<=p2)(h1:gW cs (p1-p) p s= .ok s1)(h2:gW cs (p2-p1) p1 s1=r):gW cs (p2-p) p s=r:=by
 rw[show p2-p=(p1-p)+(p2-p1) by omega,qY,h1]
 show gW cs (p2-p1) (p+(p1-p)) s1=_;rw[show p+(p1-p)=p1 by omega,h2]
theorem F8{cs:am}{L:Nat->Bool->Nat->List Int->List Int->Option (Except Nat LR)}(hL:Dd cs L)
  (hS:∀d inL p pt lv r (s:RS),L d inL p pt lv=some r->p<=cs.length->pt.length=cs.length->lv.length<=p->s.op.length=d->s.ot.length=d->s.out.length=cs.length->nk cs s.op=inL->d<=8->t8 cs p s p r)
  {d p:Nat} {inL:Bool} {pt lv:List Int} {r:Except Nat LR} {s:RS} (hp:p<cs.length) (hpt:pt.length=cs.length) (hlv:lv.length<=p) (hop:fm cs p=27\/fm cs p=29) (h1:s.op.length=d) (h2:s.ot.length=d) (h3:s.out.length=cs.length) (h4:nk cs s.op=inL) (hd:d<=8)
  (h:kW cs L (d+1) inL p pt lv=some r):My cs p s r:=by
 rw[kW] at h;by_cases h8:d=8
 ·rw[if_pos aa] at h;cases h;exact⟨bL _,.here hp (by rw[gC,if_pos hop,if_pos aa])⟩
 rw[if_neg aa] at h;have hs1:gC cs p s=some ⟨s.out.set p (-1),p::s.op,-1::s.ot⟩:=by rw[gC,if_pos hop,if_neg aa]
 cases hl:L (d+1) (inL||decide (fm cs p=29)) (p+1) pt (if fm cs p=29 then[] else lv) with
 |none=>rw[hl] at h;cases h
 |some r1=>
 rw[hl] at h;have hlv1:(if fm cs p=29 then[] else lv).length<=p+1:=by split<;>(try simp)<;>omega
 have k:=hS _ _ _ _ _ r1 ⟨s.out.set p (-1),p::s.op,-1::s.ot⟩ hl aa hpt hlv1 (by simp[h1]) (by simp[h2]) (by simp[h3]) (by simp only[nk,List.any_cons];rw[Bool.or_comm,<-h4];rfl) aa
 have kk:=hL _ _ _ _ _ r1 aa hpt hlv1 hl;cases r1 with
 |error x=>
  cases h;obtain⟨k1,k2⟩:=k;exact⟨aa,k2.step hp hs1⟩
 |ok q=>
 obtain⟨x,p1,pt1,lv1⟩:=q;obtain⟨s2,k2,k3,k4⟩:=k;obtain⟨f1,f2,f3,f4,f5⟩:=kk x p1 pt1 lv1 rfl;dsimp only at h;have hr2:gW cs (p1-p) p s= .ok s2:=nM (p1:=p+1) aa f1 (by rw[show p+1-p=1 by omega];exact oB hs1) k2.run
 have ho2:s2.op=p::s.op:=k2.op;have ht2:s2.ot= -1::s.ot:=k2.ot;have hlow2:∀i,i<p->s2.out.getD i 0=s.out.getD i 0:=λi hi=>(k2.low i aa).trans (gS aa);by_cases hc:fm cs p=27/\p1<cs.length/\fm cs p1=28
 ·rw[if_pos hc] at h;have hs3:gC cs p1 s2=some ⟨(s2.out.set p1 (-1)).set p p1,p::s.op,(p1:Int)::s.ot⟩:=by
   rw[gC,if_neg (by rw[hc.2.2];decide),if_pos hc.2.2,ho2,ht2]
   dsimp only;rw[if_neg (by rw[hc.1];decide)]
  cases hl2:L (d+1) (inL||decide (fm cs p=29)) (p1+1) (pt1.set p p1) lv1 with
  |none=>rw[hl2] at h;cases h
  |some r2=>
  rw[hl2] at h;have k':=hS _ _ _ _ _ r2 ⟨(s2.out.set p1 (-1)).set p p1,p::s.op,(p1:Int)::s.ot⟩ hl2 aa (by rw[aph];exact f3) aa (by simp[h1]) (by simp[h2]) (by simp[k2.len]) (by simp only[nk,List.any_cons];rw[Bool.or_comm,<-h4];rfl) aa
  have kk':=hL _ _ _ _ _ r2 aa (by rw[aph];exact f3) aa hl2
  cases r2 with
  |error y=>
   cases h;obtain⟨g1,g2⟩:=k';exact⟨aa,(g2.step hc.2.1 hs3).skip aa f2 hr2⟩
  |ok q=>
  obtain⟨y,p2,pt2,lv2⟩:=q;obtain⟨s4,m2,m3,m4⟩:=k';obtain⟨e1,e2,e3,e4,e5⟩:=kk' y p2 pt2 lv2 rfl;dsimp only at h;have hr4:gW cs (p2-p) p s= .ok s4:=nM (p1:=p1) aa aa hr2 (nM (p1:=p1+1) aa e1 (by rw[show p1+1-p1=1 by omega];exact oB hs3) m2.run)
  have ho4:s4.op=p::s.op:=m2.op;have ht4:s4.ot=(p1:Int)::s.ot:=m2.ot;have hlow4:∀i,i<p1->i≠p->s4.out.getD i 0=s2.out.getD i 0:=λi hi hne=>(m2.low i aa).trans ((gS hne).trans (gS aa));rw[ku] at h;by_cases he:p2<cs.length/\fm cs p2=31
  ·rw[if_pos he] at h;cases h;have hs5:gC cs p2 s4=some ⟨((s4.out.set p2 (-1)).set p2 p).set p1 p2,s.op,s.ot⟩:=by
    rw[gC,if_neg (by rw[he.2];decide),if_neg (by rw[he.2];decide),if_neg (by rw[he.2];decide),if_pos he.2,ho4,ht4]
    dsimp only;rw[if_pos (Int.natCast_nonneg _)];rfl
   have hlow5:∀i,i≠p1->i≠p2->(((s4.out.set p2 (-1)).set p2 (p:Int)).set p1 (p2:Int)).getD i 0=s4.out.getD i 0:=λi h1 h2=>(gS h1).trans ((gS h2).trans (gS h2));have hl4:s4.out.length=cs.length:=m2.len;refine⟨⟨((s4.out.set p2 (-1)).set p2 p).set p1 p2,s.op,s.ot⟩,⟨nM (p1:=p2) aa aa hr4 (by rw[show p2+1-p2=1 by omega];exact oB hs5),rfl,rfl,by simp[hl4],λi hi=>(hlow5 i aa aa).trans ((hlow4 i aa aa).trans (hlow2 i hi))⟩,?_⟩
   refine⟨rfl,rfl,hop,⟨p1,?_,aa,aa,k4.congr λk q1 q2=>(hlow5 k aa aa).trans (hlow4 k q2 aa),.inl ⟨hc.2.2,p2,?_,aa,aa,m4.congr λk q1 q2=>hlow5 k aa aa,rfl⟩⟩,rfl⟩
   ·refine(hlow5 p aa aa).trans ((m2.low p aa).trans (nK ?_));rw[aph,k2.len];omega
   ·exact nK (by simp[hl4];omega)
  ·rw[if_neg he] at h;cases h;refine⟨aa,iu.skip aa e2 hr4 ?_⟩;by_cases hlen:p2=cs.length
   ·subst hlen;exact .fin (by rw[ho4];simp)
   ·have h28:fm cs p2=28:=(m3.resolve_left hlen).resolve_right λh=>he ⟨aa,h⟩;refine .here aa ?_;rw[gC,if_neg (by rw[h28];decide),if_pos h28,ho4,ht4]
    dsimp only;rw[if_pos (.inr (Int.natCast_nonneg _))]
 ·rw[if_neg hc,ku] at h;by_cases he:p1<cs.length/\fm cs p1=31
  ·rw[if_pos he] at h;cases h;have hs5:gC cs p1 s2=some ⟨((s2.out.set p1 (-1)).set p1 p).set p p1,s.op,s.ot⟩:=by
    rw[gC,if_neg (by rw[he.2];decide),if_neg (by rw[he.2];decide),if_neg (by rw[he.2];decide),if_pos he.2,ho2,ht2]
    rfl
   have hlow5:∀i,i≠p1->i≠p->(((s2.out.set p1 (-1)).set p1 (p:Int)).set p (p1:Int)).getD i 0=s2.out.getD i 0:=λi h1 h2=>(gS h2).trans ((gS h1).trans (gS h1));have hl2:s2.out.length=cs.length:=k2.len;refine⟨⟨((s2.out.set p1 (-1)).set p1 p).set p p1,s.op,s.ot⟩,⟨nM (p1:=p1) aa aa hr2 (by rw[show p1+1-p1=1 by omega];exact oB hs5),rfl,rfl,by simp[hl2],λi hi=>(hlow5 i aa aa).trans (hlow2 i hi)⟩,?_⟩
   refine⟨rfl,rfl,hop,⟨p1,nK (by simp[hl2];omega),aa,aa,k4.congr λk q1 q2=>hlow5 k aa aa,.inr ⟨by rw[he.2];decide,rfl,rfl⟩⟩,rfl⟩
  ·rw[if_neg he] at h;cases h;refine⟨aa,iu.skip aa f2 hr2 ?_⟩;by_cases hlen:p1=cs.length
   ·subst hlen;exact .fin (by rw[ho2];simp)
   ·have h28:fm cs p1=28:=(k3.resolve_left hlen).resolve_right λh=>he ⟨aa,h⟩;refine .here aa ?_;rw[gC,if_neg (by rw[h28];decide),if_pos h28,ho2,ht2]
    dsimp only;rw[if_pos (.inl λh27=>hc ⟨h27,aa,h28⟩)]
def mN(at_ e:Int):List PanicEntry:=[{v:= .iface 211 (.agg #[.int .i64 at_,.int .i64 e]),recovered:=false}]
theorem C0(a n:Int)(w:World):
  Calls av 115 #[.bool false,.int .i64 a,.int .i64 n] w λe w'=>e= .panicked (mN a n)/\Below w.heap.size w w':=by
 go_enter Tryz.func115,Tryz.ntmps115
 go_wp2
 exact(⟨rfl,rfl,Below.refl _ _⟩:_/\_/\_)
theorem K1{σ:Sg}{b:Bool}{k k':IntKind}{a n:Int}{args':Array Value}(h:gn σ [.b b,.n k a,.n k' n] args'.toList):args'= #[.bool b,.int k a,.int k' n]:=by
 obtain⟨l⟩:=args';obtain⟨h1,h2⟩:=h
 match l,h1 with
 |[x,y,z],_=>
  have e0:=h2 0 _ rfl;have e1:=h2 1 _ rfl;have e2:=h2 2 _ rfl;simp only[List.getD_cons_zero,List.getD_cons_succ] at e0 e1 e2;cases e0;cases e1;cases e2;rfl
theorem CZ:ui av 115:=⟨_,Tryz.func115,by kernel_rfl,rfl⟩
theorem gz(a n:Int):Pan av 115 [.b false,aq a,aq n] (mN a n):=by
 refine⟨CZ,λφ w args' hφ ha=>?_⟩;obtain rfl:=K1 ha;exact C0 a n w
theorem iA(a n:Int):gw av 115 [.b true,aq a,aq n] []:=by
 refine fe fx akT ⟨ae,ag⟩ ?_;simp only[fy];refine dp ?_;exact⟨[],rfl,trivial⟩
theorem Me:uk 9 .p .p0 .p0=some true:=id rfl
theorem Md(b o:Nat):uk 9 .p (.p b o) .p0=some false:=id rfl
theorem pb(op:Int):gw av 169 [aq op] [.v (.b (decide (op=27)||decide (op=29)))]:=by
 refine fe fx akb ⟨ae,ag⟩ ?_;simp only[fy];by_cases h:op=27
 ·subst h;refine dp ?_;exact eY ae rfl
 ·refine dq h ?_;exact eY (by simp[h]) rfl
theorem lt1z{i:Nat}(h:i<1):i=0:=aa
def iC(l:List Int)(i _j:Nat):AV:= aq (l.getD i 0)
theorem zG(l:List Int)(i j:Nat):iC l i j= aq (l.getD i 0):=rfl
def fV(b:Nat):Bool:=decide (b<1)
def j9(b:Nat):Bool:=decide (b<2)
theorem fh{ρ:List Nat}(h:ρ.reverse[0]? =some 0):∀b,fV b=true->ρ.reverse[b]? =some b:=λb hb=>by
 have:=of_decide_eq_true hb;obtain rfl:b=0:=aa;exact h
theorem gy{ρ:List Nat}(h:ρ.reverse[0]? =some 0)(h1:ρ.reverse[1]? =some 1):∀b,j9 b=true->ρ.reverse[b]? =some b:=λb hb=>by
 have:=of_decide_eq_true hb;rcases(show b=0\/b=1 by omega) with rfl|rfl
 ·exact h
 ·exact h1
theorem qD:∀(bl:List AB) (b:Nat) (x:AB),bl.length<1000000->(fi bl).at b=some x->bl.reverse[b]? =some x
 |[],b,x,_,h=>by rw[oV] at h;cases h
 |y::l,b,x,hl,h=>by
  simp only[List.length_cons] at hl;rw[jB aa] at h;rw[List.reverse_cons];by_cases hb:b=l.length
  ·subst hb;rw[if_pos rfl] at h;split at h
   ·cases h;rw[apP ae];simp
   ·cases h
  ·rw[if_neg hb] at h;have hx:=qD l b x aa h;rw[apF (ap4.1 hx).1];exact hx
theorem kP{bl:List AB}(hl:bl.length<1000000)(h:(bl.reverse[0]?.map (λx:AB=>decide (0<x.size)))=some true):∀b x,fV b=true->(fi bl).at b=some x->0<x.size:=λb x hb hx=>by
 have:=of_decide_eq_true hb;obtain rfl:b=0:=aa;rw[qD bl 0 x hl hx] at h;simpa using h
theorem oL{bl:List AB}(hl:bl.length<1000000)(h:(bl.reverse[0]?.map (λx:AB=>decide (0<x.size)))=some true)(h1:(bl.reverse[1]?.map (λx:AB=>decide (0<x.size)))=some true):∀b x,j9 b=true->(fi bl).at b=some x->0<x.size:=λb x hb hx=>by
 have:=of_decide_eq_true hb;rcases(show b=0\/b=1 by omega) with rfl|rfl
 ·rw[qD bl 0 x hl hx] at h;simpa using h
 ·rw[qD bl 1 x hl hx] at h1;simpa using h1
def foV:Fo->AV
 |.br op a b x y _=> .agg [aq op,aq a,aq b,.fs 5 x.len x.cell,.fs 5 y.len y.cell]
 |_=> .u
def wh(cs:am)(f:Nat):Prop:=∀(d:Nat) (p:Nat) (pt lv:List Int) (r:Except Nat LR),d<=100->p<=cs.length->pt.length=cs.length->lv.length<=p->lst cs f d false p pt lv .nil=some r->
 PC av fV 117 [.p 0 0,aq d,.p0] (fi [fg 3 1 pt.length 0 (iC pt),eZ 0 173 [.fs 2 cs.length (pI cs),aq p,.os 1 pt.length]]) (λv H'=>∃o p1 pt1 lv1,r= .ok (o,p1,pt1,lv1)/\v= .fs 5 o.len o.cell/\H'=fi [fg 3 1 pt1.length 0 (iC pt1),eZ 0 173 [.fs 2 cs.length (pI cs),aq p1,.os 1 pt1.length]]) (λc _=>∃x,r= .error x/\c=mN x 15)
def Bs(cs:am)(L:Nat->Bool->Nat->List Int->List Int->Option (Except Nat LR)):Prop:=∀(d:Nat) (p:Nat) (pt lv:List Int) (r:Except Nat LR),d<=101->p<cs.length->pt.length=cs.length->lv.length<=p->(fm cs p=27\/fm cs p=29)->kW cs L d false p pt lv=some r->
 PC av fV 170 [.p 0 0,aq d,.p0] (fi [fg 3 1 pt.length 0 (iC pt),eZ 0 173 [.fs 2 cs.length (pI cs),aq p,.os 1 pt.length]]) (λv H'=>∃o p1 pt1 lv1,r= .ok (o,p1,pt1,lv1)/\(∃op a b x y,o= .br op a b x y .nil/\b<=p1)/\p1<=cs.length/\p<p1/\pt1.length=cs.length/\lv1.length<=p1/\v=foV o/\H'=fi [fg 3 1 pt1.length 0 (iC pt1),eZ 0 173 [.fs 2 cs.length (pI cs),aq p1,.os 1 pt1.length]]) (λc _=>∃x,r= .error x/\c=mN x 15)
theorem ET(cs:am)(hcs:cs.length<=1024)(f:Nat)(hB:∀m,m<f->Bs cs (λd inL p pt lv=>lst cs m d inL p pt lv .nil)):wh cs f:=by
 intro d p pt lv r hd hp hpt hlv hr;refine PC.vw (gX MI ⟨ae,ag⟩ ?_);simp only[fy];refine a7 ?_;refine GE.wk (gA.nil 7 5 140 ah ag ah) ?_;simp only[jP];refine GE.loop (I:=λm e H=>∃(p:Nat) (pt lv:List Int) (out:Fo),m<=f/\p<=cs.length/\pt.length=cs.length/\lv.length<=p/\out.len<=p/\out.lastB 0<=p/\lst cs m d false p pt lv out=some r/\e=fu [(0,.p 0 0),(1,aq d),(2,.p0),(7,.os 2 out.len)]/\H=fi [fg 140 5 out.len 0 out.cell,fg 3 1 pt.length 0 (iC pt),eZ 0 173 [.fs 2 cs.length (pI cs),aq p,.os 1 pt.length]]) (gA.mk [2,1,0] [] ?_ ?_ ?_ (fh rfl)) ⟨p,pt,lv,.nil,bL _,hp,hpt,hlv,apf _,apf _,hr,rfl,rfl⟩ ?_
 ·exact fK
 ·exact aro
 ·simp
 clear hr hp hpt hlv pt lv p;rintro m e H ⟨p,pt,lv,out,hm,hp,hpt,hlv,hol,hob2,hr,rfl,rfl⟩;have h0:(0:Int)<=(p:Int):=aa;cases m with
 |zero=>cases hr
 |succ m=>
 rw[lst] at hr;by_cases h1:cs.length<=p
 ·rw[if_pos h1] at hr;have h1':¬(p:Int)<cs.length:=aa;refine a8 h1' ?_;refine mR [1,0] [2] (.fs 5 out.len out.cell) [fg 3 1 pt.length 0 (iC pt),eZ 0 173 [.fs 2 cs.length (pI cs),aq p,.os 1 pt.length]] bb (.cv (.ownb (ty:=140) (z:=0) ah (λi j hi _=>out.cell_ok i j hi) ae)) ae (fh rfl) ⟨out,p,pt,lv,?_,rfl,rfl⟩;exact(apl hr).symm
 rw[if_neg h1] at hr;have h1':(p:Int)<cs.length:=aa;have hp':p<cs.length:=aa;by_cases e28:(cs.getD p (0,0)).1=28
 ·rw[if_pos (.inl e28)] at hr;refine a8 (aU h1' (aU h0 (aU @ip e28))) ?_;refine mR [1,0] [2] (.fs 5 out.len out.cell) [fg 3 1 pt.length 0 (iC pt),eZ 0 173 [.fs 2 cs.length (pI cs),aq p,.os 1 pt.length]] bb (.cv (.ownb (ty:=140) (z:=0) ah (λi j hi _=>out.cell_ok i j hi) ae)) ae (fh rfl) ⟨out,p,pt,lv,?_,rfl,rfl⟩;exact(apl hr).symm
 by_cases e31:(cs.getD p (0,0)).1=31
 ·rw[if_pos (.inr e31)] at hr;refine a8 (aU h1' (aU h0 (aU @ip (aU e28 e31)))) ?_;refine mR [1,0] [2] (.fs 5 out.len out.cell) [fg 3 1 pt.length 0 (iC pt),eZ 0 173 [.fs 2 cs.length (pI cs),aq p,.os 1 pt.length]] bb (.cv (.ownb (ty:=140) (z:=0) ah (λi j hi _=>out.cell_ok i j hi) ae)) ae (fh rfl) ⟨out,p,pt,lv,?_,rfl,rfl⟩;exact(apl hr).symm
 rw[if_neg (show ¬(fm cs p=28\/fm cs p=31) from λh=>h.elim e28 e31)] at hr;by_cases hbr:fm cs p=27\/fm cs p=29
 ·rw[if_pos hbr] at hr;have hob:(decide ((cs.getD p (0,0)).1=27)||decide ((cs.getD p (0,0)).1=29))=true:=by simpa [fm] using hbr
  have wd:=au d;refine a8 (aU h1' (aU h0 (aU @ip (aU e28 e31)))) ?_;refine iR (F:=[aq (cs.getD p (0,0)).1]) (pb _) ?_;refine a9 (aU hob wd) ?_;cases hb:kW cs (λd inL p pt lv=>lst cs m d inL p pt lv .nil) (d+1) false p pt lv with
  |none=>rw[hb] at hr;cases hr
  |some rb=>
  rw[hb] at hr;refine qI fV [(0,.p 0 0),(1,aq d),(2,.p0),(42,.os 2 out.len)] [fg 140 5 out.len 0 out.cell] [fg 3 1 pt.length 0 (iC pt),eZ 0 173 [.fs 2 cs.length (pI cs),aq p,.os 1 pt.length]] (hB m aa (d+1) p pt lv rb aa hp' hpt hlv hbr hb) rfl ?_ ?_ ?_ ?_ (λb hb=>by simp[hb]) ?_ ?_ ?_ ?_ ?_ ?_ ?_
  ·simp only[yQ,go_sem,simprocAttr]
  ·simp
  ·rfl
  ·exact dY
  ·exact kP ae af
  ·simp[AV.nm]
  ·simp[AV.nm,fV]
  ·exact arq
  ·exact arr
  ·rintro v H' ⟨o,p1,pt1,lv1,rfl,⟨op,a,b,x,y,rfl,hbp⟩,h11,h12,h13,h14,rfl,rfl⟩;refine⟨[fg 3 1 pt1.length 0 (iC pt1),eZ 0 173 [.fs 2 cs.length (pI cs),aq p1,.os 1 pt1.length]],rfl,rfl,?_⟩;simp only[List.cons_append,List.nil_append];have hap:((out.len+1)*5<1099511627776/\(out.len+1)*72<=140737488355328)/\out.len<=9223372036854775806:=⟨⟨aa,aa⟩,aa⟩;simp only[foV];refine a9 hap ?_;have hla:(out.app (.br op a b x y .nil)).len=out.len+1:=Fo.len_app _ _;refine⟨m,_,_,apG m,gA.mk [4,1,0] [] ?_ ?_ ae (fh rfl),p1,pt1,lv1,out.app (.br op a b x y .nil),aa,h11,h13,h14,aa,by rw[Fo.lastB_app];exact hbp,hr,rfl,rfl⟩
   ·rw[hla];simp only[iT,ig,go_sem,simprocAttr]
    repeat' refine fE ?_ ?_
    all_goals first|exact jQ|skip
   ·exact ars
  ·rintro c H' ⟨x,rfl,rfl⟩;exact⟨x,(apl hr).symm,rfl⟩
 rw[if_neg hbr] at hr;have hob:(decide ((cs.getD p (0,0)).1=27)||decide ((cs.getD p (0,0)).1=29))=false:=by simpa [fm] using hbr
 refine a8 (aU h1' (aU h0 (aU @ip (aU e28 e31)))) ?_;refine iR (F:=[aq (cs.getD p (0,0)).1]) (pb _) ?_
 repeat first|with_reducible refine GE.g ?_|simp only[hob,apQ,false_implies,true_and,forall_const,go_sem,simprocAttr]
 by_cases e30:(cs.getD p (0,0)).1=30
 ·rw[if_pos ⟨e30,rfl⟩] at hr;refine a8 (aU e30 @Me) ?_;exact fP [] (fargs:=[.b false,aq (p:Int),aq 15]) (ja.same rfl) (gz p 15) ⟨p,(apl hr).symm,rfl⟩
 rw[if_neg (λh=>e30 h.1),if_neg (show ¬fm cs p=30 from e30)] at hr;refine a8 e30 ?_;have w0:=au p;have hap:((out.len+1)*5<1099511627776/\(out.len+1)*72<=140737488355328)/\out.len<=9223372036854775806:=⟨⟨aa,aa⟩,aa⟩;by_cases hpl:out.lastPl=true
 ·have hl0:=Fo.last_len hpl;obtain⟨q,hq⟩:∃q,q=out.len-1:=⟨_,rfl⟩;have hl1:(0:Int)<out.len:=aa;have w1:IntKind.i64.wrap ((out.len:Int)-1)=(q:Int):=(ff aa).trans aa;have hl2:(q:Int)<out.len:=aa;have hl3:(0:Int)<=(q:Int):=aa;have c0:=(Fo.cell_last out 0 0 hl0).1;have c2:=(Fo.cell_last out 0 0 hl0).2;rw[of_decide_eq_true hpl,<-hq] at c0;rw[<-hq] at c2;have w2:IntKind.i64.wrap ((out.lastB 0:Int)+1)=((out.lastB 0+1:Nat):Int):=(ff aa).trans aa;have hq5:q*5<out.len*5:=aa;have hq53:q*5+2+1<=out.len*5:=aa;have hq52:q*5+2<out.len*5:=aa;have hg0:(fg 140 5 out.len 0 out.cell).get (q*5)= aq (-1):=(fI q 0 ag).trans c0;have hg2:(fg 140 5 out.len 0 out.cell).get (q*5+2)= aq (out.lastB 0):=(fI q 2 ag).trans c2;refine a8 (aU hl1 (aU w1 (aU hl2 (aU hl3 (aU hq5 (aU hq52 (aU hg0 (aU hg2 (aU hq53 (aU w2 (aU w0 @ip))))))))))) ?_;have hadd:out.addPl p=out.bump:=if_pos hpl;have hbl:out.bump.len=out.len:=Fo.len_bump out;rw[hadd] at hr;refine⟨m,_,_,apG m,gA.mk [2,1,0] [] ?_ ?_ ae (fh rfl),p+1,pt,lv,out.bump,aa,aa,hpt,aa,aa,by rw[Fo.lastB_bump out 0 hl0];omega,hr,rfl,rfl⟩
  ·rw[hbl];simp only[iT,ig,go_sem,simprocAttr]
   repeat' refine fE ?_ ?_
   all_goals first|exact jQ|skip
  ·exact art
 ·have hpl':out.lastPl=false:=by simpa using hpl
  have hadd:out.addPl p=out.app (.pl p (p+1) .nil):=if_neg hpl;rw[hadd] at hr;have hla:(out.app (.pl p (p+1) .nil)).len=out.len+1:=Fo.len_app _ _;by_cases hl0:out.len=0
  ·have hl1:¬(0:Int)<out.len:=aa;refine a8 (aU hl1 (aU w0 (aU hap @ip))) ?_;refine⟨m,_,_,apG m,gA.mk [4,1,0] [] ?_ ?_ ae (fh rfl),p+1,pt,lv,out.app (.pl p (p+1) .nil),aa,aa,hpt,aa,aa,by rw[Fo.lastB_app];exact bL _,hr,rfl,rfl⟩
   ·rw[hla];simp only[iT,ig,go_sem,simprocAttr]
    repeat' refine fE ?_ ?_
    all_goals first|exact jQ|skip
   ·exact aru
  ·have hl1:(0:Int)<out.len:=aa;obtain⟨q,hq⟩:∃q,q=out.len-1:=⟨_,rfl⟩;have w1:IntKind.i64.wrap ((out.len:Int)-1)=(q:Int):=(ff aa).trans aa;have hl2:(q:Int)<out.len:=aa;have hl3:(0:Int)<=(q:Int):=aa;have c0:=(Fo.cell_last out 0 0 aa).1;rw[<-hq] at c0;have hne:¬out.lastOp 0= -1:=of_decide_eq_false hpl';have hq5:q*5<out.len*5:=aa;have hg0:(fg 140 5 out.len 0 out.cell).get (q*5)= aq (out.lastOp 0):=(fI q 0 ag).trans c0;refine a8 (aU hl1 (aU w1 (aU hl2 (aU hl3 (aU hq5 (aU hg0 (aU hne (aU w0 (aU hap @ip))))))))) ?_;refine⟨m,_,_,apG m,gA.mk [4,1,0] [] ?_ ?_ ae (fh rfl),p+1,pt,lv,out.app (.pl p (p+1) .nil),aa,aa,hpt,aa,aa,by rw[Fo.lastB_app];exact bL _,hr,rfl,rfl⟩
   ·rw[hla];simp only[iT,ig,go_sem,simprocAttr]
    repeat' refine fE ?_ ?_
    all_goals first|exact jQ|skip
   ·exact aru
def wg(cs:am)(f:Nat):Prop:=∀(d:Nat) (p:Nat) (pt lv:List Int) (r:Except Nat LR),d<=100->p<=cs.length->pt.length=cs.length->lv.length<=p->lst cs f d true p pt lv .nil=some r->
 PC av j9 117 [.p 0 0,aq d,.p 1 0] (fi [fg 3 1 lv.length 0 (iC lv),fg 3 1 pt.length 0 (iC pt),eZ 0 95 [.os 3 lv.length],eZ 0 173 [.fs 2 cs.length (pI cs),aq p,.os 2 pt.length]]) (λv H'=>∃o p1 pt1 lv1,r= .ok (o,p1,pt1,lv1)/\v= .fs 5 o.len o.cell/\H'=fi [fg 3 1 lv1.length 0 (iC lv1),fg 3 1 pt1.length 0 (iC pt1),eZ 0 95 [.os 3 lv1.length],eZ 0 173 [.fs 2 cs.length (pI cs),aq p1,.os 2 pt1.length]]) (λc _=>∃x,r= .error x/\c=mN x 15)
def Br(cs:am)(L:Nat->Bool->Nat->List Int->List Int->Option (Except Nat LR)):Prop:=∀(d:Nat) (p:Nat) (pt lv:List Int) (r:Except Nat LR),d<=101->p<cs.length->pt.length=cs.length->lv.length<=p->(fm cs p=27\/fm cs p=29)->kW cs L d true p pt lv=some r->
 PC av j9 170 [.p 0 0,aq d,.p 1 0] (fi [fg 3 1 lv.length 0 (iC lv),fg 3 1 pt.length 0 (iC pt),eZ 0 95 [.os 3 lv.length],eZ 0 173 [.fs 2 cs.length (pI cs),aq p,.os 2 pt.length]]) (λv H'=>∃o p1 pt1 lv1,r= .ok (o,p1,pt1,lv1)/\(∃op a b x y,o= .br op a b x y .nil/\b<=p1)/\p1<=cs.length/\p<p1/\pt1.length=cs.length/\lv1.length<=p1/\v=foV o/\H'=fi [fg 3 1 lv1.length 0 (iC lv1),fg 3 1 pt1.length 0 (iC pt1),eZ 0 95 [.os 3 lv1.length],eZ 0 173 [.fs 2 cs.length (pI cs),aq p1,.os 2 pt1.length]]) (λc _=>∃x,r= .error x/\c=mN x 15)
theorem ES(cs:am)(hcs:cs.length<=1024)(f:Nat)(hB:∀m,m<f->Br cs (λd inL p pt lv=>lst cs m d inL p pt lv .nil)):wg cs f:=by
 intro d p pt lv r hd hp hpt hlv hr;refine PC.vw (gX MI ⟨ae,ag⟩ ?_);simp only[fy];refine a7 ?_;refine GE.wk (gA.nil 7 5 140 ah ag ah) ?_;simp only[jP];refine GE.loop (I:=λm e H=>∃(p:Nat) (pt lv:List Int) (out:Fo),m<=f/\p<=cs.length/\pt.length=cs.length/\lv.length<=p/\out.len<=p/\out.lastB 0<=p/\lst cs m d true p pt lv out=some r/\e=fu [(0,.p 0 0),(1,aq d),(2,.p 1 0),(7,.os 4 out.len)]/\H=fi [fg 140 5 out.len 0 out.cell,fg 3 1 lv.length 0 (iC lv),fg 3 1 pt.length 0 (iC pt),eZ 0 95 [.os 3 lv.length],eZ 0 173 [.fs 2 cs.length (pI cs),aq p,.os 2 pt.length]]) (gA.mk [4,3,2,1,0] [] ?_ ?_ ?_ (gy rfl rfl)) ⟨p,pt,lv,.nil,bL _,hp,hpt,hlv,apf _,apf _,hr,rfl,rfl⟩ ?_
 ·exact fK
 ·exact aro
 ·simp
 clear hr hp hpt hlv pt lv p;rintro m e H ⟨p,pt,lv,out,hm,hp,hpt,hlv,hol,hob2,hr,rfl,rfl⟩;have h0:(0:Int)<=(p:Int):=aa;cases m with
 |zero=>cases hr
 |succ m=>
 rw[lst] at hr;by_cases h1:cs.length<=p
 ·rw[if_pos h1] at hr;have h1':¬(p:Int)<cs.length:=aa;refine a8 h1' ?_;refine mR [3,2,1,0] [4] (.fs 5 out.len out.cell) [fg 3 1 lv.length 0 (iC lv),fg 3 1 pt.length 0 (iC pt),eZ 0 95 [.os 3 lv.length],eZ 0 173 [.fs 2 cs.length (pI cs),aq p,.os 2 pt.length]] bb (.cv (.ownb (ty:=140) (z:=0) ah (λi j hi _=>out.cell_ok i j hi) ae)) ae (gy rfl rfl) ⟨out,p,pt,lv,?_,rfl,rfl⟩;exact(apl hr).symm
 rw[if_neg h1] at hr;have h1':(p:Int)<cs.length:=aa;have hp':p<cs.length:=aa;by_cases e28:(cs.getD p (0,0)).1=28
 ·rw[if_pos (.inl e28)] at hr;refine a8 (aU h1' (aU h0 (aU @ip e28))) ?_;refine mR [3,2,1,0] [4] (.fs 5 out.len out.cell) [fg 3 1 lv.length 0 (iC lv),fg 3 1 pt.length 0 (iC pt),eZ 0 95 [.os 3 lv.length],eZ 0 173 [.fs 2 cs.length (pI cs),aq p,.os 2 pt.length]] bb (.cv (.ownb (ty:=140) (z:=0) ah (λi j hi _=>out.cell_ok i j hi) ae)) ae (gy rfl rfl) ⟨out,p,pt,lv,?_,rfl,rfl⟩;exact(apl hr).symm
 by_cases e31:(cs.getD p (0,0)).1=31
 ·rw[if_pos (.inr e31)] at hr;refine a8 (aU h1' (aU h0 (aU @ip (aU e28 e31)))) ?_;refine mR [3,2,1,0] [4] (.fs 5 out.len out.cell) [fg 3 1 lv.length 0 (iC lv),fg 3 1 pt.length 0 (iC pt),eZ 0 95 [.os 3 lv.length],eZ 0 173 [.fs 2 cs.length (pI cs),aq p,.os 2 pt.length]] bb (.cv (.ownb (ty:=140) (z:=0) ah (λi j hi _=>out.cell_ok i j hi) ae)) ae (gy rfl rfl) ⟨out,p,pt,lv,?_,rfl,rfl⟩;exact(apl hr).symm
 rw[if_neg (show ¬(fm cs p=28\/fm cs p=31) from λh=>h.elim e28 e31)] at hr;by_cases hbr:fm cs p=27\/fm cs p=29
 ·rw[if_pos hbr] at hr;have hob:(decide ((cs.getD p (0,0)).1=27)||decide ((cs.getD p (0,0)).1=29))=true:=by simpa [fm] using hbr
  have wd:=au d;refine a8 (aU h1' (aU h0 (aU @ip (aU e28 e31)))) ?_;refine iR (F:=[aq (cs.getD p (0,0)).1]) (pb _) ?_;refine a9 (aU hob wd) ?_;cases hb:kW cs (λd inL p pt lv=>lst cs m d inL p pt lv .nil) (d+1) true p pt lv with
  |none=>rw[hb] at hr;cases hr
  |some rb=>
  rw[hb] at hr;refine qI j9 [(0,.p 0 0),(1,aq d),(2,.p 1 0),(42,.os 4 out.len)] [fg 140 5 out.len 0 out.cell] [fg 3 1 lv.length 0 (iC lv),fg 3 1 pt.length 0 (iC pt),eZ 0 95 [.os 3 lv.length],eZ 0 173 [.fs 2 cs.length (pI cs),aq p,.os 2 pt.length]] (hB m aa (d+1) p pt lv rb aa hp' hpt hlv hbr hb) rfl ?_ ?_ ?_ ?_ (λb hb=>by simp[hb]) ?_ ?_ ?_ ?_ ?_ ?_ ?_
  ·simp only[yQ,go_sem,simprocAttr]
  ·simp
  ·rfl
  ·exact dZ
  ·exact oL ae af af
  ·simp[AV.nm]
  ·simp[AV.nm,j9]
  ·exact arw
  ·exact arr
  ·rintro v H' ⟨o,p1,pt1,lv1,rfl,⟨op,a,b,x,y,rfl,hbp⟩,h11,h12,h13,h14,rfl,rfl⟩;refine⟨[fg 3 1 lv1.length 0 (iC lv1),fg 3 1 pt1.length 0 (iC pt1),eZ 0 95 [.os 3 lv1.length],eZ 0 173 [.fs 2 cs.length (pI cs),aq p1,.os 2 pt1.length]],rfl,rfl,?_⟩;simp only[List.cons_append,List.nil_append];have hap:((out.len+1)*5<1099511627776/\(out.len+1)*72<=140737488355328)/\out.len<=9223372036854775806:=⟨⟨aa,aa⟩,aa⟩;simp only[foV];refine a9 hap ?_;have hla:(out.app (.br op a b x y .nil)).len=out.len+1:=Fo.len_app _ _;refine⟨m,_,_,apG m,gA.mk [6,3,2,1,0] [] ?_ ?_ ae (gy rfl rfl),p1,pt1,lv1,out.app (.br op a b x y .nil),aa,h11,h13,h14,aa,by rw[Fo.lastB_app];exact hbp,hr,rfl,rfl⟩
   ·rw[hla];simp only[iT,ig,go_sem,simprocAttr]
    repeat' refine fE ?_ ?_
    all_goals first|exact jQ|skip
   ·exact ars
  ·rintro c H' ⟨x,rfl,rfl⟩;exact⟨x,(apl hr).symm,rfl⟩
 rw[if_neg hbr] at hr;have hob:(decide ((cs.getD p (0,0)).1=27)||decide ((cs.getD p (0,0)).1=29))=false:=by simpa [fm] using hbr
 refine a8 (aU h1' (aU h0 (aU @ip (aU e28 e31)))) ?_;refine iR (F:=[aq (cs.getD p (0,0)).1]) (pb _) ?_
 repeat first|with_reducible refine GE.g ?_|simp only[hob,apQ,false_implies,true_and,forall_const,go_sem,simprocAttr]
 by_cases e30:(cs.getD p (0,0)).1=30
 ·rw[if_neg (λh=>by cases h.2),if_pos (show fm cs p=30 from e30)] at hr
  refine a8 (aU e30 @Md) ?_;refine iR (iA p 15) ?_;refine ba ?_
  with_reducible refine GE.go fx rfl ?_
  have hlap:(lv.length+1<1099511627776/\(lv.length+1)*8<=140737488355328)/\lv.length<=9223372036854775806:=⟨⟨aa,aa⟩,aa⟩;simp only[hlap,true_and,and_self,if_true,go_sem,simprocAttr];obtain⟨lv',hlv'⟩:∃l,l=lv++[(p:Int)]:=⟨_,rfl⟩;have hlv2:lv'.length=lv.length+1:=by rw[hlv',ape];rfl
  rw[<-hlv'] at hr;refine GE.wk (gA.mk (L:=[(0,.p 0 0),(1,aq d),(2,.p 1 0),(7,.os 4 out.len)]) (bl:=[fg 140 5 out.len 0 out.cell,fg 3 1 lv'.length 0 (iC lv'),fg 3 1 pt.length 0 (iC pt),eZ 0 95 [.os 3 lv'.length],eZ 0 173 [.fs 2 cs.length (pI cs),aq p,.os 2 pt.length]]) [4,6,2,1,0] [] ?_ ?_ ae (gy rfl rfl)) ?_
  ·exact fK
  ·rw[hlv2];exact .cr (.k2 (λi j hi _=>out.cell_pu i j hi)) (.cr (.snoc (row:=iC lv) (n:=lv.length) (o:=lv.length) (l:=[aq (p:Int)]) ah aa rfl rfl ag aa (λi j hi _=>by rw[hlv'];simp only[iC];rw[jy hi]) (λj hj=>by cases apE.1 hj;rw[hlv'];simp only[iC];rw[jz];rfl) (λ_ _ _ _=>rfl)) bb)
  have w0:=au p;have hap:((out.len+1)*5<1099511627776/\(out.len+1)*72<=140737488355328)/\out.len<=9223372036854775806:=⟨⟨aa,aa⟩,aa⟩;by_cases hpl:out.lastPl=true
  ·have hl0:=Fo.last_len hpl;obtain⟨q,hq⟩:∃q,q=out.len-1:=⟨_,rfl⟩;have hl1:(0:Int)<out.len:=aa;have w1:IntKind.i64.wrap ((out.len:Int)-1)=(q:Int):=(ff aa).trans aa;have hl2:(q:Int)<out.len:=aa;have hl3:(0:Int)<=(q:Int):=aa;have c0:=(Fo.cell_last out 0 0 hl0).1;have c2:=(Fo.cell_last out 0 0 hl0).2;rw[of_decide_eq_true hpl,<-hq] at c0;rw[<-hq] at c2;have w2:IntKind.i64.wrap ((out.lastB 0:Int)+1)=((out.lastB 0+1:Nat):Int):=(ff aa).trans aa;have hq5:q*5<out.len*5:=aa;have hq53:q*5+2+1<=out.len*5:=aa;have hq52:q*5+2<out.len*5:=aa;have hg0:(fg 140 5 out.len 0 out.cell).get (q*5)= aq (-1):=(fI q 0 ag).trans c0;have hg2:(fg 140 5 out.len 0 out.cell).get (q*5+2)= aq (out.lastB 0):=(fI q 2 ag).trans c2;refine a8 (aU hl1 (aU w1 (aU hl2 (aU hl3 (aU hq5 (aU hq52 (aU hg0 (aU hg2 (aU hq53 (aU w2 (aU w0 @ip))))))))))) ?_;have hadd:out.addPl p=out.bump:=if_pos hpl;have hbl:out.bump.len=out.len:=Fo.len_bump out;rw[hadd] at hr;refine⟨m,_,_,apG m,gA.mk [4,3,2,1,0] [] ?_ ?_ ae (gy rfl rfl),p+1,pt,lv',out.bump,aa,aa,hpt,aa,aa,by rw[Fo.lastB_bump out 0 hl0];omega,hr,rfl,rfl⟩
   ·rw[hbl];simp only[iT,ig,go_sem,simprocAttr]
    repeat' refine fE ?_ ?_
    all_goals first|exact jQ|skip
   ·exact art
  ·have hpl':out.lastPl=false:=by simpa using hpl
   have hadd:out.addPl p=out.app (.pl p (p+1) .nil):=if_neg hpl;rw[hadd] at hr;have hla:(out.app (.pl p (p+1) .nil)).len=out.len+1:=Fo.len_app _ _;by_cases hl0:out.len=0
   ·have hl1:¬(0:Int)<out.len:=aa;refine a8 (aU hl1 (aU w0 (aU hap @ip))) ?_;refine⟨m,_,_,apG m,gA.mk [6,3,2,1,0] [] ?_ ?_ ae (gy rfl rfl),p+1,pt,lv',out.app (.pl p (p+1) .nil),aa,aa,hpt,aa,aa,by rw[Fo.lastB_app];exact bL _,hr,rfl,rfl⟩
    ·rw[hla];simp only[iT,ig,go_sem,simprocAttr]
     repeat' refine fE ?_ ?_
     all_goals first|exact jQ|skip
    ·exact aru
   ·have hl1:(0:Int)<out.len:=aa;obtain⟨q,hq⟩:∃q,q=out.len-1:=⟨_,rfl⟩;have w1:IntKind.i64.wrap ((out.len:Int)-1)=(q:Int):=(ff aa).trans aa;have hl2:(q:Int)<out.len:=aa;have hl3:(0:Int)<=(q:Int):=aa;have c0:=(Fo.cell_last out 0 0 aa).1;rw[<-hq] at c0;have hne:¬out.lastOp 0= -1:=of_decide_eq_false hpl';have hq5:q*5<out.len*5:=aa;have hg0:(fg 140 5 out.len 0 out.cell).get (q*5)= aq (out.lastOp 0):=(fI q 0 ag).trans c0;refine a8 (aU hl1 (aU w1 (aU hl2 (aU hl3 (aU hq5 (aU hg0 (aU hne (aU w0 (aU hap @ip))))))))) ?_;refine⟨m,_,_,apG m,gA.mk [6,3,2,1,0] [] ?_ ?_ ae (gy rfl rfl),p+1,pt,lv',out.app (.pl p (p+1) .nil),aa,aa,hpt,aa,aa,by rw[Fo.lastB_app];exact bL _,hr,rfl,rfl⟩
    ·rw[hla];simp only[iT,ig,go_sem,simprocAttr]
     repeat' refine fE ?_ ?_
     all_goals first|exact jQ|skip
    ·exact aru
 rw[if_neg (λh=>e30 h.1),if_neg (show ¬fm cs p=30 from e30)] at hr;refine a8 e30 ?_;have w0:=au p;have hap:((out.len+1)*5<1099511627776/\(out.len+1)*72<=140737488355328)/\out.len<=9223372036854775806:=⟨⟨aa,aa⟩,aa⟩;by_cases hpl:out.lastPl=true
 ·have hl0:=Fo.last_len hpl;obtain⟨q,hq⟩:∃q,q=out.len-1:=⟨_,rfl⟩;have hl1:(0:Int)<out.len:=aa;have w1:IntKind.i64.wrap ((out.len:Int)-1)=(q:Int):=(ff aa).trans aa;have hl2:(q:Int)<out.len:=aa;have hl3:(0:Int)<=(q:Int):=aa;have c0:=(Fo.cell_last out 0 0 hl0).1;have c2:=(Fo.cell_last out 0 0 hl0).2;rw[of_decide_eq_true hpl,<-hq] at c0;rw[<-hq] at c2;have w2:IntKind.i64.wrap ((out.lastB 0:Int)+1)=((out.lastB 0+1:Nat):Int):=(ff aa).trans aa;have hq5:q*5<out.len*5:=aa;have hq53:q*5+2+1<=out.len*5:=aa;have hq52:q*5+2<out.len*5:=aa;have hg0:(fg 140 5 out.len 0 out.cell).get (q*5)= aq (-1):=(fI q 0 ag).trans c0;have hg2:(fg 140 5 out.len 0 out.cell).get (q*5+2)= aq (out.lastB 0):=(fI q 2 ag).trans c2;refine a8 (aU hl1 (aU w1 (aU hl2 (aU hl3 (aU hq5 (aU hq52 (aU hg0 (aU hg2 (aU hq53 (aU w2 (aU w0 @ip))))))))))) ?_;have hadd:out.addPl p=out.bump:=if_pos hpl;have hbl:out.bump.len=out.len:=Fo.len_bump out;rw[hadd] at hr;refine⟨m,_,_,apG m,gA.mk [4,3,2,1,0] [] ?_ ?_ ae (gy rfl rfl),p+1,pt,lv,out.bump,aa,aa,hpt,aa,aa,by rw[Fo.lastB_bump out 0 hl0];omega,hr,rfl,rfl⟩
  ·rw[hbl];simp only[iT,ig,go_sem,simprocAttr]
   repeat' refine fE ?_ ?_
   all_goals first|exact jQ|skip
  ·exact art
 ·have hpl':out.lastPl=false:=by simpa using hpl
  have hadd:out.addPl p=out.app (.pl p (p+1) .nil):=if_neg hpl;rw[hadd] at hr;have hla:(out.app (.pl p (p+1) .nil)).len=out.len+1:=Fo.len_app _ _;by_cases hl0:out.len=0
  ·have hl1:¬(0:Int)<out.len:=aa;refine a8 (aU hl1 (aU w0 (aU hap @ip))) ?_;refine⟨m,_,_,apG m,gA.mk [6,3,2,1,0] [] ?_ ?_ ae (gy rfl rfl),p+1,pt,lv,out.app (.pl p (p+1) .nil),aa,aa,hpt,aa,aa,by rw[Fo.lastB_app];exact bL _,hr,rfl,rfl⟩
   ·rw[hla];simp only[iT,ig,go_sem,simprocAttr]
    repeat' refine fE ?_ ?_
    all_goals first|exact jQ|skip
   ·exact aru
  ·have hl1:(0:Int)<out.len:=aa;obtain⟨q,hq⟩:∃q,q=out.len-1:=⟨_,rfl⟩;have w1:IntKind.i64.wrap ((out.len:Int)-1)=(q:Int):=(ff aa).trans aa;have hl2:(q:Int)<out.len:=aa;have hl3:(0:Int)<=(q:Int):=aa;have c0:=(Fo.cell_last out 0 0 aa).1;rw[<-hq] at c0;have hne:¬out.lastOp 0= -1:=of_decide_eq_false hpl';have hq5:q*5<out.len*5:=aa;have hg0:(fg 140 5 out.len 0 out.cell).get (q*5)= aq (out.lastOp 0):=(fI q 0 ag).trans c0;refine a8 (aU hl1 (aU w1 (aU hl2 (aU hl3 (aU hq5 (aU hg0 (aU hne (aU w0 (aU hap @ip))))))))) ?_;refine⟨m,_,_,apG m,gA.mk [6,3,2,1,0] [] ?_ ?_ ae (gy rfl rfl),p+1,pt,lv,out.app (.pl p (p+1) .nil),aa,aa,hpt,aa,aa,by rw[Fo.lastB_app];exact bL _,hr,rfl,rfl⟩
   ·rw[hla];simp only[iT,ig,go_sem,simprocAttr]
    repeat' refine fE ?_ ?_
    all_goals first|exact jQ|skip
   ·exact aru
theorem js.put2{r:Nat->Option Nat}{M:List Nat}{H:AH}{b ty n z a c:Nat}{row row2:Nat->Nat->AV}{v w:AV}(hx:H.at b=some (((fg ty 1 n z row).putN a [v]).putN c [w]))(ha:a<n)(hc:c<n)(hM:M.contains b=false)(hn:n<999999)
  (h2:∀i,i<n->(if i=c then w else if i=a then v else row i 0)=row2 i 0) (hp:∀i j,i<n->j<1->(row2 i j).pu 3=true):js r M H b (fg ty 1 n z row2):=by
 refine js.rows hx rfl rfl rfl (bL _) aq1 ag (λi j hi hj=>?_) hp
 obtain rfl:j=0:=aa;rw[<-h2 i hi,jL arl,jL arl]
 simp only[List.length_cons,List.length_nil,apu,Nat.add_zero,apz];by_cases e:i=c
 ·subst e;rw[if_pos aa,if_pos rfl,apt];rfl
 rw[if_neg aa,if_neg e];by_cases e2:i=a
 ·subst e2;rw[if_pos aa,if_pos rfl,apt];rfl
 rw[if_neg aa,if_neg e2];exact kL i
theorem mr{pt:List Int}{a c:Nat}(ha:a<pt.length)(hc:c<pt.length)(v w:Int)(i:Nat):(if i=c then AV.n .i64 w else if i=a then AV.n .i64 v else iC pt i 0)=iC ((pt.set a v).set c w) i 0:=by
 simp only[iC];rw[i5 (by rw[aph];exact hc),i5 ha]
 by_cases h:i=c
 ·rw[if_pos h,if_pos h]
 ·rw[if_neg h,if_neg h];by_cases h2:i=a
  ·rw[if_pos h2,if_pos h2]
  ·rw[if_neg h2,if_neg h2]
theorem gA.nilb{n:Nat}{kk:Nat->Bool}{e:Tr AV}{H:AH}(b i esz ty:Nat){x:AB}(hx:H.at b=some x)(hg:x.get i= .sl0)(hi:i<1000000)(hb:b<1000000)(hbn:b<H.next)(hlv:x.live=true)(hn:H.next<1000000):
  gA n kk e H e ((H.new (l8 esz ty)).upd b (x.set i (.os H.next 0))):=by
 intro B σ a w hE hH;have hle:=σ.le_extNil H.next
 have h1:=hH.placeNil (x:=l8 esz ty) (H1:=H) rfl (λ_ _ h=>h) aa rfl rfl rfl ⟨rfl,rfl⟩;refine⟨σ.extNil H.next,⟨⟨hE.er.df,λt' v hv=>(hE.er.get t' v hv).mono hle⟩,hE.sz,hE.sm⟩,?_,Below.refl _ _,.of_eq rfl,λb c o h=> .inl ⟨b,o,h⟩,λ_ _ _=> .inl rfl,λ_ _ _=>rfl,λb x _ h=>h⟩
 have hx1:(H.new (l8 esz ty)).at b=some x:=by rw[kG hn,if_neg aa];exact hx
 refine h1.recell hx1 hb rfl rfl rfl rfl hlv rfl (λj u hj hu=>?_);rw[vk hi];by_cases e:j=i
 ·exact arx
 ·rw[if_neg e];exact hu
theorem pN:∀(l pt:List Int) (v i:Int),hY pt v (l++[i])=(hY pt v l).set i.toNat v
 |[],_,_,_=>rfl
 |j::l,pt,v,i=>by rw[List.cons_append,hY,pN l,hY]
theorem uw{l:List Int}{k:Nat}(h:k<l.length):l.take (k+1)=l.take k++[l.getD k 0]:=by
 rw[List.take_succ_eq_append_getElem h,apd,apk h];rfl
theorem lt5z{i:Nat}(h:i<5):i=0\/i=1\/i=2\/i=3\/i=4:=aa
theorem C7(cs:am)(hcs:cs.length<=1024)(f:Nat)(hF:wh cs f)(hT:wg cs f):Bs cs (λd inL p pt lv=>lst cs f d inL p pt lv .nil):=by
 intro d p pt lv r hd hp hpt hlv hop hr;have hok:=ry (λd inL p pt lv r h1 h2 h3 h4=>jn f d inL p pt lv .nil r h1 h2 h3 h4) hp hpt hlv hr;rw[kW] at hr;refine PC.vw (gX MH ⟨ae,ag⟩ ?_);simp only[fy];have h0:(0:Int)<=(p:Int):=aa;have h1':(p:Int)<cs.length:=aa;have w0:=au p;by_cases h8:8<d
 ·exact d8
 rw[if_neg h8] at hr;have h8':(d:Int)<=8:=aa;refine a8 h8' ?_;refine iR (iA p 15) ?_;rcases hop with hop|hop
 ·have hop':(cs.getD p (0,0)).1=27:=hop;have hn29:¬fm cs p=29:=by rw[hop];decide
  rw[if_neg hn29] at hr;refine a8 (aU h1' (aU h0 (aU @ip (aU hop' w0)))) ?_;cases hl:lst cs f d false (p+1) pt lv .nil with
  |none=>simp[hn29,hl] at hr
  |some r1=>
  have hr1:=jn f d false (p+1) pt lv .nil r1 aa hpt aa hl;simp only[hn29,decide_false,Bool.or_false,hl] at hr;refine jN (ob:=λ_=>none) fV [4,3,2,1,0] [] [(0,.p 0 0),(1,aq d),(2,.p0),(6,.p 2 0),(7,.p 3 0),(8,.p 4 0)] [.p 0 0,aq d,.p0] [eZ 0 95 [.sl0],eZ 0 140 [aq 27,aq p,aq 0,.sl0,.sl0],eZ 0 140 [aq 0,aq 0,aq 0,.sl0,.sl0]] [fg 3 1 pt.length 0 (iC pt),eZ 0 173 [.fs 2 cs.length (pI cs),aq ((p+1:Nat):Int),.os 1 pt.length]] (hF d (p+1) pt lv r1 aa aa hpt aa hl).o ?_ ?_ ?_ ?_ ?_ ?_ ?_ ?_ ?_ ?_ ?_ ?_ ?_ ?_
  ·exact fK
  ·exact bb
  ·exact arz
  ·exact arA
  ·simp
  ·rfl
  ·exact dY
  ·rw[fv];exact kP ae af
  ·simp[AV.nm]
  ·simp[AV.nm,fV]
  ·exact arq
  ·exact arB
  ·rintro v H' ⟨x,p1,pt1,lv1,rfl,rfl,rfl⟩;refine⟨λ_=>none,λ_=>none,[fg 3 1 pt1.length 0 (iC pt1),eZ 0 173 [.fs 2 cs.length (pI cs),aq p1,.os 1 pt1.length]],[eZ 0 95 [.sl0],eZ 0 140 [aq 27,aq p,aq 0,.sl0,.sl0],eZ 0 140 [aq 0,aq 0,aq 0,.sl0,.sl0],fg 3 1 pt1.length 0 (iC pt1),eZ 0 173 [.fs 2 cs.length (pI cs),aq p1,.os 1 pt1.length]],[4,3,2,1,0],[],_,[(0,.p 0 0),(1,aq d),(2,.p0),(6,.p 2 0),(7,.p 3 0),(8,.p 4 0)],(fv _).symm,rfl,?_,?_,Wv.same rfl,ae,(λr x hx=>by cases hx),?_,?_⟩
   ·exact fK
   ·exact d9
   ·exact arD
   rw[fv];have hr1':=hr1 x p1 pt1 lv1 rfl;obtain⟨g1,g2,g3,g4,g5⟩:=hr1';dsimp only at hr;have h01:(0:Int)<=(p1:Int):=aa;by_cases hc:p1<cs.length/\fm cs p1=28
   ·rw[if_pos ⟨hop,hc⟩] at hr;have hlt':(p1:Int)<cs.length:=aa;have e28:(cs.getD p1 (0,0)).1=28:=hc.2;have q1:(p:Int)<pt1.length:=aa;have q3:p+1<=pt1.length:=aa;have w1:=au p1;obtain⟨ptB,hB⟩:∃l,l=pt1.set p (p1:Int):=⟨_,rfl⟩;have hBl:ptB.length=pt1.length:=by rw[hB,aph]
    rw[<-hB] at hr;refine a8 (aU h01 (aU hlt' (aU @ip hop'))) ?_;refine⟨λ_=>?_,λh=>by rw[e28] at h;exact absurd h ag⟩
    with_reducible refine GE.go fx rfl ?_
    refine ba ?_;refine GE.mixm fx 1 ed ?_
    refine bc (aU h0 (aU h01 (aU q1 q3))) ?_
    try refine(And.intro ag ?_)
    refine a9 (aU w1 @ip) ?_;cases hl2:lst cs f d false (p1+1) ptB lv1 .nil with
    |none=>rw[hl2] at hr;cases hr
    |some r2=>
    have hr2:=jn f d false (p1+1) ptB lv1 .nil r2 aa aa aa hl2;rw[hl2] at hr;refine jN (ob:=λ_=>none) fV [4,3,2,1,0] [] [(0,.p 0 0),(1,aq d),(2,.p0),(6,.p 2 0),(7,.p 3 0),(8,.p 4 0),(9,aq p1)] [.p 0 0,aq d,.p0] [eZ 0 95 [.sl0],eZ 0 140 [aq 27,aq p,aq 0,.fs 5 x.len x.cell,.sl0],eZ 0 140 [aq 0,aq 0,aq 0,.sl0,.sl0]] [fg 3 1 ptB.length 0 (iC ptB),eZ 0 173 [.fs 2 cs.length (pI cs),aq ((p1+1:Nat):Int),.os 1 ptB.length]] (hF d (p1+1) ptB lv1 r2 aa aa aa aa hl2).o ?_ ?_ ?_ ?_ ?_ ?_ ?_ ?_ ?_ ?_ ?_ ?_ ?_ ?_
    ·exact fK
    ·(try rw[hBl]);exact .cr (.j1) (.cr (.j5) (.cr (.j5) (.cr (.put1 (row:=iC pt1) (row2:=iC ptB) (o:=p) (q:=p) (t:=0) (v:= aq (p1:Int)) ah aa ag aa rfl aa (λi j hi hj=>by rw[hB];simp only[iC];rw[i5 aa];by_cases hh:i=p<;>simp[hh];omega) (λ_ _ _ _=>rfl)) bb)))
    ·exact arz
    ·exact arA
    ·simp
    ·rfl
    ·exact dY
    ·rw[fv];exact kP ae af
    ·simp[AV.nm]
    ·simp[AV.nm,fV]
    ·exact arq
    ·exact arB
    ·rintro v H' ⟨y,p2,pt2,lv2,rfl,rfl,rfl⟩;refine⟨λ_=>none,λ_=>none,[fg 3 1 pt2.length 0 (iC pt2),eZ 0 173 [.fs 2 cs.length (pI cs),aq p2,.os 1 pt2.length]],[eZ 0 95 [.sl0],eZ 0 140 [aq 27,aq p,aq 0,.fs 5 x.len x.cell,.sl0],eZ 0 140 [aq 0,aq 0,aq 0,.sl0,.sl0],fg 3 1 pt2.length 0 (iC pt2),eZ 0 173 [.fs 2 cs.length (pI cs),aq p2,.os 1 pt2.length]],[4,3,2,1,0],[],_,[(0,.p 0 0),(1,aq d),(2,.p0),(6,.p 2 0),(7,.p 3 0),(8,.p 4 0),(9,aq p1)],(fv _).symm,rfl,?_,?_,Wv.same rfl,ae,(λr x hx=>by cases hx),?_,?_⟩
     ·exact fK
     ·exact d9
     ·exact arD
     rw[fv];obtain⟨f1,f2,f3,f4,f5⟩:=hr2 y p2 pt2 lv2 rfl;dsimp only at hr;have h02:(0:Int)<=(p2:Int):=aa;by_cases hlt:p2<cs.length
     ·have hlt':(p2:Int)<cs.length:=aa;by_cases hend:fm cs p2=31
      ·have e31:(cs.getD p2 (0,0)).1=31:=hend;rw[ku,if_pos ⟨hlt,hend⟩] at hr;refine a8 (aU h01 (aU @ip (aU hop' (aU hlt' (aU h02 e31))))) ?_;refine iR (iA p2 15) ?_;have q1:(p1:Int)<pt2.length:=aa;have q2:(p2:Int)<pt2.length:=aa;have q3:p1+1<=pt2.length:=aa;have q4:p2+1<=pt2.length:=aa;refine ba ?_
       with_reducible refine GE.go fx rfl ?_
       refine ba ?_;refine GE.wk (gA.mk (L:=[(0,.p 0 0),(6,.p 1 0),(7,.p 2 0),(8,.p 3 0),(9,aq p1)]) (bl:=[fg 3 1 pt2.length 0 (iC pt2),eZ 0 95 [.sl0],eZ 0 140 [aq 27,aq p,aq 0,.fs 5 x.len x.cell,.fs 5 y.len y.cell],eZ 0 140 [aq 0,aq 0,aq 0,.sl0,.sl0],eZ 0 173 [.fs 2 cs.length (pI cs),aq p2,.os 4 pt2.length]]) [1,4,3,2,0] [] ?_ ?_ ae (fh rfl)) ?_
       ·exact fK
       ·exact bb
       refine GE.mixm fx 4 ed ?_
       refine a8 (aU h01 (aU h0 (aU q1 (aU q2 (aU q3 (aU q4 h02)))))) ?_;refine⟨ag,?_⟩;refine a7 ?_;obtain⟨ptA,hA⟩:∃l,l=(pt2.set p1 (p2:Int)).set p2 (p:Int):=⟨_,rfl⟩;have hAl:ptA.length=pt2.length:=by rw[hA,aph,aph]
       rw[<-hA] at hr;have w9:=au p2;refine GE.loop (I:=λm e H=>e=fu [(0,.p 0 0),(6,.p 1 0),(7,.p 2 0),(158,aq 0),(159,aq 0)]/\H=fi [fg 3 1 ptA.length 0 (iC ptA),eZ 0 95 [.sl0],eZ 0 140 [aq 27,aq p,aq 0,.fs 5 x.len x.cell,.fs 5 y.len y.cell],eZ 0 140 [aq 0,aq 0,aq 0,.sl0,.sl0],eZ 0 173 [.fs 2 cs.length (pI cs),aq p2,.os 4 ptA.length]]) (m:=0) (gA.mk [4,3,2,1,0] [] ?_ ?_ ae (fh rfl)) ⟨rfl,rfl⟩ ?_
       ·exact fK
       ·exact ef
       rintro m e H ⟨rfl,rfl⟩;refine a9 (aU w9 (aU h01 (aU @ip h02))) ?_;rw[hop] at hr;rw[if_neg ag,if_neg ag] at hr;refine mR [4,0] [] (.agg [aq 27,aq p,aq ((p2+1:Nat):Int),.fs 5 (x).len (x).cell,.fs 5 (y).len (y).cell]) [fg 3 1 ptA.length 0 (iC ptA),eZ 0 173 [.fs 2 cs.length (pI cs),aq ((p2+1:Nat):Int),.os 1 ptA.length]] bb (.agg rfl (λi v v' k1 k2=>?_)) ae (fh rfl) ⟨.br 27 p (p2+1) x y .nil,p2+1,ptA,lv2,(apl hr).symm,⟨27,p,p2+1,x,y,rfl,bL _⟩,aa,aa,aa,aa,rfl,rfl⟩;rcases i with _|_|_|_|_|i<;>simp only[List.getElem?_cons_zero,List.getElem?_cons_succ,apn,List.getElem?_nil,reduceCtorEq] at k1 k2<;>subst k1 k2<;>first|exact Wv.same rfl|exact .cv (.sl0 _ _)
      ·exact eg
     ·have hlt':¬(p2:Int)<cs.length:=by omega
      ·exact eh
    ·exact arI
   ·rw[if_neg (λh=>hc h.2)] at hr;by_cases hlt:p1<cs.length
    ·have hlt':(p1:Int)<cs.length:=aa;have e28:¬(cs.getD p1 (0,0)).1=28:=λh=>hc ⟨hlt,h⟩;by_cases hend:fm cs p1=31
     ·have e31:(cs.getD p1 (0,0)).1=31:=hend;rw[ku,if_pos ⟨hlt,hend⟩] at hr;refine a8 (aU h01 (aU @ip (aU hop' (aU hlt' (aU e28 e31))))) ?_;refine iR (iA p1 15) ?_;have q1:(p:Int)<pt1.length:=aa;have q2:(p1:Int)<pt1.length:=aa;have q3:p+1<=pt1.length:=aa;have q4:p1+1<=pt1.length:=aa;refine ba ?_
      with_reducible refine GE.go fx rfl ?_
      refine ba ?_;refine GE.wk (gA.mk (L:=[(0,.p 0 0),(6,.p 1 0),(7,.p 2 0),(8,.p 3 0),(9,aq p)]) (bl:=[fg 3 1 pt1.length 0 (iC pt1),eZ 0 95 [.sl0],eZ 0 140 [aq 27,aq p,aq 0,.fs 5 x.len x.cell,.sl0],eZ 0 140 [aq 0,aq 0,aq 0,.sl0,.sl0],eZ 0 173 [.fs 2 cs.length (pI cs),aq p1,.os 4 pt1.length]]) [1,4,3,2,0] [] ?_ ?_ ae (fh rfl)) ?_
      ·exact fK
      ·exact bb
      refine GE.mixm fx 4 ed ?_
      refine a8 (aU h01 (aU h0 (aU q1 (aU q2 (aU q3 q4))))) ?_;refine⟨ag,?_⟩;refine a7 ?_;obtain⟨ptA,hA⟩:∃l,l=(pt1.set p (p1:Int)).set p1 (p:Int):=⟨_,rfl⟩;have hAl:ptA.length=pt1.length:=by rw[hA,aph,aph]
      rw[<-hA] at hr;have w9:=au p1;refine GE.loop (I:=λm e H=>e=fu [(0,.p 0 0),(6,.p 1 0),(7,.p 2 0),(158,aq 0),(159,aq 0)]/\H=fi [fg 3 1 ptA.length 0 (iC ptA),eZ 0 95 [.sl0],eZ 0 140 [aq 27,aq p,aq 0,.fs 5 x.len x.cell,.sl0],eZ 0 140 [aq 0,aq 0,aq 0,.sl0,.sl0],eZ 0 173 [.fs 2 cs.length (pI cs),aq p1,.os 4 ptA.length]]) (m:=0) (gA.mk [4,3,2,1,0] [] ?_ ?_ ae (fh rfl)) ⟨rfl,rfl⟩ ?_
      ·exact fK
      ·exact ei
      rintro m e H ⟨rfl,rfl⟩;refine a9 (aU w9 (aU h01 @ip)) ?_;rw[hop] at hr;rw[if_neg ag,if_neg ag] at hr;refine mR [4,0] [] (.agg [aq 27,aq p,aq ((p1+1:Nat):Int),.fs 5 (x).len (x).cell,.fs 5 (Fo.nil).len (Fo.nil).cell]) [fg 3 1 ptA.length 0 (iC ptA),eZ 0 173 [.fs 2 cs.length (pI cs),aq ((p1+1:Nat):Int),.os 1 ptA.length]] bb (.agg rfl (λi v v' k1 k2=>?_)) ae (fh rfl) ⟨.br 27 p (p1+1) x Fo.nil .nil,p1+1,ptA,lv1,(apl hr).symm,⟨27,p,p1+1,x,Fo.nil,rfl,bL _⟩,aa,aa,aa,aa,rfl,rfl⟩;rcases i with _|_|_|_|_|i<;>simp only[List.getElem?_cons_zero,List.getElem?_cons_succ,apn,List.getElem?_nil,reduceCtorEq] at k1 k2<;>subst k1 k2<;>first|exact Wv.same rfl|exact .cv (.sl0 _ _)
     ·exact ek
    ·have hlt':¬(p1:Int)<cs.length:=by omega
     ·exact eo
  ·exact arI
 ·have hop':(cs.getD p (0,0)).1=29:=hop;have hn27:¬fm cs p=27:=by rw[hop];decide
  have hdec:decide (fm cs p=29)=true:=by rw[hop];rfl
  rw[if_pos hop] at hr;simp only[hdec,Bool.or_true] at hr;refine a9 (aU h1' (aU h0 @ip)) ?_;refine⟨λ_=>?_,λh=>by rw[hop'] at h;exact absurd h ag⟩
  refine GE.wk (gA.nilb 4 0 1 3 (x:=_) ai ai ag ag arM af arM) ?_
  refine a9 w0 ?_;cases hl:lst cs f d true (p+1) pt [] .nil with
  |none=>rw[hl] at hr;cases hr
  |some r1=>
  have hr1:=jn f d true (p+1) pt [] .nil r1 aa hpt ae hl;rw[hl] at hr;obtain⟨lvE,hE⟩:∃l:List Int,l=[]:=⟨_,rfl⟩;have hEl:lvE.length=0:=by rw[hE];rfl
  rw[<-hE] at hl;refine jN (ob:=λ_=>none) j9 [3,2,5,1,4,0] [] [(0,.p 0 0),(1,aq d),(2,.p 1 0),(6,.p 4 0),(7,.p 5 0),(8,.p 1 0)] [.p 0 0,aq d,.p 1 0] [eZ 0 140 [aq 29,aq p,aq 0,.sl0,.sl0],eZ 0 140 [aq 0,aq 0,aq 0,.sl0,.sl0]] [fg 3 1 lvE.length 0 (iC lvE),fg 3 1 pt.length 0 (iC pt),eZ 0 95 [.os 3 lvE.length],eZ 0 173 [.fs 2 cs.length (pI cs),aq ((p+1:Nat):Int),.os 2 pt.length]] (hT d (p+1) pt lvE r1 aa aa hpt aa hl).o ?_ ?_ ?_ ?_ ?_ ?_ ?_ ?_ ?_ ?_ ?_ ?_ ?_ ?_
  ·exact fK
  ·rw[hEl];exact .cr (.j5) (.cr (.j5) (.cr (.rows (x:=_) aj af af af ae ag ag (λi j h=>absurd h (apg _)) (λi j h=>absurd h (apg _))) bb))
  ·exact arN
  ·exact arA
  ·simp
  ·rfl
  ·exact dZ
  ·rw[fv];exact oL ae af af
  ·simp[AV.nm]
  ·simp[AV.nm,j9]
  ·exact arw
  ·exact .cons (.lst ae (by simp[AV.nm])) (.cons .lq .nil)
  ·rintro v H' ⟨x,p1,pt1,lv1,rfl,rfl,rfl⟩;refine⟨λ_=>none,λ_=>none,[fg 3 1 lv1.length 0 (iC lv1),fg 3 1 pt1.length 0 (iC pt1),eZ 0 95 [.os 3 lv1.length],eZ 0 173 [.fs 2 cs.length (pI cs),aq p1,.os 2 pt1.length]],[fg 3 1 lv1.length 0 (iC lv1),eZ 0 95 [.os 5 lv1.length],eZ 0 140 [aq 29,aq p,aq 0,.sl0,.sl0],eZ 0 140 [aq 0,aq 0,aq 0,.sl0,.sl0],fg 3 1 pt1.length 0 (iC pt1),eZ 0 173 [.fs 2 cs.length (pI cs),aq p1,.os 1 pt1.length]],[3,1,5,4,2,0],[],_,[(0,.p 0 0),(1,aq d),(2,.p 4 0),(6,.p 2 0),(7,.p 3 0),(8,.p 4 0)],(fv _).symm,rfl,?_,?_,Wv.same rfl,ae,(λr x hx=>by cases hx),?_,?_⟩
   ·exact fK
   ·exact d9
   ·exact arD
   rw[fv];obtain⟨g1,g2,g3,g4,g5⟩:=hr1 x p1 pt1 lv1 rfl;dsimp only at hr;have h01:(0:Int)<=(p1:Int):=aa;rw[if_neg (λh=>hn27 h.1)] at hr;by_cases hlt:p1<cs.length
   ·have hlt':(p1:Int)<cs.length:=aa;by_cases hend:fm cs p1=31
    ·have e31:(cs.getD p1 (0,0)).1=31:=hend;rw[ku,if_pos ⟨hlt,hend⟩] at hr;refine a8 (aU h01 (aU @ip (aU hop' (aU hlt' e31)))) ?_;refine iR (iA p1 15) ?_;have q1:(p:Int)<pt1.length:=aa;have q2:(p1:Int)<pt1.length:=aa;have q3:p+1<=pt1.length:=aa;have q4:p1+1<=pt1.length:=aa;refine ba ?_
     with_reducible refine GE.go fx rfl ?_
     refine ba ?_;refine GE.wk (gA.mk (L:=[(0,.p 0 0),(6,.p 1 0),(7,.p 2 0),(8,.p 3 0),(9,aq p)]) (bl:=[fg 3 1 pt1.length 0 (iC pt1),fg 3 1 lv1.length 0 (iC lv1),eZ 0 95 [.os 4 lv1.length],eZ 0 140 [aq 29,aq p,aq 0,.fs 5 x.len x.cell,.sl0],eZ 0 140 [aq 0,aq 0,aq 0,.sl0,.sl0],eZ 0 173 [.fs 2 cs.length (pI cs),aq p1,.os 5 pt1.length]]) [1,5,4,3,2,0] [] ?_ ?_ ae (fh rfl)) ?_
     ·exact fK
     ·exact bb
     refine GE.mixm fx 5 ed ?_
     refine a8 (aU h01 (aU h0 (aU q1 (aU q2 (aU q3 q4))))) ?_;refine⟨ag,?_⟩;refine a7 ?_;obtain⟨ptA,hA⟩:∃l,l=(pt1.set p (p1:Int)).set p1 (p:Int):=⟨_,rfl⟩;have hAl:ptA.length=pt1.length:=by rw[hA,aph,aph]
     rw[<-hA] at hr;have w9:=au p1;have hsl:∀l,(hY ptA (p1:Int) l).length=ptA.length:=λl=>nL l ptA _;refine GE.loop (I:=λm e H=>∃k,m+k=lv1.length/\e=fu [(0,.p 0 0),(6,.p 1 0),(7,.p 2 0),(157,.os 4 lv1.length),(158,aq lv1.length),(159,aq k)]/\H=fi [fg 3 1 (hY ptA p1 (lv1.take k)).length 0 (iC (hY ptA p1 (lv1.take k))),fg 3 1 lv1.length 0 (iC lv1),eZ 0 95 [.os 4 lv1.length],eZ 0 140 [aq 29,aq p,aq 0,.fs 5 x.len x.cell,.sl0],eZ 0 140 [aq 0,aq 0,aq 0,.sl0,.sl0],eZ 0 173 [.fs 2 cs.length (pI cs),aq p1,.os 5 (hY ptA p1 (lv1.take k)).length]]) (m:=lv1.length) (gA.mk [5,4,3,2,1,0] [] ?_ ?_ ae (fh rfl)) ⟨0,rfl,rfl,rfl⟩ ?_
     ·exact fK
     ·show ig _ _ _ _ [fg 3 1 ptA.length 0 (iC ptA),fg 3 1 lv1.length 0 (iC lv1),eZ 0 95 [.os 4 lv1.length],eZ 0 140 [aq 29,aq p,aq 0,.fs 5 x.len x.cell,.sl0],eZ 0 140 [aq 0,aq 0,aq 0,.sl0,.sl0],eZ 0 173 [.fs 2 cs.length (pI cs),aq p1,.os 5 ptA.length]];rw[hAl];exact .cr (.put2 (row:=iC pt1) (row2:=iC ptA) (a:=p) (c:=p1) (v:= aq (p1:Int)) (w:= aq (p:Int)) ah aa aa rfl aa (λi hi=>by rw[hA];exact mr aa aa _ _ i) (λ_ _ _ _=>rfl)) bb
     rintro m e H ⟨k,hk,rfl,rfl⟩;obtain⟨ptK,hK⟩:∃l,l=hY ptA (p1:Int) (lv1.take k):=⟨_,rfl⟩;have hKl:ptK.length=pt1.length:=by rw[hK,hsl,hAl]
     rw[<-hK];have h0k:(0:Int)<=(k:Int):=aa;by_cases hm:k<lv1.length
     ·have hkk:(k:Int)<lv1.length:=aa;have hmem:lv1.getD k 0 ∈ lv1:=by rw[apd,apk hm];exact ap2 hm
      obtain⟨hz0,hz1⟩:=(g5 _ hmem).elim (λh=>absurd h (aqh)) id;obtain⟨z,hz⟩:∃z:Nat,lv1.getD k 0=(z:Int):=⟨(lv1.getD k 0).toNat,aa⟩;have hzl:z<ptK.length:=aa;have hzi:(z:Int)<ptK.length:=aa;have hz2:(0:Int)<=(z:Int):=aa;have hzs:z+1<=ptK.length:=hzl;have hgk:(fg 3 1 lv1.length 0 (iC lv1)).get k= aq (z:Int):=by rw[kL];simp only[iC,hz]
      have wk:=au k;have hK1:hY ptA (p1:Int) (lv1.take (k+1))=ptK.set z (p1:Int):=by rw[uw hm,pN,<-hK,hz,apw]
      repeat (first|with_reducible refine GE.seq ?_|with_reducible refine GE.block ?_|with_reducible refine GE.skip ?_|with_reducible refine GE.reg ?_|with_reducible refine GE.cond ?_|simp only[hkk,h0k,hm,hgk,decide_true,go_sem,simprocAttr])
      refine GE.mixm fx 5 ed ?_
      refine bc (aU hzi (aU hz2 (aU hzs h01))) ?_
      try refine(And.intro ag ?_)
      refine a9 wk ?_;refine⟨m-1,_,_,aa,gA.mk [5,4,3,2,1,0] [] ?_ ?_ ae (fh rfl),k+1,aa,rfl,rfl⟩
      ·exact fK
      ·exact ep
     ·have hkk:¬(k:Int)<lv1.length:=aa;have hKe:hY ptA (p1:Int) lv1=ptK:=by rw[hK,List.take_of_length_le aa]
      refine a8 (aU hkk (aU w9 (aU h01 @ip))) ?_;rw[hop] at hr;rw[if_pos rfl,if_pos rfl,hKe] at hr;refine mR [5,0] [] (.agg [aq 29,aq p,aq ((p1+1:Nat):Int),.fs 5 (x).len (x).cell,.fs 5 (Fo.nil).len (Fo.nil).cell]) [fg 3 1 ptK.length 0 (iC ptK),eZ 0 173 [.fs 2 cs.length (pI cs),aq ((p1+1:Nat):Int),.os 1 ptK.length]] bb (.agg rfl (λi v v' k1 k2=>?_)) ae (fh rfl) ⟨.br 29 p (p1+1) x Fo.nil .nil,p1+1,ptK,lv,(apl hr).symm,⟨29,p,p1+1,x,Fo.nil,rfl,bL _⟩,aa,aa,aa,aa,rfl,rfl⟩;rcases i with _|_|_|_|_|i<;>simp only[List.getElem?_cons_zero,List.getElem?_cons_succ,apn,List.getElem?_nil,reduceCtorEq] at k1 k2<;>subst k1 k2<;>first|exact Wv.same rfl|exact .cv (.sl0 _ _)
    ·exact et
   ·have hlt':¬(p1:Int)<cs.length:=by omega
    ·exact eo
  ·exact arI
theorem C6(cs:am)(hcs:cs.length<=1024)(f:Nat)(hF:wh cs f)(hT:wg cs f):Br cs (λd inL p pt lv=>lst cs f d inL p pt lv .nil):=by
 intro d p pt lv r hd hp hpt hlv hop hr;have hok:=ry (λd inL p pt lv r h1 h2 h3 h4=>jn f d inL p pt lv .nil r h1 h2 h3 h4) hp hpt hlv hr;rw[kW] at hr;refine PC.vw (gX MH ⟨ae,ag⟩ ?_);simp only[fy];have h0:(0:Int)<=(p:Int):=aa;have h1':(p:Int)<cs.length:=aa;have w0:=au p;by_cases h8:8<d
 ·exact d8
 rw[if_neg h8] at hr;have h8':(d:Int)<=8:=aa;refine a8 h8' ?_;refine iR (iA p 15) ?_;rcases hop with hop|hop
 ·have hop':(cs.getD p (0,0)).1=27:=hop;have hn29:¬fm cs p=29:=by rw[hop];decide
  rw[if_neg hn29] at hr;refine a8 (aU h1' (aU h0 (aU @ip (aU hop' w0)))) ?_;cases hl:lst cs f d true (p+1) pt lv .nil with
  |none=>simp[hn29,hl] at hr
  |some r1=>
  have hr1:=jn f d true (p+1) pt lv .nil r1 aa hpt aa hl;simp only[hn29,decide_false,Bool.or_false,hl] at hr;refine jN (ob:=λ_=>none) j9 [6,5,4,3,2,1,0] [] [(0,.p 0 0),(1,aq d),(2,.p 1 0),(6,.p 4 0),(7,.p 5 0),(8,.p 6 0)] [.p 0 0,aq d,.p 1 0] [eZ 0 95 [.sl0],eZ 0 140 [aq 27,aq p,aq 0,.sl0,.sl0],eZ 0 140 [aq 0,aq 0,aq 0,.sl0,.sl0]] [fg 3 1 lv.length 0 (iC lv),fg 3 1 pt.length 0 (iC pt),eZ 0 95 [.os 3 lv.length],eZ 0 173 [.fs 2 cs.length (pI cs),aq ((p+1:Nat):Int),.os 2 pt.length]] (hT d (p+1) pt lv r1 aa aa hpt aa hl).o ?_ ?_ ?_ ?_ ?_ ?_ ?_ ?_ ?_ ?_ ?_ ?_ ?_ ?_
  ·exact fK
  ·exact bb
  ·exact arN
  ·exact arA
  ·simp
  ·rfl
  ·exact dZ
  ·rw[fv];exact oL ae af af
  ·simp[AV.nm]
  ·simp[AV.nm,j9]
  ·exact arw
  ·exact arB
  ·rintro v H' ⟨x,p1,pt1,lv1,rfl,rfl,rfl⟩;refine⟨λ_=>none,λ_=>none,[fg 3 1 lv1.length 0 (iC lv1),fg 3 1 pt1.length 0 (iC pt1),eZ 0 95 [.os 3 lv1.length],eZ 0 173 [.fs 2 cs.length (pI cs),aq p1,.os 2 pt1.length]],[eZ 0 95 [.sl0],eZ 0 140 [aq 27,aq p,aq 0,.sl0,.sl0],eZ 0 140 [aq 0,aq 0,aq 0,.sl0,.sl0],fg 3 1 lv1.length 0 (iC lv1),fg 3 1 pt1.length 0 (iC pt1),eZ 0 95 [.os 3 lv1.length],eZ 0 173 [.fs 2 cs.length (pI cs),aq p1,.os 2 pt1.length]],[6,5,4,3,2,1,0],[],_,[(0,.p 0 0),(1,aq d),(2,.p 1 0),(6,.p 4 0),(7,.p 5 0),(8,.p 6 0)],(fv _).symm,rfl,?_,?_,Wv.same rfl,ae,(λr x hx=>by cases hx),?_,?_⟩
   ·exact fK
   ·exact d9
   ·intro b hb;have hb':=of_decide_eq_true hb;rcases(show b=0\/b=1 by omega) with rfl|rfl
    ·exact⟨0,rfl,rfl,.inl rfl⟩
    ·exact⟨1,rfl,rfl,.inl rfl⟩
   rw[fv];have hr1':=hr1 x p1 pt1 lv1 rfl;obtain⟨g1,g2,g3,g4,g5⟩:=hr1';dsimp only at hr;have h01:(0:Int)<=(p1:Int):=aa;by_cases hc:p1<cs.length/\fm cs p1=28
   ·rw[if_pos ⟨hop,hc⟩] at hr;have hlt':(p1:Int)<cs.length:=aa;have e28:(cs.getD p1 (0,0)).1=28:=hc.2;have q1:(p:Int)<pt1.length:=aa;have q3:p+1<=pt1.length:=aa;have w1:=au p1;obtain⟨ptB,hB⟩:∃l,l=pt1.set p (p1:Int):=⟨_,rfl⟩;have hBl:ptB.length=pt1.length:=by rw[hB,aph]
    rw[<-hB] at hr;refine a8 (aU h01 (aU hlt' (aU @ip hop'))) ?_;refine⟨λ_=>?_,λh=>by rw[e28] at h;exact absurd h ag⟩
    with_reducible refine GE.go fx rfl ?_
    refine ba ?_;refine GE.mixm fx 2 ed ?_
    refine bc (aU h0 (aU h01 (aU q1 q3))) ?_
    try refine(And.intro ag ?_)
    refine a9 (aU w1 @ip) ?_;cases hl2:lst cs f d true (p1+1) ptB lv1 .nil with
    |none=>rw[hl2] at hr;cases hr
    |some r2=>
    have hr2:=jn f d true (p1+1) ptB lv1 .nil r2 aa aa aa hl2;rw[hl2] at hr;refine jN (ob:=λ_=>none) j9 [6,5,4,3,2,1,0] [] [(0,.p 0 0),(1,aq d),(2,.p 1 0),(6,.p 4 0),(7,.p 5 0),(8,.p 6 0),(9,aq p1)] [.p 0 0,aq d,.p 1 0] [eZ 0 95 [.sl0],eZ 0 140 [aq 27,aq p,aq 0,.fs 5 x.len x.cell,.sl0],eZ 0 140 [aq 0,aq 0,aq 0,.sl0,.sl0]] [fg 3 1 lv1.length 0 (iC lv1),fg 3 1 ptB.length 0 (iC ptB),eZ 0 95 [.os 3 lv1.length],eZ 0 173 [.fs 2 cs.length (pI cs),aq ((p1+1:Nat):Int),.os 2 ptB.length]] (hT d (p1+1) ptB lv1 r2 aa aa aa aa hl2).o ?_ ?_ ?_ ?_ ?_ ?_ ?_ ?_ ?_ ?_ ?_ ?_ ?_ ?_
    ·exact fK
    ·(try rw[hBl]);exact .cr (.j1) (.cr (.j5) (.cr (.j5) (.cr .k1 (.cr (.put1 (row:=iC pt1) (row2:=iC ptB) (o:=p) (q:=p) (t:=0) (v:= aq (p1:Int)) ah aa ag aa rfl aa (λi j hi hj=>by rw[hB];simp only[iC];rw[i5 aa];by_cases hh:i=p<;>simp[hh];omega) (λ_ _ _ _=>rfl)) bb))))
    ·exact arN
    ·exact arA
    ·simp
    ·rfl
    ·exact dZ
    ·rw[fv];exact oL ae af af
    ·simp[AV.nm]
    ·simp[AV.nm,j9]
    ·exact arw
    ·exact arB
    ·rintro v H' ⟨y,p2,pt2,lv2,rfl,rfl,rfl⟩;refine⟨λ_=>none,λ_=>none,[fg 3 1 lv2.length 0 (iC lv2),fg 3 1 pt2.length 0 (iC pt2),eZ 0 95 [.os 3 lv2.length],eZ 0 173 [.fs 2 cs.length (pI cs),aq p2,.os 2 pt2.length]],[eZ 0 95 [.sl0],eZ 0 140 [aq 27,aq p,aq 0,.fs 5 x.len x.cell,.sl0],eZ 0 140 [aq 0,aq 0,aq 0,.sl0,.sl0],fg 3 1 lv2.length 0 (iC lv2),fg 3 1 pt2.length 0 (iC pt2),eZ 0 95 [.os 3 lv2.length],eZ 0 173 [.fs 2 cs.length (pI cs),aq p2,.os 2 pt2.length]],[6,5,4,3,2,1,0],[],_,[(0,.p 0 0),(1,aq d),(2,.p 1 0),(6,.p 4 0),(7,.p 5 0),(8,.p 6 0),(9,aq p1)],(fv _).symm,rfl,?_,?_,Wv.same rfl,ae,(λr x hx=>by cases hx),?_,?_⟩
     ·exact fK
     ·exact d9
     ·intro b hb;have hb':=of_decide_eq_true hb;rcases(show b=0\/b=1 by omega) with rfl|rfl
      ·exact⟨0,rfl,rfl,.inl rfl⟩
      ·exact⟨1,rfl,rfl,.inl rfl⟩
     rw[fv];obtain⟨f1,f2,f3,f4,f5⟩:=hr2 y p2 pt2 lv2 rfl;dsimp only at hr;have h02:(0:Int)<=(p2:Int):=aa;by_cases hlt:p2<cs.length
     ·have hlt':(p2:Int)<cs.length:=aa;by_cases hend:fm cs p2=31
      ·have e31:(cs.getD p2 (0,0)).1=31:=hend;rw[ku,if_pos ⟨hlt,hend⟩] at hr;refine a8 (aU h01 (aU @ip (aU hop' (aU hlt' (aU h02 e31))))) ?_;refine iR (iA p2 15) ?_;have q1:(p1:Int)<pt2.length:=aa;have q2:(p2:Int)<pt2.length:=aa;have q3:p1+1<=pt2.length:=aa;have q4:p2+1<=pt2.length:=aa;refine ba ?_
       with_reducible refine GE.go fx rfl ?_
       refine ba ?_;refine GE.wk (gA.mk (L:=[(0,.p 0 0),(6,.p 3 0),(7,.p 4 0),(8,.p 5 0),(9,aq p1)]) (bl:=[fg 3 1 pt2.length 0 (iC pt2),eZ 0 95 [.sl0],eZ 0 140 [aq 27,aq p,aq 0,.fs 5 x.len x.cell,.fs 5 y.len y.cell],eZ 0 140 [aq 0,aq 0,aq 0,.sl0,.sl0],fg 3 1 lv2.length 0 (iC lv2),eZ 0 95 [.os 2 lv2.length],eZ 0 173 [.fs 2 cs.length (pI cs),aq p2,.os 6 pt2.length]]) [2,6,5,4,3,1,0] [] ?_ ?_ ae (gy rfl rfl)) ?_
       ·exact fK
       ·exact bb
       refine GE.mixm fx 6 ed ?_
       refine a8 (aU h01 (aU h0 (aU q1 (aU q2 (aU q3 (aU q4 h02)))))) ?_;refine⟨ag,?_⟩;refine a7 ?_;obtain⟨ptA,hA⟩:∃l,l=(pt2.set p1 (p2:Int)).set p2 (p:Int):=⟨_,rfl⟩;have hAl:ptA.length=pt2.length:=by rw[hA,aph,aph]
       rw[<-hA] at hr;have w9:=au p2;refine GE.loop (I:=λm e H=>e=fu [(0,.p 0 0),(6,.p 3 0),(7,.p 4 0),(158,aq 0),(159,aq 0)]/\H=fi [fg 3 1 ptA.length 0 (iC ptA),eZ 0 95 [.sl0],eZ 0 140 [aq 27,aq p,aq 0,.fs 5 x.len x.cell,.fs 5 y.len y.cell],eZ 0 140 [aq 0,aq 0,aq 0,.sl0,.sl0],fg 3 1 lv2.length 0 (iC lv2),eZ 0 95 [.os 2 lv2.length],eZ 0 173 [.fs 2 cs.length (pI cs),aq p2,.os 6 ptA.length]]) (m:=0) (gA.mk [6,5,4,3,2,1,0] [] ?_ ?_ ae (gy rfl rfl)) ⟨rfl,rfl⟩ ?_
       ·exact fK
       ·exact ef
       rintro m e H ⟨rfl,rfl⟩;refine a9 (aU w9 (aU h01 (aU @ip h02))) ?_;rw[hop] at hr;rw[if_neg ag,if_neg ag] at hr;refine mR [2,6,1,0] [] (.agg [aq 27,aq p,aq ((p2+1:Nat):Int),.fs 5 (x).len (x).cell,.fs 5 (y).len (y).cell]) [fg 3 1 lv2.length 0 (iC lv2),fg 3 1 ptA.length 0 (iC ptA),eZ 0 95 [.os 3 lv2.length],eZ 0 173 [.fs 2 cs.length (pI cs),aq ((p2+1:Nat):Int),.os 2 ptA.length]] bb (.agg rfl (λi v v' k1 k2=>?_)) ae (gy rfl rfl) ⟨.br 27 p (p2+1) x y .nil,p2+1,ptA,lv2,(apl hr).symm,⟨27,p,p2+1,x,y,rfl,bL _⟩,aa,aa,aa,aa,rfl,rfl⟩;rcases i with _|_|_|_|_|i<;>simp only[List.getElem?_cons_zero,List.getElem?_cons_succ,apn,List.getElem?_nil,reduceCtorEq] at k1 k2<;>subst k1 k2<;>first|exact Wv.same rfl|exact .cv (.sl0 _ _)
      ·exact eg
     ·have hlt':¬(p2:Int)<cs.length:=by omega
      ·exact eh
    ·exact arI
   ·rw[if_neg (λh=>hc h.2)] at hr;by_cases hlt:p1<cs.length
    ·have hlt':(p1:Int)<cs.length:=aa;have e28:¬(cs.getD p1 (0,0)).1=28:=λh=>hc ⟨hlt,h⟩;by_cases hend:fm cs p1=31
     ·have e31:(cs.getD p1 (0,0)).1=31:=hend;rw[ku,if_pos ⟨hlt,hend⟩] at hr;refine a8 (aU h01 (aU @ip (aU hop' (aU hlt' (aU e28 e31))))) ?_;refine iR (iA p1 15) ?_;have q1:(p:Int)<pt1.length:=aa;have q2:(p1:Int)<pt1.length:=aa;have q3:p+1<=pt1.length:=aa;have q4:p1+1<=pt1.length:=aa;refine ba ?_
      with_reducible refine GE.go fx rfl ?_
      refine ba ?_;refine GE.wk (gA.mk (L:=[(0,.p 0 0),(6,.p 3 0),(7,.p 4 0),(8,.p 5 0),(9,aq p)]) (bl:=[fg 3 1 pt1.length 0 (iC pt1),eZ 0 95 [.sl0],eZ 0 140 [aq 27,aq p,aq 0,.fs 5 x.len x.cell,.sl0],eZ 0 140 [aq 0,aq 0,aq 0,.sl0,.sl0],fg 3 1 lv1.length 0 (iC lv1),eZ 0 95 [.os 2 lv1.length],eZ 0 173 [.fs 2 cs.length (pI cs),aq p1,.os 6 pt1.length]]) [2,6,5,4,3,1,0] [] ?_ ?_ ae (gy rfl rfl)) ?_
      ·exact fK
      ·exact bb
      refine GE.mixm fx 6 ed ?_
      refine a8 (aU h01 (aU h0 (aU q1 (aU q2 (aU q3 q4))))) ?_;refine⟨ag,?_⟩;refine a7 ?_;obtain⟨ptA,hA⟩:∃l,l=(pt1.set p (p1:Int)).set p1 (p:Int):=⟨_,rfl⟩;have hAl:ptA.length=pt1.length:=by rw[hA,aph,aph]
      rw[<-hA] at hr;have w9:=au p1;refine GE.loop (I:=λm e H=>e=fu [(0,.p 0 0),(6,.p 3 0),(7,.p 4 0),(158,aq 0),(159,aq 0)]/\H=fi [fg 3 1 ptA.length 0 (iC ptA),eZ 0 95 [.sl0],eZ 0 140 [aq 27,aq p,aq 0,.fs 5 x.len x.cell,.sl0],eZ 0 140 [aq 0,aq 0,aq 0,.sl0,.sl0],fg 3 1 lv1.length 0 (iC lv1),eZ 0 95 [.os 2 lv1.length],eZ 0 173 [.fs 2 cs.length (pI cs),aq p1,.os 6 ptA.length]]) (m:=0) (gA.mk [6,5,4,3,2,1,0] [] ?_ ?_ ae (gy rfl rfl)) ⟨rfl,rfl⟩ ?_
      ·exact fK
      ·exact ei
      rintro m e H ⟨rfl,rfl⟩;refine a9 (aU w9 (aU h01 @ip)) ?_;rw[hop] at hr;rw[if_neg ag,if_neg ag] at hr;refine mR [2,6,1,0] [] (.agg [aq 27,aq p,aq ((p1+1:Nat):Int),.fs 5 (x).len (x).cell,.fs 5 (Fo.nil).len (Fo.nil).cell]) [fg 3 1 lv1.length 0 (iC lv1),fg 3 1 ptA.length 0 (iC ptA),eZ 0 95 [.os 3 lv1.length],eZ 0 173 [.fs 2 cs.length (pI cs),aq ((p1+1:Nat):Int),.os 2 ptA.length]] bb (.agg rfl (λi v v' k1 k2=>?_)) ae (gy rfl rfl) ⟨.br 27 p (p1+1) x Fo.nil .nil,p1+1,ptA,lv1,(apl hr).symm,⟨27,p,p1+1,x,Fo.nil,rfl,bL _⟩,aa,aa,aa,aa,rfl,rfl⟩;rcases i with _|_|_|_|_|i<;>simp only[List.getElem?_cons_zero,List.getElem?_cons_succ,apn,List.getElem?_nil,reduceCtorEq] at k1 k2<;>subst k1 k2<;>first|exact Wv.same rfl|exact .cv (.sl0 _ _)
     ·exact ek
    ·have hlt':¬(p1:Int)<cs.length:=by omega
     ·exact eo
  ·exact arI
 ·have hop':(cs.getD p (0,0)).1=29:=hop;have hn27:¬fm cs p=27:=by rw[hop];decide
  have hdec:decide (fm cs p=29)=true:=by rw[hop];rfl
  rw[if_pos hop] at hr;simp only[hdec,Bool.or_true] at hr;refine a9 (aU h1' (aU h0 @ip)) ?_;refine⟨λ_=>?_,λh=>by rw[hop'] at h;exact absurd h ag⟩
  refine GE.wk (gA.nilb 6 0 1 3 (x:=_) ai ai ag ag arM af arM) ?_
  refine a9 w0 ?_;cases hl:lst cs f d true (p+1) pt [] .nil with
  |none=>rw[hl] at hr;cases hr
  |some r1=>
  have hr1:=jn f d true (p+1) pt [] .nil r1 aa hpt ae hl;rw[hl] at hr;obtain⟨lvE,hE⟩:∃l:List Int,l=[]:=⟨_,rfl⟩;have hEl:lvE.length=0:=by rw[hE];rfl
  rw[<-hE] at hl;refine jN (ob:=λ_=>none) j9 [3,1,5,4,7,2,6,0] [] [(0,.p 0 0),(1,aq d),(2,.p 1 0),(6,.p 4 0),(7,.p 5 0),(8,.p 1 0)] [.p 0 0,aq d,.p 1 0] [fg 3 1 lv.length 0 (iC lv),eZ 0 95 [.os 7 lv.length],eZ 0 140 [aq 29,aq p,aq 0,.sl0,.sl0],eZ 0 140 [aq 0,aq 0,aq 0,.sl0,.sl0]] [fg 3 1 lvE.length 0 (iC lvE),fg 3 1 pt.length 0 (iC pt),eZ 0 95 [.os 3 lvE.length],eZ 0 173 [.fs 2 cs.length (pI cs),aq ((p+1:Nat):Int),.os 2 pt.length]] (hT d (p+1) pt lvE r1 aa aa hpt aa hl).o ?_ ?_ ?_ ?_ ?_ ?_ ?_ ?_ ?_ ?_ ?_ ?_ ?_ ?_
  ·exact fK
  ·rw[hEl];exact .cr .k1 (.cr (.j1) (.cr (.j5) (.cr (.j5) (.cr (.rows (x:=_) aj af af af ae ag ag (λi j h=>absurd h (apg _)) (λi j h=>absurd h (apg _))) bb))))
  ·exact arN
  ·exact arA
  ·simp
  ·rfl
  ·exact dZ
  ·rw[fv];exact oL ae af af
  ·simp[AV.nm]
  ·simp[AV.nm,j9]
  ·exact arw
  ·exact .cons (.row ag (λi j _ _=>rfl)) (.cons .lq (.cons (.lst ae (by simp[AV.nm])) (.cons .lq .nil)))
  ·rintro v H' ⟨x,p1,pt1,lv1,rfl,rfl,rfl⟩;refine⟨λ_=>none,λ_=>none,[fg 3 1 lv1.length 0 (iC lv1),fg 3 1 pt1.length 0 (iC pt1),eZ 0 95 [.os 3 lv1.length],eZ 0 173 [.fs 2 cs.length (pI cs),aq p1,.os 2 pt1.length]],[fg 3 1 lv1.length 0 (iC lv1),eZ 0 95 [.os 7 lv1.length],eZ 0 140 [aq 29,aq p,aq 0,.sl0,.sl0],eZ 0 140 [aq 0,aq 0,aq 0,.sl0,.sl0],fg 3 1 lv.length 0 (iC lv),fg 3 1 pt1.length 0 (iC pt1),eZ 0 95 [.os 3 lv.length],eZ 0 173 [.fs 2 cs.length (pI cs),aq p1,.os 2 pt1.length]],[3,1,5,4,7,2,6,0],[],_,[(0,.p 0 0),(1,aq d),(2,.p 6 0),(6,.p 4 0),(7,.p 5 0),(8,.p 6 0)],(fv _).symm,rfl,?_,?_,Wv.same rfl,ae,(λr x hx=>by cases hx),?_,?_⟩
   ·exact fK
   ·exact d9
   ·intro b hb;have hb':=of_decide_eq_true hb;rcases(show b=0\/b=1 by omega) with rfl|rfl
    ·exact⟨0,rfl,rfl,.inl rfl⟩
    ·exact⟨6,rfl,rfl,.inr ae⟩
   rw[fv];obtain⟨g1,g2,g3,g4,g5⟩:=hr1 x p1 pt1 lv1 rfl;dsimp only at hr;have h01:(0:Int)<=(p1:Int):=aa;rw[if_neg (λh=>hn27 h.1)] at hr;by_cases hlt:p1<cs.length
   ·have hlt':(p1:Int)<cs.length:=aa;by_cases hend:fm cs p1=31
    ·have e31:(cs.getD p1 (0,0)).1=31:=hend;rw[ku,if_pos ⟨hlt,hend⟩] at hr;refine a8 (aU h01 (aU @ip (aU hop' (aU hlt' e31)))) ?_;refine iR (iA p1 15) ?_;have q1:(p:Int)<pt1.length:=aa;have q2:(p1:Int)<pt1.length:=aa;have q3:p+1<=pt1.length:=aa;have q4:p1+1<=pt1.length:=aa;refine ba ?_
     with_reducible refine GE.go fx rfl ?_
     refine ba ?_;refine GE.wk (gA.mk (L:=[(0,.p 0 0),(6,.p 3 0),(7,.p 4 0),(8,.p 5 0),(9,aq p)]) (bl:=[fg 3 1 pt1.length 0 (iC pt1),fg 3 1 lv1.length 0 (iC lv1),eZ 0 95 [.os 6 lv1.length],eZ 0 140 [aq 29,aq p,aq 0,.fs 5 x.len x.cell,.sl0],eZ 0 140 [aq 0,aq 0,aq 0,.sl0,.sl0],fg 3 1 lv.length 0 (iC lv),eZ 0 95 [.os 2 lv.length],eZ 0 173 [.fs 2 cs.length (pI cs),aq p1,.os 7 pt1.length]]) [2,7,6,5,4,3,1,0] [] ?_ ?_ ae (gy rfl rfl)) ?_
     ·exact fK
     ·exact bb
     refine GE.mixm fx 7 ed ?_
     refine a8 (aU h01 (aU h0 (aU q1 (aU q2 (aU q3 q4))))) ?_;refine⟨ag,?_⟩;refine a7 ?_;obtain⟨ptA,hA⟩:∃l,l=(pt1.set p (p1:Int)).set p1 (p:Int):=⟨_,rfl⟩;have hAl:ptA.length=pt1.length:=by rw[hA,aph,aph]
     rw[<-hA] at hr;have w9:=au p1;have hsl:∀l,(hY ptA (p1:Int) l).length=ptA.length:=λl=>nL l ptA _;refine GE.loop (I:=λm e H=>∃k,m+k=lv1.length/\e=fu [(0,.p 0 0),(6,.p 3 0),(7,.p 4 0),(157,.os 6 lv1.length),(158,aq lv1.length),(159,aq k)]/\H=fi [fg 3 1 (hY ptA p1 (lv1.take k)).length 0 (iC (hY ptA p1 (lv1.take k))),fg 3 1 lv1.length 0 (iC lv1),eZ 0 95 [.os 6 lv1.length],eZ 0 140 [aq 29,aq p,aq 0,.fs 5 x.len x.cell,.sl0],eZ 0 140 [aq 0,aq 0,aq 0,.sl0,.sl0],fg 3 1 lv.length 0 (iC lv),eZ 0 95 [.os 2 lv.length],eZ 0 173 [.fs 2 cs.length (pI cs),aq p1,.os 7 (hY ptA p1 (lv1.take k)).length]]) (m:=lv1.length) (gA.mk [7,6,5,4,3,2,1,0] [] ?_ ?_ ae (gy rfl rfl)) ⟨0,rfl,rfl,rfl⟩ ?_
     ·exact fK
     ·show ig _ _ _ _ [fg 3 1 ptA.length 0 (iC ptA),fg 3 1 lv1.length 0 (iC lv1),eZ 0 95 [.os 6 lv1.length],eZ 0 140 [aq 29,aq p,aq 0,.fs 5 x.len x.cell,.sl0],eZ 0 140 [aq 0,aq 0,aq 0,.sl0,.sl0],fg 3 1 lv.length 0 (iC lv),eZ 0 95 [.os 2 lv.length],eZ 0 173 [.fs 2 cs.length (pI cs),aq p1,.os 7 ptA.length]];rw[hAl];exact .cr (.put2 (row:=iC pt1) (row2:=iC ptA) (a:=p) (c:=p1) (v:= aq (p1:Int)) (w:= aq (p:Int)) ah aa aa rfl aa (λi hi=>by rw[hA];exact mr aa aa _ _ i) (λ_ _ _ _=>rfl)) bb
     rintro m e H ⟨k,hk,rfl,rfl⟩;obtain⟨ptK,hK⟩:∃l,l=hY ptA (p1:Int) (lv1.take k):=⟨_,rfl⟩;have hKl:ptK.length=pt1.length:=by rw[hK,hsl,hAl]
     rw[<-hK];have h0k:(0:Int)<=(k:Int):=aa;by_cases hm:k<lv1.length
     ·have hkk:(k:Int)<lv1.length:=aa;have hmem:lv1.getD k 0 ∈ lv1:=by rw[apd,apk hm];exact ap2 hm
      obtain⟨hz0,hz1⟩:=(g5 _ hmem).elim (λh=>absurd h (aqh)) id;obtain⟨z,hz⟩:∃z:Nat,lv1.getD k 0=(z:Int):=⟨(lv1.getD k 0).toNat,aa⟩;have hzl:z<ptK.length:=aa;have hzi:(z:Int)<ptK.length:=aa;have hz2:(0:Int)<=(z:Int):=aa;have hzs:z+1<=ptK.length:=hzl;have hgk:(fg 3 1 lv1.length 0 (iC lv1)).get k= aq (z:Int):=by rw[kL];simp only[iC,hz]
      have wk:=au k;have hK1:hY ptA (p1:Int) (lv1.take (k+1))=ptK.set z (p1:Int):=by rw[uw hm,pN,<-hK,hz,apw]
      repeat (first|with_reducible refine GE.seq ?_|with_reducible refine GE.block ?_|with_reducible refine GE.skip ?_|with_reducible refine GE.reg ?_|with_reducible refine GE.cond ?_|simp only[hkk,h0k,hm,hgk,decide_true,go_sem,simprocAttr])
      refine GE.mixm fx 7 ed ?_
      refine bc (aU hzi (aU hz2 (aU hzs h01))) ?_
      try refine(And.intro ag ?_)
      refine a9 wk ?_;refine⟨m-1,_,_,aa,gA.mk [7,6,5,4,3,2,1,0] [] ?_ ?_ ae (gy rfl rfl),k+1,aa,rfl,rfl⟩
      ·exact fK
      ·exact ep
     ·have hkk:¬(k:Int)<lv1.length:=aa;have hKe:hY ptA (p1:Int) lv1=ptK:=by rw[hK,List.take_of_length_le aa]
      refine a8 (aU hkk (aU w9 (aU h01 @ip))) ?_;rw[hop] at hr;rw[if_pos rfl,if_pos rfl,hKe] at hr;refine mR [2,7,1,0] [] (.agg [aq 29,aq p,aq ((p1+1:Nat):Int),.fs 5 (x).len (x).cell,.fs 5 (Fo.nil).len (Fo.nil).cell]) [fg 3 1 lv.length 0 (iC lv),fg 3 1 ptK.length 0 (iC ptK),eZ 0 95 [.os 3 lv.length],eZ 0 173 [.fs 2 cs.length (pI cs),aq ((p1+1:Nat):Int),.os 2 ptK.length]] bb (.agg rfl (λi v v' k1 k2=>?_)) ae (gy rfl rfl) ⟨.br 29 p (p1+1) x Fo.nil .nil,p1+1,ptK,lv,(apl hr).symm,⟨29,p,p1+1,x,Fo.nil,rfl,bL _⟩,aa,aa,aa,aa,rfl,rfl⟩;rcases i with _|_|_|_|_|i<;>simp only[List.getElem?_cons_zero,List.getElem?_cons_succ,apn,List.getElem?_nil,reduceCtorEq] at k1 k2<;>subst k1 k2<;>first|exact Wv.same rfl|exact .cv (.sl0 _ _)
    ·exact et
   ·have hlt':¬(p1:Int)<cs.length:=by omega
    ·exact eo
  ·exact arI
theorem EP(cs:am)(hcs:cs.length<=1024)(f:Nat):wh cs f/\wg cs f:=by
 induction f using Nat.strongRecOn with
 |ind f ih=>exact⟨ET cs hcs f λm hm=>C7 cs hcs m (ih m hm).1 (ih m hm).2,ES cs hcs f λm hm=>C6 cs hcs m (ih m hm).1 (ih m hm).2⟩
theorem qx{cs:am}:∀(f d:Nat) (inL:Bool) (p:Nat) (pt lv:List Int) (out:Fo),p<=cs.length->pt.length=cs.length->lv.length<=p->cs.length+1<=p+f->∃r,lst cs f d inL p pt lv out=some r:=by
 intro f;induction f with
 |zero=>intro d inL p pt lv out hp hpt hlv h;omega
 |succ f ih=>
  intro d inL p pt lv out hp hpt hlv h;rw[lst];split
  ·exact arQ
  split
  ·exact arQ
  split
  ·have hL:Dd cs (λd inL p pt lv=>lst cs f d inL p pt lv .nil):=λd inL p pt lv r h1 h2 h3 h4=>jn f d inL p pt lv .nil r h1 h2 h3 h4;have hb:∃rb,kW cs (λd inL p pt lv=>lst cs f d inL p pt lv .nil) (d+1) inL p pt lv=some rb:=by
    rw[kW];split
    ·exact arQ
    obtain⟨r1,h1⟩:=ih (d+1) (inL||decide (fm cs p=29)) (p+1) pt (if fm cs p=29 then[] else lv) .nil aa hpt arh aa
    have k1:=jn f _ _ _ _ _ .nil r1 aa hpt arh h1
    simp only[h1];cases r1 with
    |error x=>exact⟨_,rfl⟩
    |ok q=>
     obtain⟨x,p1,pt1,lv1⟩:=q;obtain⟨f1,f2,f3,f4,_⟩:=k1 x p1 pt1 lv1 rfl;dsimp only;split
     ·rename_i hc;obtain⟨r2,h2⟩:=ih (d+1) (inL||decide (fm cs p=29)) (p1+1) (pt1.set p (p1:Int)) lv1 .nil aa (by rw[aph];exact f3) aa aa
      simp only[h2];cases r2 with
      |error x=>exact⟨_,rfl⟩
      |ok q=>
       obtain⟨y,p2,pt2,lv2⟩:=q;dsimp only;rw[ku];split<;>exact⟨_,rfl⟩
     ·rw[ku];split<;>exact⟨_,rfl⟩
   obtain⟨rb,hb⟩:=hb;simp only[hb];cases rb with
   |error x=>exact⟨_,rfl⟩
   |ok q=>
    obtain⟨b,p',pt',lv'⟩:=q;obtain⟨g1,g2,g3,g4,_⟩:=(ry hL aa hpt hlv hb).1 b p' pt' lv' rfl;exact ih d inL p' pt' lv' (out.app b) g2 g3 g4 aa
  ·split
   ·exact arQ
   ·exact ih d inL (p+1) pt _ (out.addPl p) aa hpt (by split<;>(try simp)<;>omega) aa
def jH(cs:am):Except Nat (Fo×List Int):=match lst cs (cs.length+1) 0 false 0 (List.replicate cs.length (-1)) [] .nil with
 |some (.ok (o,p,pt,_))=>if p=cs.length then .ok (o,pt) else .error p
 |some (.error x)=> .error x
 |none=> .error 0
theorem abf{cs:am}{o:Fo}{pt:List Int}(h:jH cs= .ok (o,pt)):pt.length=cs.length:=by
 obtain⟨r,hr⟩:=qx (cs:=cs) (cs.length+1) 0 false 0 (List.replicate cs.length (-1)) [] .nil (apf _) ae ae aa;rw[jH,hr] at h;cases r with
 |error x=>cases h
 |ok q=>
  obtain⟨o1,p,pt1,lv1⟩:=q;have:=jn _ _ _ _ _ _ _ _ (apf _) ae ae hr o1 p pt1 lv1 rfl;dsimp only at h;split at h
  ·cases h;exact this.2.2.1
  ·cases h
theorem wD(cs:am)(hcs:cs.length<=1024)(pt0:List Int)(h0:pt0=List.replicate cs.length (-1)):
  PC av fV 84 [.p 0 0] (fi [fg 3 1 pt0.length 0 (iC pt0),eZ 0 173 [.fs 2 cs.length (pI cs),aq 0,.os 1 pt0.length]])
   (λv H'=>∃o pt,jH cs= .ok (o,pt)/\v= .fs 5 o.len o.cell/\H'=fi [fg 3 1 pt.length 0 (iC pt),eZ 0 173 [.fs 2 cs.length (pI cs),aq cs.length,.os 1 pt.length]]) (λc _=>∃x,jH cs= .error x/\c=mN x 15):=by
 obtain⟨r,hr⟩:=qx (cs:=cs) (cs.length+1) 0 false 0 pt0 [] .nil (apf _) (by rw[h0];simp) ae aa
 have hrd:=hr;rw[h0] at hrd;refine PC.vw (gX akp ⟨ae,ag⟩ ?_);simp only[fy];refine a7 ?_;refine qI fV [(0,.p 0 0)] [] [fg 3 1 pt0.length 0 (iC pt0),eZ 0 173 [.fs 2 cs.length (pI cs),aq (0:Nat),.os 1 pt0.length]] ((EP cs hcs (cs.length+1)).1 0 0 pt0 [] r aa (apf _) (by rw[h0];simp) ae hr) rfl ?_ ?_ ?_ ?_ (λb hb=>by simp[hb]) ?_ ?_ ?_ ?_ ?_ ?_ ?_
 ·simp only[yQ,go_sem,simprocAttr]
 ·simp
 ·rfl
 ·exact dY
 ·exact kP ae af
 ·simp[AV.nm]
 ·simp[AV.nm,fV]
 ·exact arq
 ·exact .nil
 ·rintro v H' ⟨o,p1,pt1,lv1,rfl,rfl,rfl⟩;have hk:=jn _ _ _ _ _ _ _ _ (apf _) (by rw[h0];simp) ae hr o p1 pt1 lv1 rfl
  refine⟨_,rfl,rfl,?_⟩;rw[List.nil_append];by_cases he:p1=cs.length
  ·subst he;refine bf ?_;refine iR (iA cs.length 15) ?_;refine a7 ?_;refine mR [1,0] [] (.fs 5 o.len o.cell) [fg 3 1 pt1.length 0 (iC pt1),eZ 0 173 [.fs 2 cs.length (pI cs),aq cs.length,.os 1 pt1.length]] bb (Wv.same rfl) ae (fh rfl) ⟨o,pt1,?_,rfl,rfl⟩;rw[jH,hrd];exact if_pos rfl
  ·have he':¬(p1:Int)=cs.length:=aa;refine a8 he' ?_;refine fP [] (fargs:=[.b false,aq (p1:Int),aq 15]) (ja.same rfl) (gz p1 15) ⟨p1,?_,rfl⟩;rw[jH,hrd];exact if_neg he
 ·rintro c H' ⟨z,rfl,rfl⟩;exact⟨z,by rw[jH,hrd],rfl⟩
theorem Ez{cs:am}:∀(f d:Nat) (inL:Bool) (p:Nat) (pt lv:List Int) (out0:Fo) (r:Except Nat LR) (s:RS) (a:Nat),lst cs f d inL p pt lv out0=some r->p<=cs.length->pt.length=cs.length->lv.length<=p->
  s.op.length=d->s.ot.length=d->s.out.length=cs.length->nk cs s.op=inL->d<=8->fM cs s.out out0 a p->t8 cs p s a r:=by
 intro f;induction f with
 |zero=>intro d inL p pt lv out0 r s a h;cases h
 |succ f ih=>
  intro d inL p pt lv out0 r s a h hp hpt hlv h1 h2 h3 h4 hd hg;have triv:∀r',(p=cs.length\/fm cs p=28\/fm cs p=31)->some (Except.ok (out0,p,pt,lv))=some r'->t8 cs p s a r':=λr' hs h=>by
   cases h;exact⟨s,⟨by rw[apt];rfl,rfl,rfl,h3,λ_ _=>rfl⟩,hs,hg⟩
  rw[lst] at h;by_cases c1:cs.length<=p
  ·rw[if_pos c1] at h;exact triv r (.inl aa) h
  rw[if_neg c1] at h;by_cases c2:fm cs p=28\/fm cs p=31
  ·rw[if_pos c2] at h;exact triv r (.inr c2) h
  rw[if_neg c2] at h;have c28:fm cs p≠28:=λh=>c2 (.inl h);have c31:fm cs p≠31:=λh=>c2 (.inr h);by_cases c3:fm cs p=27\/fm cs p=29
  ·rw[if_pos c3] at h;cases hb:kW cs (λd inL p pt lv=>lst cs f d inL p pt lv .nil) (d+1) inL p pt lv with
   |none=>rw[hb] at h;cases h
   |some rb=>
   rw[hb] at h;have hL:Dd cs (λd inL p pt lv=>lst cs f d inL p pt lv .nil):=λd inL p pt lv r q1 q2 q3 q4=>jn f d inL p pt lv .nil r q1 q2 q3 q4;have k:=F8 hL (λd inL p pt lv r s q1 q2 q3 q4 q5 q6 q7 q8 q9=>ih d inL p pt lv .nil r s p q1 q2 q3 q4 q5 q6 q7 q8 q9 rfl) aa hpt hlv c3 h1 h2 h3 h4 hd hb;have kk:=ry hL aa hpt hlv hb;cases rb with
   |error x=>cases h;exact k
   |ok q=>
   obtain⟨b,p',pt',lv'⟩:=q;obtain⟨s',k1,k2⟩:=k;obtain⟨f1,f2,f3,f4,f5⟩:=kk.1 b p' pt' lv' rfl;dsimp only at h;obtain⟨x,y,hbr⟩:=kk.2 b p' pt' lv' rfl;have hgood:fM cs s'.out (out0.app b) a p':=(hg.congr λk q1 q2=>k1.low k q2).app k2 (λ_=>by rw[hbr];rfl)
   have k3:=ih d inL p' pt' lv' (out0.app b) r s' a h f2 f3 f4 (by rw[k1.op];exact h1) (by rw[k1.ot];exact h2) k1.len (by rw[k1.op];exact h4) hd hgood
   cases r with
   |error x=>exact⟨by have:=k3.1;omega,k3.2.skip aa f2 k1.run⟩
   |ok q=>
   obtain⟨o,p1,pt1,lv1⟩:=q;obtain⟨s2,m1,m2,m3⟩:=k3;obtain⟨e1,_⟩:=jn f d inL p' pt' lv' _ _ f2 f3 f4 h o p1 pt1 lv1 rfl;exact⟨s2,⟨nM (p1:=p') aa e1 k1.run m1.run,m1.op.trans k1.op,m1.ot.trans k1.ot,m1.len,λi hi=>(m1.low i aa).trans (k1.low i hi)⟩,m2,m3⟩
  rw[if_neg c3] at h;have c27:fm cs p≠27:=λh=>c3 (.inl h);have c29:fm cs p≠29:=λh=>c3 (.inr h);by_cases c4:fm cs p=30/\inL=false
  ·rw[if_pos c4] at h;cases h;refine⟨bL _,.here aa ?_⟩;rw[gC,if_neg c3,if_neg c28,if_pos c4.1,if_neg (by rw[h4,c4.2];decide)]
  rw[if_neg c4] at h;have hs1:gC cs p s=some ⟨s.out.set p (-1),s.op,s.ot⟩:=by
   rw[gC,if_neg c3,if_neg c28];by_cases c30:fm cs p=30
   ·rw[if_pos c30,if_pos];rw[h4];cases inL with
    |true=>rfl
    |false=>exact absurd ⟨c30,rfl⟩ c4
   ·rw[if_neg c30,if_neg c31]
  have hlow:∀i,i<p->(s.out.set p (-1)).getD i 0=s.out.getD i 0:=λi hi=>gS aa;have hlv1:(if fm cs p=30 then lv++[(p:Int)] else lv).length<=p+1:=by split<;>(try simp)<;>omega
  have k3:=ih d inL (p+1) pt _ (out0.addPl p) r ⟨s.out.set p (-1),s.op,s.ot⟩ a h aa hpt hlv1 h1 h2 (by simp[h3]) h4 hd ((hg.congr λk q1 q2=>hlow k q2).addPl c27 c29 c28 c31)
  cases r with
  |error x=>exact⟨by have:=k3.1;omega,k3.2.step aa hs1⟩
  |ok q=>
  obtain⟨o,p1,pt1,lv1⟩:=q;obtain⟨s2,m1,m2,m3⟩:=k3;obtain⟨e1,_⟩:=jn f d inL (p+1) pt _ _ _ aa hpt hlv1 h o p1 pt1 lv1 rfl;exact⟨s2,⟨nM (p1:=p+1) aa e1 (by rw[show p+1-p=1 by omega];exact oB hs1) m1.run,m1.op,m1.ot,m1.len,λi hi=>(m1.low i aa).trans (hlow i hi)⟩,m2,m3⟩
def yL(cs:am):RS:=⟨List.replicate cs.length 0,[],[]⟩
def lh(cs:am):Except Nat (List Int):=match gW cs cs.length 0 (yL cs) with
 |.error x=> .error x
 |.ok s=>if s.op=[] then .ok s.out else .error cs.length
theorem rd(cs:am):match jH cs with
  |.error x=>lh cs= .error x
  |.ok (o,_)=>∃out,lh cs= .ok out/\out.length=cs.length/\fM cs out o 0 cs.length:=by
 obtain⟨r,hr⟩:=qx (cs:=cs) (cs.length+1) 0 false 0 (List.replicate cs.length (-1)) [] .nil (apf _) ae ae aa;have k:=Ez _ _ _ _ _ _ _ _ (yL cs) 0 hr (apf _) ae ae rfl rfl (by simp[yL]) rfl aa rfl
 have kk:=jn _ _ _ _ _ _ _ _ (apf _) ae ae hr;have herr:∀x,iu cs 0 (yL cs) x->lh cs= .error x:=λx h=>by
  unfold iu at h;rw[Nat.sub_zero] at h;rcases h with⟨_,h⟩|⟨rfl,s',h,ho⟩
  ·rw[lh,h]
  ·rw[lh,h];exact if_neg ho
 rw[jH,hr];cases r with
 |error x=>exact herr x k.2
 |ok q=>
  obtain⟨o,p,pt,lv⟩:=q;obtain⟨s',m1,m2,m3⟩:=k;obtain⟨f1,f2,_⟩:=kk o p pt lv rfl;dsimp only;by_cases he:p=cs.length
  ·rw[if_pos he];subst he;refine⟨s'.out,?_,m1.len,m3⟩;have:=m1.run;rw[Nat.sub_zero] at this;rw[lh,this];exact if_pos m1.op
  ·rw[if_neg he];refine herr p (iu.skip (apf _) f2 m1.run (.here aa ?_));have ho:s'.op=[]:=m1.op;rcases m2.resolve_left he with h|h
   ·rw[gC,if_neg (by rw[h];decide),if_pos h,ho]
   ·rw[gC,if_neg (by rw[h];decide),if_neg (by rw[h];decide),if_neg (by rw[h];decide),if_pos h,ho]
theorem sj{x:Int}(h:0<=x)(h2:x<18446744073709551616):IntKind.u64.wrap x=x:=by rw[IntKind.wrap_u64];omega
theorem an3{n:Nat}(h:n<4294967296):bits .and .u64 (n:Int) 4294967295=(n:Int):=by
 have e1:(BitVec.ofInt 64 (n:Int)).toNat=n:=by
  rw[BitVec.ofInt_natCast,BitVec.toNat_ofNat,Nat.mod_eq_of_lt aa]
 have e2:(BitVec.ofInt 64 4294967295).toNat=2^32-1:=af;show IntKind.u64.wrap ((BitVec.ofInt 64 (n:Int)&&& BitVec.ofInt 64 4294967295).toNat:Int)=n;rw[BitVec.toNat_and,e1,e2,Nat.and_two_pow_sub_one_eq_mod,Nat.mod_eq_of_lt aa];exact sj aa aa
theorem Cd(n:Nat)(hn:n<=1024):gw av 119 [.n .u64 1,.n .u64 n] [.v (.n .u64 0),.v (.n .u64 n)]:=by
 have ha:=an3 (n:=n) aa;have hb:(n:Int) / 2^min 32 64=0:=Int.ediv_eq_zero_of_lt aa (by rw[show(2:Int)^min 32 64=4294967296 by decide];omega)
 have hw:IntKind.u64.wrap (n:Int)=n:=sj aa aa;refine fe fx akB ⟨ae,ag⟩ ?_;simp only[fy];have h1:bits .and .u64 1 4294967295=1:=ag;have h2:(1:Int) / 2^min 32 64=0:=ag;have h3:IntKind.u64.wrap 0=0:=ag;have h4:bits .and .u64 0 4294967295=0:=ag;have h5:(0:Int) / 2^min 32 64=0:=ag
 repeat first|with_reducible refine fj ?_|simp only[ha,hb,h1,h2,h3,h4,h5,hw,Int.one_mul,Int.zero_mul,Int.mul_zero,Int.add_zero,Int.zero_add,go_sem,simprocAttr]
 exact aq7
theorem AM(n:Nat)(hn:n<=1024):gw av 85 [.n .u64 1,.n .u64 n] [.v (.n .u64 0),.v (.n .u64 n)]:=by
 refine fe fx akH ⟨ae,ag⟩ ?_;simp only[fy];refine dp ?_;refine gf (Cd n hn) ?_;refine dp ?_;exact aq7
theorem rl{H:AH}{b:Nat}{x:AB}{v:AV}(hx:H.at b=some x):∀(m o:Nat),o+m<=x.size->(∀i,o<=i->i<o+m->x.get i=v)->H.loadN b o m=some (List.replicate m v)
 |0,o,_,_=>rfl
 |m+1,o,h,hg=>by
  rw[AH.loadN,AH.load,hx];simp only[show o<x.size by omega,if_true,hg o (bL _) aa]
  rw[rl hx m (o+1) aa (λi h1 h2=>hg i aa aa)];rfl
theorem sP{H:AH}{b:Nat}{x:AB}{v:AV}(hb:b<1000000)(hx:H.at b=some x){m o:Nat}(hm:0<m)(h:o+m<=x.size)(hz:x.fzn=0):H.storeN b o (List.replicate m v)=some (H.upd b (x.putN o (List.replicate m v))):=by
 obtain⟨q,rfl⟩:∃q,m=q+1:=⟨m-1,aa⟩;rw[List.replicate_succ,pK hb,hx];simp only[apK];rw[if_pos ⟨h,aa⟩]
def rC(k:Nat)(i _j:Nat):AV:= aq (if i<k then-1 else 0)
theorem ZP(n:Nat)(hn:n<=1024):PC av (λ_=>false) 116 [.sl 0 0 1 1,aq n] (fi [eZ 1 3 [aq (-1)]]) (λv H'=>v= .os 0 n/\H'=fi [fg 3 1 n 0 (iC (List.replicate n (-1)))]) (λ_ _=>False):=by
 have h1:¬(n:Int)<0:=aa;have w1:IntKind.u64.wrap (n:Int)=n:=sj aa aa;have w2:IntKind.u64.wrap 1=1:=ag;have w3:IntKind.i64.wrap (n:Int)=n:=ff aa;have h2:¬(9223372036854775807:Int)<n:=aa;refine PC.vw (gX akP ⟨ae,ag⟩ ?_);simp only[fy];refine a8 (aU h1 (aU w1 w2)) ?_;refine iR (AM n hn) ?_;have hms:0<=(n:Int)/\(n:Int)<=n/\(n:Int)<=16777216/\8*n<=140737488355328/\n<1099511627776:=⟨aa,aa,aa,aa,aa⟩;have hm1:Nat.min 1 n=if n=0 then 0 else 1:=by
  by_cases h:n=0
  ·subst h;rfl
  ·rw[if_neg h];exact Nat.min_eq_left aa
 refine a8 (aU h2 (aU w3 hms)) ?_;have fin:Vw (λ_=>false) (λv H'=>v= .os 0 n/\H'=fi [fg 3 1 n 0 (iC (List.replicate n (-1)))]) (.os 1 n) (fi [fg 3 1 n 0 (rC n),eZ 1 3 [aq (-1)]]):=
  mR [1] [] (.os 0 n) [fg 3 1 n 0 (iC (List.replicate n (-1)))] (.cr (.same (row:=rC n) ah rfl ag (λi j hi hj=>by simp only[rC,iC,if_pos hi,apd,aql];rfl) (λ_ _ _ _=>rfl)) .nil) (Wv.os rfl) ae lR ⟨rfl,rfl⟩
 have hround:∀(Q:AE->Tr AV->AH->Prop) m e H,(∃k,m+k=n/\(n=0\/0<k)/\e=fu [(7,.os 1 n),(8,aq (k:Nat))]/\H=fi [fg 3 1 n 0 (rC k),eZ 1 3 [aq (-1)]])->(Q (.exit 0) (fu [(37,.b false),(36,aq n),(35,.os 1 n),(34,aq n),(7,.os 1 n),(8,aq n)]) (fi [fg 3 1 n 0 (rC n),eZ 1 3 [aq (-1)]]))->GE av 48 (λ_=>false) (fc av 116) MJ e H (vt 48 (λ_=>false) (λm e H=>∃k,m+k=n/\(n=0\/0<k)/\e=fu [(7,.os 1 n),(8,aq (k:Nat))]/\H=fi [fg 3 1 n 0 (rC k),eZ 1 3 [aq (-1)]]) Q m) (λ_ _=>False):=by
  rintro Q m e H ⟨k,hk,hk0,rfl,rfl⟩ hQ;have h0k:(0:Int)<=(k:Int):=aa;by_cases hkn:k<n
  ·have hkn':(k:Int)<n:=aa
   repeat (first|with_reducible refine GE.seq ?_|with_reducible refine GE.block ?_|with_reducible refine GE.skip ?_|with_reducible refine GE.reg ?_|with_reducible refine GE.cond ?_|simp only[hkn',h0k,decide_true,go_sem,simprocAttr])
   refine GE.mixm fx 1 ed ?_
   have hs1:¬(k:Int)=0:=aa;have hs2:0<(k:Int):=aa;have hs3:(k:Int)<=n:=aa;obtain⟨q,hq⟩:∃q,Nat.min k (n-k)=q:=⟨_,rfl⟩;have hq2:q<=k/\q<=n-k/\0<q/\(q=k\/q=n-k):=by
    rw[<-hq];have e1:=Nat.min_le_left k (n-k);have e2:=Nat.min_le_right k (n-k);have e3:min k (n-k)=k\/min k (n-k)=n-k:=aa;have e4:Nat.min k (n-k)=min k (n-k):=rfl;rw[e4];omega
   have hq0:¬q=0:=aa;simp only[hs1,hs2,hs3,h0k,hkn',apH,hq,hq0,C1,vj,Option.bind_some,apu,go_sem,simprocAttr];obtain⟨HH,hHH⟩:∃HH,HH=(fi [fg 3 1 n 0 (rC k),eZ 1 3 [aq (-1)]]).setLow (2^40):=⟨_,rfl⟩;have hat:HH.at 1=some (fg 3 1 n 0 (rC k)):=by rw[hHH];simp only[go_sem,simprocAttr]
   have hld:HH.loadN 1 0 q=some (List.replicate q (aq (-1))):=rl hat q 0 (by show 0+q<=n*1;omega) (λi _ hi=>by rw[kL];simp only[rC,if_pos (show i<k by omega)])
   have hst:HH.storeN 1 k (List.replicate q (aq (-1)))=some (HH.upd 1 ((fg 3 1 n 0 (rC k)).putN k (List.replicate q (aq (-1))))):=sP ag hat hq2.2.2.1 (by show k+q<=n*1;omega) rfl
   rw[hHH] at hld hst;have hone:(List.replicate q (AV.n .i64 (-1))).all AV.one=true:=by rw[List.all_replicate];simp[AV.one]
   have wq:IntKind.i64.wrap ((k:Int)+q)=((k+q:Nat):Int):=(ff aa).trans aa;rw[hld];dsimp only;rw[hst,hone];refine bc wq ?_;refine⟨m-q,_,_,aa,gA.mk [1,0] [] ?_ ?_ ae lR,k+q,aa,aa,rfl,rfl⟩
   ·exact fK
   ·exact .cr (.rows (x:=_) ai af af af (bL _) (by rw[if_neg ae];exact bL _) ag (λi j hi hj=>by
     cases apE.1 hj;rw[jL (by rw[apK];omega),apK]
     simp only[apu,Nat.add_zero];by_cases hh:k<=i/\i<k+q
     ·rw[if_pos hh,aql,if_pos aa];simp only[rC,if_pos hh.2];rfl
     ·rw[if_neg hh,kL];simp only[rC];by_cases h3:i<k
      ·rw[if_pos h3,if_pos aa]
      ·rw[if_neg h3,if_neg aa]) (λ_ _ _ _=>rfl)) bb
  ·exact arU
 by_cases hn0:n=0
 ·rw[if_pos hn0] at hm1;simp only[hm1,C1,vj,Option.bind_some,go_sem,simprocAttr];refine a7 ?_;refine GE.loop (I:=λm e H=>∃k,m+k=n/\(n=0\/0<k)/\e=fu [(7,.os 1 n),(8,aq (k:Nat))]/\H=fi [fg 3 1 n 0 (rC k),eZ 1 3 [aq (-1)]]) (m:=0) (gA.mk [1,0] [] ?_ ?_ ae lR) ⟨0,aa,aa,rfl,rfl⟩ ?_
  ·exact fK
  ·exact .cr (.same (row:=λ_ j=>[AV.n .i64 0][j]?.getD .u) (row2:=rC 0) ah rfl ag (λi j hi=>aa) (λ_ _ _ _=>rfl)) bb
  intro m e H hI;refine hround _ m e H hI ?_;refine ba ?_;refine a7 ?_;exact fin
 ·rw[if_neg hn0] at hm1;have hn1:1<=n:=aa;simp only[hm1,hn1,C1,vj,Option.bind_some,go_sem,simprocAttr];refine a7 ?_;refine GE.loop (I:=λm e H=>∃k,m+k=n/\(n=0\/0<k)/\e=fu [(7,.os 1 n),(8,aq (k:Nat))]/\H=fi [fg 3 1 n 0 (rC k),eZ 1 3 [aq (-1)]]) (m:=(n-1)) (gA.mk [1,0] [] ?_ ?_ ae lR) ⟨1,aa,aa,rfl,rfl⟩ ?_
  ·exact fK
  ·exact .cr (.put1 (row:=λ_ j=>[AV.n .i64 0][j]?.getD .u) (row2:=rC 1) (o:=0) (q:=0) (t:=0) (v:= aq (-1)) ah rfl ag aa rfl aa (λi j hi hj=>by cases apE.1 hj;simp only[rC];by_cases hh:i=0<;>simp[hh]) (λ_ _ _ _=>rfl)) bb
  intro m e H hI;refine hround _ m e H hI ?_;refine ba ?_;refine a7 ?_;exact fin
theorem CV{P:Program}{n:Nat}{kk kk':Nat->Bool}{g:FuncId}{args:List AV}{e:Tr AV}{H:AH}{Q':AV->AH->Prop}{E':List PanicEntry->AH->Prop}{Q:AV->Tr AV->AH->Prop}{E:List PanicEntry->AH->Prop}
  (ρ M:List Nat) (L:List (Nat×AV)) (args2:List AV) (bl:List AB) (h:PC P kk' g args2 (fi bl) Q' E')
  (he:iT (λb2=>ρ.reverse[b2]?) M H e L) (hh:ig (λb2=>ρ.reverse[b2]?) M H ρ bl) (hv:Gk (λb2=>ρ.reverse[b2]?) M H args args2) (hl:bl.length<1000000) (hL:(L.all λp=>decide (p.1<1000000)&&p.2.pu 3)=true)
  (hkk:∀b,kk b=false) (hQ:∀v H',Q' v H'->Q v (fu L) H') (hE:∀c H',E' c H'->E c H'):jr P n kk g args e H Q E:=by
 refine⟨h.1,λB σ a w args' hEn hH ha'=>?_⟩;obtain⟨σ2,q1,q2,q3,q4,q5,q6⟩:=Wk.mkE (ob:=λ_=>none) ρ M he hh hl (λr x hx=>by cases hx) hEn hH
 rw[fv] at q2;have hA:lb (λ_=>false) B σ w σ2 w:=by
  refine⟨Below.refl _ _,q3,λb c o hs=>?_,λ_ _ _=> .inl rfl,λc _ hn=>q5 c hn,λb x hb hs=>by cases hb⟩
  rw[q4] at hs;obtain⟨b0,h1,h2⟩:=bM.1 hs;exact .inl ⟨b0,o,h2⟩
 have hargs:gn σ2 args2 args'.toList:=by
  obtain⟨v1,v2⟩:=hv.get;refine⟨v1.symm.trans ha'.1,λi v' hv'=>?_⟩;obtain⟨v,g1,g2⟩:=v2 i v' hv';exact q6 g2 (ha'.2 i v g1)
 refine(h.2 B σ2 w args' q2 hargs).mono λen w' hp=>?_;cases en with
 |returned u=>
  obtain⟨v,H',σ',r0,r1,r2,r3⟩:=hp;have hall:=hA.trans r3.no;refine⟨v,_,H',σ',hQ v H' r0,r1,⟨⟨q1.er.df,λt v hv=>?_⟩,q1.sz,q1.sm⟩,r2,hall.bel,hall.fzb,hall.im,hall.same,hall.fz,λb x hb _=>by rw[hkk b] at hb;cases hb⟩
  have e1:=(q1.er.get t v hv).pure 3 (yQ.nm hL t v hv);have e2:σ2.bare.le σ':=⟨λb x hx=>(by cases hx),λb hb=>False.elim hb,λc fs hf=>r3.fzb.le c fs hf⟩
  exact e1.mono e2
 |panicked c=>
  obtain⟨H',σ',r0,r1,r2⟩:=hp;exact⟨H',σ',hE c H' r0,r1,hA.trans r2⟩
 |outgrown=>exact hp.elim
theorem yw(cs:am):PC av (λ_=>false) 83 [.fs 2 cs.length (pI cs)] (fi [])
  (λv H'=>cs.length<=1024/\v= .p 0 0/\H'=fi [fg 3 1 (List.replicate cs.length (-1:Int)).length 0 (iC (List.replicate cs.length (-1))),eZ 0 173 [.fs 2 cs.length (pI cs),aq 0,.os 1 (List.replicate cs.length (-1:Int)).length]]) (λc _=>1024<cs.length/\c=mN 0 6):=by
 refine PC.vw (gX ak1 ⟨ae,ag⟩ ?_);simp only[fy];by_cases hn:cs.length<=1024
 ·have hn':(cs.length:Int)<=1024:=aa;refine a8 hn' ?_;refine iR (iA (0:Nat) 6) ?_;refine a7 ?_;refine CV [0] [] [(7,.fs 2 cs.length (pI cs))] [.sl 0 0 1 1,aq cs.length] [eZ 1 3 [aq (-1)]] (ZP cs.length hn) ?_ ?_ ?_ ae af (λ_=>rfl) ?_ (λ_ _ h=>h.elim)
  ·exact fK
  ·exact bb
  ·exact⟨Wv.sl rfl,Wv.n rfl,trivial⟩
  rintro v H' ⟨rfl,rfl⟩;refine a7 ?_;refine mR [0,1] [] (.p 0 0) [fg 3 1 (List.replicate cs.length (-1:Int)).length 0 (iC (List.replicate cs.length (-1))),eZ 0 173 [.fs 2 cs.length (pI cs),aq 0,.os 1 (List.replicate cs.length (-1:Int)).length]] ?_ (Wv.p rfl) ae lR ⟨hn,rfl,rfl⟩;rw[apK];exact bb
 ·have hn':¬(cs.length:Int)<=1024:=aa;refine a8 hn' ?_;exact fP [] (fargs:=[.b false,aq (0:Int),aq 6]) (ja.same rfl) (gz 0 6) ⟨aa,rfl⟩
end Go.Proofs.YtdpkgnmmikebdaaGreat