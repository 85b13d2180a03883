/- A part of the proof of CostLimits. No condition. -/
import Derived.Test.YtdpkgnmmikebdaaGreatGi24
set_option linter.unusedSimpArgs false
set_option linter.unusedVariables false
set_option linter.constructorNameAsVariable false
set_option maxRecDepth 100000
set_option maxHeartbeats 4000000
namespace Go.Proofs.YtdpkgnmmikebdaaGreat
open Go.RowKit
theorem fM.congrR{cs:am}{out out2:List Int}:∀{o:Fo} {a b:Nat},fM cs out o a b->(∀k,a<=k->k<b->fm cs k≠30->out2.getD k 0=out.getD k 0)->fM cs out2 o a b
 |.nil,a,b,h,_=>h
 |.pl x y r,a,b,h,hc=>by
  obtain⟨h0,h1,h2,h3,h4⟩:=h;have:=h4.le;exact⟨h0,h1,h2,h3,h4.congrR λk k1 k2=>hc k aa k2⟩
 |.br op x y u v r,a,b,h,hc=>by
  obtain⟨h0,h1,h2,⟨m,g1,g2,g3,g4,g5⟩,h4⟩:=h;have hr:=h4.le;have ha:fm cs a≠30:=by rw[h1];rcases h2 with h2|h2<;>rw[h2]<;>decide
  refine⟨h0,h1,h2,⟨m,by rw[hc a (bL _) aa ha];exact g1,g2,g3,g4.congrR λk k1 k2=>hc k aa aa,?_⟩,h4.congrR λk k1 k2=>hc k ?_ k2⟩
  ·rcases g5 with⟨q0,e,q1,q2,q3,q4,q5⟩|⟨q0,q1,q2⟩
   ·exact .inl ⟨q0,e,by rw[hc m aa g3 (by rw[q0];decide)];exact q1,q2,q3,q4.congrR λk k1 k2=>hc k aa aa,q5⟩
   ·exact arm
  ·rcases g5 with⟨_,e,_,q2,_,_,q5⟩|⟨_,_,q2⟩<;>omega
theorem pM{i:Nat}:∀(l pt:List Int) (v:Int),(∀z ∈ l,z.toNat≠i)->(hY pt v l).getD i 0=pt.getD i 0
 |[],_,_,_=>rfl
 |z::l,pt,v,h=>by
  rw[hY,pM l _ v λy hy=>h y (apx _ hy),gS (λe=>h z (aps ..) e.symm)]
def LV(cs:am)(lv:List Int):Prop:=∀z ∈ lv,fm cs z.toNat=30
theorem LV.ne{cs:am}{lv:List Int}(h:LV cs lv){i:Nat}(hi:fm cs i≠30):∀z ∈ lv,z.toNat≠i:=λz hz e=>hi (e ▸ h z hz)
def Gn(cs:am)(p a:Nat)(pt:List Int):Except Nat LR->Prop
 |.error _=>True
 |.ok (o,p1,pt1,lv1)=>fM cs pt1 o a p1/\(∀i,i<p->fm cs i≠30->pt1.getD i 0=pt.getD i 0)/\LV cs lv1
theorem F9{cs:am}{L:Nat->Bool->Nat->List Int->List Int->Option (Except Nat LR)}(hL:Dd cs L)(hP:∀d inL p pt lv r,p<=cs.length->pt.length=cs.length->lv.length<=p->LV cs lv->L d inL p pt lv=some r->Gn cs p p pt r)
  {d p:Nat} {inL:Bool} {pt lv:List Int} {r:Except Nat LR} (hp:p<cs.length) (hpt:pt.length=cs.length) (hlv:lv.length<=p) (hv:LV cs lv) (hop:fm cs p=27\/fm cs p=29) (h:kW cs L d inL p pt lv=some r):Gn cs p p pt r:=by
 have p30:fm cs p≠30:=by rcases hop with h|h<;>rw[h]<;>decide
 rw[kW] at h;split at h
 ·cases h;trivial
 split at h
 ·cases h
 ·cases h;trivial
 rename_i x p1 pt1 lv1 hl;have hv0:LV cs (if fm cs p=29 then[] else lv):=by
  split
  ·intro z hz;cases hz
  ·exact hv
 have hl0:(if fm cs p=29 then[] else lv).length<=p+1:=by split<;>(try simp)<;>omega
 obtain⟨f1,f2,f3,f4,f5⟩:=hL _ _ _ _ _ _ aa hpt hl0 hl x p1 pt1 lv1 rfl;obtain⟨k1,k2,k3⟩:=hP _ _ _ _ _ _ aa hpt hl0 hv0 hl;split at h
 ·rename_i hc;split at h
  ·cases h
  ·cases h;trivial
  rename_i y p2 pt2 lv2 hl2;have hs3:(pt1.set p p1).length=cs.length:=by rw[aph];exact f3
  obtain⟨e1,e2,e3,e4,e5⟩:=hL _ _ _ _ _ _ aa hs3 aa hl2 y p2 pt2 lv2 rfl;obtain⟨m1,m2,m3⟩:=hP _ _ _ _ _ _ aa hs3 aa k3 hl2;have n29:fm cs p≠29:=by rw[hc.1];decide
  rw[ku] at h;split at h;rotate_left
  ·cases h;trivial
  rename_i h31
  try rw[if_neg n29] at h
  cases h;have get:∀i,i≠p1->i≠p2->((pt2.set p1 p2).set p2 p).getD i 0=pt2.getD i 0:=λi a b=>by rw[gS b,gS a]
  have low:∀i,i<p1->fm cs i≠30->((pt2.set p1 p2).set p2 p).getD i 0=(pt1.set p p1).getD i 0:=λi a b=>by rw[get i aa aa];exact m2 i aa b
  refine⟨⟨rfl,rfl,hop,⟨p1,by rw[show hY ((pt2.set p1 p2).set p2 p) p2 []=(pt2.set p1 p2).set p2 p from rfl,low p aa p30,nK aa],⟨aa,λh=>absurd h n29⟩,aa,?_,.inl ⟨hc.2.2,p2,?_,aa,aa,?_,rfl⟩⟩,rfl⟩,λi hi h30=>?_,m3⟩
  ·exact k1.congrR λk a b c=>(low k b c).trans (gS aa)
  ·show((pt2.set p1 p2).set p2 p).getD p1 0=_;rw[gS aa,nK aa]
  ·exact m1.congrR λk a b c=>get k aa aa
  ·show((pt2.set p1 p2).set p2 p).getD i 0=_;rw[low i aa h30,gS aa,k2 i aa h30]
 ·rename_i hc;rw[ku] at h;split at h;rotate_left
  ·cases h;trivial
  rename_i h31;cases h;have hlv2:LV cs (if fm cs p=29 then lv1 else[]):=by
   split
   ·exact k3
   ·intro z hz;cases hz
  have get:∀i,fm cs i≠30->i≠p->i≠p1->(hY ((pt1.set p p1).set p1 p) p1 (if fm cs p=29 then lv1 else[])).getD i 0=pt1.getD i 0:=λi a b c=>by rw[pM _ _ _ (hlv2.ne a),gS c,gS b]
  have hg:(hY ((pt1.set p p1).set p1 p) p1 (if fm cs p=29 then lv1 else[])).getD p 0=p1:=by rw[pM _ _ _ (hlv2.ne p30),gS aa,nK aa]
  refine⟨⟨rfl,rfl,hop,⟨p1,hg,⟨aa,λ_=>h31.2⟩,aa,k1.congrR λk a b c=>get k c aa aa,.inr ⟨by rw[h31.2];decide,rfl,rfl⟩⟩,rfl⟩,λi hi h30=>?_,?_⟩
  ·rw[get i h30 aa aa];exact k2 i aa h30
  ·split
   ·exact hv
   ·exact k3
theorem EA{cs:am}:∀(f d:Nat) (inL:Bool) (p:Nat) (pt lv:List Int) (out0:Fo) (r:Except Nat LR) (a:Nat),lst cs f d inL p pt lv out0=some r->p<=cs.length->pt.length=cs.length->lv.length<=p->LV cs lv->fM cs pt out0 a p->Gn cs p a pt r:=by
 intro f;induction f with
 |zero=>intro d inL p pt lv out0 r a h;cases h
 |succ f ih=>
  intro d inL p pt lv out0 r a h hp hpt hlv hv hg;rw[lst] at h;by_cases c1:cs.length<=p
  ·rw[if_pos c1] at h;cases h;exact⟨hg,λ_ _ _=>rfl,hv⟩
  rw[if_neg c1] at h;by_cases c2:fm cs p=28\/fm cs p=31
  ·rw[if_pos c2] at h;cases h;exact⟨hg,λ_ _ _=>rfl,hv⟩
  rw[if_neg c2] at h;by_cases c3:fm cs p=27\/fm cs p=29
  ·rw[if_pos c3] at h;have hL:Dd cs (λd inL p pt lv=>lst cs f d inL p pt lv .nil):=λd inL p pt lv r q1 q2 q3 q4=>jn f d inL p pt lv .nil r q1 q2 q3 q4;cases hb:kW cs (λd inL p pt lv=>lst cs f d inL p pt lv .nil) (d+1) inL p pt lv with
   |none=>rw[hb] at h;cases h
   |some rb=>
   rw[hb] at h;have k:=F9 hL (λd inL p pt lv r q1 q2 q3 q4 q5=>ih d inL p pt lv .nil r p q5 q1 q2 q3 q4 rfl) aa hpt hlv hv c3 hb;have kk:=ry hL aa hpt hlv hb;cases rb with
   |error x=>cases h;trivial
   |ok q=>
   obtain⟨b,p',pt',lv'⟩:=q;obtain⟨k1,k2,k3⟩:=k;obtain⟨f1,f2,f3,f4,f5⟩:=kk.1 b p' pt' lv' rfl;dsimp only at h;obtain⟨x,y,hbr⟩:=kk.2 b p' pt' lv' rfl;have hgood:fM cs pt' (out0.app b) a p':=(hg.congrR λk _ q2 q3=>k2 k q2 q3).app k1 (λ_=>by rw[hbr];rfl)
   have k4:=ih d inL p' pt' lv' (out0.app b) r a h f2 f3 f4 k3 hgood;cases r with
   |error x=>trivial
   |ok q=>
   obtain⟨o,p1,pt1,lv1⟩:=q;obtain⟨m1,m2,m3⟩:=k4;exact⟨m1,λi hi h30=>(m2 i aa h30).trans (k2 i hi h30),m3⟩
  rw[if_neg c3] at h;by_cases c4:fm cs p=30/\inL=false
  ·rw[if_pos c4] at h;cases h;trivial
  rw[if_neg c4] at h;have hlv1:(if fm cs p=30 then lv++[(p:Int)] else lv).length<=p+1:=by split<;>(try simp)<;>omega
  have hv1:LV cs (if fm cs p=30 then lv++[(p:Int)] else lv):=by
   split
   ·rename_i h30;intro z hz;rcases apS.1 hz with hz|hz
    ·exact hv z hz
    ·rw[apy.1 hz];exact h30
   ·exact hv
  have k4:=ih d inL (p+1) pt _ (out0.addPl p) r a h aa hpt hlv1 hv1 (hg.addPl (λh=>c3 (.inl h)) (λh=>c3 (.inr h)) (λh=>c2 (.inl h)) (λh=>c2 (.inr h)));cases r with
  |error x=>trivial
  |ok q=>
  obtain⟨o,p1,pt1,lv1⟩:=q;obtain⟨m1,m2,m3⟩:=k4;exact⟨m1,λi hi h30=>m2 i aa h30,m3⟩
theorem o8{cs:am}{o:Fo}{pt:List Int}(h:jH cs= .ok (o,pt)):fM cs pt o 0 cs.length/\pt.length=cs.length:=by
 obtain⟨r,hr⟩:=qx (cs:=cs) (cs.length+1) 0 false 0 (List.replicate cs.length (-1)) [] .nil (apf _) ae ae aa;have k:=EA _ _ _ _ _ _ _ _ 0 hr (apf _) ae ae (λz hz=>by cases hz) rfl
 have kk:=jn _ _ _ _ _ _ _ _ (apf _) ae ae hr;rw[jH,hr] at h;cases r with
 |error x=>cases h
 |ok q=>
  obtain⟨o',p,pt',lv⟩:=q;dsimp only at h;by_cases he:p=cs.length
  ·rw[if_pos he] at h;cases h;subst he;exact⟨k.1,(kk _ _ _ _ rfl).2.2.1⟩
  ·rw[if_neg he] at h;cases h
end Go.Proofs.YtdpkgnmmikebdaaGreat