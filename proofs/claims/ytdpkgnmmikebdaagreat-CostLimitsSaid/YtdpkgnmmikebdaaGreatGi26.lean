/- A part of the proof of CostLimits. No condition. -/
import Derived.Test.YtdpkgnmmikebdaaGreatGi25
set_option linter.unusedSimpArgs false
set_option linter.unusedVariables false
set_option linter.constructorNameAsVariable false
set_option maxRecDepth 100000
set_option maxHeartbeats 4000000
namespace Go.Proofs.YtdpkgnmmikebdaaGreat
open Go.RowKit
section
variable {op:Int}{x:Iv}{l:List Iv}{a b n:Nat}{S:WS}
theorem zb(h:¬(8<=op/\op<=20))(x y:Iv):iJ (gg op x y):=by
 unfold gg;rw[if_neg aa,if_neg aa,if_neg aa,if_neg aa,if_neg aa,if_neg aa,if_neg aa,if_neg aa,if_neg aa,if_neg aa,if_neg aa,if_neg aa];exact lP
theorem yA(h:¬(8<=op/\op<=20))(a b:Int):0<=ic op a b/\ic op a b<=4294967295:=by
 unfold ic;rw[if_neg aa,if_neg aa,if_neg aa,if_neg aa,if_neg aa,if_neg aa,if_neg aa,if_neg aa,if_neg aa,if_neg aa,if_neg aa,if_neg aa];exact nJ _
theorem zZ{y:Iv}(hx:iJ x)(hy:iJ y)(he:(fZ op x y).2=0):iJ (fZ op x y).1:=by
 by_cases h:8<=op/\op<=20
 ·exact C9 h hx hy he
 ·unfold fZ;rw[if_neg aa];split
  ·have:=yA h x.1 y.1;exact⟨this.1,apH _,this.2⟩
  ·exact zb h x y
def pz(cs:am):Prop:=∀k,0<=(cs.getD k (0,0)).2/\(cs.getD k (0,0)).2<=4294967295
theorem il.k{cs:am}(h:il cs):pz cs:=λk=>by
 rw[apd];cases hk:cs[k]? with
 |none=>exact⟨ag,ag⟩
 |some x=>have:=h x (apB hk);exact⟨this.1,by show x.2<=_;omega⟩
def JI(i:Nat)(x:Iv)(S:WS):Prop:=S.loc.getD i (0,0)=x/\∀l ∈ S.lv,l.getD i (0,0)=x
structure mQ(cs:am)(n a b:Nat)(S S':WS):Prop where
 wf:WF n S'
 keep:∀i x,i<n->iJ x->stoF cs a (b-a) i=false->JI i x S->JI i x S'
theorem mQ.refl{cs:am}(h:WF n S):mQ cs n a b S S:=⟨h,λ_ _ _ _ _ h=>h⟩
theorem mQ.trans{cs:am}{c:Nat}{S1 S2:WS}(h:mQ cs n a b S S1)(h':mQ cs n b c S1 S2)(h1:a<=b)(h2:b<=c):mQ cs n a c S S2:=
 ⟨h'.wf,λi x hi hx hs hj=>h'.keep i x hi hx (je hs h1 aa) (h.keep i x hi hx (je hs (bL _) aa) hj)⟩
theorem mQ.sub{cs:am}{a' b':Nat}{S1:WS}(h:mQ cs n a b S S1)(h1:a'<=a)(h2:b<=b')(h3:a<=b):mQ cs n a' b' S S1:=
 ⟨h.wf,λi x hi hx hs hj=>h.keep i x hi hx (je hs h1 aa) hj⟩
theorem La(h:wl n l)(i:Nat)(hx:iJ x):wl n (l.set i x):=⟨by rw[aph];exact h.1,λy hy=>by
 rcases List.mem_or_eq_of_mem_set hy with hy|rfl
 ·exact h.2 y hy
 ·exact hx⟩
theorem qU:px (1,0):=⟨⟨ag,ag⟩,ag,ag⟩
theorem b11:px (1,1):=⟨⟨ag,ag⟩,ag,ag⟩
theorem oU:px (0,0):=⟨⟨ag,ag⟩,ag,ag⟩
theorem px.nn{b:Bd}(h:px b):0<=b.1/\0<=b.2:=⟨h.1.1,h.2.1⟩
theorem anw:iJ (0,1):=⟨ag,ag,ag⟩
theorem rQ:iJ (0,0):=⟨ag,ag,ag⟩
theorem rD{la:ao}{arg p:Int}{l:List Vl}{S':WS}{b:Bd}(h:gU la op arg p l S= .ok (S',b))(ha:0<=arg/\arg<=4294967295)(hl:∀v ∈ l,iJ v.2)(hS:WF n S):
  WF n S'/\px b/\S'.lv=S.lv/\S'.lp=S.lp/\(S'.loc=S.loc\/(op=2/\∃x,S'.loc=S.loc.set arg.toNat x)):=by
 have push:∀(l:List Vl) (b0:Bd),(∀v ∈ l,iJ v.2)->px b0->hD b0 (gH p l S)= .ok (S',b)->WF n S'/\px b/\S'.lv=S.lv/\S'.lp=S.lp/\(S'.loc=S.loc\/(op=2/\∃x,S'.loc=S.loc.set arg.toNat x)):=λl b0 h1 h2 h3=>by
  obtain⟨k1,rfl⟩:=Du h3;obtain⟨k2,k3,k4,k5⟩:=D1 k1 hS h1;exact⟨k2,h2,k4,k5,.inl k3⟩
 have one:∀(v:Vl),iJ v.2->∀w ∈ [v],iJ w.2:=λv hv w hw=>by rw[apy.1 hw];exact hv
 have two:∀(v u:Vl),iJ v.2->iJ u.2->∀w ∈ [v,u],iJ w.2:=λv u hv hu w hw=>by
  rcases apv.1 hw with rfl|hw
  ·exact hv
  ·rw[apy.1 hw];exact hu
 have g0:=jh hl 0;have g1:=jh hl 1;unfold gU at h;by_cases c:op=0
 ·rw[if_pos c] at h;exact push _ _ (one _ ⟨ha.1,apH _,ha.2⟩) qU h
 rw[if_neg c] at h;clear c;by_cases c:op=1
 ·rw[if_pos c] at h;exact push _ _ (one _ (kr hS.loc.2 _)) qU h
 rw[if_neg c] at h;clear c;by_cases c:op=2
 ·rw[if_pos c] at h;cases h;exact⟨⟨La hS.loc _ g0,hS.st,hS.lv⟩,qU,rfl,rfl,.inr ⟨c,_,rfl⟩⟩
 rw[if_neg c] at h;clear c;by_cases c:op=3
 ·rw[if_pos c] at h;cases he:jA la arg p (l.getD 0 v0) with
  |error e=>rw[he] at h;cases h
  |ok x=>rw[he] at h;exact push _ _ (one _ (FO he)) qU h
 rw[if_neg c] at h;clear c;by_cases c:op=4
 ·rw[if_pos c] at h;cases he:jA la arg p (l.getD 0 v0) with
  |error e=>rw[he] at h;cases h
  |ok x=>rw[he] at h;cases h;exact⟨hS,qU,rfl,rfl,.inl rfl⟩
 rw[if_neg c] at h;clear c;by_cases c:op=5
 ·rw[if_pos c] at h;exact push _ _ (two _ _ g0 g0) qU h
 rw[if_neg c] at h;clear c;by_cases c:op=7
 ·rw[if_pos c] at h;exact push _ _ (two _ _ g1 g0) qU h
 rw[if_neg c] at h;clear c;by_cases c:op=6\/op=35
 ·rw[if_pos c] at h;cases h;exact⟨hS,qU,rfl,rfl,.inl rfl⟩
 rw[if_neg c] at h;clear c;by_cases c:op=34
 ·rw[if_pos c] at h;cases h;exact⟨hS,b11,rfl,rfl,.inl rfl⟩
 rw[if_neg c] at h;clear c;by_cases c:op=32
 ·rw[if_pos c] at h;exact push _ _ (one _ lP) qU h
 rw[if_neg c] at h;clear c;by_cases c:op=26
 ·rw[if_pos c] at h;exact push _ _ (one _ anw) qU h
 rw[if_neg c] at h;clear c;by_cases c:(kc op).2=[116]
 ·rw[if_pos c] at h;exact push _ _ (one _ rQ) qU h
 rw[if_neg c] at h;clear c;by_cases c:(fZ op (l.getD 0 v0).2 (l.getD 1 v0).2).2=0
 ·rw[if_pos c] at h;exact push _ _ (one _ (zZ g0 g1 c)) qU h
 ·rw[if_neg c] at h;cases h
theorem kx{cs:am}{la:ao}{base loop p:Nat}{S':WS}{b:Bd}(h:kh cs la base loop p S= .ok (S',b))(ha:pz cs)(hS:WF n S):mQ cs n p (p+1) S S'/\px b:=by
 unfold kh at h;split at h
 ·split at h
  ·cases h
  ·rename_i l S1 hp;obtain⟨k1,k2,k3,k4,k5⟩:=iq hp hS;split at h
   ·cases h;refine⟨⟨⟨k1.loc,k1.st,λl hl=>?_⟩,λi x hi hx hs hj=>⟨by rw[<-hj.1,<-k3],λl hl=>?_⟩⟩,qU⟩
    ·rcases apS.1 hl with hl|hl
     ·exact k1.lv l hl
     ·rw[apy.1 hl];exact k1.loc
    ·rcases apS.1 hl with hl|hl
     ·exact hj.2 l (k4 ▸ hl)
     ·rw[apy.1 hl,k3];exact hj.1
   ·cases h
 ·rename_i h30;unfold jm at h;split at h
  ·cases h
  ·rename_i l S1 hp;obtain⟨k1,k2,k3,k4,k5⟩:=iq hp hS;obtain⟨m1,m2,m3,m4,m5⟩:=rD h (ha p) k2 k1;refine⟨⟨m1,λi x hi hx hs hj=>⟨?_,λl hl=>hj.2 l (by rw[<-k4,<-m3];exact hl)⟩⟩,m2⟩
   rcases m5 with m5|⟨m5,y,m6⟩
   ·rw[m5,k3];exact hj.1
   ·rw[m6,k3];have hne:(cs.getD p (0,0)).2.toNat≠i:=λe=>by
     have:stoF cs p (p+1-p) i=true:=(qi cs i p _).2 ⟨p,bL _,aa,by
      have h1:(cs.getD p (0,0)).1=2:=m5;have h2:(cs.getD p (0,0)).2=(i:Int):=by have:=(ha p).1;omega
      rw[<-h1,<-h2]⟩
     rw[hs] at this;cases this
    rw[apd,List.getElem?_set_ne hne,<-apd];exact hj.1
theorem nN{cs:am}{la:ao}{n base loop:Nat}(ha:pz cs):∀(k p:Nat) {S S':WS} {b b':Bd},oC cs la base loop k p S b= .ok (S',b')->WF n S->px b->mQ cs n p (p+k) S S'/\px b'
 |0,p,S,S',b,b',h,hS,hb=>by cases h;exact⟨.refl hS,hb⟩
 |k+1,p,S,S',b,b',h,hS,hb=>by
  rw[oC] at h;split at h
  ·cases h
  ·rename_i S1 x hs;obtain⟨k1,k2⟩:=kx hs ha hS;obtain⟨m1,m2⟩:=nN ha k (p+1) h k1.wf (gx hb.nn k2.nn);rw[show p+1+k=p+(k+1) by omega] at m1
   exact⟨k1.trans m1 aa aa,m2⟩
theorem fM.lastB{cs:am}{out:List Int}:∀{o:Fo} {a b:Nat},fM cs out o a b->o.lastB a=b
 |.nil,a,b,h=>h
 |.pl x y r,a,b,h=>by
  obtain⟨_,_,_,_,h4⟩:=h;exact h4.lastB
 |.br op x y u v r,a,b,h=>by
  obtain⟨_,_,_,_,h4⟩:=h;exact h4.lastB
theorem x7(h:wl n l)(i:Nat):iJ (l.getD i (0,0)):=kr h.2 i
theorem vP{i:Nat}{m:List Iv}(hl:l.length=n)(hi:i<n)(hx:iJ x)(h1:l.getD i (0,0)=x)(h2:m.getD i (0,0)=x):(gj l m).getD i (0,0)=x:=by
 rw[ni l m i aa,h1,h2,uN hx]
theorem Be{n i:Nat}{x:Iv}(hi:i<n)(hx:iJ x):∀(ls:List (List Iv)) (h:List Iv),h.length=n->h.getD i (0,0)=x->(∀l ∈ ls,l.getD i (0,0)=x)->(ls.foldl gj h).getD i (0,0)=x
 |[],h,_,h1,_=>h1
 |l::ls,h,hl,h1,h2=>Be hi hx ls _ ((i7 h l).trans hl) (vP hl hi hx h1 (h2 l (aps ..))) λk hk=>h2 k (apx _ hk)
def n8(cs:am)(n a b:Nat)(body:WS->Option (Except Er (WS×Bd))):Prop:=∀S S' bd,body S=some (.ok (S',bd))->WF n S->mQ cs n a b S S'/\px bd
theorem mX{cs:am}{n a b x0 to h:Nat}{body:WS->Option (Except Er (WS×Bd))}(hB:n8 cs n a b body)(ha:x0<=a)(hb:a<=b)(hto:b<=to):∀(f:Nat) (pass:Int) (head:List Iv) {S S':WS} {hd:List Iv} {bd:Bd},l6 body to h (stoF cs x0 (to-x0)) f pass head S=some (.ok (hd,S',bd))->WF n S->wl n head->
  WF n S'/\wl n hd/\px bd/\S'.st.length=h/\∀i x,i<n->iJ x->stoF cs x0 (to-x0) i=false->head.getD i (0,0)=x->hd.getD i (0,0)=x/\JI i x S'
 |0,pass,head,S,S',hd,bd,hr,_,_=>by cases hr
 |f+1,pass,head,S,S',hd,bd,hr,hS,hh=>by
  rw[l6] at hr;split at hr
  ·cases hr
  ·cases hr
  ·rename_i S1 b1 hb1;have hS0:WF n {S with loc:=head,lv:=[]}:=⟨hh,hS.st,λl hl=>by cases hl⟩
   obtain⟨k1,k2⟩:=hB _ _ _ hb1 hS0;have hk:∀i x,i<n->iJ x->stoF cs x0 (to-x0) i=false->head.getD i (0,0)=x->JI i x S1:=λi x hi hx hs hj=>
    k1.keep i x hi hx (je hs ha aa) ⟨hj,λl hl=>by cases hl⟩
   split at hr
   ·rename_i hlen;split at hr
    ·cases hr;exact⟨k1.wf,hh,k2,hlen,λi x hi hx hs hj=>⟨hj,hk i x hi hx hs hj⟩⟩
    ·obtain⟨m1,m2,m3,m4,m5⟩:=mX hB ha hb hto f (pass+1) _ hr k1.wf (lY hh _ _ _ _);refine⟨m1,m2,m3,m4,λi x hi hx hs hj=>m5 i x hi hx hs ?_⟩;rw[lX _ _ _ _ _ _ (by rw[hh.1];exact hi),hj,(hk i x hi hx hs hj).1,uN hx,yW hx,apz,hs]
     split<;>rfl
   ·cases hr
theorem fR{cs:am}{la:ao}{out:List Int}{n:Nat}(ha:pz cs):∀(o:Fo) (a b base loop:Nat) {S S':WS} {bd bd':Bd},fM cs out o a b->fO cs la o base loop S bd=some (.ok (S',bd'))->WF n S->px bd->mQ cs n a b S S'/\px bd'
 |.nil,a,b,base,loop,S,S',bd,bd',hg,h,hS,hb=>by cases h;exact⟨.refl hS,hb⟩
 |.pl x y r,a,b,base,loop,S,S',bd,bd',hg,h,hS,hb=>by
  obtain⟨rfl,h1,_,_,h4⟩:=hg;rw[fO] at h;split at h
  ·cases h
  ·rename_i S1 b1 hr;obtain⟨k1,k2⟩:=nN ha _ _ hr hS hb;rw[show x+(y-x)=y by omega] at k1
   obtain⟨m1,m2⟩:=fR ha r y b base loop h4 h k1.wf k2;exact⟨k1.trans m1 aa h4.le,m2⟩
 |.br op x y u v r,a,b,base,loop,S,S',bd,bd',hg,h,hS,hb=>by
  obtain⟨rfl,hop,hopv,⟨m,g1,g2,g3,g4,g5⟩,h4⟩:=hg;have hle:=h4.le;have hul:=g4.le;have hmy:m<y:=by rcases g5 with⟨_,e,_,q2,_,_,q5⟩|⟨_,_,q2⟩<;>omega
  rw[fO,g4.lastB] at h;split at h
  ·rename_i h27;split at h
   ·cases h
   ·rename_i l S1 hp;obtain⟨k1,k2,k3,k4,k5⟩:=iq hp hS;split at h
    ·cases h
    ·cases h
    ·rename_i S2 bx hu;obtain⟨m1,m2⟩:=fR ha u (x+1) m _ loop g4 hu k1 oU;split at h;rotate_left
     ·cases h
     split at h
     ·rename_i h28;rcases g5 with⟨_,e,q1,q2,q3,q4,q5⟩|⟨q0,_,_⟩;rotate_left
      ·exact asi
      split at h
      ·cases h
      ·cases h
      ·rename_i S4 by_ hv;have hS3:WF n {S2 with loc:=S1.loc}:=⟨k1.loc,m1.wf.st,m1.wf.lv⟩;obtain⟨n1,n2⟩:=fR ha v (m+1) e _ loop q4 hv hS3 oU;split at h;rotate_left
       ·cases h
       have hS5:WF n {S4 with loc:=gj S2.loc S4.loc}:=⟨kF m1.wf.loc.1 _,n1.wf.st,n1.wf.lv⟩;have hbd:px (gh bd (gh (fA bx.1 by_.1,fA bx.2 by_.2) (1,0))):=gx hb.nn (gx eE qU.nn).nn
       obtain⟨t1,t2⟩:=fR ha r y b base loop h4 h hS5 hbd;refine⟨⟨t1.wf,λi z hi hz hs hj=>t1.keep i z hi hz (je hs aa aa) ?_⟩,t2⟩;have j1:JI i z S1:=⟨by rw[k3];exact hj.1,by rw[k4];exact hj.2⟩
       have j2:=m1.keep i z hi hz (je hs aa aa) j1;have j4:=n1.keep i z hi hz (je hs aa aa) (show JI i z {S2 with loc:=S1.loc} from⟨j1.1,j2.2⟩);exact⟨vP m1.wf.loc.1 hi hz j2.1 j4.1,j4.2⟩
     ·have hS5:WF n {S2 with loc:=gj S2.loc S1.loc}:=⟨kF m1.wf.loc.1 _,m1.wf.st,m1.wf.lv⟩;have hbd:px (gh bd (gh (fA bx.1 0,fA bx.2 0) (1,0))):=gx hb.nn (gx eF qU.nn).nn
      obtain⟨t1,t2⟩:=fR ha r y b base loop h4 h hS5 hbd;refine⟨⟨t1.wf,λi z hi hz hs hj=>t1.keep i z hi hz (je hs aa aa) ?_⟩,t2⟩;have j1:JI i z S1:=⟨by rw[k3];exact hj.1,by rw[k4];exact hj.2⟩
      have j2:=m1.keep i z hi hz (je hs aa aa) j1;exact⟨vP m1.wf.loc.1 hi hz j2.1 j1.1,j2.2⟩
  ·split at h
   ·cases h
   ·rename_i l S1 hp;obtain⟨k1,k2,k3,k4,k5⟩:=iq hp hS;have hmo:=jh k2 0;split at h;rotate_left
    ·cases h
    split at h
    ·cases h
    ·cases h
    ·rename_i head S2 bx hr;have hB:n8 cs n (x+1) m (λS'=>fO cs la u S1.st.length S1.st.length S' (0,0)):=λS3 S4 b4 h3 h5=>fR ha u (x+1) m _ _ g4 h3 h5 oU;obtain⟨m1,m2,m3,m4,m5⟩:=mX hB aa hul (bL _) 6 1 S1.loc hr k1 k1.loc;have hS5:WF n {S2 with loc:=S2.lv.foldl gj head,lv:=S1.lv,lp:=iI S2.lp x (l.getD 0 v0).2.2}:=⟨ns _ _ m2,m1.st,k1.lv⟩;have hbd:px (gh bd (gh (jt bx (l.getD 0 v0).2.2) (1,0))):=gx hb.nn (gx (oZ m3 aa).nn qU.nn).nn;obtain⟨t1,t2⟩:=fR ha r y b base loop h4 h hS5 hbd;refine⟨⟨t1.wf,λi z hi hz hs hj=>t1.keep i z hi hz (je hs aa aa) ?_⟩,t2⟩;obtain⟨j1,j2⟩:=m5 i z hi hz (je hs aa aa) (by rw[k3];exact hj.1)
     exact⟨Be hi hz _ _ m2.1 j1 j2.2,by show ∀l ∈ S1.lv,_;rw[k4];exact hj.2⟩
/-! ### it ends-/
theorem BU{sto:Nat->Bool}{head m:List Iv}(hh:wl n head){pass:Int}(hp:¬pass<3)(i:Nat)(hi:i<n):(iL sto pass 0 head m).getD i (0,0)=if sto i=true then(0,4294967295) else head.getD i (0,0):=by
 rw[lX _ _ _ _ _ _ (by rw[hh.1];exact hi),if_neg hp,apz]
theorem o7{cs:am}{n a b x0 to h:Nat}{body:WS->Option (Except Er (WS×Bd))}(hB:n8 cs n a b body)(hT:∀S,WF n S->∃r,body S=some r)(ha:x0<=a)(hb:a<=b)(hto:b<=to):∀(f:Nat) (pass:Int) (head:List Iv) (S:WS),WF n S->wl n head->(4<=pass->∀i,i<n->stoF cs x0 (to-x0) i=true->head.getD i (0,0)=(0,4294967295))->5<=pass+f->1<=f->∃r,l6 body to h (stoF cs x0 (to-x0)) f pass head S=some r
 |0,pass,head,S,_,_,_,_,hf=>by omega
 |f+1,pass,head,S,hS,hh,h4,h5,_=>by
  rw[l6];have hS0:WF n {S with loc:=head,lv:=[]}:=⟨hh,hS.st,λl hl=>by cases hl⟩
  obtain⟨r,hr⟩:=hT _ hS0;rw[hr];cases r with
  |error e=>exact⟨_,rfl⟩
  |ok q=>
   obtain⟨S1,b1⟩:=q;obtain⟨k1,k2⟩:=hB _ _ _ hr hS0;dsimp only;by_cases hl:S1.st.length=h;rotate_left
   ·rw[if_neg hl];exact⟨_,rfl⟩
   rw[if_pos hl];by_cases hw:ib S1.loc head=true
   ·rw[if_pos hw];exact⟨_,rfl⟩
   rw[if_neg hw];have hp:pass<4:=by
    by_cases hp0:pass<4
    ·exact hp0
    ·have hp:4<=pass:=aa;refine absurd (sH (n:=n) (by rw[k1.wf.loc.1,hh.1]) λi hi=>?_) hw
     rw[k1.wf.loc.1] at hi;cases hs:stoF cs x0 (to-x0) i with
     |true=>rw[h4 hp i hi hs];exact wC (x7 k1.wf.loc i)
     |false=>
      have hx:=x7 hh i;have j:=k1.keep i (head.getD i (0,0)) hi hx (je hs ha aa) ⟨rfl,λl hl=>by cases hl⟩
      rw[j.1];exact wB hx
   refine o7 hB hT ha hb hto f (pass+1) _ S1 k1.wf (lY hh _ _ _ _) (λhp4 i hi hs=>?_) aa aa;rw[BU hh aa i hi,if_pos hs]
theorem ik{cs:am}{la:ao}{out:List Int}{n:Nat}(ha:pz cs):∀(o:Fo) (a b base loop:Nat) (S:WS) (bd:Bd),fM cs out o a b->WF n S->px bd->∃r,fO cs la o base loop S bd=some r
 |.nil,a,b,base,loop,S,bd,hg,hS,hb=>⟨_,rfl⟩
 |.pl x y r,a,b,base,loop,S,bd,hg,hS,hb=>by
  obtain⟨rfl,h1,_,_,h4⟩:=hg;rw[fO];split
  ·exact arQ
  ·rename_i S1 b1 hr;obtain⟨k1,k2⟩:=nN ha _ _ hr hS hb;exact ik ha r y b base loop S1 b1 h4 k1.wf k2
 |.br op x y u v r,a,b,base,loop,S,bd,hg,hS,hb=>by
  obtain⟨rfl,hop,hopv,⟨m,g1,g2,g3,g4,g5⟩,h4⟩:=hg;have hle:=h4.le;have hul:=g4.le;have hmy:m<y:=by rcases g5 with⟨_,e,_,q2,_,_,q5⟩|⟨_,_,q2⟩<;>omega
  rw[fO,g4.lastB];split
  ·split
   ·exact arQ
   ·rename_i l S1 hp;obtain⟨k1,k2,k3,k4,k5⟩:=iq hp hS;obtain⟨ru,hu⟩:=ik ha u (x+1) m S1.st.length loop S1 (0,0) g4 k1 oU;rw[hu];cases ru with
    |error e=>exact⟨_,rfl⟩
    |ok q=>
     obtain⟨S2,bx⟩:=q;obtain⟨m1,m2⟩:=fR ha u (x+1) m _ loop g4 hu k1 oU;dsimp only;split;rotate_left
     ·exact arQ
     split
     ·rename_i h28;rcases g5 with⟨_,e,q1,q2,q3,q4,q5⟩|⟨q0,_,_⟩;rotate_left
      ·exact asi
      have hS3:WF n {S2 with loc:=S1.loc}:=⟨k1.loc,m1.wf.st,m1.wf.lv⟩;obtain⟨rv,hv⟩:=ik ha v (m+1) e S1.st.length loop _ (0,0) q4 hS3 oU;rw[hv];cases rv with
      |error e=>exact⟨_,rfl⟩
      |ok q=>
       obtain⟨S4,by_⟩:=q;obtain⟨n1,n2⟩:=fR ha v (m+1) e _ loop q4 hv hS3 oU;dsimp only;split;rotate_left
       ·exact arQ
       exact ik ha r y b base loop _ _ h4 ⟨kF m1.wf.loc.1 _,n1.wf.st,n1.wf.lv⟩ (gx hb.nn (gx (by have:=m2.nn;have:=n2.nn;unfold fA;dsimp only;constructor<;>split<;>omega) qU.nn).nn)
     ·exact ik ha r y b base loop _ _ h4 ⟨kF m1.wf.loc.1 _,m1.wf.st,m1.wf.lv⟩ (gx hb.nn (gx (by have:=m2.nn;unfold fA;dsimp only;constructor<;>split<;>omega) qU.nn).nn)
  ·split
   ·exact arQ
   ·rename_i l S1 hp;obtain⟨k1,k2,k3,k4,k5⟩:=iq hp hS;have hmo:=jh k2 0;split;rotate_left
    ·exact arQ
    have hB:n8 cs n (x+1) m (λS'=>fO cs la u S1.st.length S1.st.length S' (0,0)):=λS3 S4 b4 h3 h5=>fR ha u (x+1) m _ _ g4 h3 h5 oU;obtain⟨rr,hr⟩:=o7 (h:=S1.st.length) hB (λS' hS'=>ik ha u (x+1) m _ _ S' (0,0) g4 hS' oU) (show x<=x+1 by omega) hul (bL m) 6 1 S1.loc S1 k1 k1.loc (λh=>aa) aa aa
    rw[hr];cases rr with
    |error e=>exact⟨_,rfl⟩
    |ok q=>
     obtain⟨head,S2,bx⟩:=q;obtain⟨m1,m2,m3,m4,m5⟩:=mX hB aa hul (bL _) 6 1 S1.loc hr k1 k1.loc;exact ik ha r y b base loop _ _ h4 ⟨ns _ _ m2,m1.st,k1.lv⟩ (gx hb.nn (gx (oZ m3 aa).nn qU.nn).nn)
end
section
variable {b:Bd}{p:Int}{l:List Vl}{base q:Nat}{S S1:WS}
theorem oD{ty:List UInt8}(h:jS p base ty S= .ok (l,S1)):¬S.st.length<base+ty.length/\l=S.st.drop (S.st.length-ty.length)/\S1={S with st:=S.st.take (S.st.length-ty.length)}:=by
 unfold jS at h;split at h
 ·cases h
 rename_i a;split at h
 ·cases h;exact⟨a,rfl,rfl⟩
 ·cases h
structure Sm(p:Nat)(S:WS):Prop where
 st:S.st.length<=32
 ht:0<=S.ht/\S.ht<=32
 lv:S.lv.length<=p
theorem Sm.le{p:Nat}(h:Sm p S)(hpq:p<=q):Sm q S:=⟨h.st,h.ht,apj h.lv hpq⟩
theorem kI{ty:List UInt8}(h:jS p base ty S= .ok (l,S1))(hS:Sm q S):Sm q S1:=by
 obtain⟨_,_,rfl⟩:=oD h;exact⟨by simp only[apL];have:=hS.st;omega,hS.ht,hS.lv⟩
theorem kj(h:gH p l S= .ok S1)(hS:Sm q S):Sm q S1:=by
 unfold gH at h;split at h
 ·cases h;rename_i hl;refine⟨hl,?_,hS.lv⟩;have:=hS.ht;show 0<=fA _ _/\fA _ _<=32;unfold fA;split<;>omega
 ·cases h
theorem kf{b0:Bd}{x:Except Er WS}(h:hD b0 x= .ok (S1,b))(hx:∀S,x= .ok S->Sm q S):Sm q S1:=by
 cases x with
 |error e=>cases h
 |ok S=>cases h;exact hx _ rfl
theorem Mw{la:ao}{op arg:Int}{S':WS}(h:gU la op arg p l S= .ok (S',b))(hS:Sm q S):Sm q S':=by
 unfold gU at h;by_cases c:op=0
 ·exact eS
 rw[if_neg c] at h;clear c;by_cases c:op=1
 ·exact eS
 rw[if_neg c] at h;clear c;by_cases c:op=2
 ·rw[if_pos c] at h;cases h;exact⟨hS.st,hS.ht,hS.lv⟩
 rw[if_neg c] at h;clear c;by_cases c:op=3
 ·rw[if_pos c] at h;cases he:jA la arg p (l.getD 0 v0) with
  |error e=>rw[he] at h;cases h
  |ok x=>rw[he] at h;exact kf h λ_ h'=>kj h' hS
 rw[if_neg c] at h;clear c;by_cases c:op=4
 ·rw[if_pos c] at h;cases he:jA la arg p (l.getD 0 v0) with
  |error e=>rw[he] at h;cases h
  |ok x=>rw[he] at h;cases h;exact hS
 rw[if_neg c] at h;clear c;by_cases c:op=5
 ·exact eS
 rw[if_neg c] at h;clear c;by_cases c:op=7
 ·exact eS
 rw[if_neg c] at h;clear c;by_cases c:op=6\/op=35
 ·rw[if_pos c] at h;cases h;exact hS
 rw[if_neg c] at h;clear c;by_cases c:op=34
 ·rw[if_pos c] at h;cases h;exact hS
 rw[if_neg c] at h;clear c;by_cases c:op=32
 ·exact eS
 rw[if_neg c] at h;clear c;by_cases c:op=26
 ·exact eS
 rw[if_neg c] at h;clear c;by_cases c:(kc op).2=[116]
 ·exact eS
 rw[if_neg c] at h;clear c;by_cases c:(fZ op (l.getD 0 v0).2 (l.getD 1 v0).2).2=0
 ·exact eS
 ·rw[if_neg c] at h;cases h
theorem o6{cs:am}{la:ao}{loop p:Nat}{S':WS}(h:kh cs la base loop p S= .ok (S',b))(hS:Sm p S):Sm (p+1) S':=by
 unfold kh at h;split at h
 ·split at h
  ·cases h
  ·rename_i l S1 hp;have h1:=kI hp hS;split at h
   ·cases h;refine⟨h1.st,h1.ht,?_⟩;simp only[ape,List.length_cons,List.length_nil];have:=h1.lv;omega
   ·cases h
 ·unfold jm at h;split at h
  ·cases h
  ·rename_i l S1 hp;exact(Mw h (kI hp hS)).le aa
theorem xa{cs:am}{la:ao}{base loop:Nat}:∀(n p:Nat) {S S':WS} {b b':Bd},oC cs la base loop n p S b= .ok (S',b')->Sm p S->Sm (p+n) S'
 |0,p,S,S',b,b',h,hS=>by cases h;exact hS
 |n+1,p,S,S',b,b',h,hS=>by
  rw[oC] at h;split at h
  ·cases h
  ·rename_i S1 x h1;have:=xa n (p+1) h (o6 h1 hS);rwa [show p+1+n=p+(n+1) by omega] at this
theorem Au{body:WS->Option (Except Er (WS×Bd))}{to h a m:Nat}{sto:Nat->Bool}(hB:∀S S' b,body S=some (.ok (S',b))->Sm a S->Sm m S')(hm:∀S,Sm m S->S.lv=[]->Sm a S):∀(f:Nat) (pass:Int) (head:List Iv) {S S':WS} {hd:List Iv} {b:Bd},l6 body to h sto f pass head S=some (.ok (hd,S',b))->(S.st.length<=32/\0<=S.ht/\S.ht<=32)->Sm m S'
 |0,pass,head,S,S',hd,b,h,hS=>by cases h
 |f+1,pass,head,S,S',hd,b,h,hS=>by
  rw[l6] at h;split at h
  ·cases h
  ·cases h
  ·rename_i S1 b1 hb;have h1:=hB _ _ _ hb ⟨hS.1,hS.2,apf _⟩;split at h
   ·split at h
    ·cases h;exact h1
    ·exact Au hB hm f _ _ h ⟨h1.st,h1.ht⟩
   ·cases h
theorem iB{cs:am}{la:ao}{out:List Int}:∀(o:Fo) (a b base loop:Nat) {S S':WS} {bd bd':Bd},fM cs out o a b->fO cs la o base loop S bd=some (.ok (S',bd'))->Sm a S->Sm b S'
 |.nil,a,b,base,loop,S,S',bd,bd',hg,h,hS=>by cases h;exact hS.le hg.le
 |.pl x y r,a,b,base,loop,S,S',bd,bd',hg,h,hS=>by
  obtain⟨rfl,h1,_,_,h4⟩:=hg;rw[fO] at h;split at h
  ·cases h
  ·rename_i S1 b1 hr;have:=xa _ _ hr hS;rw[show x+(y-x)=y by omega] at this
   exact iB r y b base loop h4 h this
 |.br op x y u v r,a,b,base,loop,S,S',bd,bd',hg,h,hS=>by
  obtain⟨rfl,hop,hopv,⟨m,g1,g2,g3,g4,g5⟩,h4⟩:=hg;have hle:=h4.le;have hul:=g4.le;have hmy:m<y:=by rcases g5 with⟨_,e,_,q2,_,_,q5⟩|⟨_,_,q2⟩<;>omega
  rw[fO,g4.lastB] at h;split at h
  ·rename_i h27;split at h
   ·cases h
   ·rename_i l S1 hp;have k1:=kI hp hS;split at h
    ·cases h
    ·cases h
    ·rename_i S2 bx hu;have m1:=iB u (x+1) m _ loop g4 hu (k1.le aa);split at h;rotate_left
     ·cases h
     split at h
     ·rename_i h28;rcases g5 with⟨_,e,q1,q2,q3,q4,q5⟩|⟨q0,_,_⟩;rotate_left
      ·exact asi
      split at h
      ·cases h
      ·cases h
      ·rename_i S4 by_ hv;have n1:=iB v (m+1) e _ loop q4 hv (show Sm (m+1) {S2 with loc:=S1.loc} from⟨m1.st,m1.ht,apj m1.lv aa⟩);split at h;rotate_left
       ·cases h
       exact iB r y b base loop h4 h ⟨n1.st,n1.ht,apj n1.lv aa⟩
     ·exact iB r y b base loop h4 h ⟨m1.st,m1.ht,apj m1.lv aa⟩
  ·split at h
   ·cases h
   ·rename_i l S1 hp;have k1:=kI hp hS;split at h;rotate_left
    ·cases h
    split at h
    ·cases h
    ·cases h
    ·rename_i head S2 bx hr;have m1:=Au (a:=x+1) (m:=m) (λS3 S4 b4 h3 h5=>iB u (x+1) m _ _ g4 h3 h5) (λS h1 h2=>⟨h1.st,h1.ht,by rw[h2];exact apf _⟩) 6 1 S1.loc hr ⟨k1.st,k1.ht⟩
     exact iB r y b base loop h4 h ⟨m1.st,m1.ht,apj k1.lv aa⟩
def jF(cs:am)(la:ao)(x:Nat)(u v:Fo)(base loop:Nat)(S:WS):Option (Except Er (WS×Bd)):=match jS x base [116] S with
 |.error e=>some (.error e)
 |.ok (_,S1)=>match fO cs la u S1.st.length loop S1 (0,0) with
  |none=>none
  |some (.error e)=>some (.error e)
  |some (.ok (S2,bx))=>
   if S2.st.length=S1.st.length then
    if fm cs (u.lastB (x+1))=28 then match fO cs la v S1.st.length loop {S2 with loc:=S1.loc} (0,0) with
     |none=>none
     |some (.error e)=>some (.error e)
     |some (.ok (S4,by_))=>
      if S4.st.length=S1.st.length then some (.ok ({S4 with loc:=gj S2.loc S4.loc},gh (fA bx.1 by_.1,fA bx.2 by_.2) (1,0)))
      else some (.error ((v.lastB (u.lastB (x+1)+1):Nat),14))
    else some (.ok ({S2 with loc:=gj S2.loc S1.loc},gh (fA bx.1 0,fA bx.2 0) (1,0)))
   else some (.error ((u.lastB (x+1):Nat),14))
def ng(cs:am)(la:ao)(x:Nat)(u:Fo)(base:Nat)(S:WS):Option (Except Er (WS×Bd)):=match jS x base [110] S with
 |.error e=>some (.error e)
 |.ok (l,S1)=>
  if(l.getD 0 v0).2.2<=65536 then match l6 (λS'=>fO cs la u S1.st.length S1.st.length S' (0,0)) (u.lastB (x+1)) S1.st.length (stoF cs x (u.lastB (x+1)-x)) 6 1 S1.loc S1 with
   |none=>none
   |some (.error e)=>some (.error e)
   |some (.ok (head,S2,bx))=>some (.ok ({S2 with loc:=S2.lv.foldl gj head,lv:=S1.lv,lp:=iI S2.lp x (l.getD 0 v0).2.2},gh (jt bx (l.getD 0 v0).2.2) (1,0)))
  else some (.error (x,18))
def amZ(cs:am)(la:ao)(r:Fo)(base loop:Nat)(b:Bd):Option (Except Er (WS×Bd))->Option (Except Er (WS×Bd))
 |none=>none
 |some (.error e)=>some (.error e)
 |some (.ok (S',z))=>fO cs la r base loop S' (gh b z)
theorem qK{cs:am}{la:ao}{op:Int}{x y:Nat}{u v r:Fo}{loop:Nat}:fO cs la (.br op x y u v r) base loop S b=amZ cs la r base loop b (if op=27 then jF cs la x u v base loop S else ng cs la x u base S):=by
 rw[fO];by_cases h:op=27
 ·rw[if_pos h,if_pos h];unfold jF;cases jS x base [116] S with
  |error e=>rfl
  |ok q=>
   obtain⟨l,S1⟩:=q;dsimp only;cases fO cs la u S1.st.length loop S1 (0,0) with
   |none=>rfl
   |some q=>
    cases q with
    |error e=>rfl
    |ok q=>
     obtain⟨S2,bx⟩:=q;dsimp only;by_cases h1:S2.st.length=S1.st.length
     ·rw[if_pos h1,if_pos h1];by_cases h2:fm cs (u.lastB (x+1))=28
      ·rw[if_pos h2,if_pos h2];cases fO cs la v S1.st.length loop {S2 with loc:=S1.loc} (0,0) with
       |none=>rfl
       |some q=>
        cases q with
        |error e=>rfl
        |ok q=>
         obtain⟨S4,b4⟩:=q;dsimp only;by_cases h3:S4.st.length=S1.st.length
         ·rw[if_pos h3,if_pos h3];rfl
         ·rw[if_neg h3,if_neg h3];rfl
      ·rw[if_neg h2,if_neg h2];rfl
     ·rw[if_neg h1,if_neg h1];rfl
 ·rw[if_neg h,if_neg h];unfold ng;cases jS x base [110] S with
  |error e=>rfl
  |ok q=>
   obtain⟨l,S1⟩:=q;dsimp only;by_cases h1:(l.getD 0 v0).2.2<=65536
   ·rw[if_pos h1,if_pos h1];cases l6 (λS'=>fO cs la u S1.st.length S1.st.length S' (0,0)) (u.lastB (x+1)) S1.st.length (stoF cs x (u.lastB (x+1)-x)) 6 1 S1.loc S1 with
    |none=>rfl
    |some q=>
     cases q with
     |error e=>rfl
     |ok q=>rfl
   ·rw[if_neg h1,if_neg h1];rfl
end
end Go.Proofs.YtdpkgnmmikebdaaGreat