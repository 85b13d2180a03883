/- A part of the proof of CostLimits. No condition. -/
import Derived.Test.YtdpkgnmmikebdaaGreatGi30
import Derived.Test.YtdpkgnmmikebdaaGreatGi24
import Derived.Test.YtdpkgnmmikebdaaGreatGip
set_option linter.unusedSimpArgs false
set_option linter.unusedVariables false
set_option linter.constructorNameAsVariable false
set_option maxRecDepth 100000
set_option maxHeartbeats 4000000
namespace Go.Proofs.YtdpkgnmmikebdaaGreat
open Go.RowKit
section
variable {z:Bd}{out:List Int}{base n y:Nat}{S S':WS}
def lM(q y:Nat)(r:Fo):Fo:=if q+1<y then .pl (q+1) y r else r
theorem kM(q y:Nat)(r:Fo):(lM q y r).size<=(Fo.pl q y r).size:=by
 unfold lM;split
 ·exact bL _
 ·exact Nat.le_succ _
theorem kN{cs:am}{q b:Nat}{r:Fo}(h:fM cs out (.pl q y r) q b):fM cs out (lM q y r) (q+1) b:=by
 obtain⟨_,h1,h2,h3,h4⟩:=h;unfold lM;by_cases hq:q+1<y
 ·rw[if_pos hq];exact⟨rfl,hq,λk k1 k2=>h2 k aa k2,h3,h4⟩
 ·rw[if_neg hq,show q+1=y by omega]
  exact h4
theorem yo{cs:am}{la:ao}{q lp:Nat}{r:Fo}{bd:Bd}(h:q<y):fO cs la (.pl q y r) base lp S bd=(match kh cs la base lp q S with
  |.error e=>some (.error e)
  |.ok (S',z)=>fO cs la (lM q y r) base lp S' (gh bd z)):=by
 rw[fO,show y-q=(y-(q+1))+1 by omega,oC]
 cases kh cs la base lp q S with
 |error e=>rfl
 |ok w=>
  obtain⟨S',z⟩:=w;dsimp only;unfold lM;by_cases hq:q+1<y
  ·rw[if_pos hq,fO]
  ·rw[if_neg hq,show y-(q+1)=0 by omega]
   rfl
theorem pY{cs:am}{la:ao}{x lp:Nat}{u v:Fo}(hA:pz cs)(hg:fM cs out (.br 27 x y u v .nil) x y)(h:jF cs la x u v base lp S=some (.ok (S',z)))(hW:WF n S)(hS:Sm x S):WF n S'/\Sm y S'/\px z:=by
 have h0:fO cs la (.br 27 x y u v .nil) base lp S (0,0)=some (.ok (S',gh (0,0) z)):=by rw[qK,if_pos rfl,h];rfl
 refine⟨(fR hA _ x y base lp hg h0 hW oU).1.wf,iB _ x y base lp hg h0 hS,?_⟩;obtain⟨_,_,_,⟨m,g1,_,g3,g4,g5⟩,_⟩:=hg;unfold jF at h;split at h
 ·cases h
 rename_i l S1 hp;obtain⟨k1,_⟩:=iq hp hW;rw[g4.lastB] at h;split at h
 ·cases h
 ·cases h
 rename_i S2 bx hu;have m2:=(fR hA u (x+1) m _ lp g4 hu k1 oU);have mx2:=m2.2.nn;split at h;rotate_left
 ·cases h
 split at h
 ·rename_i h28;rcases g5 with⟨_,e,q1,q2,q3,q4,q5⟩|⟨q0,_,_⟩;rotate_left
  ·exact asi
  split at h
  ·cases h
  ·cases h
  rename_i S4 b4 hv;have hS3:WF n {S2 with loc:=S1.loc}:=⟨k1.loc,m2.1.wf.st,m2.1.wf.lv⟩;have n2:=(fR hA v (m+1) e _ lp q4 hv hS3 oU).2.nn;split at h
  ·exact avL
  ·cases h
 ·exact avL
theorem xM{cs:am}{la:ao}{x lp:Nat}{u v:Fo}(hA:pz cs)(hg:fM cs out (.br 29 x y u v .nil) x y)(h:ng cs la x u base S=some (.ok (S',z)))(hW:WF n S)(hS:Sm x S):WF n S'/\Sm y S'/\px z:=by
 have h0:fO cs la (.br 29 x y u v .nil) base lp S (0,0)=some (.ok (S',gh (0,0) z)):=by rw[qK,if_neg ag,h];rfl
 refine⟨(fR hA _ x y base lp hg h0 hW oU).1.wf,iB _ x y base lp hg h0 hS,?_⟩;obtain⟨_,_,_,⟨m,g1,g2,g3,g4,g5⟩,_⟩:=hg;unfold ng at h;split at h
 ·cases h
 rename_i l S1 hp;obtain⟨k1,k2,_⟩:=iq hp hW;have hmo:=jh k2 0;rw[g4.lastB] at h;split at h;rotate_left
 ·cases h
 split at h
 ·cases h
 ·cases h
 rename_i head S2 bx hr;have hB:n8 cs n (x+1) m (λS'=>fO cs la u S1.st.length S1.st.length S' (0,0)):=λS3 S4 b4 h3 h5=>fR hA u (x+1) m _ _ g4 h3 h5 oU;obtain⟨m1,m2,m3,m4,m5⟩:=mX hB aa g4.le (bL _) 6 1 S1.loc hr k1 k1.loc;cases h;exact gx (oZ m3 aa).nn qU.nn
structure si(la:ao)(n:Nat)(cs:am):Prop where
 len:cs.length<=1024
 op:∀p,p<cs.length->0<=fm cs p/\fm cs p<=35
 ar:∀p,p<cs.length->fm cs p=3\/fm cs p=4->(cs.getD p (0,0)).2<la.length
 lo:∀p,p<cs.length->fm cs p=1\/fm cs p=2->(cs.getD p (0,0)).2<n
 arg:pz cs
section
variable (la:ao) (loc:Int) (cs:am) (pt:List Int) (r:Nat)
theorem uD{la:ao}{op arg p:Int}(h:jm la op arg p base S= .ok (S',z))(ha:0<=arg/\arg<=4294967295)(hW:WF n S):S'.lp=S.lp:=by
 unfold jm at h;split at h
 ·cases h
 rename_i l S1 hp;obtain⟨k1,k2,_,_,k5⟩:=iq hp hW;obtain⟨_,_,_,m4,_⟩:=rD h ha k2 k1;exact m4.trans k5
theorem C2(n:Nat)(hn:n<1000)(hpt:pt.length=cs.length)(hK:si la n cs)(o:Fo)(ih:∀u:Fo,u.size<o.size->vc la loc cs pt r n u):vc la loc cs pt r n o:=by
 intro a b base lp S ob hg hb hbase hlp hW hS hM;have hcs:=hK.len;have hA:=hK.arg;refine PC.vw (gX aiu ⟨ae,ag⟩ ?_);simp only[fy,wH,kv];refine a7 ?_;refine GE.loop (I:=λmm e H=>∃(rest:Fo) (q:Nat) (Sx:WS) (bd:Bd) (obx:Nat->Option OB),mm=b-q/\fM cs pt rest q b/\rest.size<=o.size/\fO cs la o base lp S (0,0)=fO cs la rest base lp Sx bd/\WF n Sx/\Sm q Sx/\px bd/\sg r obx Sx.lp/\e=fu [(0,.p 0 0),(2,aq b),(3,aq base),(4,aq lp),(10,.p 3 0),(11,.p 4 0),(12,aq q)]/\H=ft obx ([eZ 0 130 [aq bd.1,aq bd.2],eZ 0 130 [aq 0,aq 0]]++wH la loc cs pt r Sx)) (m:=b-a) (gA.mkO (ob:=ob) [4,3,2,1,0] [] ?_ ?_ ?_ ?_ (fh rfl)) ⟨o,a,S,(0,0),ob,rfl,hg,bL _,rfl,hW,hS,oU,hM,rfl,rfl⟩ ?_
 ·exact fK
 ·exact bb
 ·simp[wH]
 ·exact asC
 rintro mm e H ⟨rest,q,Sx,bd,obx,rfl,hgr,hsz,hs,hWx,hSx,hbd,hMx,rfl,rfl⟩;simp only[wH,kv,List.cons_append,List.nil_append];have q0:(0:Int)<=(q:Int):=aa;have hqb:=hgr.le;by_cases hq:q<b;rotate_left
 ·have hqi:¬(q:Int)<(b:Int):=aa;have hnil:rest= .nil:=by
   cases rest with
   |nil=>rfl
   |pl x y r'=>obtain⟨rfl,h1,_,_,h4⟩:=hgr;have:=h4.le;omega
   |br op x y u v r'=>obtain⟨rfl,_,_,⟨m,_,g2,g3,_⟩,_⟩:=hgr;omega
  subst hnil;refine a8 hqi ?_;exact mj (ob:=obx) [2,1,0] [] (jo bd) (wH la loc cs pt r Sx) bb (.cv (.rfl rfl)) (by simp[wH]) (λr x h=>by simp only[go_sem,simprocAttr];exact h) (fh rfl) ⟨Sx,bd,obx,hs,rfl,hMx,rfl⟩
 have hqi:(q:Int)<(b:Int):=aa;have hqc:(q:Int)<(cs.length:Int):=aa;have e0:pI cs q 0= aq (fm cs q):=rfl
 (try simp only[hqi,decide_true,go_sem,simprocAttr])
 iterate 10 (with_reducible refine GE.go fx rfl ?_;try simp only[hqi,decide_true,go_sem,simprocAttr])
 refine GE.cutP (λe2 H2=>∃(rest':Fo) (q':Nat) (S':WS) (z:Bd) (ob':Nat->Option OB),q<=q'/\q'<b/\WF n S'/\Sm (q'+1) S'/\px z/\sg r ob' S'.lp/\fM cs pt rest' (q'+1) b/\rest'.size<=o.size/\fO cs la o base lp S (0,0)=fO cs la rest' base lp S' (gh bd z)/\e2=fu [(0,.p 0 0),(2,aq b),(3,aq base),(4,aq lp),(10,.p 3 0),(11,.p 4 0),(12,aq q'),(13,.p 5 0)]/\H2=ft ob' ([eZ 0 130 [aq z.1,aq z.2],eZ 0 130 [aq bd.1,aq bd.2],eZ 0 130 [aq 0,aq 0]]++wH la loc cs pt r S')) ?_ ?_;rotate_left
 ·rintro e2 H2 ⟨rest',q',S',z,ob',f1,f2,f3,f4,f5,f6,f7,f8,f9,rfl,rfl⟩;simp only[wH,kv,List.cons_append,List.nil_append];have wq:=au q';refine a7 ?_;refine iR (oY bd z hbd f5) ?_;simp only[jo];refine a9 wq ?_;refine⟨b-(q'+1),_,_,aa,gA.mkO (ob:=ob') (L:=[(0,.p 0 0),(2,aq b),(3,aq base),(4,aq lp),(10,.p 3 0),(11,.p 4 0),(12,aq ((q'+1:Nat)))]) (bl:=[eZ 0 130 [aq (gh bd z).1,aq (gh bd z).2],eZ 0 130 [aq 0,aq 0]]++wH la loc cs pt r S') [4,3,2,1,0] [] ?_ ?_ ?_ ?_ (fh rfl),rest',q'+1,S',gh bd z,ob',rfl,f7,f8,f9,f3,f4,v7 hbd f5,f6,rfl,rfl⟩
  ·exact fK
  ·exact bb
  ·simp[wH]
  ·exact asC
 have hcl:b<=1024:=aa;cases rest with
 |nil=>have:q=b:=hgr;omega
 |pl x y r'=>
  have hgr2:=hgr;obtain⟨hx,h1,h2,h3,h4⟩:=hgr2;have hx':=hx.symm;subst hx';rw[yo h1] at hs;have hyb:=h4.le;obtain⟨n27,n29,n28,n31⟩:=h2 q (bL _) h1;by_cases h30:fm cs q=30
  ·refine bA (aU q0 (aU hqc (aU e0 h30))) ?_;refine gB la loc cs pt r obx (args2:=[.p 0 0,aq q,aq base,.s ⟨#[116]⟩]) (L:=[(0,.p 0 0),(2,aq b),(3,aq base),(4,aq lp),(10,.p 3 0),(11,.p 4 0),(12,aq q),(13,.p 5 0)]) (bl2:=[eZ 0 130 [aq 0,aq 0],eZ 0 130 [aq bd.1,aq bd.2],eZ 0 130 [aq 0,aq 0]]) Sx [5,4,3,2,1,0] [] (vF la loc cs pt r obx q base [116] ae aa Sx (by have:=hSx.st;omega)) ?_ ?_ ?_ ?_ ae rfl af af (.cons .lq (.cons .lq (.cons .lq .nil))) ?_ ?_
   ·exact fK
   ·exact bb
   ·exact asH
   ·exact asC
   ·rintro v' H' ⟨l,S1,hp,rfl,rfl⟩;refine⟨S1,obx,rfl,?_⟩;simp only[wH,kv,List.cons_append,List.nil_append];obtain⟨w1,w2,w3,w4,w5⟩:=iq hp hWx;have s1:=kI hp hSx;have hlvl:=oK la loc cs pt r obx q lp S1 (by have:=s1.st;omega)
    refine a7 ?_;refine gB la loc cs pt r obx (args2:=[.p 0 0,aq q,aq lp]) (L:=[(0,.p 0 0),(2,aq b),(3,aq base),(4,aq lp),(10,.p 3 0),(11,.p 4 0),(12,aq q),(13,.p 5 0)]) (bl2:=[eZ 0 130 [aq 0,aq 0],eZ 0 130 [aq bd.1,aq bd.2],eZ 0 130 [aq 0,aq 0]]) S1 [5,4,3,2,1,0] [] (hlvl) ?_ ?_ ?_ ?_ ae rfl af af (.cons .lq (.cons .lq (.cons .lq .nil))) ?_ ?_
    ·exact fK
    ·exact bb
    ·exact asM
    ·exact asC
    ·rintro v' H' ⟨hl,rfl,rfl⟩;refine⟨S1,obx,rfl,?_⟩;simp only[wH,kv,List.cons_append,List.nil_append];have hl2:S1.st.length=lp:=by
      unfold r8 at hl;split at hl
      ·assumption
      ·cases hl
     have hst:kh cs la base lp q Sx= .ok ({S1 with lv:=S1.lv++[S1.loc]},(1,0)):=by unfold kh;rw[if_pos h30,hp];exact if_pos hl2
     obtain⟨c1,c3⟩:=kx hst hA hWx;have c2:=o6 hst hSx;rw[hst] at hs;have hlvl:=s1.lv;have hap:(S1.lv.length+1<1099511627776/\(S1.lv.length+1)*24<=140737488355328)/\S1.lv.length<=9223372036854775806:=⟨⟨aa,aa⟩,aa⟩
     repeat first|with_reducible refine GE.g ?_|simp only[hap,apu,go_sem,simprocAttr]
     refine⟨_,_,gA.mkO (ob:=obx) (L:=[(0,.p 0 0),(2,aq b),(3,aq base),(4,aq lp),(10,.p 3 0),(11,.p 4 0),(12,aq (q:Nat)),(13,.p 5 0)]) (bl:=[eZ 0 130 [aq 1,aq 0],eZ 0 130 [aq bd.1,aq bd.2],eZ 0 130 [aq 0,aq 0]]++wH la loc cs pt r {S1 with lv:=S1.lv++[S1.loc]}) [5,4,3,7,1,0] [] ?_ ?_ ?_ ?_ (fh rfl),(lM q y r'),q,{S1 with lv:=S1.lv++[S1.loc]},(1,0),obx,bL _,aa,c1.wf,c2,c3,by rw[w5];exact hMx,(kN hgr),(apj (kM q y r') hsz),hs,rfl,rfl⟩
     ·exact fK
     ·exact by simp only[wH,kv,ape,List.length_cons,List.length_nil];exact .cr (.j2) (.cr (.j2) (.cr (.j2) (.cr (.snoc (n:=S1.lv.length) (row:=pS S1.lv) (l:=[.fs 2 S1.loc.length (vC S1.loc)]) ai ae rfl rfl ag aa (λi j hi _=>by simp only[pS,apd,apF hi]) (λj hj=>by cases apE.1 hj;simp[pS,apd]) (λi j _ _=>rfl)) bb)))
     ·simp[wH]
     ·exact asC
    ·rintro c H' ⟨e,he,rfl⟩;refine⟨e,?_,rfl⟩;unfold r8 at he;split at he
     ·cases he
     ·rename_i hne;cases he;have hst:kh cs la base lp q Sx= .error ((q:Int),14):=by unfold kh;rw[if_pos h30,hp];exact if_neg hne
      rw[hs,hst]
   ·rintro c H' ⟨e,he,rfl⟩;refine⟨e,?_,rfl⟩;have hst:kh cs la base lp q Sx= .error e:=by unfold kh;rw[if_pos h30,he]
    rw[hs,hst]
  ·have hop:=hK.op q aa;have hpl:=D4 la loc cs pt r obx hcs q aa base aa Sx hSx hWx.st (by unfold Gw;omega) (hA q) (hK.ar q aa) (λh=>by rw[hWx.loc.1];exact hK.lo q aa h) (by rw[hWx.loc.1];omega)
   refine bA (aU q0 (aU hqc (aU e0 (aU n27 (aU n29 h30))))) ?_;refine gB la loc cs pt r obx (args2:=[.p 0 0,aq q,aq base]) (L:=[(0,.p 0 0),(2,aq b),(3,aq base),(4,aq lp),(10,.p 3 0),(11,.p 4 0),(12,aq q),(13,.p 5 0)]) (bl2:=[eZ 0 130 [aq 0,aq 0],eZ 0 130 [aq bd.1,aq bd.2],eZ 0 130 [aq 0,aq 0]]) Sx [5,4,3,2,1,0] [] (hpl) ?_ ?_ ?_ ?_ ae rfl af af (.cons .lq (.cons .lq (.cons .lq .nil))) ?_ ?_
   ·exact fK
   ·exact bb
   ·exact asM
   ·exact asC
   ·rintro v' H' ⟨S',z,hz,rfl,rfl⟩;refine⟨S',obx,rfl,?_⟩;simp only[wH,kv,List.cons_append,List.nil_append,jo];have hst:kh cs la base lp q Sx= .ok (S',z):=by unfold kh;rw[if_neg h30];exact hz
    obtain⟨c1,c3⟩:=kx hst hA hWx;have c2:=o6 hst hSx;have c4:S'.lp=Sx.lp:=uD hz (hA q) hWx;rw[hst] at hs;refine a7 ?_;refine⟨_,_,gA.mkO (ob:=obx) (L:=[(0,.p 0 0),(2,aq b),(3,aq base),(4,aq lp),(10,.p 3 0),(11,.p 4 0),(12,aq (q:Nat)),(13,.p 5 0)]) (bl:=[eZ 0 130 [aq z.1,aq z.2],eZ 0 130 [aq bd.1,aq bd.2],eZ 0 130 [aq 0,aq 0]]++wH la loc cs pt r S') [5,4,3,2,1,0] [] ?_ ?_ ?_ ?_ (fh rfl),(lM q y r'),q,S',z,obx,bL _,aa,c1.wf,c2,c3,by rw[c4];exact hMx,(kN hgr),(apj (kM q y r') hsz),hs,rfl,rfl⟩
    ·exact fK
    ·exact bb
    ·simp[wH]
    ·exact asC
   ·rintro c H' ⟨e,he,rfl⟩;refine⟨e,?_,rfl⟩;have hst:kh cs la base lp q Sx= .error e:=by unfold kh;rw[if_neg h30];exact he
    rw[hs,hst]
 |br op x y u v r'=>
  obtain⟨hx,hop,hopv,⟨m,g1,g2,g3,g4,g5⟩,hgr⟩:=hgr;have hx':=hx.symm;subst hx';have hyb:=hgr.le;simp only[Fo.size] at hsz;have hmy:m<y/\1<=y:=by rcases g5 with⟨_,e,_,q2,_,_,q5⟩|⟨_,_,q2⟩<;>omega
  have hqy:q<y:=by have:=g2.1;omega
  have hgN:fM cs pt (.br op q y u v .nil) q y:=⟨rfl,hop,hopv,⟨m,g1,g2,hmy.1,g4,by
   rcases g5 with⟨p0,e,p1,p2,p3,p4,p5⟩|p
   ·exact .inl ⟨p0,e,p1,p2,aa,p4,p5⟩
   ·exact .inr p⟩,rfl⟩
  rw[qK] at hs;rcases hopv with h27|h29
  ·subst h27;rw[if_pos rfl] at hs;have hch:=C3 la loc cs pt r n hn hcs hpt hA q y u v base lp Sx obx (ih u aa) (ih v aa) hgN aa hbase hlp hWx hSx hMx;refine bA (aU q0 (aU hqc (aU e0 hop))) ?_;refine gB la loc cs pt r obx (args2:=[.p 0 0,aq q,aq base,aq lp]) (L:=[(0,.p 0 0),(2,aq b),(3,aq base),(4,aq lp),(10,.p 3 0),(11,.p 4 0),(13,.p 5 0)]) (bl2:=[eZ 0 130 [aq 0,aq 0],eZ 0 130 [aq bd.1,aq bd.2],eZ 0 130 [aq 0,aq 0]]) Sx [5,4,3,2,1,0] [] (hch) ?_ ?_ ?_ ?_ ae rfl af af (.cons .lq (.cons .lq (.cons .lq .nil))) ?_ ?_
   ·exact fK
   ·exact bb
   ·exact⟨Wv.p rfl,Wv.n rfl,Wv.n rfl,Wv.n rfl,trivial⟩
   ·exact asC
   ·rintro v' H' ⟨S',z,ob',hz,rfl,hM',rfl⟩;refine⟨S',ob',rfl,?_⟩;simp only[wH,kv,List.cons_append,List.nil_append,jo];obtain⟨c1,c2,c3⟩:=pY hA hgN hz hWx hSx;rw[hz] at hs;refine a7 ?_;refine⟨_,_,gA.mkO (ob:=ob') (L:=[(0,.p 0 0),(2,aq b),(3,aq base),(4,aq lp),(10,.p 3 0),(11,.p 4 0),(12,aq ((y-1):Nat)),(13,.p 5 0)]) (bl:=[eZ 0 130 [aq z.1,aq z.2],eZ 0 130 [aq bd.1,aq bd.2],eZ 0 130 [aq 0,aq 0]]++wH la loc cs pt r S') [5,4,3,2,1,0] [] ?_ ?_ ?_ ?_ (fh rfl),r',(y-1),S',z,ob',aa,aa,c1,by rw[show y-1+1=y by omega];exact c2,c3,hM',(by rw[show y-1+1=y by omega];exact hgr),aa,hs,rfl,rfl⟩
    ·exact fK
    ·exact bb
    ·simp[wH]
    ·exact asC
   ·exact asU
  ·subst h29;rw[if_neg ag] at hs;have hch:=ud la loc cs pt r n hn hcs hpt hA q y u v base Sx obx (ih u aa) hgN aa hbase hWx hSx hMx;refine bA (aU q0 (aU hqc (aU e0 hop))) ?_;refine gB la loc cs pt r obx (args2:=[.p 0 0,aq q,aq base]) (L:=[(0,.p 0 0),(2,aq b),(3,aq base),(4,aq lp),(10,.p 3 0),(11,.p 4 0),(13,.p 5 0)]) (bl2:=[eZ 0 130 [aq 0,aq 0],eZ 0 130 [aq bd.1,aq bd.2],eZ 0 130 [aq 0,aq 0]]) Sx [5,4,3,2,1,0] [] (hch) ?_ ?_ ?_ ?_ ae rfl af af (.cons .lq (.cons .lq (.cons .lq .nil))) ?_ ?_
   ·exact fK
   ·exact bb
   ·exact asM
   ·exact asC
   ·rintro v' H' ⟨S',z,ob',hz,rfl,hM',rfl⟩;refine⟨S',ob',rfl,?_⟩;simp only[wH,kv,List.cons_append,List.nil_append,jo];obtain⟨c1,c2,c3⟩:=xM (lp:=lp) hA hgN hz hWx hSx;rw[hz] at hs;refine a7 ?_;refine⟨_,_,gA.mkO (ob:=ob') (L:=[(0,.p 0 0),(2,aq b),(3,aq base),(4,aq lp),(10,.p 3 0),(11,.p 4 0),(12,aq ((y-1):Nat)),(13,.p 5 0)]) (bl:=[eZ 0 130 [aq z.1,aq z.2],eZ 0 130 [aq bd.1,aq bd.2],eZ 0 130 [aq 0,aq 0]]++wH la loc cs pt r S') [5,4,3,2,1,0] [] ?_ ?_ ?_ ?_ (fh rfl),r',(y-1),S',z,ob',aa,aa,c1,by rw[show y-1+1=y by omega];exact c2,c3,hM',(by rw[show y-1+1=y by omega];exact hgr),aa,hs,rfl,rfl⟩
    ·exact fK
    ·exact bb
    ·simp[wH]
    ·exact asC
   ·exact asU
end
end
theorem uU(la:ao)(loc:Int)(cs:am)(pt:List Int)(r n:Nat)(hn:n<1000)(hpt:pt.length=cs.length)(hK:si la n cs):∀(k:Nat) (o:Fo),o.size<k->vc la loc cs pt r n o
 |0,o,h=>absurd h (apg _)
 |k+1,o,h=>C2 la loc cs pt r n hn hpt hK o λu hu=>uU la loc cs pt r n hn hpt hK k u aa
def zC(_i _j:Nat):AV:= aq 0
theorem K2(ob:Nat->Option OB)(n:Nat)(hn:n<=1024):PC av (λ_=>false) 53 [.sl 0 0 1 1,aq n] (ft ob [eZ 2 127 [aq 0,aq 0]]) (λv H'=>v= .os 0 n/\H'=ft ob [fg 127 2 n 0 zC]) (λ_ _=>False):=by
 have h1:¬(n:Int)<0:=aa;have w1:IntKind.u64.wrap (n:Int)=n:=sj aa aa;have w2:IntKind.u64.wrap 1=1:=ag;have w3:IntKind.i64.wrap (n:Int)=n:=ff aa;have h2:¬(9223372036854775807:Int)<n:=aa;refine PC.vw (gX aiC ⟨ae,ag⟩ ?_);simp only[fy];refine a8 (aU h1 (aU w1 w2)) ?_;refine iR (AM n hn) ?_;have hms:0<=(n:Int)/\(n:Int)<=n/\(n:Int)<=16777216/\16*n<=140737488355328/\n*2<1099511627776:=⟨aa,aa,aa,aa,aa⟩;have hm1:Nat.min 1 n=if n=0 then 0 else 1:=by
  by_cases h:n=0
  ·subst h;rfl
  ·rw[if_neg h];exact Nat.min_eq_left aa
 refine a8 (aU h2 (aU w3 hms)) ?_;have fin:Vw (λ_=>false) (λv H'=>v= .os 0 n/\H'=ft ob [fg 127 2 n 0 zC]) (.os 1 n) (ft ob [fg 127 2 n 0 zC,eZ 2 127 [aq 0,aq 0]]):=
  mj (ob:=ob) [1] [] (.os 0 n) [fg 127 2 n 0 zC] (.cr (.same (row:=zC) ah rfl ag (λi j hi hj=>rfl) (λ_ _ _ _=>rfl)) .nil) (Wv.os rfl) ae (λr x h=>h) lR ⟨rfl,rfl⟩
 have hround:∀(Q:AE->Tr AV->AH->Prop) m e H,(∃k,m+k=n/\(n=0\/0<k)/\e=fu [(7,.os 1 n),(8,aq (k:Nat))]/\H=ft ob [fg 127 2 n 0 zC,eZ 2 127 [aq 0,aq 0]])->(Q (.exit 0) (fu [(37,.b false),(36,aq n),(35,.os 1 n),(34,aq n),(7,.os 1 n),(8,aq n)]) (ft ob [fg 127 2 n 0 zC,eZ 2 127 [aq 0,aq 0]]))->GE av 48 (λ_=>false) (fc av 53) ME e H (vt 48 (λ_=>false) (λm e H=>∃k,m+k=n/\(n=0\/0<k)/\e=fu [(7,.os 1 n),(8,aq (k:Nat))]/\H=ft ob [fg 127 2 n 0 zC,eZ 2 127 [aq 0,aq 0]]) Q m) (λ_ _=>False):=by
  rintro Q m e H ⟨k,hk,hk0,rfl,rfl⟩ hQ;have h0k:(0:Int)<=(k:Int):=aa;by_cases hkn:k<n
  ·have hkn':(k:Int)<n:=aa
   repeat (first|with_reducible refine GE.seq ?_|with_reducible refine GE.block ?_|with_reducible refine GE.skip ?_|with_reducible refine GE.reg ?_|with_reducible refine GE.cond ?_|simp only[hkn',h0k,decide_true,go_sem,simprocAttr])
   refine GE.mixm fx 1 ed ?_
   have hs1:¬(k:Int)=0:=aa;have hs2:0<(k:Int):=aa;have hs3:(k:Int)<=n:=aa;obtain⟨q,hq⟩:∃q,Nat.min k (n-k)=q:=⟨_,rfl⟩;have hq2:q<=k/\q<=n-k/\0<q/\(q=k\/q=n-k):=by
    rw[<-hq];have e1:=Nat.min_le_left k (n-k);have e2:=Nat.min_le_right k (n-k);have e3:min k (n-k)=k\/min k (n-k)=n-k:=aa;have e4:Nat.min k (n-k)=min k (n-k):=rfl;rw[e4];omega
   have hq0:¬q=0:=aa;simp only[hs1,hs2,hs3,h0k,hkn',apH,hq,hq0,C1,vj,Option.bind_some,go_sem,simprocAttr];obtain⟨HH,hHH⟩:∃HH,HH=(ft ob [fg 127 2 n 0 zC,eZ 2 127 [aq 0,aq 0]]).setLow (2^40):=⟨_,rfl⟩;have hat:HH.at 1=some (fg 127 2 n 0 zC):=by rw[hHH];simp only[go_sem,simprocAttr]
   have hld:HH.loadN 1 0 (q*2)=some (List.replicate (q*2) (aq 0)):=rl hat (q*2) 0 (by show 0+q*2<=n*2;omega) (λi _ hi=>rfl)
   have hst:HH.storeN 1 (k*2) (List.replicate (q*2) (aq 0))=some (HH.upd 1 ((fg 127 2 n 0 zC).putN (k*2) (List.replicate (q*2) (aq 0)))):=sP ag hat aa (by show k*2+q*2<=n*2;omega) rfl
   rw[hHH] at hld hst;have hone:(List.replicate (q*2) (AV.n .i64 0)).all AV.one=true:=by rw[List.all_replicate];simp[AV.one]
   have wq:IntKind.i64.wrap ((k:Int)+q)=((k+q:Nat):Int):=(ff aa).trans aa;rw[hld];dsimp only;rw[hst,hone];refine bc wq ?_;refine⟨m-q,_,_,aa,gA.mkO (ob:=ob) [1,0] [] ?_ ?_ ae (λr x h=>by simp only[go_sem,simprocAttr];exact h) lR,k+q,aa,aa,rfl,rfl⟩
   ·exact fK
   ·exact .cr (.rows (x:=_) ai af af af (bL _) (by rw[if_neg ae];exact bL _) ag (λi j hi hj=>by
     rw[jL (by rw[apK];omega),apK]
     by_cases hh:k*2<=i*2+j/\i*2+j<k*2+q*2
     ·rw[if_pos hh,aql,if_pos aa];rfl
     ·rw[if_neg hh,fI i j hj]) (λ_ _ _ _=>rfl)) bb
  ·exact arU
 by_cases hn0:n=0
 ·rw[if_pos hn0] at hm1;simp only[hm1,C1,vj,Option.bind_some,go_sem,simprocAttr];refine a7 ?_;refine GE.loop (I:=λm e H=>∃k,m+k=n/\(n=0\/0<k)/\e=fu [(7,.os 1 n),(8,aq (k:Nat))]/\H=ft ob [fg 127 2 n 0 zC,eZ 2 127 [aq 0,aq 0]]) (m:=0) (gA.mkO (ob:=ob) [1,0] [] ?_ ?_ ae (λr x h=>by simp only[go_sem,simprocAttr];exact h) lR) ⟨0,aa,aa,rfl,rfl⟩ ?_
  ·exact fK
  ·exact .cr (.same (row:=λ_ j=>[AV.n .i64 0,aq 0][j]?.getD .u) (row2:=zC) ah rfl ag (λi j hi=>aa) (λ_ _ _ _=>rfl)) bb
  intro m e H hI;refine hround _ m e H hI ?_;refine ba ?_;refine a7 ?_;exact fin
 ·rw[if_neg hn0] at hm1;have hn1:1<=n:=aa;have hn2:2<=n*2:=aa;simp only[hm1,hn1,hn2,C1,vj,Option.bind_some,go_sem,simprocAttr];refine a7 ?_;refine GE.loop (I:=λm e H=>∃k,m+k=n/\(n=0\/0<k)/\e=fu [(7,.os 1 n),(8,aq (k:Nat))]/\H=ft ob [fg 127 2 n 0 zC,eZ 2 127 [aq 0,aq 0]]) (m:=(n-1)) (gA.mkO (ob:=ob) [1,0] [] ?_ ?_ ae (λr x h=>by simp only[go_sem,simprocAttr];exact h) lR) ⟨1,aa,aa,rfl,rfl⟩ ?_
  ·exact fK
  ·exact .cr (.put (row:=λ_ j=>[AV.n .i64 0,aq 0][j]?.getD .u) (row2:=zC) (q:=0) (l:=[aq 0,aq 0]) ai ae rfl aa rfl ag aa (λi j hi hj=>by rcases uh hj with rfl|rfl<;>(by_cases hh:i=0<;>simp[hh,zC])) (λ_ _ _ _=>rfl)) bb
  intro m e H hI;refine hround _ m e H hI ?_;refine ba ?_;refine a7 ?_;exact fin
end Go.Proofs.YtdpkgnmmikebdaaGreat