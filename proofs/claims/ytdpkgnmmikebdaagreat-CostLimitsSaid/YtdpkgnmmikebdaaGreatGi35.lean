/- A part of the proof of CostLimits. No condition. -/
import Derived.ChangeAlike
import Derived.Defers
import Derived.Recover
import Derived.RegionTactic
import Derived.Test.YtdpkgnmmikebdaaGreatGi34
import Derived.Test.YtdpkgnmmikebdaaGreatGi25
import Derived.Test.YtdpkgnmmikebdaaGreatGi28
import Derived.Test.YtdpkgnmmikebdaaGreatGi22
import Derived.Test.YtdpkgnmmikebdaaGreatGi20
import Derived.Test.YtdpkgnmmikebdaaGreatGip
set_option linter.unusedSimpArgs false
set_option linter.unusedVariables false
set_option linter.constructorNameAsVariable false
set_option maxRecDepth 100000
set_option maxHeartbeats 4000000
namespace Go.Proofs.YtdpkgnmmikebdaaGreat
open Go.RowKit
section
variable (la:ao) (loc:Int) (cs:am) (pt:List Int) (ob:Nat->Option OB)
theorem zg(n:Nat)(hn:n<1000)(hln:loc=(n:Int))(hpt:pt.length=cs.length)(hK:si la n cs)(o:Fo)(ih:∀u:Fo,u.size<o.size->vd la loc cs pt ob n u):vd la loc cs pt ob n o:=by
 intro a b base lp S hg hb hbase hlp hW hS hlo;have hcs:=hK.len;have hA:=hK.arg;have hab:=hg.le;refine PC.vw (gX UZ ⟨ae,ag⟩ ?_);simp only[fy,aH,aL];refine a7 ?_;refine GE.loop (I:=λmm e H=>∃(q:Nat) (Sx:WS) (bd:Bd) (er:Er),jY bd/\Jk Sx/\q<2000/\((er=(0,0)/\mm=b-q+1/\∃rest:Fo,fM cs pt rest q b/\rest.size<=o.size/\fO cs la o base lp S (0,0)=fO cs la rest base lp Sx bd/\WF n Sx/\Sm q Sx)\/(er.2≠0/\mm=0/\fO cs la o base lp S (0,0)=some (.error er)))/\e=fu [(0,.p 0 0),(2,aq b),(3,aq base),(4,aq lp),(10,.p 4 0),(11,.p 5 0),(12,aq q)]/\H=ft ob ([eZ 0 111 [aq bd.1,aq bd.2],eZ 0 111 [aq 0,aq 0]]++aH la loc cs pt Sx er)) (m:=b-a+1) (gA.mkO (ob:=ob) [5,4,3,2,1,0] [] ?_ ?_ ?_ ?_ (fh rfl)) ⟨a,S,(0,0),(0,0),mL,⟨by have:=hS.st;omega,by have:=hS.lv;omega,by have:=hW.loc.1;omega,hlo⟩,aa,.inl ⟨rfl,rfl,o,hg,bL _,rfl,hW,hS⟩,rfl,rfl⟩ ?_
 ·exact fK
 ·exact bb
 ·simp[aH]
 ·exact asC
 rintro mm e H ⟨q,Sx,bd,er,hbd,hjx,hq2,hI,rfl,rfl⟩;simp only[aH,aL,List.cons_append,List.nil_append];have q0:(0:Int)<=(q:Int):=aa;rcases hI with⟨rfl,rfl,rest,hgr,hsz,hs,hWx,hSx⟩|⟨hne,rfl,hs⟩;rotate_left
 ·by_cases hqi:(q:Int)<(b:Int)
  ·exact avQ
  ·exact avQ
 have hqb:=hgr.le;by_cases hq:q<b;rotate_left
 ·have hqi:¬(q:Int)<(b:Int):=aa;have hnil:rest= .nil:=by
   cases rest with
   |nil=>rfl
   |pl x y r'=>obtain⟨rfl,h1,_,_,h4⟩:=hgr;have:=h4.le;omega
   |br op x y u v r'=>obtain⟨rfl,_,_,⟨m,_,g2,g3,_⟩,_⟩:=hgr;omega
  subst hnil;refine a8 hqi ?_;exact mj (ob:=ob) [3,2,1,0] [] (jo bd) (aH la loc cs pt Sx (0,0)) bb (.cv (.rfl rfl)) (by simp[aH]) (λr x h=>by simp only[go_sem,simprocAttr];exact h) (fh rfl) ⟨_,_,_,rfl,rfl,hbd,hjx,.inl ⟨hs,rfl⟩⟩
 have hqi:(q:Int)<(b:Int):=aa;have hqc:(q:Int)<(cs.length:Int):=aa;have hqp:(q:Int)<(pt.length:Int):=aa;have e0:pI cs q 0= aq (fm cs q):=rfl
 (try simp only[hqi,decide_true,go_sem,simprocAttr])
 iterate 10 (with_reducible refine GE.go fx rfl ?_;try simp only[hqi,decide_true,go_sem,simprocAttr])
 refine GE.cutP (λe2 H2=>∃(q':Nat) (S':WS) (z:Bd) (er':Er),jY z/\Jk S'/\q'<1999/\((er'=(0,0)/\q<=q'/\q'<b/\∃rest':Fo,fM cs pt rest' (q'+1) b/\rest'.size<=o.size/\fO cs la o base lp S (0,0)=fO cs la rest' base lp S' (gh bd z)/\WF n S'/\Sm (q'+1) S')\/(er'.2≠0/\fO cs la o base lp S (0,0)=some (.error er')))/\e2=fu [(0,.p 0 0),(2,aq b),(3,aq base),(4,aq lp),(10,.p 4 0),(11,.p 5 0),(12,aq q'),(13,.p 6 0)]/\H2=ft ob ([eZ 0 111 [aq z.1,aq z.2],eZ 0 111 [aq bd.1,aq bd.2],eZ 0 111 [aq 0,aq 0]]++aH la loc cs pt S' er')) ?_ ?_;rotate_left
 ·rintro e2 H2 ⟨q',S',z,er',hbz,hjz,hq3,hP,rfl,rfl⟩;simp only[aH,aL,List.cons_append,List.nil_append];have wq:=au q';refine a7 ?_;refine iR (tc bd z hbd hbz) ?_;simp only[jo];refine a9 wq ?_;refine⟨if er'.2=0 then b-(q'+1)+1 else 0,_,_,?_,gA.mkO (ob:=ob) (L:=[(0,.p 0 0),(2,aq b),(3,aq base),(4,aq lp),(10,.p 4 0),(11,.p 5 0),(12,aq ((q'+1:Nat)))]) (bl:=[eZ 0 111 [aq (gh bd z).1,aq (gh bd z).2],eZ 0 111 [aq 0,aq 0]]++aH la loc cs pt S' er') [5,4,3,2,1,0] [] ?_ ?_ ?_ ?_ (fh rfl),q'+1,S',gh bd z,er',v7 hbd hbz,hjz,aa,?_,rfl,rfl⟩
  ·split<;>rcases hP with⟨_,f1,f2,_⟩|⟨f1,_⟩<;>first|omega|contradiction
  ·exact fK
  ·exact bb
  ·simp[aH]
  ·exact asC
  ·rcases hP with⟨rfl,f1,f2,rest',f3,f4,f5,f6,f7⟩|⟨f1,f2⟩
   ·exact .inl ⟨rfl,rfl,rest',f3,f4,f5,f6,f7⟩
   ·exact .inr ⟨f1,if_neg f1,f2⟩
 have hcl:b<=1024:=aa;have fin:∀{e:Tr AV} {H:AH} (ρ M:List Nat) (q':Nat) (S':WS) (z:Bd) (er':Er) (hbz:jY z) (hjz:Jk S') (hq3:q'<1999) (hP:(er'=(0,0)/\q<=q'/\q'<b/\∃rest':Fo,fM cs pt rest' (q'+1) b/\rest'.size<=o.size/\fO cs la o base lp S (0,0)=fO cs la rest' base lp S' (gh bd z)/\WF n S'/\Sm (q'+1) S')\/(er'.2≠0/\fO cs la o base lp S (0,0)=some (.error er')))
   (he:iT (λb2=>ρ.reverse[b2]?) M H e [(0,.p 0 0),(2,aq b),(3,aq base),(4,aq lp),(10,.p 4 0),(11,.p 5 0),(12,aq q'),(13,.p 6 0)]) (hh:ig (λb2=>ρ.reverse[b2]?) M H ρ ([eZ 0 111 [aq z.1,aq z.2],eZ 0 111 [aq bd.1,aq bd.2],eZ 0 111 [aq 0,aq 0]]++aH la loc cs pt S' er')) (hob:∀r x,ob r=some x->H.ob r=some x) (hρ:ρ.reverse[0]? =some 0),
   ∃e2 H2,gA 128 fV e H e2 H2/\∃(q':Nat) (S':WS) (z:Bd) (er':Er),jY z/\Jk S'/\q'<1999/\((er'=(0,0)/\q<=q'/\q'<b/\∃rest':Fo,fM cs pt rest' (q'+1) b/\rest'.size<=o.size/\fO cs la o base lp S (0,0)=fO cs la rest' base lp S' (gh bd z)/\WF n S'/\Sm (q'+1) S')\/(er'.2≠0/\fO cs la o base lp S (0,0)=some (.error er')))/\e2=fu [(0,.p 0 0),(2,aq b),(3,aq base),(4,aq lp),(10,.p 4 0),(11,.p 5 0),(12,aq q'),(13,.p 6 0)]/\H2=ft ob ([eZ 0 111 [aq z.1,aq z.2],eZ 0 111 [aq bd.1,aq bd.2],eZ 0 111 [aq 0,aq 0]]++aH la loc cs pt S' er'):=λρ M q' S' z er' hbz hjz hq3 hP he hh hob hρ=>
  ⟨_,_,gA.mkO ρ M he hh (by simp[aH]) hob (fh hρ),q',S',z,er',hbz,hjz,hq3,hP,rfl,rfl⟩
 cases rest with
 |nil=>have:q=b:=hgr;omega
 |pl x y r'=>
  have hgr2:=hgr;obtain⟨hx,h1,h2,h3,h4⟩:=hgr2;have hx':=hx.symm;subst hx';rw[yo h1] at hs;have hyb:=h4.le;obtain⟨n27,n29,n28,n31⟩:=h2 q (bL _) h1;by_cases h30:fm cs q=30
  ·refine bA (aU q0 (aU hqc (aU e0 h30))) ?_;refine fU la loc cs pt ob (args2:=[.p 0 0,aq q,aq base,.s ⟨#[116]⟩]) (L:=[(0,.p 0 0),(2,aq b),(3,aq base),(4,aq lp),(10,.p 4 0),(11,.p 5 0),(12,aq q),(13,.p 6 0)]) (bl2:=[eZ 0 111 [aq 0,aq 0],eZ 0 111 [aq bd.1,aq bd.2],eZ 0 111 [aq 0,aq 0]]) Sx (0,0) [6,5,4,3,2,1,0] [] (sk la loc cs pt ob q base [116] ae aa Sx (by have:=hSx.st;omega)) ?_ ?_ ?_ ?_ ae rfl af af (.cons .lq (.cons .lq (.cons .lq .nil))) ?_
   ·exact fK
   ·exact bb
   ·exact asH
   ·exact asC
   rintro v' H' (⟨l,S1,hp,rfl,rfl⟩|⟨e,he,rfl,rfl⟩)
   ·refine⟨S1,(0,0),rfl,?_⟩;simp only[aH,aL,List.cons_append,List.nil_append];obtain⟨w1,w2,w3,w4,w5⟩:=iq hp hWx;have s1:=kI hp hSx;have hj1:Jk S1:=⟨by have:=s1.st;omega,by have:=s1.lv;omega,by have:=w1.loc.1;omega,by rw[w5];exact hjx.2.2.2⟩
    refine a7 ?_;refine fU la loc cs pt ob (args2:=[.p 0 0,aq q,aq lp]) (L:=[(0,.p 0 0),(2,aq b),(3,aq base),(4,aq lp),(10,.p 4 0),(11,.p 5 0),(12,aq q),(13,.p 6 0)]) (bl2:=[eZ 0 111 [aq 0,aq 0],eZ 0 111 [aq bd.1,aq bd.2],eZ 0 111 [aq 0,aq 0]]) S1 (0,0) [6,5,4,3,2,1,0] [] (lD la loc cs pt ob q lp S1 (0,0) (by have:=hj1.1;omega)) ?_ ?_ ?_ ?_ ae rfl af af (.cons .lq (.cons .lq (.cons .lq .nil))) ?_
    ·exact fK
    ·exact bb
    ·exact asM
    ·exact asC
    rintro v' H' ⟨rfl,rfl⟩;refine⟨S1,kZ S1 (0,0) q lp,rfl,?_⟩;simp only[aH,aL,List.cons_append,List.nil_append];have hP:PQ (kh cs la base lp q Sx) ({S1 with lv:=S1.lv++[S1.loc]},(1,0)) (kZ S1 (0,0) q lp):=by
     rw[AU];unfold kh;rw[if_pos h30,hp];by_cases hl2:S1.st.length=lp
     ·rw[if_pos hl2];exact .inl ⟨if_pos hl2,rfl⟩
     ·rw[if_neg hl2];exact .inr ⟨if_neg hl2,by show(14:Int)≠0;decide⟩
    generalize kZ S1 (0,0) q lp=er3 at*;have hlv:=hj1.2.1;have hll:=hj1.2.2.1;have hap:(S1.lv.length+1<1099511627776/\(S1.lv.length+1)*24<=140737488355328)/\S1.lv.length<=9223372036854775806:=⟨⟨aa,aa⟩,aa⟩;refine a7 ?_;refine Dp (F:=[.fs 2 S1.loc.length (vC S1.loc)]) (jR S1.loc aa) ?_
    repeat first|with_reducible refine GE.g ?_|simp only[hap,apu,go_sem,simprocAttr]
    refine fin [6,5,4,9,2,1,0] [7] q {S1 with lv:=S1.lv++[S1.loc]} (1,0) er3 jl ⟨hj1.1,(by simp only[ape,List.length_cons,List.length_nil];have:=s1.lv;omega),hj1.2.2⟩ aa (by
      rcases hP with⟨k1,k2⟩|⟨k1,k2⟩
      ·exact avR
      ·exact .inr ⟨k2,by rw[hs,k1]⟩) ?_ ?_ ?_ rfl
    ·exact fK
    ·simp only[aH,aL,ape,List.length_cons,List.length_nil];exact .cr (.j2) (.cr (.j2) (.cr (.j2) (.cr (.snocw (n:=S1.lv.length) (row:=pS S1.lv) (l:=[.os 7 S1.loc.length]) ai ae rfl rfl ag aa (λi j hi _=>by simp only[pS,apd,apF hi]) (λi j _ _=>rfl) (λj hj=>by cases apE.1 hj;simp only[pS,apd,apP (bL _),apt,List.getElem?_cons_zero,Option.getD_some];exact .cv (.ownb (ty:=127) (z:=0) ai (λi j _ _=>gL _ i j) ae))) bb)))
    ·exact asC
   ·refine⟨Sx,e,rfl,?_⟩;simp only[aH,aL,List.cons_append,List.nil_append];have hne:=qk he;refine a7 ?_;refine fU la loc cs pt ob (args2:=[.p 0 0,aq q,aq lp]) (L:=[(0,.p 0 0),(2,aq b),(3,aq base),(4,aq lp),(10,.p 4 0),(11,.p 5 0),(12,aq q),(13,.p 6 0)]) (bl2:=[eZ 0 111 [aq 0,aq 0],eZ 0 111 [aq bd.1,aq bd.2],eZ 0 111 [aq 0,aq 0]]) Sx e [6,5,4,3,2,1,0] [] (lD la loc cs pt ob q lp Sx e (by have:=hjx.1;omega)) ?_ ?_ ?_ ?_ ae rfl af af (.cons .lq (.cons .lq (.cons .lq .nil))) ?_
    ·exact fK
    ·exact bb
    ·exact asM
    ·exact asC
    rintro v' H' ⟨rfl,rfl⟩;refine⟨Sx,kZ Sx e q lp,rfl,?_⟩;simp only[aH,aL,List.cons_append,List.nil_append];have hP:PQ (kh cs la base lp q Sx) ({Sx with lv:=Sx.lv++[Sx.loc]},(1,0)) (kZ Sx e q lp):=by
     rw[AR hne];unfold kh;rw[if_pos h30,he];exact .inr ⟨rfl,hne⟩
    generalize kZ Sx e q lp=er3 at*;have hlv:=hjx.2.1;have hll:=hjx.2.2.1;have hap:(Sx.lv.length+1<1099511627776/\(Sx.lv.length+1)*24<=140737488355328)/\Sx.lv.length<=9223372036854775806:=⟨⟨aa,aa⟩,aa⟩;refine a7 ?_;refine Dp (F:=[.fs 2 Sx.loc.length (vC Sx.loc)]) (jR Sx.loc aa) ?_
    repeat first|with_reducible refine GE.g ?_|simp only[hap,apu,go_sem,simprocAttr]
    refine fin [6,5,4,9,2,1,0] [7] q {Sx with lv:=Sx.lv++[Sx.loc]} (1,0) er3 jl ⟨hjx.1,(by simp only[ape,List.length_cons,List.length_nil];have:=hSx.lv;omega),hjx.2.2⟩ aa (by
      rcases hP with⟨k1,k2⟩|⟨k1,k2⟩
      ·exact avR
      ·exact .inr ⟨k2,by rw[hs,k1]⟩) ?_ ?_ ?_ rfl
    ·exact fK
    ·simp only[aH,aL,ape,List.length_cons,List.length_nil];exact .cr (.j2) (.cr (.j2) (.cr (.j2) (.cr (.snocw (n:=Sx.lv.length) (row:=pS Sx.lv) (l:=[.os 7 Sx.loc.length]) ai ae rfl rfl ag aa (λi j hi _=>by simp only[pS,apd,apF hi]) (λi j _ _=>rfl) (λj hj=>by cases apE.1 hj;simp only[pS,apd,apP (bL _),apt,List.getElem?_cons_zero,Option.getD_some];exact .cv (.ownb (ty:=127) (z:=0) ai (λi j _ _=>gL _ i j) ae))) bb)))
    ·exact asC
  ·have hop:=hK.op q aa;have hpl:=BI la loc cs pt ob hcs q aa base aa Sx hSx hWx.st (by unfold Gw;omega) (hA q) (hK.ar q aa) (λh=>by rw[hWx.loc.1];exact hK.lo q aa h) (by rw[hWx.loc.1];omega) hjx.2.2.2
   refine bA (aU q0 (aU hqc (aU e0 (aU n27 (aU n29 h30))))) ?_;refine fU la loc cs pt ob (args2:=[.p 0 0,aq q,aq base]) (L:=[(0,.p 0 0),(2,aq b),(3,aq base),(4,aq lp),(10,.p 4 0),(11,.p 5 0),(12,aq q),(13,.p 6 0)]) (bl2:=[eZ 0 111 [aq 0,aq 0],eZ 0 111 [aq bd.1,aq bd.2],eZ 0 111 [aq 0,aq 0]]) Sx (0,0) [6,5,4,3,2,1,0] [] (hpl) ?_ ?_ ?_ ?_ ae rfl af af (.cons .lq (.cons .lq (.cons .lq .nil))) ?_
   ·exact fK
   ·exact bb
   ·exact asM
   ·exact asC
   rintro v' H' (⟨S',z,hz,rfl,rfl⟩|⟨e,S',z,hz,hne,hbz,hjz,rfl,rfl⟩)
   ·refine⟨S',(0,0),rfl,?_⟩;simp only[aH,aL,List.cons_append,List.nil_append,jo];have hst:kh cs la base lp q Sx= .ok (S',z):=by unfold kh;rw[if_neg h30];exact hz
    obtain⟨c1,c3⟩:=kx hst hA hWx;have c2:=o6 hst hSx;have c4:S'.lp=Sx.lp:=uD hz (hA q) hWx;rw[hst] at hs;have hjz:Jk S':=⟨by have:=c2.st;omega,by have:=c2.lv;omega,by have:=c1.wf.loc.1;omega,by rw[c4];exact hjx.2.2.2⟩
    refine a7 ?_;refine fin [6,5,4,3,2,1,0] [] q S' z (0,0) c3 hjz aa (.inl ⟨rfl,bL _,hq,lM q y r',kN hgr,apj (kM q y r') hsz,hs,c1.wf,c2⟩) ?_ ?_ ?_ rfl
    ·exact fK
    ·exact bb
    ·exact asC
   ·refine⟨S',e,rfl,?_⟩;simp only[aH,aL,List.cons_append,List.nil_append,jo];have hst:kh cs la base lp q Sx= .error e:=by unfold kh;rw[if_neg h30];exact hz
    rw[hst] at hs;refine a7 ?_;refine fin [6,5,4,3,2,1,0] [] q S' z e hbz hjz aa (.inr ⟨hne,hs⟩) ?_ ?_ ?_ rfl
    ·exact fK
    ·exact bb
    ·exact asC
 |br op x y u v r'=>
  obtain⟨hx,hop,hopv,⟨m,g1,g2,g3,g4,g5⟩,hgr⟩:=hgr;have hx':=hx.symm;subst hx';have hyb:=hgr.le;simp only[Fo.size] at hsz;have hpm:iC pt q 0= aq m:=by rw[zG,g1]
  rw[qK] at hs;rcases hopv with h27|h29
  ·subst h27;rw[if_pos rfl] at hs;have m0:(0:Int)<=(m:Int):=aa;have em:pI cs m 0= aq (fm cs m):=rfl;rcases g5 with⟨p0,e,p1,p2,p3,p4,p5⟩|⟨p0,p1,p2⟩
   ·obtain rfl:y=e+1:=p5;have mp:(m:Int)<(pt.length:Int):=aa;have mc:(m:Int)<(cs.length:Int):=aa;have hpe:iC pt m 0= aq e:=by rw[zG,p1]
    have hgN:fM cs pt (.br 27 q (e+1) u v .nil) q (e+1):=⟨rfl,hop,.inl rfl,⟨m,g1,g2,aa,g4,.inl ⟨p0,e,p1,p2,aa,p4,rfl⟩⟩,rfl⟩;have hch:=ta la loc cs pt ob n hn hcs hA q e m u v base lp Sx (ih u aa) (ih v aa) hgN g1 aa hbase hlp hWx hSx hjx.2.2.2;have hqe:q<=e:=by have:=g2.1;omega
    refine bA (aU q0 (aU hqc (aU hqp (aU e0 (aU hop (aU hpm (aU m0 (aU mp (aU mc (aU em (aU p0 hpe))))))))))) ?_;refine fU la loc cs pt ob (args2:=[.p 0 0,aq q,aq e,aq m,aq base,aq lp]) (L:=[(0,.p 0 0),(2,aq b),(3,aq base),(4,aq lp),(10,.p 4 0),(11,.p 5 0),(15,aq e),(13,.p 6 0)]) (bl2:=[eZ 0 111 [aq 0,aq 0],eZ 0 111 [aq bd.1,aq bd.2],eZ 0 111 [aq 0,aq 0]]) Sx (0,0) [6,5,4,3,2,1,0] [] (hch) ?_ ?_ ?_ ?_ ae rfl af af (.cons .lq (.cons .lq (.cons .lq .nil))) ?_
    ·exact fK
    ·exact bb
    ·exact as4
    ·exact asC
    rintro v' H' ⟨S',z,er',rfl,rfl,hbz,hjz,hx⟩;refine⟨S',er',rfl,?_⟩;simp only[aH,aL,List.cons_append,List.nil_append,jo];refine bB (aU q0 (aU hqp hpm)) ?_;refine fin [6,5,4,3,2,1,0] [] e S' z er' hbz hjz aa (by
      rcases hx with⟨k1,k2⟩|⟨k1,k2⟩
      ·exact avS
      ·exact .inr ⟨k2,by rw[hs,k1];rfl⟩) ?_ ?_ ?_ rfl
    ·exact fK
    ·exact bb
    ·exact asC
   ·obtain rfl:y=m+1:=p2;have mc:(m:Int)<(cs.length:Int):=aa;have hgN:fM cs pt (.br 27 q (m+1) u v .nil) q (m+1):=⟨rfl,hop,.inl rfl,⟨m,g1,g2,aa,g4,.inr ⟨p0,p1,rfl⟩⟩,rfl⟩;have hch:=ta la loc cs pt ob n hn hcs hA q m m u v base lp Sx (ih u aa) (ih v aa) hgN g1 aa hbase hlp hWx hSx hjx.2.2.2;have hqe:q<=m:=by have:=g2.1;omega
    refine bA (aU q0 (aU hqc (aU hqp (aU e0 (aU hop (aU hpm (aU m0 (aU mc (aU em p0))))))))) ?_;refine fU la loc cs pt ob (args2:=[.p 0 0,aq q,aq m,aq m,aq base,aq lp]) (L:=[(0,.p 0 0),(2,aq b),(3,aq base),(4,aq lp),(10,.p 4 0),(11,.p 5 0),(15,aq m),(13,.p 6 0)]) (bl2:=[eZ 0 111 [aq 0,aq 0],eZ 0 111 [aq bd.1,aq bd.2],eZ 0 111 [aq 0,aq 0]]) Sx (0,0) [6,5,4,3,2,1,0] [] (hch) ?_ ?_ ?_ ?_ ae rfl af af (.cons .lq (.cons .lq (.cons .lq .nil))) ?_
    ·exact fK
    ·exact bb
    ·exact as4
    ·exact asC
    rintro v' H' ⟨S',z,er',rfl,rfl,hbz,hjz,hx⟩;refine⟨S',er',rfl,?_⟩;simp only[aH,aL,List.cons_append,List.nil_append,jo];refine bB (aU q0 (aU hqp hpm)) ?_;refine fin [6,5,4,3,2,1,0] [] m S' z er' hbz hjz aa (by
      rcases hx with⟨k1,k2⟩|⟨k1,k2⟩
      ·exact avS
      ·exact .inr ⟨k2,by rw[hs,k1];rfl⟩) ?_ ?_ ?_ rfl
    ·exact fK
    ·exact bb
    ·exact asC
  ·subst h29;rw[if_neg ag] at hs;have h31:=g2.2 rfl;rcases g5 with⟨p0,_⟩|⟨_,p1,p2⟩
   ·rw[h31] at p0;cases p0
   obtain rfl:y=m+1:=p2;have hgN:fM cs pt (.br 29 q (m+1) u v .nil) q (m+1):=⟨rfl,hop,.inr rfl,⟨m,g1,g2,aa,g4,.inr ⟨by rw[h31];decide,p1,rfl⟩⟩,rfl⟩
   have hch:=zc la loc cs pt ob n hn hln hK hpt q m u v base Sx (ih u aa) hgN g1 aa hbase hWx hSx hjx.2.2.2;have hqe:q<=m:=by have:=g2.1;omega
   refine bA (aU q0 (aU hqc (aU hqp (aU e0 (aU hop hpm))))) ?_;refine fU la loc cs pt ob (args2:=[.p 0 0,aq q,aq m,aq base]) (L:=[(0,.p 0 0),(2,aq b),(3,aq base),(4,aq lp),(10,.p 4 0),(11,.p 5 0),(12,aq q),(13,.p 6 0)]) (bl2:=[eZ 0 111 [aq 0,aq 0],eZ 0 111 [aq bd.1,aq bd.2],eZ 0 111 [aq 0,aq 0]]) Sx (0,0) [6,5,4,3,2,1,0] [] (hch) ?_ ?_ ?_ ?_ ae rfl af af (.cons .lq (.cons .lq (.cons .lq .nil))) ?_
   ·exact fK
   ·exact bb
   ·exact⟨Wv.p rfl,Wv.n rfl,Wv.n rfl,Wv.n rfl,trivial⟩
   ·exact asC
   rintro v' H' ⟨S',z,er',rfl,rfl,hbz,hjz,hx⟩;refine⟨S',er',rfl,?_⟩;simp only[aH,aL,List.cons_append,List.nil_append,jo];refine bB (aU q0 (aU hqp hpm)) ?_;refine fin [6,5,4,3,2,1,0] [] m S' z er' hbz hjz aa (by
     rcases hx with⟨k1,k2⟩|⟨k1,k2⟩
     ·obtain⟨c1,c2,c3⟩:=xM (lp:=lp) hA hgN k1 hWx hSx;rw[k1] at hs;exact .inl ⟨k2,hqe,aa,r',hgr,aa,hs,c1,c2⟩
     ·exact .inr ⟨k2,by rw[hs,k1];rfl⟩) ?_ ?_ ?_ rfl
   ·exact fK
   ·exact bb
   ·exact asC
end
theorem uV(la:ao)(loc:Int)(cs:am)(pt:List Int)(ob:Nat->Option OB)(n:Nat)(hn:n<1000)(hln:loc=(n:Int))(hpt:pt.length=cs.length)(hK:si la n cs):∀(k:Nat) (o:Fo),o.size<k->vd la loc cs pt ob n o
 |0,o,h=>absurd h (apg _)
 |k+1,o,h=>zg la loc cs pt ob n hn hln hpt hK o λu hu=>uV la loc cs pt ob n hn hln hpt hK k u aa
def s9(cs:am)(S:WS)(b:Bd):List og:=[.v (aq b.1),.v (aq b.2),.v (aq S.ht),.o 48 3 (gc S.lp cs.length).length 0 (kR (gc S.lp cs.length))]
section
variable (la:ao) (cs:am) (n:Nat) (hn:n<=16) (hK:si la n cs) (o:Fo) (pt:List Int) (hr:jH cs= .ok (o,pt))
include hn hK hr
theorem rZ{S:WS}{b:Bd}(h:mP cs la n o=some (.ok (S,b))):gw av 31 [fX la n cs,Gx la n cs] [.a (s9 cs S b)]:=by
 refine lA ((tZ la cs n hn hK o pt hr).mono (λv H q=>?_) (λc H q=>?_))
 ·obtain⟨S',b',h',rfl,rfl⟩:=q;rw[h] at h';cases h';refine⟨[_],rfl,⟨(by show 4<=8;decide),_,rfl,⟨rfl,rfl⟩,⟨rfl,rfl⟩,⟨rfl,rfl⟩,.inr ⟨0,rfl,by simp[wN],_,ah,rfl,rfl,ag,rfl,bL _,bL _,λi j hi hj=>fI i j hj,λi j _ _=>nj _ i j⟩,trivial⟩,rfl,trivial⟩
 ·obtain⟨e,h',_⟩:=q;rw[h] at h';cases h'
theorem rY{e:Er}(h:mP cs la n o=some (.error e)):Pan av 31 [fX la n cs,Gx la n cs] (kY e.1 e.2):=by
 refine D8 ((tZ la cs n hn hK o pt hr).mono (λv H q=>?_) (λc H q=>?_))
 ·obtain⟨S',b',h',_⟩:=q;rw[h] at h';cases h'
 ·obtain⟨e',h',rfl⟩:=q;rw[h] at h';cases h';rfl
end
def mI(cs:am)(la:ao)(n:Nat)(o:Fo):Option (Except Er (WS×Bd)):=match mP cs la n o with
 |none=>none
 |some (.error e)=>some (.error e)
 |some (.ok (S,b))=>if b.1<=281474976710656 then some (.ok (S,b)) else some (.error (0,18))
theorem y6(la:ao)(cs:am)(n:Nat)(hn:n<=16)(hK:si la n cs)(o:Fo)(pt:List Int)(hr:jH cs= .ok (o,pt)):
  PC av j9 30 [.p 0 0,.p 1 0] (fi [eZ 0 38 [aq 0,aq 0,aq 0,.sl0],eZ 0 25 [.fs 2 la.length (pA la),aq n,.fs 2 cs.length (pI cs)]])
   (λv H'=>∃(S:WS) (b:Bd),mI cs la n o=some (.ok (S,b))/\v= .tup []/\H'=fi [fg 48 3 (gc S.lp cs.length).length 0 (kR (gc S.lp cs.length)),eZ 0 38 [aq b.1,aq b.2,aq S.ht,.os 2 (gc S.lp cs.length).length],eZ 0 25 [.fs 2 la.length (pA la),aq n,.fs 2 cs.length (pI cs)]])
   (λc _=>∃e:Er,mI cs la n o=some (.error e)/\c=kY e.1 e.2):=by
 have hcs:=hK.len;obtain⟨hg,hpt⟩:=o8 hr;have hW0:WF n (S0 n):=⟨⟨apK,λx hx=>by rw[(aqg.1 hx).2];exact rQ⟩,λv hv=>(by cases hv),λl hl=>(by cases hl)⟩
 obtain⟨R,hR⟩:=ik hK.arg o 0 cs.length 0 0 (S0 n) (0,0) hg hW0 oU;refine PC.vw (gX MG ⟨ae,ag⟩ ?_);simp only[fy];refine a7 ?_;refine Dp (qf la n cs) ?_;simp only[Gx];refine a7 ?_;cases ha:mP cs la n o with
 |none=>
  exfalso;unfold mP at ha;rw[hR] at ha;cases R with
  |error e=>cases ha
  |ok q=>obtain⟨S,b⟩:=q;dsimp only at ha;split at ha<;>cases ha
 |some q=>
  cases q with
  |error e=>exact fP [] (fargs:=[fX la n cs,Gx la n cs]) (ja.same rfl) (rY la cs n hn hK o pt hr ha) ⟨e,by unfold mI;rw[ha],rfl⟩
  |ok q=>
   obtain⟨S,b⟩:=q;refine iR (rZ la cs n hn hK o pt hr ha) ?_;simp only[s9];by_cases h:b.1<=281474976710656
   ·refine a8 h ?_;refine iR (jd 0 18) ?_;refine a7 ?_;exact mR [2,1,0] [] (.tup []) [fg 48 3 (gc S.lp cs.length).length 0 (kR (gc S.lp cs.length)),eZ 0 38 [aq b.1,aq b.2,aq S.ht,.os 2 (gc S.lp cs.length).length],eZ 0 25 [.fs 2 la.length (pA la),aq n,.fs 2 cs.length (pI cs)]] bb (.cv (.rfl rfl)) ae (gy rfl rfl) ⟨S,b,by unfold mI;rw[ha];exact if_pos h,rfl,rfl⟩
   ·exact avT
theorem vh(w:World):(binOp .eql 20 .nilIface .nilIface).run av w= .ok (.bool true) w:=by kernel_rfl
theorem t9(a n:Int)(w:World):(binOp .eql 20 (.iface 118 (.agg #[.int .i64 a,.int .i64 n])) .nilIface).run av w= .ok (.bool false) w:=by kernel_rfl
theorem K5(a n:Int)(w:World):(Instr.typeAssert (.iface 118 (.agg #[.int .i64 a,.int .i64 n])) 20 118 true).run av w= .ok (.tuple #[.agg #[.int .i64 a,.int .i64 n],.bool true]) w:=by kernel_rfl
theorem MP(p q x:Value): #[p,q]++(Array.replicate 13 undef).setIfInBounds 3 x=
  #[p,q,undef,undef,undef,x,undef,undef,undef,undef,undef,undef,undef,undef,undef]:=by kernel_rfl
theorem zI(ab eb:Nat)(w:World):
  CallsD av 51 #[.pointer (some ⟨ab,0,none⟩),.pointer (some ⟨eb,0,none⟩)] .returning w λe u' w'=>e= .returned (.tuple #[])/\u'= .returning/\w'=w:=by
 refine callsD_of_wpS Tryz.func51 rfl λc₀ cs hu=>?_;apply wpS_seq;apply wpS_region;simp[wpOpsS,go_sem,recoverD,hu,Tryz.ntmps51,Exit.thenS];refine wpS_of_wp ?_;rw[MP];have hq:=vh
 go_wp2
 cases c₀;simp_all [bodyPostS,results,Tryz.results51]
theorem sd(ab eb:Nat)(x y a n:Int)(older:List PanicEntry)(w:World)(ha:w.heap[ab]? =some (.cells #[.int .i64 x] 3 (0,0)))(he:w.heap[eb]? =some (.cells #[.int .i64 y] 30 (0,0)))(hne:¬ab=eb)(hne2:¬eb=ab):
  CallsD av 51 #[.pointer (some ⟨ab,0,none⟩),.pointer (some ⟨eb,0,none⟩)] (.panicking ({v:= .iface 118 (.agg #[.int .i64 a,.int .i64 n]),recovered:=false}::older)) w λe u' w'=>
   e= .returned (.tuple #[])/\u'= .panicking ({v:= .iface 118 (.agg #[.int .i64 a,.int .i64 n]),recovered:=true}::older)/\w'.heap[ab]? =some (.cells #[.int .i64 a] 3 (0,0))/\w'.heap[eb]? =some (.cells #[.int .i64 n] 30 (0,0))/\(∀k,k<w.heap.size->k≠ab->k≠eb->w'.heap[k]? =w.heap[k]?)/\w'.os=w.os/\w'.tape=w.tape/\w'.output=w.output/\w.heap.size<=w'.heap.size:=by
 have hq:=t9 a n;have hta:=K5 a n;refine callsD_of_wpS Tryz.func51 rfl λc₀ cs hu=>?_;apply wpS_seq;apply wpS_region;simp[wpOpsS,go_sem,recoverD,hu,Tryz.ntmps51,Exit.thenS];refine wpS_of_wp ?_;rw[MP]
 go_wp2
 have hal:ab<w.heap.size:=(apo.1 ha).1;have hel:eb<w.heap.size:=(apo.1 he).1;have z0:w.cell? ⟨ab,0,none⟩=some (.int .i64 x):=by simp[World.cell?,ha]
 have z1:w.cell? ⟨eb,0,none⟩=some (.int .i64 y):=by simp[World.cell?,he]
 have f0:w.frozen? ⟨ab,0,none⟩=false:=by simp[World.frozen?,ha]
 have f1:w.frozen? ⟨eb,0,none⟩=false:=by simp[World.frozen?,he]
 have y0:∀v,(w.setCell ⟨eb,0,none⟩ v).cell? ⟨ab,0,none⟩=some (.int .i64 x):=λv=>by rw[World.cell?_of_block (Below.heap_setCell _ _ _ _ hne)];exact z0
 have y1:∀v,(w.setCell ⟨ab,0,none⟩ v).cell? ⟨eb,0,none⟩=some (.int .i64 y):=λv=>by rw[World.cell?_of_block (Below.heap_setCell _ _ _ _ hne2)];exact z1
 have g0:∀v,(w.setCell ⟨eb,0,none⟩ v).frozen? ⟨ab,0,none⟩=false:=λv=>by simp only[World.frozen?];rw[Below.heap_setCell _ _ _ _ (show ab≠(⟨eb,0,none⟩:Addr).block from hne),ha];rfl
 have g1:∀v,(w.setCell ⟨ab,0,none⟩ v).frozen? ⟨eb,0,none⟩=false:=λv=>by simp only[World.frozen?];rw[Below.heap_setCell _ _ _ _ (show eb≠(⟨ab,0,none⟩:Addr).block from hne2),he];rfl
 go_region
 go_wp2
 cases c₀;simp only at hu;subst hu;simp only[bodyPostS];refine⟨trivial,_,rfl,?_⟩;refine⟨_,results_none rfl _ _ _,?_⟩;refine⟨rfl,rfl,?_⟩;have hs:((w.setCell ⟨ab,0,none⟩ (.int .i64 a)).setCell ⟨eb,0,none⟩ (.int .i64 n)).heap.size=w.heap.size:=by simp[World.setCell]
 have hd:∀k,k<w.heap.size->((((w.setCell ⟨ab,0,none⟩ (.int .i64 a)).setCell ⟨eb,0,none⟩ (.int .i64 n)).alloc (Obj.cells #[.int .i64 a,.int .i64 n] 118)).drew).heap[k]? =((w.setCell ⟨ab,0,none⟩ (.int .i64 a)).setCell ⟨eb,0,none⟩ (.int .i64 n)).heap[k]? :=λk hk=>Below.heap_alloc _ _ _ (by rw[hs];exact hk)
 refine⟨?_,?_,λk hk h1 h2=>?_,rfl,rfl,rfl,?_⟩
 ·exact arV
 ·exact arW
 ·exact arX
 ·have:((((w.setCell ⟨ab,0,none⟩ (.int .i64 a)).setCell ⟨eb,0,none⟩ (.int .i64 n)).alloc (Obj.cells #[.int .i64 a,.int .i64 n] 118)).drew).heap.size=w.heap.size+1:=by rw[<-hs];exact Array.size_push ..
  omega
section
variable {H:AH}{B:Nat}{kk:Nat->Bool}{σ:Sg}{w:World}
theorem HR.rework{w':World}(h:HR B σ H w)(p q:Nat)(hp:∀b o,σ b≠some (p,o))(hq:∀b o,σ b≠some (q,o))(fp:σ.fz p=none)(fq:σ.fz q=none)(np:¬jD w.heap[p]?)(nq:¬jD w.heap[q]?)
  (hk:∀k,k<w.heap.size->k≠p->k≠q->w'.heap[k]? =w.heap[k]?) (hs:w.heap.size<=w'.heap.size):HR B σ H w':=by
 refine⟨h.new,h.newl,h.old,h.small,apj h.hB hs,h.nil,h.nilp,λb x c o hx hsb=>?_,h.szs,h.inj,λc fs hf=>?_,h.ob.keep λr hr hn=>hk r hr (λe=>np (e ▸ hn)) (λe=>nq (e ▸ hn))⟩
 ·obtain⟨cs,e1,e2,e3⟩:=h.blk b x c o hx hsb;exact⟨cs,e1,by rw[hk c (apo.1 e2).1 (λe=>hp b o (e ▸ hsb)) (λe=>hq b o (e ▸ hsb))];exact e2,e3⟩
 ·obtain⟨cs,t,fr,e1,e2,e3⟩:=h.frz c fs hf;exact⟨cs,t,fr,by rw[hk c (h.fzlt hf) (λe=>by subst e;rw[fp] at hf;cases hf) (λe=>by subst e;rw[fq] at hf;cases hf)];exact e1,e2,e3⟩
def Dg(w:World):World:=(w.alloc (Obj.cells #[.int .i64 0] 3)).alloc (Obj.cells #[.int .i64 0] 30)
theorem sI(w:World):(Dg w).heap.size=w.heap.size+2:=by simp[Dg]
theorem MN(w:World):(Dg w).heap[w.heap.size]? =some (.cells #[.int .i64 0] 3 (0,0)):=Dx w
theorem MM(w:World):(Dg w).heap[w.heap.size+1]? =some (.cells #[.int .i64 0] 30 (0,0)):=Dw w
theorem KY(w:World){c:Nat}(hc:c<w.heap.size):(Dg w).heap[c]? =w.heap[c]? :=(vg w).block c hc
theorem Dv(h:HR B σ H w):HR B σ H (Dg w):=((h.junk _).1.junk _).1
theorem Ae(kk:Nat->Bool)(h:HR B σ H w):lb kk B σ w σ (Dg w):=
 ⟨((Below.refl _ _).alloc h.hB _).alloc (by have:=h.hB;simp;omega) _,.refl _ _,λb c o hs=> .inl ⟨b,o,hs⟩,λc hc _=> .inl (KY w hc),λ_ _ _=>rfl,λ_ _ _ hs=>hs⟩
def Full(H:AH):Prop:=∀b,b<H.next->∃x,H.at b=some x
theorem HR.named_lt(h:HR B σ H w)(hF:Full H){b c:Nat}{o:Option Nat}(hs:σ b=some (c,o)):c<w.heap.size:=by
 by_cases hb:b<H.next
 ·obtain⟨x,hx⟩:=hF b hb;obtain⟨cs,e1,e2,e3⟩:=h.blk b x c o hx hs;exact(apo.1 e2).1
 ·rw[h.new b aa] at hs;cases hs
theorem lG{v:Value}{t:TypeId}{o:Option Obj}(h:o=some (.cells #[v] t (0,0))):¬jD o:=λhn=>hn _ _ _ h
theorem uX{σ2:Sg}{w2:World}(h:HR B σ H w)(hF:Full H)(ha:lb kk B σ (Dg w) σ2 w2):
  w2.heap[w.heap.size]? =some (.cells #[.int .i64 0] 3 (0,0))/\w2.heap[w.heap.size+1]? =some (.cells #[.int .i64 0] 30 (0,0))/\(∀b o,σ2 b≠some (w.heap.size,o))/\(∀b o,σ2 b≠some (w.heap.size+1,o))/\σ2.fz w.heap.size=none/\σ2.fz (w.heap.size+1)=none:=by
 have hz:=sI w;have n1:∀b o,σ b≠some (w.heap.size,o):=λb o hs=>by have:=h.named_lt hF hs;omega
 have n2:∀b o,σ b≠some (w.heap.size+1,o):=λb o hs=>by have:=h.named_lt hF hs;omega
 have f:∀c,w.heap.size<=c->σ.fz c=none:=λc hc=>by
  cases hf:σ.fz c with
  |none=>rfl
  |some fs=>have:=h.fzlt hf;omega
 refine⟨?_,?_,ha.un aa n1,ha.un aa n2,(ha.fz _ aa n1).trans (f _ (bL _)),(ha.fz _ aa n2).trans (f _ aa)⟩
 ·rcases ha.same _ aa n1 with e|e
  ·exact e.trans (MN w)
  ·exact absurd e (lG (MN w))
 ·rcases ha.same _ aa n2 with e|e
  ·exact e.trans (MM w)
  ·exact absurd e (lG (MM w))
theorem zH{caps:List AV}{Q:AV->AH->Prop}(hF:Full H)(h:PC av kk 30 caps H Q (λ_ _=>False)):
  PC av kk 29 [.f 30 [] caps] H (λv H'=>v= .tup [aq 0,aq 0]/\∃v',Q v' H') (λ_ _=>False):=by
 refine⟨⟨_,Tryz.func29,by kernel_rfl,rfl⟩,λB σ w args' hR ha=>?_⟩
 obtain⟨c1,c2,rfl,hc1,hc⟩:∃c1 c2,args'= #[.func (.func 30) c1 c2]/\c1= #[]/\gn σ caps c2.toList:=by
  obtain⟨l⟩:=args';obtain⟨h1,h2⟩:=ha
  match l,h1 with
  |[x],_=>
   have:=h2 0 _ rfl;cases this with
   |f n1 g1 n2 g2=>exact⟨_,_,rfl,Array.eq_empty_of_size_eq_zero (by simpa using n1.symm),by simpa using n2,λi v hv=>by simpa using g2 i v hv⟩
 subst hc1;have HR0:=ou.mk hR;have HC:=ou.mk hc;have HH:=ou.mk h;clear hR hc h ha
 go_enter_defers Tryz.func29,Tryz.ntmps29
 go_wp2_with fail
 show Calls _ _ _ (Dg w) _;have hz:=sI w;refine((HH.out).2 B σ (Dg w) c2 (Dv HR0.out) HC.out).mono ?_;rintro e w2 hp;cases e with
 |outgrown=>exact hp.elim
 |panicked c=>
  obtain⟨_,_,h,_⟩:=hp;exact h.elim
 |returned v=>
  obtain⟨v',H2,σ2,hq,hv,hHR,hA⟩:=hp;obtain⟨q1,q2,n1,n2,g1,g2⟩:=uX HR0.out hF hA;have z0:w2.cell? ⟨w.heap.size,0,none⟩=some (.int .i64 0):=by simp[World.cell?,q1]
  have z1:w2.cell? ⟨w.heap.size+1,0,none⟩=some (.int .i64 0):=by simp[World.cell?,q2]
  have f0:w2.frozen? ⟨w.heap.size,0,none⟩=false:=by simp[World.frozen?,q1]
  have f1:w2.frozen? ⟨w.heap.size+1,0,none⟩=false:=by simp[World.frozen?,q2]
  have hn1:w.heap.size≠w.heap.size+1:=aa;have hd:∀k,k≠w.heap.size->k≠w.heap.size+1->((w2.setCell ⟨w.heap.size,0,none⟩ (.int .i64 0)).setCell ⟨w.heap.size+1,0,none⟩ (.int .i64 0)).heap[k]? =w2.heap[k]? :=λk h1 h2=>by
   rw[Below.heap_setCell _ _ _ _ (show k≠(⟨w.heap.size+1,0,none⟩:Addr).block from h2),Below.heap_setCell _ _ _ _ (show k≠(⟨w.heap.size,0,none⟩:Addr).block from h1)]
  have y1:((w2.setCell ⟨w.heap.size,0,none⟩ (.int .i64 0)).setCell ⟨w.heap.size+1,0,none⟩ (.int .i64 0)).cell? ⟨w.heap.size,0,none⟩=some (.int .i64 0):=by
   rw[World.cell?_of_block (Below.heap_setCell _ _ _ _ (show w.heap.size≠(⟨w.heap.size+1,0,none⟩:Addr).block from hn1))];simp[World.cell?,World.setCell,apN,q1]
  have y2:((w2.setCell ⟨w.heap.size,0,none⟩ (.int .i64 0)).setCell ⟨w.heap.size+1,0,none⟩ (.int .i64 0)).cell? ⟨w.heap.size+1,0,none⟩=some (.int .i64 0):=by
   simp[World.cell?,World.setCell,apN,q2]
  have hsz:((w2.setCell ⟨w.heap.size,0,none⟩ (.int .i64 0)).setCell ⟨w.heap.size+1,0,none⟩ (.int .i64 0)).heap.size=w2.heap.size:=by simp[World.setCell]
  have hfin:Bq kk B σ w (λv H'=>v= .tup [aq 0,aq 0]/\∃v',Q v' H') (λ_ _=>False) (.returned (.tuple #[.int .i64 0,.int .i64 0])) ((w2.setCell ⟨w.heap.size,0,none⟩ (.int .i64 0)).setCell ⟨w.heap.size+1,0,none⟩ (.int .i64 0)):=by
   have hAA:=(Ae kk HR0.out).trans hA;have hB:=HR0.out.hB;refine⟨_,H2,σ2,⟨rfl,v',hq⟩,((gn.nil.cons (.n _ _)).cons (.n _ _)).tup,hHR.rework _ _ n1 n2 g1 g2 (lG q1) (lG q2) (λk _ h1 h2=>hd k h1 h2) aa,⟨(hAA.bel.setCell hB _).setCell (Nat.le_succ_of_le hB) _,hAA.fzb,hAA.im,λc hc hn=>?_,hAA.fz,hAA.kp⟩⟩;rw[hd c aa aa];exact hAA.same c hc hn
  have HH2:=ou.mk hfin;have Y1:=ou.mk y1;have Y2:=ou.mk y2;clear hfin hd hHR hA hv hq q1 q2 n1 n2 g1 g2 hsz y1 y2
  go_wp2
  refine leaves_cons (f:=51) (args:= #[.pointer (some ⟨w.heap.size,0,none⟩),.pointer (some ⟨w.heap.size+1,0,none⟩)]) ae (by simp[go_sem]) ?_
  refine(zI w.heap.size (w.heap.size+1) _).mono ?_;rintro e u' w'' ⟨rfl,rfl,rfl⟩;have y1:=Y1.out;have y2:=Y2.out;refine⟨.tuple #[.int .i64 0,.int .i64 0],?_,HH2.out⟩;simp[results,Tryz.results29,go_sem,y1,y2]
theorem HR.empty2{φ:Fz}(w:World)(hB:B<=w.heap.size)(t1 t2:TypeId)(e1 e2:Nat)(r1 r2:Nat->Nat->AV)(hφ:∀c fs,φ c=some fs->∃cs t fr,w.heap[c]? =some (.cells cs t fr)/\oq fs cs):
  HR B ⟨λ_=>none,λb=>b<2,φ⟩ (fi [fg t2 e2 0 0 r2,fg t1 e1 0 0 r1]) w:=by
 have hat:∀b x,(fi [fg t2 e2 0 0 r2,fg t1 e1 0 0 r1]).at b=some x->b<2/\x.size=0/\x.opn=true:=λb x hx=>by
  rw[jE,kG (by rw[gl];simp),jE,kG (by rw[gl];simp),oV,oI,gl] at hx
  by_cases h1:b=0+1
  ·rw[show([]:List AB).length=0 from rfl,if_pos h1] at hx;cases hx;exact⟨aa,ap3 _,rfl⟩
  ·rw[show([]:List AB).length=0 from rfl,if_neg h1] at hx;by_cases h0:b=0
   ·rw[if_pos h0] at hx;cases hx;exact⟨aa,ap3 _,rfl⟩
   ·rw[if_neg h0] at hx;cases hx
 refine⟨λ_ _=>rfl,λb hb h=>?_,λb hb=>?_,(by rw[gl];simp),hB,λb x hx _=>⟨(hat b x hx).2.1,(hat b x hx).2.2,(hat b x hx).1⟩,λ_ _=>rfl,λb x c o hx hs=>(by cases hs),λb x hx=>(by rw[(hat b x hx).2.1];decide),λb b' x x' c o o' _ _ hs=>(by cases hs),λc fs hc=>?_,?_⟩
 ·simp only[gl] at hb;exact absurd h (Nat.not_lt.2 hb)
 ·simp only[gl] at hb;cases hx:(fi [fg t2 e2 0 0 r2,fg t1 e1 0 0 r1]).at b with
  |none=>rfl
  |some x=>have:=(hat b x hx).1;have:2<=b:=hb;omega
 ·obtain⟨cs,t,fr,h1,h2⟩:=hφ c fs hc;exact⟨cs,t,fr,h1,h2,λb x o _ hs=>by cases hs⟩
 ·exact .none λr x hr=>by rw[sy] at hr;cases hr
theorem x6{caps:List AV}{a n:Int}(t1 t2:TypeId)(e1 e2:Nat)(r1 r2:Nat->Nat->AV)(hF:Full H)(h:PC av kk 30 caps H (λ_ _=>False) (λc _=>c=kY a n)):
  PC av (λ_=>false) 29 [.f 30 [] caps] H (λv H'=>v= .tup [aq a,aq n]/\H'=fi [fg t2 e2 0 0 r2,fg t1 e1 0 0 r1]) (λ_ _=>False):=by
 refine⟨⟨_,Tryz.func29,by kernel_rfl,rfl⟩,λB σ w args' hR ha=>?_⟩
 obtain⟨c1,c2,rfl,hc1,hc⟩:∃c1 c2,args'= #[.func (.func 30) c1 c2]/\c1= #[]/\gn σ caps c2.toList:=by
  obtain⟨l⟩:=args';obtain⟨h1,h2⟩:=ha
  match l,h1 with
  |[x],_=>
   have:=h2 0 _ rfl;cases this with
   |f n1 g1 n2 g2=>exact⟨_,_,rfl,Array.eq_empty_of_size_eq_zero (by simpa using n1.symm),by simpa using n2,λi v hv=>by simpa using g2 i v hv⟩
 subst hc1;have HR0:=ou.mk hR;have HC:=ou.mk hc;have HH:=ou.mk h;clear hR hc h ha
 go_enter_defers Tryz.func29,Tryz.ntmps29
 go_wp2_with fail
 show Calls _ _ _ (Dg w) _;have hz:=sI w;refine((HH.out).2 B σ (Dg w) c2 (Dv HR0.out) HC.out).mono ?_;rintro e w2 hp;cases e with
 |outgrown=>exact hp.elim
 |returned v=>
  obtain⟨_,_,_,h,_⟩:=hp;exact h.elim
 |panicked c=>
  obtain⟨H2,σ2,rfl,hHR,hA⟩:=hp;obtain⟨q1,q2,n1,n2,g1,g2⟩:=uX HR0.out hF hA;refine leaves_cons (f:=51) (args:= #[.pointer (some ⟨w.heap.size,0,none⟩),.pointer (some ⟨w.heap.size+1,0,none⟩)]) ae (by simp[go_sem]) ?_
  refine(sd w.heap.size (w.heap.size+1) 0 0 a n [] w2 q1 q2 aa aa).mono ?_;rintro e u' w3 ⟨rfl,rfl,b1,b2,b3,ho3,ht3,hp3,hs3⟩;have y1:w3.cell? ⟨w.heap.size,0,none⟩=some (.int .i64 a):=by simp[World.cell?,b1]
  have y2:w3.cell? ⟨w.heap.size+1,0,none⟩=some (.int .i64 n):=by simp[World.cell?,b2]
  have hAA:=(Ae (λ_=>false) HR0.out).trans hA;have hB:=HR0.out.hB;have h2s:=hA.bel.size;have hR3:HR B σ2 H2 w3:=hHR.rework _ _ n1 n2 g1 g2 (lG q1) (lG q2) (λk hk h1 h2=>b3 k hk h1 h2) hs3;have hfin:Bq (λ_=>false) B σ w (λv H'=>v= .tup [aq a,aq n]/\H'=fi [fg t2 e2 0 0 r2,fg t1 e1 0 0 r1]) (λ_ _=>False) (.returned (.tuple #[.int .i64 a,.int .i64 n])) w3:=by
   have hw:w.heap.size<=w3.heap.size:=apj hAA.bel.size hs3;refine⟨_,_,⟨λ_=>none,λb=>b<2,σ2.fz⟩,⟨rfl,rfl⟩,((gn.nil.cons (.n _ _)).cons (.n _ _)).tup,HR.empty2 w3 (apj hB hw) t1 t2 e1 e2 r1 r2 (λc fs hf=>?_),⟨⟨ho3.trans hAA.bel.os,ht3.trans hAA.bel.tape,hp3.trans hAA.bel.output,hw,λk hk=>?_⟩,⟨hAA.fzb.eq,hAA.fzb.le⟩,λb c o hs=>(by cases hs),λc hc hn=>?_,hAA.fz,λb x hb=>(by cases hb)⟩⟩
   ·obtain⟨cs,t,fr,e1,e2,_⟩:=hR3.frz c fs hf;exact⟨cs,t,fr,e1,e2⟩
   ·rw[b3 k aa aa aa];exact hAA.bel.block k hk
   ·rw[b3 c aa aa aa];exact hAA.same c hc hn
  have HH2:=ou.mk hfin;clear hfin hHR hA hAA hR3 q1 q2 n1 n2 g1 g2;simp[Leaves,settle,results,Tryz.results29,go_sem,y1,y2];exact HH2.out
theorem yQ.nmk{p:Nat->Bool}:∀{L:List (Nat×AV)},(L.all λq=>decide (q.1<1000000)&&q.2.nm p 3)=true->∀t v,(fu L).get t=some v->v.nm p 3=true
 |[],_,t,v,h=>by rw[lB] at h;cases h
 |x::L,hL,t,v,h=>by
  simp only[ap9,apq,decide_eq_true_eq] at hL;rw[kT hL.1.1] at h;by_cases e:t=x.1
  ·exact ard
  ·rw[if_neg e] at h;exact yQ.nmk hL.2 t v h
theorem FQ{P:Program}{n:Nat}{kk':Nat->Bool}{g:FuncId}{args:List AV}{e:Tr AV}{Q':AV->AH->Prop}{E':List PanicEntry->AH->Prop}{Q:AV->Tr AV->AH->Prop}{E:List PanicEntry->AH->Prop}
  (ρ M:List Nat) (L:List (Nat×AV)) (args2:List AV) (bl:List AB) (h:PC P kk' g args2 (fi bl) Q' E')
  (he:iT (λb2=>ρ.reverse[b2]?) M H e L) (hh:ig (λb2=>ρ.reverse[b2]?) M H ρ bl) (hv:Gk (λb2=>ρ.reverse[b2]?) M H args args2) (hl:bl.length<1000000) (hL:(L.all λp=>decide (p.1<1000000)&&p.2.nm kk' 3)=true) (hsz:∀b,kk' b=true->∃x,(fi bl).at b=some x/\0<x.size)
  (hkk:∀b,kk b=false) (hQ:∀v H',Q' v H'->Q v (fu L) H') (hE:∀c H',E' c H'->E c H'):jr P n kk g args e H Q E:=by
 refine⟨h.1,λB σ a w args' hEn hH ha'=>?_⟩;obtain⟨σ2,q1,q2,q3,q4,q5,q6⟩:=Wk.mkE (ob:=λ_=>none) ρ M he hh hl (λr x hx=>by cases hx) hEn hH
 rw[fv] at q2;have hA:lb (λ_=>false) B σ w σ2 w:=by
  refine⟨Below.refl _ _,q3,λb c o hs=>?_,λ_ _ _=> .inl rfl,λc _ hn=>q5 c hn,λb x hb hs=>by cases hb⟩
  rw[q4] at hs;obtain⟨b0,h1,h2⟩:=bM.1 hs;exact .inl ⟨b0,o,h2⟩
 have hargs:gn σ2 args2 args'.toList:=by
  obtain⟨v1,v2⟩:=hv.get;refine⟨v1.symm.trans ha'.1,λi v' hv'=>?_⟩;obtain⟨v,g1,g2⟩:=v2 i v' hv';exact q6 g2 (ha'.2 i v g1)
 refine(h.2 B σ2 w args' q2 hargs).mono λen w' hp=>?_;cases en with
 |returned u=>
  obtain⟨v,H',σ',r0,r1,r2,r3⟩:=hp;have hall:=hA.trans r3.no;refine⟨v,_,H',σ',hQ v H' r0,r1,⟨⟨q1.er.df,λt v hv=>?_⟩,q1.sz,q1.sm⟩,r2,hall.bel,hall.fzb,hall.im,hall.same,hall.fz,λb x hb _=>by rw[hkk b] at hb;cases hb⟩
  have e1:=VR.only 3 (yQ.nmk hL t v hv) (q1.er.get t v hv);have e2:(σ2.only kk').le σ':=by
   refine⟨λb x hx=>?_,λb hb=>?_,λc fs hf=>r3.fzb.le c fs hf⟩
   ·have hx':(if kk' b then σ2.nm b else none)=some x:=hx
    split at hx'
    ·rename_i hb;exact r3.kp b x hb hx'
    ·cases hx'
   ·obtain⟨hb1,hb2⟩:=hb;obtain⟨x,g1,g2⟩:=hsz b hb1;have:=(q2.nil b x g1 (q2.nilp b hb2)).1;omega
  exact e1.mono e2
 |panicked c=>
  obtain⟨H',σ',r0,r1,r2⟩:=hp;exact⟨H',σ',hE c H' r0,r1,hA.trans r2⟩
 |outgrown=>exact hp.elim
end
/-! ### an error is never 0-/
theorem oH{p n:Int}(h:n≠0):((p,n):Er).2≠0:=h
theorem so{p:Int}{base:Nat}{ty:List UInt8}{S:WS}{e:Er}(h:jS p base ty S= .error e):e.2≠0:=by
 unfold jS at h;split at h
 ·cases h;exact oH ag
 ·split at h<;>cases h;exact oH ag
theorem kl{p:Int}{l:List Vl}{S:WS}{e:Er}(h:gH p l S= .error e):e.2≠0:=by
 unfold gH at h;split at h<;>cases h;exact oH ag
theorem kg{b:Bd}{x:Except Er WS}{e:Er}(h:hD b x= .error e)(hx:∀e,x= .error e->e.2≠0):e.2≠0:=by
 cases x with
 |error e'=>cases h;exact hx _ rfl
 |ok S=>cases h
theorem yh{la:ao}{arg p:Int}{v:Vl}{e:Er}(h:jA la arg p v= .error e):e.2≠0:=by
 unfold jA at h;split at h<;>cases h;exact oH ag
theorem Mx{la:ao}{op arg p:Int}{l:List Vl}{S:WS}{e:Er}(h:gU la op arg p l S= .error e):e.2≠0:=by
 unfold gU at h;by_cases c0:op=0
 ·rw[if_pos c0] at h;exact kg h λ_=>kl
 rw[if_neg c0] at h;by_cases c1:op=1
 ·rw[if_pos c1] at h;exact kg h λ_=>kl
 rw[if_neg c1] at h;by_cases c2:op=2
 ·rw[if_pos c2] at h;cases h
 rw[if_neg c2] at h;by_cases c3:op=3
 ·rw[if_pos c3] at h;cases hx:jA la arg p (l.getD 0 v0) with
  |error e'=>rw[hx] at h;cases h;exact yh hx
  |ok x=>rw[hx] at h;exact kg h λ_=>kl
 rw[if_neg c3] at h;by_cases c4:op=4
 ·rw[if_pos c4] at h;cases hx:jA la arg p (l.getD 0 v0) with
  |error e'=>rw[hx] at h;cases h;exact yh hx
  |ok x=>rw[hx] at h;cases h
 rw[if_neg c4] at h;by_cases c5:op=5
 ·rw[if_pos c5] at h;exact kg h λ_=>kl
 rw[if_neg c5] at h;by_cases c7:op=7
 ·rw[if_pos c7] at h;exact kg h λ_=>kl
 rw[if_neg c7] at h;by_cases c6:op=6\/op=35
 ·rw[if_pos c6] at h;cases h
 rw[if_neg c6] at h;by_cases c34:op=34
 ·rw[if_pos c34] at h;cases h
 rw[if_neg c34] at h;by_cases c32:op=32
 ·rw[if_pos c32] at h;exact kg h λ_=>kl
 rw[if_neg c32] at h;by_cases c26:op=26
 ·rw[if_pos c26] at h;exact kg h λ_=>kl
 rw[if_neg c26] at h;by_cases ct:(kc op).2=[116]
 ·rw[if_pos ct] at h;exact kg h λ_=>kl
 rw[if_neg ct] at h;by_cases ca:(fZ op (l.getD 0 v0).2 (l.getD 1 v0).2).2=0
 ·rw[if_pos ca] at h;exact kg h λ_=>kl
 ·rw[if_neg ca] at h;cases h;exact ca
theorem K7{cs:am}{la:ao}{base loop p:Nat}{S:WS}{e:Er}(h:kh cs la base loop p S= .error e):e.2≠0:=by
 unfold kh at h;split at h
 ·split at h
  ·rename_i hp;cases h;exact so hp
  ·split at h<;>cases h;exact oH ag
 ·unfold jm at h;split at h
  ·rename_i hp;cases h;exact so hp
  ·exact Mx h
theorem xc{cs:am}{la:ao}{base loop:Nat}:∀(n p:Nat) {S:WS} {b:Bd} {e:Er},oC cs la base loop n p S b= .error e->e.2≠0
 |0,p,S,b,e,h=>by cases h
 |n+1,p,S,b,e,h=>by
  rw[oC] at h;split at h
  ·rename_i h1;cases h;exact K7 h1
  ·exact xc n (p+1) h
theorem Av{body:WS->Option (Except Er (WS×Bd))}{to h:Nat}{sto:Nat->Bool}(hB:∀S e,body S=some (.error e)->e.2≠0):∀(f:Nat) (pass:Int) (head:List Iv) {S:WS} {e:Er},l6 body to h sto f pass head S=some (.error e)->e.2≠0
 |0,pass,head,S,e,hh=>by cases hh
 |f+1,pass,head,S,e,hh=>by
  rw[l6] at hh;split at hh
  ·cases hh
  ·rename_i h1;cases hh;exact hB _ _ h1
  ·split at hh
   ·split at hh
    ·cases hh
    ·exact Av hB f _ _ hh
   ·cases hh;exact oH ag
theorem kV{cs:am}{la:ao}:∀(o:Fo) (base loop:Nat) {S:WS} {bd:Bd} {e:Er},fO cs la o base loop S bd=some (.error e)->e.2≠0
 |.nil,base,loop,S,bd,e,h=>by cases h
 |.pl x y r,base,loop,S,bd,e,h=>by
  rw[fO] at h;split at h
  ·rename_i h1;cases h;exact xc _ _ h1
  ·exact kV r base loop h
 |.br op x y u v r,base,loop,S,bd,e,h=>by
  rw[fO] at h;split at h
  ·split at h
   ·rename_i h1;cases h;exact so h1
   ·split at h
    ·cases h
    ·rename_i h1;cases h;exact kV u _ _ h1
    ·split at h;rotate_left
     ·cases h;exact oH ag
     split at h
     ·split at h
      ·cases h
      ·rename_i h1;cases h;exact kV v _ _ h1
      ·split at h
       ·exact kV r _ _ h
       ·cases h;exact oH ag
     ·exact kV r _ _ h
  ·split at h
   ·rename_i h1;cases h;exact so h1
   ·split at h;rotate_left
    ·cases h;exact oH ag
    split at h
    ·cases h
    ·rename_i h1;cases h;exact Av (λS e h2=>kV u _ _ h2) _ _ _ h1
    ·exact kV r _ _ h
theorem Af{la:ao}{cs:am}{n:Nat}{o:Fo}{e:Er}(h:mI cs la n o=some (.error e)):e.2≠0:=by
 unfold mI at h;split at h
 ·cases h
 ·rename_i h1;cases h;unfold mP at h1;split at h1
  ·cases h1
  ·rename_i h2;cases h1;exact kV _ _ _ h2
  ·split at h1<;>cases h1;exact oH ag
 ·split at h<;>cases h;exact oH ag
theorem tQ:∀{cs:am},ij cs=0->∀i ∈ cs,i8 i=0
 |[],_,i,hi=>by cases hi
 |x::l,h,i,hi=>by
  simp only[ij] at h;split at h
  ·rename_i h0;rcases apv.1 hi with rfl|hi
   ·exact h0
   ·exact tQ h i hi
  ·rename_i h0;exact absurd h h0
theorem yB{la:ao}{loc:Int}:∀{cs:am} {k:Nat},(mC la loc cs k).2=0->∀i ∈ cs,¬oW la loc i
 |[],_,_,i,hi=>by cases hi
 |x::l,k,h,i,hi=>by
  simp only[mC] at h;split at h
  ·exact absurd (show(2:Int)=0 from h) ag
  ·rename_i h0;rcases apv.1 hi with rfl|hi
   ·exact h0
   ·exact yB h i hi
theorem tS{la:ao}{loc:Int}{cs:am}(ha:il cs)(h:(iH la loc cs).2=0):
  ∃n:Nat,loc=n/\n<=16/\si la n cs/\∃o pt,jH cs= .ok (o,pt)/\(fJ cs).1=o:=by
 obtain⟨hp,hlen⟩:=tR h;unfold iH at h;split at h;rotate_left
 ·rename_i h0;exact absurd h h0
 rename_i hf
 try rw[if_pos hp] at h
 unfold fY at hf;split at hf;rotate_left
 ·rename_i h0;exact absurd hf h0
 split at hf
 ·exact absurd hf ag
 rename_i hl;rw[if_neg aa] at hf;have hi:=tQ hf;have hb:=yB h;have hr:∃o pt,jH cs= .ok (o,pt)/\(fJ cs).1=o:=by
  unfold fJ at hp ⊢;rw[if_neg aa] at hp ⊢;cases hrd:jH cs with
  |error x=>rw[hrd] at hp;exact absurd (show(15:Int)=0 from hp) ag
  |ok q=>exact⟨q.1,q.2,rfl,rfl⟩
 refine⟨loc.toNat,aa,aa,⟨hlen,λp h=>?_,λp h h34=>?_,λp h h12=>?_,ha.k⟩,hr⟩
 ·have hm:=hi _ (ka (d:=(0,0)) h);unfold i8 at hm;split at hm
  ·exact absurd hm ag
  ·show 0<=(cs.getD p (0,0)).1/\(cs.getD p (0,0)).1<=35;omega
 ·have hm:=hb _ (ka (d:=(0,0)) h);unfold oW at hm;have h34':(cs.getD p (0,0)).1=3\/(cs.getD p (0,0)).1=4:=h34;omega
 ·have hm:=hb _ (ka (d:=(0,0)) h);unfold oW at hm;have h12':(cs.getD p (0,0)).1=1\/(cs.getD p (0,0)).1=2:=h12;omega
def E0(b:Nat):Bool:=decide (b<3)
theorem EZ{ρ:List Nat}(h0:ρ.reverse[0]? =some 0)(h1:ρ.reverse[1]? =some 1)(h2:ρ.reverse[2]? =some 2):∀b,E0 b=true->ρ.reverse[b]? =some b:=λb hb=>by
 have:=of_decide_eq_true hb;have h:b=0\/b=1\/b=2:=aa;rcases h with rfl|rfl|rfl
 ·exact h0
 ·exact h1
 ·exact h2
theorem wM(la:ao)(cs:am)(n:Nat)(hn:n<=16)(hK:si la n cs)(o:Fo)(pt:List Int)(hr:jH cs= .ok (o,pt)):
  PC av E0 30 [.p 0 0,.p 2 0] (fi [eZ 0 38 [aq 0,aq 0,aq 0,.sl0],eZ 0 38 [aq 0,aq 0,aq 0,.sl0],eZ 0 25 [.fs 2 la.length (pA la),aq n,.fs 2 cs.length (pI cs)]])
   (λv H'=>∃(S:WS) (b:Bd),mI cs la n o=some (.ok (S,b))/\v= .tup []/\H'=fi [fg 48 3 (gc S.lp cs.length).length 0 (kR (gc S.lp cs.length)),eZ 0 38 [aq b.1,aq b.2,aq S.ht,.os 3 (gc S.lp cs.length).length],eZ 0 38 [aq 0,aq 0,aq 0,.sl0],eZ 0 25 [.fs 2 la.length (pA la),aq n,.fs 2 cs.length (pI cs)]])
   (λc _=>∃e:Er,mI cs la n o=some (.error e)/\c=kY e.1 e.2):=by
 have hcs:=hK.len;obtain⟨hg,hpt⟩:=o8 hr;have hW0:WF n (S0 n):=⟨⟨apK,λx hx=>by rw[(aqg.1 hx).2];exact rQ⟩,λv hv=>(by cases hv),λl hl=>(by cases hl)⟩
 obtain⟨R,hR⟩:=ik hK.arg o 0 cs.length 0 0 (S0 n) (0,0) hg hW0 oU;refine PC.vw (gX MG ⟨ae,ag⟩ ?_);simp only[fy];refine a7 ?_;refine Dp (qf la n cs) ?_;simp only[Gx];refine a7 ?_;cases ha:mP cs la n o with
 |none=>
  exfalso;unfold mP at ha;rw[hR] at ha;cases R with
  |error e=>cases ha
  |ok q=>obtain⟨S,b⟩:=q;dsimp only at ha;split at ha<;>cases ha
 |some q=>
  cases q with
  |error e=>exact fP [] (fargs:=[fX la n cs,Gx la n cs]) (ja.same rfl) (rY la cs n hn hK o pt hr ha) ⟨e,by unfold mI;rw[ha],rfl⟩
  |ok q=>
   obtain⟨S,b⟩:=q;refine iR (rZ la cs n hn hK o pt hr ha) ?_;simp only[s9];by_cases h:b.1<=281474976710656
   ·refine a8 h ?_;refine iR (jd 0 18) ?_;refine a7 ?_;exact mR [3,2,1,0] [] (.tup []) [fg 48 3 (gc S.lp cs.length).length 0 (kR (gc S.lp cs.length)),eZ 0 38 [aq b.1,aq b.2,aq S.ht,.os 3 (gc S.lp cs.length).length],eZ 0 38 [aq 0,aq 0,aq 0,.sl0],eZ 0 25 [.fs 2 la.length (pA la),aq n,.fs 2 cs.length (pI cs)]] (.cr (.k2 (λi j _ _=>fo _ i j)) (.cr (.j4) (.cr (.j4) (.cr (.j3) .nil)))) (.cv (.rfl rfl)) ae (EZ rfl rfl rfl) ⟨S,b,by unfold mI;rw[ha];exact if_pos h,rfl,rfl⟩
   ·exact avT
theorem Full.two{x y:AB}(hx:x.live=true)(hy:y.live=true):Full (fi [x,y]):=λb hb=>by
 rw[gl] at hb;have h2:b=0\/b=1:=by have:b<2:=hb;omega
 rw[jE,kG (by rw[gl];simp),jE,kG (by rw[gl];simp),oI,gl]
 rcases h2 with rfl|rfl
 ·exact⟨y,by simp[hy]⟩
 ·exact⟨x,by simp[hx]⟩
theorem ut{la:ao}{cs:am}{n:Nat}(hn:n<=16)(hK:si la n cs){o:Fo}{pt:List Int}(hr:jH cs= .ok (o,pt)):mI cs la n o≠none:=by
 obtain⟨hg,hpt⟩:=o8 hr;have hW0:WF n (S0 n):=⟨⟨apK,λx hx=>by rw[(aqg.1 hx).2];exact rQ⟩,λv hv=>(by cases hv),λl hl=>(by cases hl)⟩
 obtain⟨R,hR⟩:=ik hK.arg o 0 cs.length 0 0 (S0 n) (0,0) hg hW0 oU;unfold mI;cases ha:mP cs la n o with
 |none=>
  exfalso;unfold mP at ha;rw[hR] at ha;cases R with
  |error e=>cases ha
  |ok q=>obtain⟨S,b⟩:=q;dsimp only at ha;split at ha<;>cases ha
 |some q=>
  cases q with
  |error e=>simp
  |ok q=>dsimp only;split<;>simp
theorem yy{x y z:AB}(hx:x.live=true)(hy:y.live=true)(hz:z.live=true){b:Nat}(hb:b<3):(fi [x,y,z]).at b=some (if b=2 then x else if b=1 then y else z):=by
 have h2:b=0\/b=1\/b=2:=aa;rw[jE,kG (by rw[gl];simp),jE,kG (by rw[gl];simp),jE,kG (by rw[gl];simp),gl,oI,oI,gl]
 rcases h2 with rfl|rfl|rfl<;>simp[hx,hy,hz]
def iY(la:ao)(n:Nat)(cs:am):Option (Except Er (WS×Bd)):=
 if(iH la n cs).2=0 then mI cs la n (fJ cs).1 else some (.error ((iH la n cs).1,(iH la n cs).2))
theorem ur(la:ao)(n:Nat)(cs:am)(hl:la.length<=9223372036854775807)(hc:cs.length<=9223372036854775807)(ha:il cs):
  PC av (λ_=>false) 12 [fX la n cs] (fi [])
   (λv H'=>(∃(S:WS) (b:Bd),iY la n cs=some (.ok (S,b))/\∃k,v= .tup [.agg [aq b.1,aq b.2,aq S.ht,.os k (gc S.lp cs.length).length],aq 0,aq 0]/\H'.at k=some (fg 48 3 (gc S.lp cs.length).length 0 (kR (gc S.lp cs.length))))\/
    (∃e:Er,iY la n cs=some (.error e)/\v= .tup [.agg [aq 0,aq 0,aq 0,.sl0],aq e.1,aq e.2]))
   (λ_ _=>False):=by
 refine gX aiK ⟨ae,ag⟩ ?_;simp only[fy,fX];refine a7 ?_;refine iR (pJ la n cs hl hc ha) ?_;by_cases h0:(iH la n cs).2=0
 ·obtain⟨m,hm,hn,hK,o,pt,hr,hpo⟩:=tS ha h0;obtain rfl:n=m:=aa;refine bE h0 ?_;cases hv:mI cs la n o with
  |none=>exact absurd hv (ut hn hK hr)
  |some R=>
   cases R with
   |ok q=>
    obtain⟨S,b⟩:=q;have hb:iY la n cs=some (.ok (S,b)):=by unfold iY;rw[if_pos h0,hpo];exact hv
    refine FQ (kk':=E0) [2,1,0] [] [(2,.p 1 0),(7,.p 2 0)] [.f 30 [] [.p 0 0,.p 2 0]] [eZ 0 38 [aq 0,aq 0,aq 0,.sl0],eZ 0 38 [aq 0,aq 0,aq 0,.sl0],eZ 0 25 [.fs 2 la.length (pA la),aq n,.fs 2 cs.length (pI cs)]] (zH ?full ((wM la cs n hn hK o pt hr).mono (λv H q=>q) (λc H q=>?q2))) ?_ ?_ ?_ ae af ?hsz (λ_=>rfl) ?_ (λ_ _ h=>h.elim)
    case full=>exact λb hb=>⟨_,yy rfl rfl rfl hb⟩
    case q2=>obtain⟨e',h,_⟩:=q;rw[hv] at h;cases h
    case hsz=>exact λb hb=>⟨_,yy rfl rfl rfl (of_decide_eq_true hb),by split<;>(try split)<;>(show 0<(_:Nat);simp[eZ])⟩
    ·exact fK
    ·exact bb
    ·exact as7
    ·rintro v H' ⟨rfl,v',S',b',h,rfl,rfl⟩;rw[hv] at h;cases h;refine bH ?_;exact .inl ⟨S,b,hb,3,rfl,ai⟩
   |error e=>
    have hb:iY la n cs=some (.error e):=by unfold iY;rw[if_pos h0,hpo];exact hv
    refine jN (ob:=λ_=>none) (λ_=>false) [1,2,0] [] [(2,.p 2 0)] [.f 30 [] [.p 0 0,.p 1 0]] [eZ 0 38 [aq 0,aq 0,aq 0,.sl0]] [eZ 0 38 [aq 0,aq 0,aq 0,.sl0],eZ 0 25 [.fs 2 la.length (pA la),aq n,.fs 2 cs.length (pI cs)]] (x6 (a:=e.1) (n:=e.2) 3 3 1 1 (λ_ _=> aq 0) (λ_ _=> aq 0) ?full ((y6 la cs n hn hK o pt hr).mono (λv H q=>?q1) (λc H q=>?q2))).o ?_ ?_ ?_ ?_ ?_ ?_ ?_ ?_ ?_ ?_ ?_ ?_ ?_ ?_
    case full=>exact Full.two rfl rfl
    case q1=>obtain⟨S,b,h,_⟩:=q;rw[hv] at h;cases h
    case q2=>obtain⟨e',h,rfl⟩:=q;rw[hv] at h;cases h;rfl
    ·exact fK
    ·exact bb
    ·exact as7
    ·exact arA
    ·simp
    ·rfl
    ·exact arZ
    ·exact λb x hb _=>by cases hb
    ·rfl
    ·rfl
    ·exact .cons .lq (.cons .lq .nil)
    ·exact .cons .lq .nil
    ·have he:e.2≠0:=Af hv;rintro v H' ⟨rfl,rfl⟩;refine⟨λ_=>none,λ_=>none,[fg 3 1 0 0 (λ_ _=> aq 0),fg 3 1 0 0 (λ_ _=> aq 0)],[eZ 0 38 [aq 0,aq 0,aq 0,.sl0]],[2],[],_,[(2,.p 0 0)],(fv _).symm,rfl,?_,?_,Wv.same rfl,ae,(λr x hx=>by cases hx),(λb hb=>by cases hb),?_⟩
     ·exact fK
     ·exact d9
     rw[fv];refine bE he ?_;exact .inr ⟨e,hb,rfl⟩
    ·exact ar2
 ·refine bE h0 ?_;exact(.inr ⟨((iH la n cs).1,(iH la n cs).2),by unfold iY;exact if_neg h0,rfl⟩)
/-! ### partners are no loops-/
def PI(cs:am)(l:List Int):Prop:=∀q,fm cs q≠31->l.getD q 0<=0\/fm cs (l.getD q 0).toNat=28\/fm cs (l.getD q 0).toNat=31
theorem Zo(l:List Int)(q i:Nat)(v:Int):(i=q/\(l.set q v).getD i 0=v)\/(l.set q v).getD i 0=l.getD i 0:=by
 by_cases e:i=q
 ·subst e;by_cases h:i<l.length
  ·exact .inl ⟨rfl,nK h⟩
  ·right;rw[List.set_eq_of_length_le aa]
 ·exact .inr (gS e)
theorem PI.set{cs:am}{l:List Int}(h:PI cs l){q:Nat}{v:Int}(hv:fm cs q=31\/v<=0\/fm cs v.toNat=28\/fm cs v.toNat=31):PI cs (l.set q v):=λi hi=>by
 rcases Zo l q i v with⟨rfl,h1⟩|h1
 ·rw[h1];rcases hv with hv|hv
  ·exact absurd hv hi
  ·exact hv
 ·rw[h1];exact h i hi
theorem DP{cs:am}{i:Nat}{s s':RS}(h:gC cs i s=some s')(hI:PI cs s.out):PI cs s'.out:=by
 have k1:PI cs (s.out.set i (-1)):=hI.set (.inr (.inl ag));unfold gC at h;split at h
 ·split at h<;>cases h;exact k1
 split at h
 ·rename_i h28;split at h
  ·split at h<;>cases h;exact k1.set (.inr (.inr (.inl (by rw[apw];exact h28))))
  ·cases h
 split at h
 ·split at h<;>cases h;exact k1
 split at h
 ·rename_i h31;split at h
  ·cases h;rename_i b _ c _ _ _;have k2:=k1.set (q:=i) (v:=(b:Nat)) (.inl h31);dsimp only;split
   ·exact k2.set (.inr (.inr (.inr (by rw[apw];exact h31))))
   ·exact k2.set (.inr (.inr (.inr (by rw[apw];exact h31))))
  ·cases h
 ·cases h;exact k1
theorem xh{cs:am}:∀(n i:Nat) {s s':RS},gW cs n i s= .ok s'->PI cs s.out->PI cs s'.out
 |0,i,s,s',h,hI=>by cases h;exact hI
 |n+1,i,s,s',h,hI=>by
  rw[gW] at h;split at h
  ·cases h
  ·rename_i s1 h1;exact xh n (i+1) h (DP h1 hI)
theorem Al{cs:am}{out:List Int}(h:lh cs= .ok out):PI cs out:=by
 unfold lh at h;split at h
 ·cases h
 ·rename_i s hs;split at h<;>cases h;refine xh _ _ hs λq _=> .inl ?_;show(List.replicate cs.length (0:Int)).getD q 0<=0;rw[apd,aql];split<;>exact apH _
/-! ### what is noted of the loops-/
def qb(cs:am)(a b:Nat)(lp lp':am):Prop:=
 (∀q:Nat,(q<a\/b<=q\/fm cs q≠29)->jg lp' q=jg lp q)/\∀q:Nat,a<=q->q<b->fm cs q=29->∃m,jg lp' q=some m/\0<=m/\m<=65536
theorem qb.no{cs:am}{a b:Nat}{l:am}(h:∀q,a<=q->q<b->fm cs q≠29):qb cs a b l l:=⟨λ_ _=>rfl,λq h1 h2 h3=>absurd h3 (h q h1 h2)⟩
theorem qb.one{cs:am}{a:Nat}{l:am}(h:fm cs a≠29):qb cs a (a+1) l l:= .no λq h1 h2=>by rwa [show q=a by omega]
theorem qb.trans{cs:am}{a b c:Nat}{l1 l2 l3:am}(h:qb cs a c l1 l2)(h':qb cs c b l2 l3)(h1:a<=c)(h2:c<=b):qb cs a b l1 l3:=
 ⟨λq hq=>(h'.1 q aa).trans (h.1 q aa),λq hq1 hq2 h29=>by
  by_cases e:q<c
  ·obtain⟨m,k1,k2⟩:=h.2 q hq1 e h29;exact⟨m,(h'.1 q (.inl e)).trans k1,k2⟩
  ·exact h'.2 q aa hq2 h29⟩
def AG(li:List l5)(cs:am)(a b:Nat)(lp:am):Prop:=∀(q:Nat) (m:Int),a<=q->q<b->fm cs q=29->jg lp q=some m->gQ li q=m
theorem AG.back{li:List l5}{cs:am}{a0 b a c c':Nat}{l2 l3:am}(h:AG li cs a0 b l3)(k:qb cs c' b l2 l3)(h1:a0<=a)(h2:c<=c')(h3:c'<=b):AG li cs a c l2:=
 λq m q1 q2 q3 q4=>h q m aa aa q3 ((k.1 q (.inl aa)).trans q4)
theorem tL(cs:am)(a:Nat):∀n,pD cs a (n+1)=(if fm cs a=34 then 1 else 0)+pD cs (a+1) n
 |0=>by simp[pD]
 |n+1=>by
  rw[pD,tL cs a n,pD,show a+1+n=a+(n+1) by omega]
  omega
theorem aba{la:ao}{op arg p:Int}{l:List Vl}{S S':WS}{b:Bd}(h:gU la op arg p l S= .ok (S',b)):b=(1,if op=34 then 1 else 0):=by
 have w:∀{x:Except Er WS} {b0:Bd},hD b0 x= .ok (S',b)->b=b0:=λ{x b0} h=>by
  cases x with
  |error e=>cases h
  |ok S=>cases h;rfl
 unfold gU at h;by_cases c:op=34
 ·subst c;rw[if_neg ag,if_neg ag,if_neg ag,if_neg ag,if_neg ag,if_neg ag,if_neg ag,if_neg ag,if_pos rfl] at h;cases h;rfl
 rw[if_neg c];by_cases c0:op=0
 ·rw[if_pos c0] at h;exact w h
 rw[if_neg c0] at h;by_cases c1:op=1
 ·rw[if_pos c1] at h;exact w h
 rw[if_neg c1] at h;by_cases c2:op=2
 ·rw[if_pos c2] at h;cases h;rfl
 rw[if_neg c2] at h;by_cases c3:op=3
 ·rw[if_pos c3] at h;split at h
  ·cases h
  ·exact w h
 rw[if_neg c3] at h;by_cases c4:op=4
 ·rw[if_pos c4] at h;split at h<;>cases h;rfl
 rw[if_neg c4] at h;by_cases c5:op=5
 ·rw[if_pos c5] at h;exact w h
 rw[if_neg c5] at h;by_cases c7:op=7
 ·rw[if_pos c7] at h;exact w h
 rw[if_neg c7] at h;by_cases c6:op=6\/op=35
 ·rw[if_pos c6] at h;cases h;rfl
 rw[if_neg c6,if_neg c] at h;by_cases c32:op=32
 ·rw[if_pos c32] at h;exact w h
 rw[if_neg c32] at h;by_cases c26:op=26
 ·rw[if_pos c26] at h;exact w h
 rw[if_neg c26] at h;by_cases ct:(kc op).2=[116]
 ·rw[if_pos ct] at h;exact w h
 rw[if_neg ct] at h;by_cases ca:(fZ op (l.getD 0 v0).2 (l.getD 1 v0).2).2=0
 ·rw[if_pos ca] at h;exact w h
 ·rw[if_neg ca] at h;cases h
theorem K8{cs:am}{la:ao}{n base loop p:Nat}{S S':WS}{b:Bd}(h:kh cs la base loop p S= .ok (S',b))(ha:pz cs)(hS:WF n S):S'.lp=S.lp/\b=(1,if fm cs p=34 then 1 else 0):=by
 unfold kh at h;split at h
 ·rename_i h30;split at h
  ·cases h
  ·rename_i l S1 hp;obtain⟨k1,k2,k3,k4,k5⟩:=iq hp hS;split at h<;>cases h;exact⟨k5,by rw[if_neg aa]⟩
 ·unfold jm at h;split at h
  ·cases h
  ·rename_i l S1 hp;obtain⟨k1,k2,k3,k4,k5⟩:=iq hp hS;obtain⟨m1,m2,m3,m4,m5⟩:=rD h (ha p) k2 k1;exact⟨m4.trans k5,aba h⟩
theorem xd{cs:am}{la:ao}{n base loop:Nat}(ha:pz cs):∀(k p:Nat) {S S':WS} {b b':Bd},oC cs la base loop k p S b= .ok (S',b')->WF n S->px b->
  S'.lp=S.lp/\b'.1=gi (b.1+k)/\b'.2=gi (b.2+(pD cs p k:Nat))
 |0,p,S,S',b,b',h,hS,hb=>by
  cases h;exact⟨rfl,by rw[Bg (by have:=hb.1;omega)];simp,by rw[Bg (by have:=hb.2;show _+((0:Nat):Int)<=_;omega)];show _=_+((0:Nat):Int);omega⟩
 |k+1,p,S,S',b,b',h,hS,hb=>by
  rw[oC] at h;split at h
  ·cases h
  ·rename_i S1 x h1;obtain⟨k1,k2⟩:=kx h1 ha hS;obtain⟨e1,rfl⟩:=K8 h1 ha hS;obtain⟨m1,m2,m3⟩:=xd ha k (p+1) h k1.wf (gx hb.nn k2.nn);have hb1:=hb.1;have hb2:=hb.2;refine⟨m1.trans e1,?_,?_⟩
   ·rw[m2];show gi (gi (b.1+1)+k)=_;rw[Int.add_comm,jM aa];congr 1;omega
   ·rw[m3,tL];show gi (gi (b.2+if fm cs p=34 then 1 else 0)+_)=_
    rw[Int.add_comm,jM aa];congr 1;split<;>omega
def Gs(cs:am)(n a b:Nat)(u:Fo)(body:WS->Option (Except Er (WS×Bd))):Prop:=∀S S' bd,body S=some (.ok (S',bd))->WF n S->
 qb cs a b S.lp S'.lp/\∀li,AG li cs a b S'.lp->bd.1=ga li u 0/\bd.2=gZ cs li u 0
theorem qb.join{cs:am}{a b:Nat}{l1 l2 l3:am}(h:qb cs a b l1 l2)(h':qb cs a b l2 l3):qb cs a b l1 l3:=⟨λq hq=>(h'.1 q hq).trans (h.1 q hq),h'.2⟩
theorem Aw{cs:am}{n a b x0 to h:Nat}{u:Fo}{body:WS->Option (Except Er (WS×Bd))}(hB:n8 cs n a b body)(hL:Gs cs n a b u body):∀(f:Nat) (pass:Int) (head:List Iv) {S S':WS} {hd:List Iv} {bd:Bd},l6 body to h (stoF cs x0 (to-x0)) f pass head S=some (.ok (hd,S',bd))->WF n S->wl n head->
  qb cs a b S.lp S'.lp/\∀li,AG li cs a b S'.lp->bd.1=ga li u 0/\bd.2=gZ cs li u 0
 |0,pass,head,S,S',hd,bd,hr,_,_=>by cases hr
 |f+1,pass,head,S,S',hd,bd,hr,hS,hh=>by
  rw[l6] at hr;split at hr
  ·cases hr
  ·cases hr
  ·rename_i S1 b1 hb1;have hS0:WF n {S with loc:=head,lv:=[]}:=⟨hh,hS.st,λl hl=>by cases hl⟩
   obtain⟨k1,k2⟩:=hB _ _ _ hb1 hS0;have k3:=hL _ _ _ hb1 hS0;split at hr
   ·split at hr
    ·cases hr;exact k3
    ·obtain⟨m1,m2⟩:=Aw hB hL f (pass+1) _ hr k1.wf (lY hh _ _ _ _);exact⟨qb.join k3.1 m1,m2⟩
   ·cases hr
theorem ks{cs:am}{la:ao}{out:List Int}{n:Nat}(hPI:PI cs out)(ha:pz cs):∀(o:Fo) (a b base loop:Nat) {S S':WS} {bd bd':Bd},fM cs out o a b->fO cs la o base loop S bd=some (.ok (S',bd'))->WF n S->px bd->
  qb cs a b S.lp S'.lp/\∀li,AG li cs a b S'.lp->bd'.1=ga li o bd.1/\bd'.2=gZ cs li o bd.2
 |.nil,a,b,base,loop,S,S',bd,bd',hg,h,hS,hb=>by
  cases h;have:a=b:=hg;exact⟨.no λq h1 h2=>aa,λli _=>⟨rfl,rfl⟩⟩
 |.pl x y r,a,b,base,loop,S,S',bd,bd',hg,h,hS,hb=>by
  obtain⟨rfl,h1,hno,_,h4⟩:=hg;rw[fO] at h;split at h
  ·cases h
  ·rename_i S1 b1 hr;obtain⟨k1,k2⟩:=nN ha _ _ hr hS hb;obtain⟨e1,e2,e3⟩:=xd ha _ _ hr hS hb;obtain⟨m1,m2⟩:=ks hPI ha r y b base loop h4 h k1.wf k2;rw[e1] at m1;refine⟨(qb.no (λq q1 q2=>(hno q q1 q2).2.1)).trans m1 aa h4.le,λli hA=>?_⟩;obtain⟨t1,t2⟩:=m2 li (λq m q1 q2 q3 q4=>hA q m aa q2 q3 q4);rw[t1,t2,ga,gZ,e2,e3,show(((y-x:Nat):Int))=(y:Int)-x by omega]
   exact⟨rfl,rfl⟩
 |.br op x y u v r,a,b,base,loop,S,S',bd,bd',hg,h,hS,hb=>by
  obtain⟨rfl,hop,hopv,⟨m,g1,g2,g3,g4,g5⟩,h4⟩:=hg;have hle:=h4.le;have hul:=g4.le;have hmy:m<y:=by rcases g5 with⟨_,e,_,q2,_,_,q5⟩|⟨_,_,q2⟩<;>omega
  have hm29:fm cs m≠29:=by
   have:=hPI x aa;rw[g1,apw] at this;omega
  rw[fO,g4.lastB] at h;split at h
  ·rename_i h27;have hx29:fm cs x≠29:=aa;split at h
   ·cases h
   ·rename_i l S1 hp;obtain⟨k1,k2,k3,k4,k5⟩:=iq hp hS;split at h
    ·cases h
    ·cases h
    ·rename_i S2 bx hu;obtain⟨m1,m2⟩:=fR ha u (x+1) m _ loop g4 hu k1 oU;obtain⟨c1,c2⟩:=ks hPI ha u (x+1) m _ loop g4 hu k1 oU;rw[k5] at c1;split at h;rotate_left
     ·cases h
     split at h
     ·rename_i h28;rcases g5 with⟨_,e,q1,q2,q3,q4,q5⟩|⟨q0,_,_⟩;rotate_left
      ·exact asi
      have he29:fm cs e≠29:=by
       have:=hPI m aa;rw[q1,apw] at this;omega
      subst q5;have hvl:=q4.le;split at h
      ·cases h
      ·cases h
      ·rename_i S4 by_ hv;have hS3:WF n {S2 with loc:=S1.loc}:=⟨k1.loc,m1.wf.st,m1.wf.lv⟩;obtain⟨n1,n2⟩:=fR ha v (m+1) e _ loop q4 hv hS3 oU;obtain⟨d1,d2⟩:=ks hPI ha v (m+1) e _ loop q4 hv hS3 oU;split at h;rotate_left
       ·cases h
       have hS5:WF n {S4 with loc:=gj S2.loc S4.loc}:=⟨kF m1.wf.loc.1 _,n1.wf.st,n1.wf.lv⟩;have hbd:px (gh bd (gh (fA bx.1 by_.1,fA bx.2 by_.2) (1,0))):=gx hb.nn (gx eE qU.nn).nn
       obtain⟨t1,t2⟩:=ks hPI ha r (e+1) b base loop h4 h hS5 hbd;have w1:qb cs e b S4.lp S'.lp:=(qb.one he29).trans t1 aa hle;have w2:qb cs (m+1) b S2.lp S'.lp:=qb.trans d1 w1 hvl aa;have w3:qb cs m b S2.lp S'.lp:=(qb.one hm29).trans w2 aa aa;refine⟨(qb.one hx29).trans (c1.trans w3 hul aa) aa aa,λli hA=>?_⟩;obtain⟨a1,a2⟩:=c2 li (hA.back w3 aa (bL _) aa);obtain⟨a3,a4⟩:=d2 li (hA.back w1 aa (bL _) aa);obtain⟨a5,a6⟩:=t2 li (λq z z1 z2 z3 z4=>hA q z aa z2 z3 z4);rw[a5,a6,ga,gZ,if_pos h27,if_pos h27,<-a1,<-a2,<-a3,<-a4];refine⟨congrArg (ga li r) ?_,congrArg (gZ cs li r) ?_⟩
       ·show gi (bd.1+gi (fA bx.1 by_.1+1))=_;rw[jM hb.nn.1,show bd.1+(fA bx.1 by_.1+1)=bd.1+1+fA bx.1 by_.1 by omega];rfl
       ·show gi (bd.2+gi (fA bx.2 by_.2+0))=_;rw[jM hb.nn.2,Int.add_zero];rfl
     ·rename_i h28;rcases g5 with⟨q0,_⟩|⟨q0,q1,q2⟩
      ·exact absurd q0 h28
      subst q1 q2;have hS5:WF n {S2 with loc:=gj S2.loc S1.loc}:=⟨kF m1.wf.loc.1 _,m1.wf.st,m1.wf.lv⟩;have hbd:px (gh bd (gh (fA bx.1 0,fA bx.2 0) (1,0))):=gx hb.nn (gx eF qU.nn).nn
      obtain⟨t1,t2⟩:=ks hPI ha r (m+1) b base loop h4 h hS5 hbd;have w3:qb cs m b S2.lp S'.lp:=(qb.one hm29).trans t1 aa aa;refine⟨(qb.one hx29).trans (c1.trans w3 hul aa) aa aa,λli hA=>?_⟩;obtain⟨a1,a2⟩:=c2 li (hA.back w3 aa (bL _) aa);obtain⟨a5,a6⟩:=t2 li (λq z z1 z2 z3 z4=>hA q z aa z2 z3 z4);rw[a5,a6,ga,gZ,if_pos h27,if_pos h27,<-a1,<-a2];refine⟨congrArg (ga li r) ?_,congrArg (gZ cs li r) ?_⟩
      ·show gi (bd.1+gi (fA bx.1 0+1))=_;rw[jM hb.nn.1,show bd.1+(fA bx.1 0+1)=bd.1+1+fA bx.1 0 by omega];rfl
      ·show gi (bd.2+gi (fA bx.2 0+0))=_;rw[jM hb.nn.2,Int.add_zero];rfl
  ·rename_i h27;have h29:op=29:=by rcases hopv with h0|h0;exact absurd h0 h27;exact h0
   split at h
   ·cases h
   ·rename_i l S1 hp;obtain⟨k1,k2,k3,k4,k5⟩:=iq hp hS;have hmo:=jh k2 0;split at h;rotate_left
    ·cases h
    rename_i hmx;split at h
    ·cases h
    ·cases h
    ·rename_i head S2 bx hr;have hB:n8 cs n (x+1) m (λS'=>fO cs la u S1.st.length S1.st.length S' (0,0)):=λS3 S4 b4 h3 h5=>fR ha u (x+1) m _ _ g4 h3 h5 oU;have hL:Gs cs n (x+1) m u (λS'=>fO cs la u S1.st.length S1.st.length S' (0,0)):=λS3 S4 b4 h3 h5=>ks hPI ha u (x+1) m _ _ g4 h3 h5 oU;obtain⟨m1,m2,m3,m4,m5⟩:=mX hB aa hul (bL _) 6 1 S1.loc hr k1 k1.loc;obtain⟨c1,c2⟩:=Aw hB hL 6 1 S1.loc hr k1 k1.loc;rw[k5] at c1;have hS5:WF n {S2 with loc:=S2.lv.foldl gj head,lv:=S1.lv,lp:=iI S2.lp x (l.getD 0 v0).2.2}:=⟨ns _ _ m2,m1.st,k1.lv⟩;have hbd:px (gh bd (gh (jt bx (l.getD 0 v0).2.2) (1,0))):=gx hb.nn (gx (oZ m3 aa).nn qU.nn).nn;obtain⟨t1,t2⟩:=ks hPI ha r y b base loop h4 h hS5 hbd;have hy:y=m+1:=by
      rcases g5 with⟨q0,_⟩|⟨_,_,q2⟩
      ·have:=g2.2 h29;omega
      ·exact q2
     subst hy;have w0:qb cs x (m+1) S.lp (iI S2.lp x (l.getD 0 v0).2.2):=⟨λq hq=>by
       rw[kC];by_cases e:q=x
       ·rw[e] at hq;omega
       ·rw[if_neg aa];exact c1.1 q aa,λq q1 q2 q3=>by
       rw[kC];by_cases e:q=x
       ·rw[if_pos aa];exact⟨_,rfl,aa,hmx⟩
       ·rw[if_neg aa];have:q≠m:=λe=>hm29 (e ▸ q3);exact c1.2 q aa aa q3⟩
     have w3:qb cs (m+1) b (iI S2.lp x (l.getD 0 v0).2.2) S'.lp:=t1;refine⟨w0.trans w3 aa hle,λli hA=>?_⟩;have hmost:gQ li x=(l.getD 0 v0).2.2:=hA x _ (bL _) aa (hop.trans h29) ((w3.1 x (.inl aa)).trans (by rw[kC,if_pos rfl]))
     have hAu:AG li cs (x+1) m S2.lp:=λq z z1 z2 z3 z4=>hA q z aa aa z3 ((w3.1 q (.inl aa)).trans (by rw[kC,if_neg aa];exact z4))
     obtain⟨a1,a2⟩:=c2 li hAu;obtain⟨a5,a6⟩:=t2 li (λq z z1 z2 z3 z4=>hA q z aa z2 z3 z4);rw[a5,a6,ga,gZ,if_neg h27,if_neg h27,<-a1,<-a2,hmost];refine⟨congrArg (ga li r) ?_,congrArg (gZ cs li r) ?_⟩
     ·show gi (bd.1+gi (fN (gi (bx.1+1)) _+1))=_;rw[jM hb.nn.1];congr 1;omega
     ·show gi (bd.2+gi (fN bx.2 _+0))=_;rw[jM hb.nn.2,Int.add_zero]
theorem sN{a n:Int}(h:0<=a)(hn:0<=n):fN a n=gi (a*n):=by
 unfold fN;split
 ·rename_i h1;obtain⟨h1,h2⟩:=h1;have h3:=Int.lt_ediv_add_one_mul_self 281474976710657 h1;have h4:(281474976710657 / n+1)*n<=a*n:=Int.mul_le_mul_of_nonneg_right aa hn;unfold gi;rw[if_pos aa]
 ·rfl
theorem i9{a b:Int}(h:a<=b):gi a<=gi b:=by unfold gi;split<;>split<;>omega
theorem oz{a b n m:Int}(h0:0<=a)(h:a<=b)(hn:0<=n)(hm:n<=m):fN a n<=fN b m:=by
 rw[sN h0 hn,sN aa aa];exact i9 (Int.mul_le_mul h hm hn aa)
theorem kK{li li':List l5}(hm:∀a,0<=gQ li a/\gQ li a<=gQ li' a):∀(o:Fo) (n n':Int),Gy o->0<=n->n<=n'->n'<=281474976710657->ga li o n<=ga li' o n'
 |.nil,n,n',_,_,h,_=>h
 |.pl x y r,n,n',ho,h0,h,h2=>by
  have:=ho.1;exact kK hm r _ _ ho.2.2 (fH aa).1 (i9 aa) (fH aa).2
 |.br op x y u v r,n,n',ho,h0,h,h2=>by
  have hu:=iM (λa=>(hm a).1) u 0 ho.2.1 aa;have hv:=iM (λa=>(hm a).1) v 0 ho.2.2.1 aa;have hu1:=kK hm u 0 0 ho.2.1 aa aa aa;have hv1:=kK hm v 0 0 ho.2.2.1 aa aa aa;have hm':∀a,0<=gQ li' a:=λa=>Int.le_trans (hm a).1 (hm a).2;have hu':=iM hm' u 0 ho.2.1 aa;have hv':=iM hm' v 0 ho.2.2.1 aa;rw[ga,ga];by_cases e:op=27
  ·rw[if_pos e,if_pos e];exact kK hm r _ _ ho.2.2.2 (fH (by split<;>omega)).1 (i9 (by split<;>split<;>omega)) (fH (by split<;>omega)).2
  ·rw[if_neg e,if_neg e];have h1:=(hJ (fH (n:=ga li u 0+1) aa).1 (hm x).1);have h1':=(hJ (fH (n:=ga li' u 0+1) aa).1 (hm' x));have h3:=oz (fH (n:=ga li u 0+1) aa).1 (i9 (show ga li u 0+1<=ga li' u 0+1 by omega)) (hm x).1 (hm x).2
   exact kK hm r _ _ ho.2.2.2 (fH aa).1 (i9 aa) (fH aa).2
theorem kU{cs:am}{li li':List l5}(hm:∀a,0<=gQ li a/\gQ li a<=gQ li' a):∀(o:Fo) (n n':Int),0<=n->n<=n'->n'<=281474976710657->gZ cs li o n<=gZ cs li' o n'
 |.nil,n,n',_,h,_=>h
 |.pl x y r,n,n',h0,h,h2=>kU hm r _ _ (fH aa).1 (i9 aa) (fH aa).2
 |.br op x y u v r,n,n',h0,h,h2=>by
  have hu:=jk (cs:=cs) (λa=>(hm a).1) u 0 aa;have hv:=jk (cs:=cs) (λa=>(hm a).1) v 0 aa;have hu1:=kU (cs:=cs) hm u 0 0 aa aa aa;have hv1:=kU (cs:=cs) hm v 0 0 aa aa aa;have hm':∀a,0<=gQ li' a:=λa=>Int.le_trans (hm a).1 (hm a).2;have hu':=jk (cs:=cs) hm' u 0 aa;have hv':=jk (cs:=cs) hm' v 0 aa;rw[gZ,gZ];by_cases e:op=27
  ·rw[if_pos e,if_pos e];exact kU hm r _ _ (fH (by split<;>omega)).1 (i9 (by split<;>split<;>omega)) (fH (by split<;>omega)).2
  ·rw[if_neg e,if_neg e];have h1:=hJ hu.1 (hm x).1;have h1':=hJ hu'.1 (hm' x);have h3:=oz hu.1 hu1 (hm x).1 (hm x).2;exact kU hm r _ _ (fH aa).1 (i9 aa) (fH aa).2
theorem ny{cs:am}{li:List l5}(hm:∀a,0<=gQ li a):∀(o:Fo) (n n':Int),Gy o->0<=n->n<=n'->n'<=281474976710657->gZ cs li o n<=ga li o n'
 |.nil,n,n',_,_,h,_=>h
 |.pl x y r,n,n',ho,h0,h,h2=>by
  have:=ho.1;have:=yg cs x (y-x);exact ny hm r _ _ ho.2.2 (fH aa).1 (i9 aa) (fH aa).2
 |.br op x y u v r,n,n',ho,h0,h,h2=>by
  have hu:=jk (cs:=cs) hm u 0 aa;have hv:=jk (cs:=cs) hm v 0 aa;have hu':=iM hm u 0 ho.2.1 aa;have hv':=iM hm v 0 ho.2.2.1 aa;have hu1:=ny (cs:=cs) hm u 0 0 ho.2.1 aa aa aa;have hv1:=ny (cs:=cs) hm v 0 0 ho.2.2.1 aa aa aa;rw[gZ,ga];by_cases e:op=27
  ·rw[if_pos e,if_pos e];exact ny hm r _ _ ho.2.2.2 (fH (by split<;>omega)).1 (i9 (by split<;>split<;>omega)) (fH (by split<;>omega)).2
  ·rw[if_neg e,if_neg e];have h1:=hJ hu.1 (hm x);have hk:gZ cs li u 0<=gi (ga li u 0+1):=by unfold gi;split<;>omega
   have h1':=hJ (fH (n:=ga li u 0+1) aa).1 (hm x);have h3:=oz hu.1 hk (hm x) (apH _);exact ny hm r _ _ ho.2.2.2 (fH aa).1 (i9 aa) (fH aa).2
/-! ### the report of Verify-/
def mW(cs:am)(S:WS):List l5:=(gc S.lp cs.length).map λx=>(x.1,x.2,.ow)
theorem DZ(cs:am)(S:WS):Gr (mW cs S):=λx hx=>by
 obtain⟨y,_,rfl⟩:=ap8.1 hx;exact .inl rfl
theorem qA{lp:am}:∀{k:Nat} {x:Int×Int},x ∈ gc lp k->∃q:Nat,q<k/\x.1=q/\jg lp q=some x.2
 |0,x,h=>by cases h
 |k+1,x,h=>by
  unfold gc at h;split at h
  ·rename_i mo hmo;rcases apS.1 h with h|h
   ·obtain⟨q,h1,h2⟩:=qA h;exact⟨q,aa,h2⟩
   ·rw[apy.1 h];exact⟨k,aa,rfl,hmo⟩
  ·obtain⟨q,h1,h2⟩:=qA h;exact⟨q,aa,h2⟩
theorem tu{cs:am}{lp:am}:∀k:Nat,(∀q:Nat,q<k->(fm cs q=29->∃m,jg lp q=some m)/\(fm cs q≠29->jg lp q=none))->(gc lp k).map (λx=>x.1)=g9 cs k
 |0,_=>rfl
 |k+1,h=>by
  have ih:=tu k λq hq=>h q aa;obtain⟨h1,h2⟩:=h k aa;rw[g9,gc];by_cases e:fm cs k=29
  ·obtain⟨m,hm⟩:=h1 e;rw[if_pos e,hm];simp only[List.map_append,ih,List.map_cons,List.map_nil]
  ·rw[if_neg e,h2 e];exact ih
theorem ri{lp:am}:∀{k q:Nat} {m:Int},q<k->jg lp q=some m->gQ ((gc lp k).map λx=>((x.1,x.2,.ow):l5)) q=m
 |0,q,m,h,_=>absurd h (apg _)
 |k+1,q,m,h,hm=>by
  unfold gc;split
  ·rename_i mo hmo;rw[List.map_append];show gQ (_++[((k:Int),mo,AV.ow)]) q=m;rw[pQ]
   ·by_cases e:q=k
    ·subst e;rw[if_pos rfl];rw[hm] at hmo;cases hmo;rfl
    ·rw[if_neg (by show ¬(q:Int)=k;omega)]
     exact ri aa hm
   ·intro hin;obtain⟨y,hy,hy2⟩:=ap8.1 hin;obtain⟨z,hz,rfl⟩:=ap8.1 hy;obtain⟨p,hp,h1,_⟩:=qA hz;have:(z.1:Int)=k:=hy2;omega
  ·rename_i hmo;by_cases e:q=k
   ·subst e;rw[hm] at hmo;cases hmo
   ·exact ri aa hm
theorem BQ{la:ao}{n:Nat}{cs:am}{S:WS}{b:Bd}(ha:il cs)(h:iY la n cs=some (.ok (S,b))):
  (iH la n cs).2=0/\mZ la n cs (mW cs S)=0/\ga (mW cs S) (fJ cs).1 0=b.1/\gZ cs (mW cs S) (fJ cs).1 0=b.2/\(0<=b.1/\b.1<=281474976710656)/\0<=b.2/\b.2<=b.1:=by
 unfold iY at h;split at h;rotate_left
 ·cases h
 rename_i h0;obtain⟨m,hm,hn,hK,o,pt,hr,hpo⟩:=tS ha h0;obtain rfl:n=m:=aa;obtain⟨hp,hcs⟩:=tR h0;have hsc:=rd cs;rw[hr] at hsc;obtain⟨out,hsc1,_,hg⟩:=hsc;rw[hpo] at h;unfold mI at h;split at h
 ·cases h
 ·cases h
 rename_i S' b' hana;split at h<;>cases h;rename_i hb;unfold mP at hana;split at hana
 ·cases hana
 ·cases hana
 rename_i S'' b'' hcode;split at hana<;>cases hana;have hW0:WF n (S0 n):=⟨⟨apK,λx hx=>by rw[(aqg.1 hx).2];exact rQ⟩,λv hv=>(by cases hv),λl hl=>(by cases hl)⟩
 obtain⟨c1,c2⟩:=ks (Al hsc1) hK.arg o 0 cs.length 0 0 hg hcode hW0 oU;obtain⟨_,hBb⟩:=fR hK.arg o 0 cs.length 0 0 hg hcode hW0 oU;have hl:(gc S.lp cs.length).map (λx=>x.1)=g9 cs cs.length:=tu _ λq hq=>⟨λe=>by obtain⟨m,k,_⟩:=c1.2 q (apf _) hq e;exact⟨m,k⟩,λe=>c1.1 q (.inr (.inr e))⟩
 have hlF:jV cs=g9 cs cs.length:=if_pos hp;have hmap:((mW cs S).map λx=>x.1)=jV cs:=by
  rw[hlF,<-hl];unfold mW;rw[List.map_map];rfl
 have hin:MZ (mW cs S):=λx hx=>by
  obtain⟨z,hz,rfl⟩:=ap8.1 hx;obtain⟨q,h1,h2,h3⟩:=qA hz;by_cases e:fm cs q=29
  ·obtain⟨m,k1,k2⟩:=c1.2 q (apf _) h1 e;rw[h3] at k1;cases k1;exact k2
  ·have:=c1.1 q (.inr (.inr e));rw[h3] at this;cases this
 have hlen:(jV cs).length=(mW cs S).length:=by rw[<-hmap,List.length_map]
 have hO:mZ la n cs (mW cs S)=0:=by
  unfold mZ;rw[if_pos h0];unfold vx;rw[if_pos ⟨hlen,hmap⟩,if_pos hin]
 have hA:AG (mW cs S) cs 0 cs.length S.lp:=λq m _ hq _ hq2=>ri hq hq2;obtain⟨a1,a2⟩:=c2 _ hA;have hle:=ny (cs:=cs) (li:=mW cs S) (λa=>(tf hin a).1) o 0 0 (hg.okf aa) ag ag ag;have e1:ga (mW cs S) o 0=b.1:=a1.symm;have e2:gZ cs (mW cs S) o 0=b.2:=a2.symm;rw[hpo];have:=hBb.1;have:=hBb.2;exact⟨h0,hO,e1,e2,⟨aa,hb⟩,aa,aa⟩
theorem rk:∀(l:am) (k:Int),jg l k=if l.findIdx (λx=>decide (x.1=k))<l.length then some (l.getD (l.findIdx (λx=>decide (x.1=k))) (0,0)).2 else none
 |[],k=>rfl
 |x::l,k=>by
  rw[jg,List.findIdx_cons];by_cases e:x.1=k
  ·simp only[e,if_true,decide_true,cond_true,List.length_cons];rw[if_pos (Nat.succ_pos _)];rfl
  ·simp only[e,if_false,decide_false,cond_false,List.length_cons];rw[rk l k];by_cases h:l.findIdx (λx=>decide (x.1=k))<l.length
   ·rw[if_pos h,if_pos (Nat.succ_lt_succ h)];rfl
   ·rw[if_neg h,if_neg (λc=>h (Nat.lt_of_succ_lt_succ c))]
theorem FZ:∀(l:am) (k:Int),(l.map Prod.fst).Nodup->l.countP (λx=>decide (x.1=k))=(match jg l k with|some _=>1|none=>0)
 |[],k,_=>rfl
 |x::l,k,h=>by
  rw[List.map_cons,List.nodup_cons] at h;rw[List.countP_cons,jg];by_cases e:x.1=k
  ·simp only[e,if_true,decide_true];have:l.countP (λx=>decide (x.1=k))=0:=List.countP_eq_zero.2 λy hy hd=>h.1 (ap8.2 ⟨y,hy,(of_decide_eq_true hd).trans e.symm⟩);rw[this]
  ·simp only[e,if_false,decide_false];rw[FZ l k h.2];rfl
theorem yp(k:Nat):∀l:List (Int×Int),l.countP (λx=>decide (x.1<((k+1:Nat):Int)))=l.countP (λx=>decide (x.1<(k:Int)))+l.countP (λx=>decide (x.1=(k:Int)))
 |[]=>rfl
 |x::l=>by
  simp only[List.countP_cons,yp k l,decide_eq_true_eq];by_cases h1:x.1<(k:Int)
  ·rw[if_pos h1,if_pos aa,if_neg aa];omega
  ·by_cases h2:x.1=(k:Int)
   ·rw[if_neg h1,if_pos aa,if_pos h2];omega
   ·rw[if_neg h1,if_neg aa,if_neg h2];omega
theorem xY{l:am}(h:Lo l):∀k:Nat,(gc l k).length=l.countP (λx=>decide (x.1<(k:Int)))
 |0=>by
  rw[List.countP_eq_zero.2 λy hy hd=>by have:=of_decide_eq_true hd;have:=(h.2 y hy).1;omega]
  rfl
 |k+1=>by
  rw[yp,<-xY h k,FZ l k h.1,gc];cases jg l (k:Int) with
  |none=>rfl
  |some mo=>exact ape
theorem xZ{l:am}(h:Lo l){N:Nat}(hN:∀x ∈ l,x.1<(N:Int)):(gc l N).length=l.length:=by
 rw[xY h N];exact List.countP_eq_length.2 λx hx=>decide_eq_true (hN x hx)
theorem xX(l:am)(k:Nat):∀j:Nat,∃t,gc l (k+j)=gc l k++t
 |0=>⟨[],(aqb _).symm⟩
 |j+1=>by
  obtain⟨t,ht⟩:=xX l k j;rw[<-Nat.add_assoc,gc,ht];cases jg l ((k+j:Nat):Int) with
  |none=>exact⟨t,rfl⟩
  |some mo=>exact⟨t++[(((k+j:Nat):Int),mo)],List.append_assoc ..⟩
theorem E6{l:am}(h:Lo l){N k:Nat}(hN:∀x ∈ l,x.1<(N:Int))(hk:k<=N)(hl:l.length<=(gc l k).length):gc l N=gc l k:=by
 obtain⟨t,ht⟩:=xX l k (N-k);rw[show k+(N-k)=N by omega] at ht
 have h1:=congrArg List.length ht;rw[ape,xZ h hN] at h1;have:t=[]:=aqe aa;rw[ht,this,aqb]
theorem avE(l:am)(i:Nat):kR l i 2= .ow:=rfl
theorem xg(l:am)(hlo:Lo l)(N:Nat)(hN:∀x ∈ l,x.1<(N:Int))(hN2:N<=1024):gw av 47 [.fs 3 l.length (kR l)] [.o 48 3 (gc l N).length 0 (kR (gc l N))]:=by
 refine fe fx Vc ⟨ae,ag⟩ ?_;simp only[fy];have hlen:=hlo.len;refine dp ?_;refine GA.wk (Wk.nil 3 3 48 ah ag ah) ?_;simp only[jP];refine GA.loop (I:=λm e H=>∃(k:Nat),m=N-k/\k<=N/\e=fu [(0,.fs 3 l.length (kR l)),(3,.os 0 (gc l k).length),(4,aq k)]/\H=fi [fg 48 3 (gc l k).length 0 (kR (gc l k))]) (Wk.mk [0] [] ?_ ?_ ?_) ⟨0,rfl,apf _,rfl,rfl⟩ ?_
 ·exact fK
 ·exact arY
 ·simp
 rintro m e H ⟨k,rfl,hk,rfl,rfl⟩;have hlk:=tv l k;by_cases h:(((gc l k).length:Nat):Int)<(l.length:Int);rotate_left
 ·refine dq h ?_;have hE:=E6 hlo hN hk aa;rw[hE];exact⟨[_],rfl,.inr ⟨0,rfl,ae,_,ai,rfl,rfl,ag,rfl,bL _,bL _,λi j hi hj=>fI i j hj,λi j _ _=>nj _ i j⟩,rfl,trivial⟩
 have hkN:k<N:=by
  rcases Nat.lt_or_ge k N with h1|h1
  ·exact h1
  ·obtain rfl:k=N:=aa;rw[xZ hlo hN] at h;omega
 have wk:=au k;obtain⟨q,hq⟩:∃q,q=l.findIdx (λx=>decide (x.1=(k:Int))):=⟨_,rfl⟩;have hqi:E8 l k=if q<l.length then(q:Int) else-1:=by rw[hq];rfl
 have hlp:=rk l k;rw[<-hq] at hlp;refine dq h ?_;refine gf (F:=[.fs 3 l.length (kR l),aq k]) (sY l k aa) ?_;by_cases hql:q<l.length
 ·rw[hqi,if_pos hql];rw[if_pos hql] at hlp;have hs:gc l (k+1)=gc l k++[((k:Int),(l.getD q (0,0)).2)]:=by rw[gc,hlp]
  have hk2:(l.getD q (0,0)).1=(k:Int):=by
   have hk3:l.findIdx (λx=>decide (x.1=(k:Int)))<l.length:=by rw[<-hq];omega
   have:=List.findIdx_getElem (w:=hk3);simp only[<-hq] at this;rw[apd,apk hql];exact of_decide_eq_true this
  have e0:kR l q 0= aq (k:Int):=by show AV.n .i64 (l.getD q (0,0)).1=_;rw[hk2]
  have e1:kR l q 1= aq (l.getD q (0,0)).2:=rfl;have h0:(0:Int)<=(q:Int):=aa;have h1:(q:Int)<(l.length:Int):=aa;have hlap:(((gc l k).length+1)*3<1099511627776/\((gc l k).length+1)*40<=140737488355328)/\(gc l k).length<=9223372036854775806:=⟨⟨aa,aa⟩,aa⟩;refine dI (aU h0 (aU h1 (aU e0 (aU e1 (aU @avE (aU wk (aU hlap (aU @lV @pP)))))))) ?_;refine⟨_,_,_,?_,Wk.mk [2] [] ?_ ?_ ?_,k+1,rfl,aa,rfl,rfl⟩
  ·omega
  ·rw[hs,ape];simp only[iT,ig,go_sem,simprocAttr]
   repeat' refine fE ?_ ?_
   all_goals first|exact jQ|skip
  ·rw[hs,ape];exact .cr (.snoc (row:=kR (gc l k)) (n:=(gc l k).length) (o:=(gc l k).length*3) (l:=[aq (k:Int),aq (l.getD q (0,0)).2,.ow]) ai rfl rfl rfl ag aa (λi j hi _=>A7 hi) (λj hj=>xW hj) (λi j _ _=>fo _ i j)) .nil
  ·simp
 ·rw[hqi,if_neg hql];rw[if_neg hql] at hlp;have hs:gc l (k+1)=gc l k:=by rw[gc,hlp]
  have h0:¬(0:Int)<= -1:=ag;refine dt (aU h0 wk) ?_;refine⟨_,_,_,?_,Wk.mk [0] [] ?_ ?_ ?_,k+1,rfl,aa,rfl,rfl⟩
  ·omega
  ·rw[hs];simp only[iT,ig,go_sem,simprocAttr]
   repeat' refine fE ?_ ?_
   all_goals first|exact jQ|skip
  ·rw[hs];exact .cr (.same ah rfl ag (λ_ _ _ _=>rfl) (λi j _ _=>fo _ i j)) .nil
  ·simp
theorem uf(cs:am)(hcs:cs.length<=100000):gw av 77 [.fs 2 cs.length (pI cs)] [.o 3 1 (jf cs).1.length 0 (iC (jf cs).1),.v (aq (jf cs).2.2)]:=by
 refine fe fx U3 ⟨ae,ag⟩ ?_;simp only[fy];refine dp ?_;refine gf (qp cs hcs) ?_;refine dp ?_;exact⟨[_,_],rfl,.inr ⟨0,rfl,ae,_,ai,rfl,rfl,ag,rfl,bL _,bL _,λi j hi hj=>fI i j hj,λi j _ _=>rfl⟩,rfl,⟨rfl,rfl⟩,trivial⟩
theorem FY{cs:am}{la:ao}{out:List Int}{n:Nat}(hPI:PI cs out)(ha:pz cs){o:Fo}{S:WS}{b:Bd}(hg:fM cs out o 0 cs.length)(h:fO cs la o 0 0 (S0 n) (0,0)=some (.ok (S,b)))(hW:WF n (S0 n))(hlo:Lo S.lp):∀x ∈ S.lp,x.1<(cs.length:Int):=by
 obtain⟨c1,_⟩:=ks hPI ha o 0 cs.length 0 0 hg h hW oU;intro x hx;obtain⟨h0,_⟩:=hlo.2 x hx;by_cases hq:x.1<(cs.length:Int)
 ·exact hq
 ·exfalso;have h1:=c1.1 x.1.toNat (.inr (.inl aa));rw[show((x.1.toNat:Nat):Int)=x.1 by omega] at h1
  have h2:jg (S0 n).lp x.1=none:=rfl;rw[h2,rk] at h1;have:S.lp.findIdx (λy=>decide (y.1=x.1))<S.lp.length:=List.findIdx_lt_length_of_exists ⟨x,hx,ae⟩;rw[if_pos this] at h1;cases h1
section
variable (la:ao) (n:Nat) (cs:am) (ob:Nat->Option OB)
def aW(L:AV):List AV:=
 [.fs 2 la.length (pA la),aq n,.fs 2 cs.length (pI cs),.sl0,.b false,aq 0,aq 0,aq 0,.sl0,.os 2 0,L,.os 1 0,aq 0,.os 3 0,aq 0,aq 0]
def uo(L:AV):List AB:=[fg 46 1 0 0 (pS []),fg 48 3 0 0 (kR []),fg 244 3 0 0 (sC []),eZ 0 109 (aW la n cs L)]
theorem BF(hn:n<=16)(hK:si la n cs)(o:Fo)(pt:List Int)(hpf:jf cs=(pt,0,0))(hpt:pt.length=cs.length)(hg:fM cs pt o 0 cs.length):PC av fV 46 [.p 0 0] (ft ob (uo la n cs .sl0)) (λv H'=>∃S z er,v=jo z/\H'=ft ob (aH la (n:Int) cs pt S er)/\jY z/\Jk S/\PO (mP cs la n o) (S,z) er) (λ_ _=>False):=by
 have hcs:=hK.len;have hW0:WF n (S0 n):=⟨⟨apK,λx hx=>by rw[(aqg.1 hx).2];exact rQ⟩,λv hv=>(by cases hv),λl hl=>(by cases hl)⟩
 have hS0:Sm 0 (S0 n):=⟨apf _,⟨apH _,by show(0:Int)<=32;decide⟩,apf _⟩
 have hL0:Lo (S0 n).lp:=⟨List.nodup_nil,λx hx=>by cases hx⟩
 have hu:=uV la (n:Int) cs pt ob n aa rfl hpt hK (o.size+1) o (apG _) 0 cs.length 0 0 (S0 n) hg (bL _) aa aa hW0 hS0 hL0;have hl0:(S0 n).loc.length=n:=apK;have hPt:=uf cs aa;rw[hpf] at hPt;refine PC.vw (gX Vm ⟨ae,ag⟩ ?_);simp only[fy,uo,aW];refine a7 ?_;refine GE.loop (I:=λmm e H=>∃k:Nat,mm=n-k/\k<=n/\e=fu [(0,.p 0 0),(2,.p 4 0),(3,aq k)]/\H=ft ob ([fg 127 2 k 0 zC,eZ 0 111 [aq 0,aq 0]]++uo la n cs (.os 5 k))) (m:=n) ((gA.nilc 0 10 2 127 (x:=?x) ?hx ?hi ag ag ?hlv ?hv ?hn).trans (gA.mkO (ob:=ob) [5,4,3,2,1,0] [] ?_ ?_ ?_ ?_ (fh rfl))) ⟨0,rfl,apf _,rfl,rfl⟩ ?_
 case hx=>simp only[go_sem,simprocAttr]<;>rfl
 case hi=>show 10<16;decide
 case hlv=>rfl
 case hv=>simp only[go_sem,simprocAttr]
 case hn=>simp only[go_sem,simprocAttr]<;>decide
 ·exact fK
 ·exact .cr (.rows (x:=_) ai af af af (apf _) (bL _) ag (λi j h=>absurd h (apg _)) (λi j h=>absurd h (apg _))) (.cr (.j2) (.cr (.rows (x:=_) ai af af af (apf _) (bL _) ag (λi j h=>absurd h (apg _)) (λi j h=>absurd h (apg _))) (.cr (.rows (x:=_) ai af af af (apf _) (bL _) ag (λi j h=>absurd h (apg _)) (λi j h=>absurd h (apg _))) (.cr (.rows (x:=_) ai af af af (apf _) (bL _) ag (λi j h=>absurd h (apg _)) (λi j h=>absurd h (apg _))) (.cr .ak .nil)))))
 ·simp[uo]
 ·exact asC
 rintro mm e H ⟨k,rfl,hk,rfl,rfl⟩;simp only[uo,aW,List.cons_append,List.nil_append];by_cases hkn:k<n
 ·have hki:(k:Int)<(n:Int):=aa;have wk:=au k;have hap:((k+1)*2<1099511627776/\(k+1)*16<=140737488355328)/\k<=9223372036854775806:=⟨⟨aa,aa⟩,aa⟩;refine a8 hki ?_;refine Dp (F:=[.n .u32 0]) (ki 0 ag) ?_;simp only[iv];refine a9 (aU hap wk) ?_;refine⟨_,_,_,?_,gA.mkO (ob:=ob) (bl:=[fg 127 2 (k+1) 0 zC,eZ 0 111 [aq 0,aq 0]]++uo la n cs (.os 5 (k+1))) [7,4,3,2,1,0] [] ?_ ?_ ?_ ?_ (fh rfl),k+1,rfl,aa,rfl,rfl⟩
  ·omega
  ·exact fK
  ·exact .cr (.snoc (row:=zC) (n:=k) (o:=k*2) (l:=[aq 0,aq 0]) ai rfl rfl rfl ag aa (λi j _ _=>rfl) (λj hj=>by rcases uh hj with rfl|rfl<;>rfl) (λi j _ _=>rfl)) (.cr (.j2) (.cr (.rows (x:=_) ai af af af (apf _) (bL _) ag (λi j h=>absurd h (apg _)) (λi j h=>absurd h (apg _))) (.cr (.rows (x:=_) ai af af af (apf _) (bL _) ag (λi j h=>absurd h (apg _)) (λi j h=>absurd h (apg _))) (.cr (.rows (x:=_) ai af af af (apf _) (bL _) ag (λi j h=>absurd h (apg _)) (λi j h=>absurd h (apg _))) (.cr .ak .nil)))))
  ·simp[uo]
  ·exact asC
 have hki:¬(k:Int)<(n:Int):=aa;obtain rfl:n=k:=aa;refine a8 hki ?_;refine iR hPt ?_;refine a7 ?_;refine fU la (n:Int) cs pt ob (args2:=[.p 0 0,aq ((0:Nat)),aq cs.length,aq ((0:Nat)),aq ((0:Nat))]) (L:=[(0,.p 0 0),(2,.p 4 0),(4,aq cs.length)]) (bl2:=[eZ 0 111 [aq 0,aq 0]]) (S0 n) (0,0) [4,3,2,1,0] [5,6] (hu) ?_ ?_ ?_ ?_ ae rfl af af (.cons .lq .nil) ?_
 ·exact fK
 ·simp only[aH,aL,hl0];exact .cr (.j2) (.cr (.rows (x:=_) ai af af af (apf _) (bL _) ag (λi j h=>absurd h (apg _)) (λi j h=>absurd h (apg _))) (.cr (.rows (x:=_) ai af af af (apf _) (bL _) ag (λi j h=>absurd h (apg _)) (λi j h=>absurd h (apg _))) (.cr (.rows (x:=_) ai af af af (apf _) (bL _) ag (λi j h=>absurd h (apg _)) (λi j h=>absurd h (apg _))) (.cr (.ak (hg:=λi hi=>by rcases vM hi with rfl|rfl|rfl|rfl|rfl|rfl|rfl|rfl|rfl|rfl|rfl|rfl|rfl|rfl|rfl|rfl<;>(simp only[go_sem,simprocAttr];first|exact Wv.same rfl|exact Wv.os rfl|exact .cv (.ownb (ty:=3) (z:=0) ai (λi j _ _=>rfl) ae)|exact .cv (.os (x:=fg 127 2 n 0 zC) ae ai (bL _) (λi j hi hj=>(fI i j hj).trans (MA hi hj)) (λi j _ _=>gL _ i j))))) .nil))))
 ·exact asN
 ·exact asC
 rintro v' H' ⟨S2,b2,er2,rfl,rfl,hb2,hj2,hx⟩;refine⟨S2,er2,rfl,?_⟩;simp only[aH,aL,List.cons_append,List.nil_append,jo];have hlvl:=lD la (n:Int) cs pt ob cs.length 0 S2 er2 (by have:=hj2.1;omega)
 refine a7 ?_;refine fU la (n:Int) cs pt ob (args2:=[.p 0 0,aq cs.length,aq ((0:Nat))]) (L:=[(2,.p 4 0),(5,.p 5 0)]) (bl2:=[eZ 0 111 [aq b2.1,aq b2.2],eZ 0 111 [aq 0,aq 0]]) S2 er2 [5,4,3,2,1,0] [] (hlvl) ?_ ?_ ?_ ?_ ae rfl af af (.cons .lq (.cons .lq .nil)) ?_
 ·exact fK
 ·exact .cr (.j2) (.cr (.j2) (.cr (.k2 (λ_ _ _ _=>rfl)) (.cr (.k2 (λi j _ _=>fo _ i j)) (.cr (.k2 (λi j _ _=>fk _ i j)) (.cr .ak .nil)))))
 ·exact asM
 ·exact asC
 rintro v' H' ⟨rfl,rfl⟩;refine⟨S2,_,rfl,?_⟩;simp only[aH,aL,List.cons_append,List.nil_append];have hd:=hx.lvl (cs.length:Nat) 0;generalize kZ S2 er2 cs.length 0=er3 at*;refine a7 ?_;refine mj (ob:=ob) [3,2,1,0] [] (jo b2) (aH la (n:Int) cs pt S2 er3) bb (.cv (.rfl rfl)) (by simp[aH]) (λr x h=>by simp only[go_sem,simprocAttr];exact h) (fh rfl) ⟨_,_,_,rfl,rfl,hb2,hj2,?_⟩
 rcases hd with⟨k1,rfl,k3,hl2⟩|⟨k1,⟨k2,rfl⟩|⟨k2,k3,rfl⟩⟩
 ·exact .inl ⟨by unfold mP;rw[k3];exact if_pos hl2,rfl⟩
 ·exact .inr ⟨by unfold mP;rw[k2],k1⟩
 ·exact .inr ⟨by unfold mP;rw[k2];exact if_neg k3,k1⟩
end
theorem wJ{la:ao}{n:Nat}{cs:am}(ha:il cs):iY la n cs≠none:=by
 unfold iY;split
 ·rename_i h0;obtain⟨m,hm,hn,hK,o,pt,hr,hpo⟩:=tS ha h0;obtain rfl:n=m:=aa;rw[hpo];exact ut hn hK hr
 ·simp
theorem K3{la:ao}{n:Nat}{cs:am}{e:Er}(h:iY la n cs=some (.error e)):e.2≠0:=by
 unfold iY at h;split at h
 ·exact Af h
 ·rename_i h0;cases h;exact h0
section
variable (la:ao) (n:Nat) (cs:am) (hl:la.length<=9223372036854775807) (hc:cs.length<=9223372036854775807) (ha:il cs)
include hl hc ha
theorem wK{S:WS}{b:Bd}(h:iY la n cs=some (.ok (S,b))):gw av 12 [fX la n cs] [.a (s9 cs S b),.v (aq 0),.v (aq 0)]:=by
 refine lA ((ur la n cs hl hc ha).mono (λv H q=>?_) (λc H q=>q));rcases q with⟨S',b',h',k,rfl,hk⟩|⟨e,h',_⟩
 ·exact avV
 ·rw[h] at h';cases h'
theorem wL{e:Er}(h:iY la n cs=some (.error e)):gw av 12 [fX la n cs] [.v (.agg [aq 0,aq 0,aq 0,.sl0]),.v (aq e.1),.v (aq e.2)]:=by
 refine lA ((ur la n cs hl hc ha).mono (λv H q=>?_) (λc H q=>q));rcases q with⟨S',b',h',k,rfl,hk⟩|⟨e',h',rfl⟩
 ·rw[h] at h';cases h'
 ·exact ata
end
def j7(la:ao)(loc:Int)(cs:am):Option (Except Er (WS×Bd)):=
 if(iH la loc cs).2=0 then iY la loc.toNat cs else some (.error ((iH la loc cs).1,(iH la loc cs).2))
theorem qM{la:ao}{loc:Int}{cs:am}(ha:il cs)(h:(iH la loc cs).2=0):((loc.toNat:Nat):Int)=loc:=by
 obtain⟨m,hm,_⟩:=tS ha h;omega
theorem pG{la:ao}{loc:Int}{cs:am}(ha:il cs):j7 la loc cs≠none:=by
 unfold j7;split
 ·exact wJ ha
 ·simp
theorem sJ{la:ao}{loc:Int}{cs:am}{e:Er}(h:j7 la loc cs=some (.error e)):e.2≠0:=by
 unfold j7 at h;split at h
 ·exact K3 h
 ·rename_i h0;cases h;exact h0
theorem nP{la:ao}{loc:Int}{cs:am}{S:WS}{b:Bd}(ha:il cs)(h:j7 la loc cs=some (.ok (S,b))):
  (iH la loc cs).2=0/\mZ la loc cs (mW cs S)=0/\ga (mW cs S) (fJ cs).1 0=b.1/\gZ cs (mW cs S) (fJ cs).1 0=b.2/\(0<=b.1/\b.1<=281474976710656)/\0<=b.2/\b.2<=b.1:=by
 unfold j7 at h;split at h
 ·rename_i h0;have:=BQ ha h;rwa [qM ha h0] at this
 ·cases h
theorem yZ(la:ao)(loc:Int)(cs:am)(hl:la.length<=9223372036854775807)(hc:cs.length<=9223372036854775807)(ha:il cs)(h0:(iH la loc cs).2≠0):
  gw av 12 [fX la loc cs] [.v (.agg [aq 0,aq 0,aq 0,.sl0]),.v (aq (iH la loc cs).1),.v (aq (iH la loc cs).2)]:=by
 refine lA (gX aiK ⟨ae,ag⟩ ?_);simp only[fy,fX];refine a7 ?_;refine iR (pJ la loc cs hl hc ha) ?_;refine bE h0 ?_;exact asx
section
variable (la:ao) (loc:Int) (cs:am) (hl:la.length<=9223372036854775807) (hc:cs.length<=9223372036854775807) (ha:il cs)
include hl hc ha
theorem pH{S:WS}{b:Bd}(h:j7 la loc cs=some (.ok (S,b))):gw av 12 [fX la loc cs] [.a (s9 cs S b),.v (aq 0),.v (aq 0)]:=by
 unfold j7 at h;split at h
 ·rename_i h0;have:=wK la loc.toNat cs hl hc ha h;rwa [qM ha h0] at this
 ·cases h
theorem sK{e:Er}(h:j7 la loc cs=some (.error e)):gw av 12 [fX la loc cs] [.v (.agg [aq 0,aq 0,aq 0,.sl0]),.v (aq e.1),.v (aq e.2)]:=by
 unfold j7 at h;split at h
 ·rename_i h0;have:=wL la loc.toNat cs hl hc ha h;rwa [qM ha h0] at this
 ·rename_i h0;cases h;exact yZ la loc cs hl hc ha h0
end
def jI(la:ao)(n:Int)(cs:am)(inputs:Int):Int×Int×Int:=match j7 la n cs with
 |some (.ok (S,b))=>if inputs<0\/65536<inputs then(0,0,2) else if 281474976710657<=fN b.1 (inputs+1) then(0,0,18) else(lQ la n,fN b.1 (inputs+1),0)
 |some (.error e)=>(0,0,e.2)
 |none=>(0,0,0)
theorem Cq(la:ao)(n:Int)(cs:am)(hl:la.length<=9223372036854775807)(hc:cs.length<=9223372036854775807)(ha:il cs)(inputs:Int)(hi:inputs<=65535):
  gw av 10 [fX la n cs,aq inputs] [.v (.agg [aq (jI la n cs inputs).1,aq (jI la n cs inputs).2.1]),.v (aq (jI la n cs inputs).2.2)]:=by
 refine fe fx MB ⟨ae,ag⟩ ?_;simp only[fy,fX];refine dp ?_;cases hv:j7 la n cs with
 |none=>exact absurd hv (pG ha)
 |some R=>
  cases R with
  |error e=>
   have hF:jI la n cs inputs=(0,0,e.2):=by unfold jI;rw[hv]
   have he:=sJ hv;refine gf (sK la n cs hl hc ha hv) ?_;refine dx he ?_;rw[hF];exact aq7
  |ok q=>
   obtain⟨S,b⟩:=q;obtain⟨h0,_,_,_,hb1,hb2⟩:=nP ha hv;refine gf (pH la n cs hl hc ha hv) ?_;simp only[s9];have hfm:fY la n cs=0:=by
    unfold iH at h0;split at h0
    ·assumption
    ·rename_i h1;exact absurd h0 h1
   by_cases i1:inputs<0
   ·have hF:jI la n cs inputs=(0,0,2):=by unfold jI;rw[hv];exact if_pos (.inl i1)
    refine dx i1 ?_;rw[hF];exact aq7
   by_cases i2:65536<inputs
   ·omega
   have wi:IntKind.i64.wrap (inputs+1)=inputs+1:=ff aa;have hF:jI la n cs inputs=if 281474976710657<=fN b.1 (inputs+1) then(0,0,18) else(lQ la n,fN b.1 (inputs+1),0):=by
    unfold jI;rw[hv];exact if_neg aa
   refine dG (aU i1 i2) ?_;refine gf (pR la n cs hl hc ha) ?_;rw[hfm,if_pos rfl];refine dx wi ?_;refine gf (F:=[aq b.1,aq (inputs+1)]) (uv b.1 (inputs+1) aa aa) ?_;refine du wi ?_;refine gf (F:=[aq (fN b.1 (inputs+1))]) (oS _) ?_;by_cases i3:281474976710657<=fN b.1 (inputs+1)
   ·exact avW
   ·exact avX
theorem tH(a b:Int):uk 9 (.st [(0,1,.n),(1,1,.n)]) (.agg [aq a,aq b]) (.agg [aq a,aq b])=some true:=by
 simp[uk,CU,xy,SH.row,aa9]
theorem xp{s e h:Int}{li:List l5}{M:List Nat}{H:AH}{k n:Nat}(hn:n=li.length)(hL:Gr li)(hm:k ∈ M){x:AB}(hk:H.at k=some x)(hz:n*3<=x.size)(hg:∀i j,i<n->j<3->x.get (i*3+j)=vI li i j):
  Cv M H (.agg [aq s,aq e,aq h,.os k n]) (vu s e h li):=by
 subst hn;refine .agg rfl λi v v' h1 h2=>?_;rcases i with _|_|_|_|i<;>cases h1<;>cases h2
 ·exact .rfl rfl
 ·exact .rfl rfl
 ·exact .rfl rfl
 ·refine .os hm hk hz hg (λi j hi hj=>?_);have hj3:j=0\/j=1\/j=2:=aa;rcases hj3 with rfl|rfl|rfl
  ·rfl
  ·rfl
  ·have:abd (vI li i 2):=hL _ (by rw[apd,apk hi];exact ap2 hi)
   rcases this with h|⟨n,r,h⟩<;>rw[h]<;>rfl
theorem DY{s e h:Int}{li:List l5}{M:List Nat}{H:AH}{k n z:Nat}{row:Nat->Nat->AV}(hn:n=li.length)(hr:∀i j,i<n->j<3->row i j=vI li i j)(hL:Gr li)(hm:k ∈ M){x:AB}(hk:H.at k=some x)(hz:x.size=(fg 48 3 n z row).size)(hg:x.get=(fg 48 3 n z row).get):
  Cv M H (.agg [aq s,aq e,aq h,.os k n]) (vu s e h li):=
 xp hn hL hm hk (by rw[hz];exact bL _) (λi j hi hj=>by rw[hg,<-hr i j hi hj];exact fI i j hj)
section
variable (la:ao) (m:Nat) (cs:am) (ob:Nat->Option OB)
theorem Mg{n:Nat}{g:FuncId}{args args2:List AV}{e:Tr AV}{H:AH}{L:List (Nat×AV)}{bl2:List AB}{Q':AV->AH->Prop}{Q:AV->Tr AV->AH->Prop}{E:List PanicEntry->AH->Prop}(pt:List Int)(Lc:AV)(hLc:Lc.nm (λb=>decide (b<4)) 3=true)(ρ M:List Nat)
  (h:PC av fV g args2 (ft ob (uo la m cs Lc)) Q' (λ_ _=>False))
  (he:iT (λb2=>ρ.reverse[b2]?) M H e L) (hh:ig (λb2=>ρ.reverse[b2]?) M H ρ (bl2++uo la m cs Lc)) (hv:Gk (λb2=>ρ.reverse[b2]?) M H args args2) (hob:∀r x,ob r=some x->H.ob r=some x)
  (hl:bl2.length<1000) (ha:args2.all (AV.nm (λb=>decide (b<4)) 3)=true) (hL:(L.all λp=>decide (p.1<1000000)&&p.2.nm (λb=>fV b||decide (4<=b)) 3)=true) (h2:BN (λb=>fV b||decide (4<=b)) bl2)
  (hQ:∀v H',Q' v H'->∃(S':WS) (er':Er),H'=ft ob (aH la (m:Int) cs pt S' er')/\Q v (fu L) (ft ob (bl2++aH la (m:Int) cs pt S' er'))):jr av n (λ_=>false) g args e H Q E:=by
 have hlen:(bl2++uo la m cs Lc).length<1000000:=by rw[ape];simp only[uo,List.length_cons,List.length_nil];omega
 refine pX ρ M he hh hv hob hlen (λb hb=>by cases hb) ?_
 have hfr:jr av n (λb=>fV b||decide (4<=b)) g args2 (fu L) (ft ob (bl2++uo la m cs Lc)) Q E:=
  oQ (bl1:=uo la m cs Lc) (e2:=fu L) h hlen (λx hx=>by simp only[uo,apv,aqh,or_false] at hx;rcases hx with rfl|rfl|rfl|rfl<;>rfl) (λb hb=>by have:=of_decide_eq_true hb;show b<4;omega)
   (λb x hb hx=>kP (bl:=uo la m cs Lc) (by simp[uo]) af b x hb (by rw[qN] at hx;exact hx)) ha
   (λb x _ hx=>(BN.cons (.row ag (λi j _ _=>rfl)) (.cons (.row ag (λi j _ _=>E5 _ _ i j)) (.cons (.row ag (λi j _ _=>DL _ _ i j)) (.cons (.lst (by simp[aW]) (by simp[aW,AV.nm,hLc])) .nil))):BN (λb=>decide (b<4)) (uo la m cs Lc)) x (nr _ b x (by simp[uo]) hx))
   (λb x hb hx=>h2 x (lF bl2 _ b x hlen hb hx)) ⟨λt v hv=>hv,yQ.nm hL⟩
   (λv H' q=>by
    obtain⟨S',er',rfl,q2⟩:=hQ v H' q;exact⟨ob,_,rfl,rfl,q2⟩) (λc H' hc=>hc.elim)
 refine⟨hfr.1,λB σ a w args' hEn hH ha'=>(hfr.2 B σ a w args' hEn hH ha').mono λen w' hp=>?_⟩;cases en with
 |returned u=>
  obtain⟨v,e',H',σ',r0,r1,r2,r3,r4⟩:=hp;exact⟨v,e',H',σ',r0,r1,r2,r3,r4.sub (λb hb=>by cases hb)⟩
 |panicked c=>exact hp
 |outgrown=>exact hp.elim
end
theorem vz(la:ao)(n:Nat)(cs:am)(hl:la.length<=9223372036854775807)(hc:cs.length<=9223372036854775807)(ha:il cs):
  PC av (λ_=>false) 25 [fX la n cs] (ft (λ_=>none) [])
   (λv H'=>(∃(S:WS) (b:Bd),iY la n cs=some (.ok (S,b))/\∃k,v= .tup [.agg [aq b.1,aq b.2,aq S.ht,.os k (gc S.lp cs.length).length],aq 0,aq 0]/\H'.at k=some (fg 48 3 (gc S.lp cs.length).length 0 (kR (gc S.lp cs.length))))\/
    (∃e:Er,iY la n cs=some (.error e)/\v= .tup [.agg [aq 0,aq 0,aq 0,.sl0],aq e.1,aq e.2]))
   (λ_ _=>False):=by
 refine gX Dt ⟨ae,ag⟩ ?_;simp only[fy,fX];refine a7 ?_;refine iR (qm la n cs hl hc ha) ?_;by_cases h0:(iH la n cs).2=0;rotate_left
 ·refine bE h0 ?_;exact .inr ⟨((iH la n cs).1,(iH la n cs).2),if_neg h0,rfl⟩
 obtain⟨m,hm,hn,hK,o,pt0,hr,hpo⟩:=tS ha h0;obtain rfl:n=m:=aa;have hcs:=hK.len;obtain⟨out,hsc1,_,hgo⟩:∃out,lh cs= .ok out/\out.length=cs.length/\fM cs out o 0 cs.length:=by have k:=rd cs;rw[hr] at k;exact k
 obtain⟨pt,hpf,hpt,hg⟩:∃pt,jf cs=(pt,0,0)/\pt.length=cs.length/\fM cs pt o 0 cs.length:=by
  rcases pO cs with⟨a,e,he,_,h2⟩|⟨out',o',h1,h2,_,h4,h5⟩
  ·exact absurd ((tR h0).1) (by rw[h2];exact he)
  ·rw[h2] at hpo;dsimp only at hpo;subst hpo;exact⟨out',h1,h4,h5⟩
 have hV:iY la n cs=mI cs la n o:=by unfold iY;rw[if_pos h0,hpo]
 have hW0:WF n (S0 n):=⟨⟨apK,λx hx=>by rw[(aqg.1 hx).2];exact rQ⟩,λv hv=>(by cases hv),λl hl=>(by cases hl)⟩
 (try simp only[h0,ne_eq,not_true_eq_false,decide_true,decide_false,Bool.not_true,go_sem,simprocAttr])
 iterate 6 (with_reducible refine GE.go fx rfl ?_;try simp only[h0,ne_eq,not_true_eq_false,decide_true,decide_false,Bool.not_true,go_sem,simprocAttr])
 refine GE.wk ((gA.nilc 2 11 3 244 (x:=?x1) ?hx1 ?hi1 ag ag ?hlv1 ?hv1 ?hn1).trans (gA.mkO (ob:=λ_=>none) (L:=[(2,.p 3 0),(7,.p 0 0)]) (bl:=[eZ 0 38 [aq 0,aq 0,aq 0,.sl0],eZ 0 25 [.fs 2 la.length (pA la),aq n,.fs 2 cs.length (pI cs)],fg 244 3 0 0 (sC []),eZ 0 109 [.fs 2 la.length (pA la),aq n,.fs 2 cs.length (pI cs),.sl0,.b false,aq 0,aq 0,aq 0,.sl0,.sl0,.sl0,.os 1 0,aq 0,.sl0,aq 0,aq 0]]) [1,0,3,2] [] ?wa1 ?wb1 ae (λr x h=>by cases h) (λb hb=>by cases hb))) ?_
 case hx1=>simp only[go_sem,simprocAttr]<;>rfl
 case hi1=>show 11<16;decide
 case hlv1=>rfl
 case hv1=>simp only[go_sem,simprocAttr]
 case hn1=>simp only[go_sem,simprocAttr]<;>decide
 case wa1=>
  simp only[iT,ig,go_sem,simprocAttr]
  repeat' refine fE ?_ ?_
  all_goals first|exact jQ|skip
 case wb1=>exact bb
 refine GE.wk ((gA.nilc 0 9 3 48 (x:=?x2) ?hx2 ?hi2 ag ag ?hlv2 ?hv2 ?hn2).trans (gA.mkO (ob:=λ_=>none) (L:=[(2,.p 4 0),(7,.p 0 0)]) (bl:=[eZ 0 38 [aq 0,aq 0,aq 0,.sl0],eZ 0 25 [.fs 2 la.length (pA la),aq n,.fs 2 cs.length (pI cs)],fg 48 3 0 0 (kR []),fg 244 3 0 0 (sC []),eZ 0 109 [.fs 2 la.length (pA la),aq n,.fs 2 cs.length (pI cs),.sl0,.b false,aq 0,aq 0,aq 0,.sl0,.os 2 0,.sl0,.os 1 0,aq 0,.sl0,aq 0,aq 0]]) [3,2,4,1,0] [] ?wa2 ?wb2 ae (λr x h=>by cases h) (λb hb=>by cases hb))) ?_
 case hx2=>simp only[go_sem,simprocAttr]<;>rfl
 case hi2=>show 9<16;decide
 case hlv2=>rfl
 case hv2=>simp only[go_sem,simprocAttr]
 case hn2=>simp only[go_sem,simprocAttr]<;>decide
 case wa2=>
  simp only[iT,ig,go_sem,simprocAttr]
  repeat' refine fE ?_ ?_
  all_goals first|exact jQ|skip
 case wb2=>exact bb
 refine GE.wk ((gA.nilc 0 13 1 46 (x:=?x3) ?hx3 ?hi3 ag ag ?hlv3 ?hv3 ?hn3).trans (gA.mkO (ob:=λ_=>none) (L:=[(2,.p 5 0),(7,.p 0 0)]) (bl:=[eZ 0 38 [aq 0,aq 0,aq 0,.sl0],eZ 0 25 [.fs 2 la.length (pA la),aq n,.fs 2 cs.length (pI cs)]]++uo la n cs .sl0) [4,3,5,2,1,0] [] ?wa3 ?wb3 (by simp[uo]) (λr x h=>by cases h) (λb hb=>by cases hb))) ?_
 case hx3=>simp only[go_sem,simprocAttr]<;>rfl
 case hi3=>show 13<16;decide
 case hlv3=>rfl
 case hv3=>simp only[go_sem,simprocAttr]
 case hn3=>simp only[go_sem,simprocAttr]<;>decide
 case wa3=>
  simp only[iT,ig,go_sem,simprocAttr]
  repeat' refine fE ?_ ?_
  all_goals first|exact jQ|skip
 case wb3=>exact bb
 simp only[uo,aW,List.cons_append,List.nil_append];refine a7 ?_;refine Mg la n cs (λ_=>none) (args2:=[.p 0 0]) (L:=[(2,.p 5 0),(7,.p 0 0)]) (bl2:=[eZ 0 38 [aq 0,aq 0,aq 0,.sl0],eZ 0 25 [.fs 2 la.length (pA la),aq n,.fs 2 cs.length (pI cs)]]) pt .sl0 rfl [5,4,3,2,1,0] [] (BF la n cs (λ_=>none) hn hK o pt hpf hpt hg) ?_ ?_ ?_ ?_ ae af af (.cons .lq (.cons .lq .nil)) ?_
 ·exact fK
 ·exact bb
 ·exact⟨Wv.p rfl,trivial⟩
 ·intro r x h;cases h
 rintro v' H' ⟨S2,b2,er2,rfl,rfl,hb2,hj2,hx⟩;refine⟨S2,er2,rfl,?_⟩;simp only[aH,aL,List.cons_append,List.nil_append,jo];rcases hx with⟨hA,rfl⟩|⟨hA,hne⟩
 ·by_cases hb:b2.1>281474976710656
  ·have hV2:iY la n cs=some (.error (0,18)):=by rw[hV];unfold mI;rw[hA];exact if_neg aa
   refine bE hb ?_;exact .inr ⟨(0,18),hV2,rfl⟩
  ·have hV2:iY la n cs=some (.ok (S2,b2)):=by rw[hV];unfold mI;rw[hA];exact if_pos aa
   refine bE hb ?_;have hcF:fO cs la o 0 0 (S0 n) (0,0)=some (.ok (S2,b2)):=by
    unfold mP at hA;split at hA
    ·cases hA
    ·cases hA
    ·rename_i hc1;split at hA<;>cases hA;exact hc1
   have hlo:=hj2.2.2.2;have hN:=FY (Al hsc1) hK.arg hgo hcF hW0 hlo;refine qV [2] (fargs:=[.fs 3 S2.lp.length (kR S2.lp)]) (.cons (Cv.ownb (ty:=48) (z:=0) ai (λi j _ _=>nj _ i j) ae) .nil) (xg S2.lp hlo cs.length hN aa) ?_ ?_
   ·exact arT
   refine a7 ?_;exact .inl ⟨S2,b2,hV2,7,rfl,rfl⟩
 ·obtain⟨p,e⟩:=er2;have hV2:iY la n cs=some (.error (p,e)):=by rw[hV];unfold mI;rw[hA]
  have hne':e≠0:=hne;refine a7 ?_;refine⟨λ_=>?_,λh=>absurd hne' (by simpa using h)⟩
  with_reducible refine GE.go fx rfl ?_
  refine ba ?_;refine GE.mixm fx 5 ed ?_
  refine ba ?_
  try refine(And.intro ag ?_)
  refine a7 ?_;exact .inr ⟨(p,e),hV2,rfl⟩
theorem anE{i:Nat}(h:i<2):i=0\/i=1:=aa
theorem avC{i:Nat}(h:i<5):i=0\/i=1\/i=2\/i=3\/i=4:=aa
def mO:List (Int×Int):=[(0,10),(29,0),(1,0),(6,0),(31,0)]
theorem ye:mO.length=5:=rfl
theorem yd:gw av 20 [] [.v (fX [] 1 mO)]:=by
 refine sB rfl (fe fx auV ⟨ae,ag⟩ ?_);simp only[fy];refine dp ?_;refine⟨[1],.agg rfl λi v v' h1 h2=>?_⟩;rcases i with _|_|_|i<;>cases h1<;>cases h2
 ·exact .sl0 2 (pA [])
 ·exact .rfl rfl
 ·refine .sl (x:=_) ae ai ag ag ag (λi j hi hj=>?_) (λi j _ hj=>?_)
  ·rcases anE hj with rfl|rfl<;>(rcases avC hi with rfl|rfl|rfl|rfl|rfl<;>(simp only[go_sem,simprocAttr]<;>rfl))
  ·rcases anE hj with rfl|rfl<;>rfl
theorem uR:il mO:=λi hi=>by
 simp only[mO,apv,aqh,or_false] at hi;rcases hi with rfl|rfl|rfl|rfl|rfl<;>decide
def exR:Option (Int×Int×List (Int×Int)):=match j7 [] 1 mO with
 |some (.ok (S,b))=>some (b.1,b.2,gc S.lp 5)
 |_=>none
theorem aaO:exR=some (32,0,[(1,10)]):=by kernel_rfl
theorem L8:∃(S:WS) (b:Bd),j7 [] 1 mO=some (.ok (S,b))/\b.1=32/\b.2=0/\gc S.lp 5=[(1,10)]:=by
 have h:=aaO;unfold exR at h;split at h
 ·rename_i S b hv;simp only[apn,Prod.mk.injEq] at h;exact⟨S,b,hv,h.1,h.2.1,h.2.2⟩
 ·cases h
theorem CS:pL [] 1 mO [(1,0,.ow)]=(2,0):=by kernel_rfl
theorem L9:fY [] 1 mO=0:=by kernel_rfl
theorem FC:lQ [] 1=196:=by kernel_rfl
theorem aaN:gw av 21 [.agg [aq 5,aq 7],.agg [aq 1,aq 2]] [.v (.agg [aq 6,aq 9])]:=by
 have h:=Mv 5 7 1 2;rw[show xO (vi 5 1) (vi 7 2)= .agg [aq 6,aq 9] from rfl] at h;exact h
theorem Mb:gw av 22 [.agg [aq 5,aq 7],.agg [aq 5,aq 8]] [.v (.b true)]:=yc 5 7 5 8
theorem Ma:gw av 22 [.agg [aq 5,aq 7],.agg [aq 4,aq 100]] [.v (.b false)]:=yc 5 7 4 100
theorem Bo:gw av 9 [] [.v (.b true)]:=by
 obtain⟨S,b,hv,hb1,hb2,hL⟩:=L8;obtain⟨h0,hO,hs,he,_,_⟩:=nP uR hv;have hI:mW mO S=[(1,10,.ow)]:=by
  unfold mW;rw[ye,hL];rfl
 have hS1:=tN [] 1 mO ag ag uR b.1 b.2 S.ht (mW mO S) (by rw[hI];decide) (DZ mO S)
 rw[show pL [] 1 mO (mW mO S)=(32,0) by unfold pL;rw[if_pos hO,hs,hb1];rfl,hI] at hS1
 have hS2:=tN [] 1 mO ag ag uR b.1 b.2 S.ht [(1,0,.ow)] ag (λx hx=> .inl (by rw[apy.1 hx]))
 rw[CS] at hS2;have hM:=pR [] 1 mO ag ag uR;rw[L9,FC,if_pos rfl] at hM;have hLi:=Cq [] 1 mO ag ag uR 3 ag;rw[show jI [] 1 mO 3=(196,128,0) by unfold jI;rw[hv];dsimp only;rw[hb1,FC];rfl] at hLi
 have hV:=pH [] 1 mO ag ag uR hv;unfold s9 at hV;rw[ye,hL] at hV;refine lA (gX avg ⟨ae,ag⟩ ?_);simp only[fy];refine a7 ?_;refine iR yd ?_;simp only[fX];refine a7 ?_;refine iR hV ?_;refine bH ?_;have hsc:∀(x y:Int),∀r ∈ [RT.v (AV.n .i64 x),RT.v (AV.n .i64 y)],gR (λa=>a.sc 3=true) r:=λx y r hr=>by
  simp only[apv,aqh,or_false] at hr;rcases hr with rfl|rfl<;>rfl
 refine nA [1] (fargs:=[fX [] 1 mO,vu b.1 b.2 S.ht [(1,10,.ow)]]) (.cons (.rfl rfl) (.cons (DY (n:=1) (z:=0) (row:=kR [(1,10)]) (x:=fg 48 3 1 0 (kR [(1,10)])) rfl (λi j hi hj=>?_) (λx hx=> .inl (by rw[apy.1 hx])) ae ai rfl rfl) .nil)) hS1 ?_ (hsc _ _) ?_
 ·obtain rfl:i=0:=aa;rcases Ey hj with rfl|rfl|rfl<;>rfl
 ·exact arT
 refine bH ?_;refine pj [1] (fargs:=[fX [] 1 mO,vu b.1 b.2 S.ht [(1,0,.ow)]]) (.cons (.rfl rfl) (.cons (xp (n:=1) (x:=_) rfl (λx hx=> .inl (by rw[apy.1 hx])) ae ai ag (λi j hi hj=>?_)) .nil)) hS2 ?_ ?_
 ·obtain rfl:i=0:=aa;rw[jL ag];rcases Ey hj with rfl|rfl|rfl
  ·rw[if_neg ag];exact fI 0 0 ag
  ·rw[if_pos ag];rfl
  ·rw[if_neg ag];exact fI 0 2 ag
 ·exact arT
 refine bH ?_;refine iR hM ?_;refine bH ?_;refine iR hLi ?_;have w00:IntKind.i64.wrap 0=0:=rfl;refine bK (aU w00 @tH) ?_;refine iR aaN ?_;refine bE @tH ?_;refine iR Mb ?_;refine bE @tH ?_;refine iR Ma ?_;refine bE @tH ?_;exact dU
end Go.Proofs.YtdpkgnmmikebdaaGreat