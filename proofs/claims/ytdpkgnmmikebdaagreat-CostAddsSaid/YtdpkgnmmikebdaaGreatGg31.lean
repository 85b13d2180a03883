/- A part of the proof of CostAdds: VfQ VfR VfU VfV VfW VfX VfY VfZ CrA CrB. No condition. -/
import Derived.ChangeAlike
import Derived.Defers
import Derived.Recover
import Derived.RegionTactic
import Derived.Test.YtdpkgnmmikebdaaGreatGg30
import Derived.Test.YtdpkgnmmikebdaaGreatGg25
import Derived.Test.YtdpkgnmmikebdaaGreatGg26
import Derived.Test.YtdpkgnmmikebdaaGreatGg28
set_option linter.unusedSimpArgs false
set_option linter.unusedVariables false
set_option linter.constructorNameAsVariable false
set_option maxRecDepth 100000
set_option maxHeartbeats 4000000
namespace Go.Proofs.YtdpkgnmmikebdaaGreat
open Go.RowKit
def hJ(q y:Nat)(r:Fo):Fo:=if q+1<y then .pl (q+1) y r else r
theorem kZ(q y:Nat)(r:Fo):(hJ q y r).size<=(Fo.pl q y r).size:=by
 unfold hJ
 split
 ·exact Nat.le_refl _
 ·exact Nat.le_succ _
theorem k8{cs:List (Int×Int)}{out:List Int}{q y b:Nat}{r:Fo}(h:aA cs out (.pl q y r) q b):aA cs out (hJ q y r) (q+1) b:=by
 obtain⟨_,h1,h2,h3,h4⟩:=h
 unfold hJ
 by_cases hq:q+1<y
 ·rw[if_pos hq]
  exact⟨rfl,hq,λk k1 k2=>h2 k (by omega) k2,h3,h4⟩
 ·rw[if_neg hq,show q+1=y by omega]
  exact h4
theorem zZ{cs:List (Int×Int)}{la:List (Bool×Int)}{q y base lp:Nat}{r:Fo}{S:WS}{bd:Bd}(h:q<y):aW cs la (.pl q y r) base lp S bd=(match fu cs la base lp q S with
  |.error e=>some (.error e)
  |.ok (S',z)=>aW cs la (hJ q y r) base lp S' (bA bd z)):=by
 rw[aW,show y-q=(y-(q+1))+1 by omega,g9]
 cases fu cs la base lp q S with
 |error e=>rfl
 |ok w=>
  obtain⟨S',z⟩:=w
  dsimp only
  unfold hJ
  by_cases hq:q+1<y
  ·rw[if_pos hq,aW]
  ·rw[if_neg hq,show y-(q+1)=0 by omega]
   rfl
theorem tp{cs:List (Int×Int)}{la:List (Bool×Int)}{out:List Int}{n x y base lp:Nat}{u v:Fo}{S S':WS}{z:Bd}(hA:kS cs)(hg:aA cs out (.br 27 x y u v .nil) x y)(h:eA cs la x u v base lp S=some (.ok (S',z)))(hW:WF n S)(hS:Sm x S):WF n S'/\Sm y S'/\jf z:=by
 have h0:aW cs la (.br 27 x y u v .nil) base lp S (0,0)=some (.ok (S',bA (0,0) z)):=by rw[nj,if_pos rfl,h];rfl
 refine⟨(aQ hA _ x y base lp hg h0 hW jE).1.wf,ck _ x y base lp hg h0 hS,?_⟩
 obtain⟨_,_,_,⟨m,g1,_,g3,g4,g5⟩,_⟩:=hg
 unfold eA at h
 split at h
 ·cases h
 rename_i l S1 hp
 obtain⟨k1,_⟩:=ce hp hW
 rw[g4.lastB] at h
 split at h
 ·cases h
 ·cases h
 rename_i S2 bx hu
 have m2:=(aQ hA u (x+1) m _ lp g4 hu k1 jE)
 have mx2:=m2.2.nn
 split at h
 rotate_left
 ·cases h
 split at h
 ·rename_i h28
  rcases g5 with⟨_,e,q1,q2,q3,q4,q5⟩|⟨q0,_,_⟩
  rotate_left
  ·exact absurd h28 q0
  split at h
  ·cases h
  ·cases h
  rename_i S4 b4 hv
  have hS3:WF n {S2 with loc:=S1.loc}:=⟨k1.loc,m2.1.wf.st,m2.1.wf.lv⟩
  have n2:=(aQ hA v (m+1) e _ lp q4 hv hS3 jE).2.nn
  split at h
  ·cases h
   exact bf (by unfold aU;constructor<;>dsimp only<;>split<;>omega) kq.nn
  ·cases h
 ·cases h
  exact bf (by unfold aU;constructor<;>dsimp only<;>split<;>omega) kq.nn
theorem yI{cs:List (Int×Int)}{la:List (Bool×Int)}{out:List Int}{n x y base lp:Nat}{u v:Fo}{S S':WS}{z:Bd}(hA:kS cs)(hg:aA cs out (.br 29 x y u v .nil) x y)(h:jX cs la x u base S=some (.ok (S',z)))(hW:WF n S)(hS:Sm x S):WF n S'/\Sm y S'/\jf z:=by
 have h0:aW cs la (.br 29 x y u v .nil) base lp S (0,0)=some (.ok (S',bA (0,0) z)):=by rw[nj,if_neg (by decide),h];rfl
 refine⟨(aQ hA _ x y base lp hg h0 hW jE).1.wf,ck _ x y base lp hg h0 hS,?_⟩
 obtain⟨_,_,_,⟨m,g1,g2,g3,g4,g5⟩,_⟩:=hg
 unfold jX at h
 split at h
 ·cases h
 rename_i l S1 hp
 obtain⟨k1,k2,_⟩:=ce hp hW
 have hmo:=du k2 0
 rw[g4.lastB] at h
 split at h
 rotate_left
 ·cases h
 split at h
 ·cases h
 ·cases h
 rename_i head S2 bx hr
 have hB:iG cs n (x+1) m (λS'=>aW cs la u S1.st.length S1.st.length S' (0,0)):=λS3 S4 b4 h3 h5=>aQ hA u (x+1) m _ _ g4 h3 h5 jE
 obtain⟨m1,m2,m3,m4,m5⟩:=fH hB (by omega) g4.le (Nat.le_refl _) 6 1 S1.loc hr k1 k1.loc
 cases h
 exact bf (iK m3 (by omega)).nn kq.nn
structure rX(la:List (Bool×Int))(n:Nat)(cs:List (Int×Int)):Prop where
 len:cs.length<=1024
 op:∀p,p<cs.length->0<=aj cs p/\aj cs p<=35
 ar:∀p,p<cs.length->aj cs p=3\/aj cs p=4->(cs.getD p (0,0)).2<la.length
 lo:∀p,p<cs.length->aj cs p=1\/aj cs p=2->(cs.getD p (0,0)).2<n
 arg:kS cs
section
variable (la:List (Bool×Int)) (loc:Int) (cs:List (Int×Int)) (pt:List Int) (r:Nat)
theorem vg{la:List (Bool×Int)}{op arg p:Int}{base n:Nat}{S S':WS}{z:Bd}(h:dI la op arg p base S= .ok (S',z))(ha:0<=arg/\arg<=4294967295)(hW:WF n S):S'.lp=S.lp:=by
 unfold dI at h
 split at h
 ·cases h
 rename_i l S1 hp
 obtain⟨k1,k2,_,_,k5⟩:=ce hp hW
 obtain⟨_,_,_,m4,_⟩:=kR h ha k2 k1
 exact m4.trans k5
theorem wJ(n:Nat)(hn:n<1000)(hpt:pt.length=cs.length)(hK:rX la n cs)(o:Fo)(ih:∀u:Fo,u.size<o.size->oP la loc cs pt r n u):oP la loc cs pt r n o:=by
 intro a b base lp S ob hg hb hbase hlp hW hS hM
 have hcs:=hK.len
 have hA:=hK.arg
 refine PC.vw (cI Rr ⟨by simp,by decide⟩ ?_)
 simp only[aH,wH,dB]
 repeat first|with_reducible refine GE.g ?_|simp only[go_sem,simprocAttr]
 refine GE.loop (I:=λmm e H=>∃(rest:Fo) (q:Nat) (Sx:WS) (bd:Bd) (obx:Nat->Option OB),mm=b-q/\aA cs pt rest q b/\rest.size<=o.size/\aW cs la o base lp S (0,0)=aW cs la rest base lp Sx bd/\WF n Sx/\Sm q Sx/\jf bd/\lK r obx Sx.lp/\e=aB [(0,.p 0 0),(2,.n .i64 b),(3,.n .i64 base),(4,.n .i64 lp),(10,.p 3 0),(11,.p 4 0),(12,.n .i64 q)]/\H=az obx ([ae 0 130 [.n .i64 bd.1,.n .i64 bd.2],ae 0 130 [.n .i64 0,.n .i64 0]]++wH la loc cs pt r Sx)) (m:=b-a) (b6.mkO (ob:=ob) [4,3,2,1,0] [] ?_ ?_ ?_ ?_ (aC rfl)) ⟨o,a,S,(0,0),ob,rfl,hg,Nat.le_refl _,rfl,hW,hS,jE,hM,rfl,rfl⟩ ?_
 ·exact ba
 ·exact .cr (.j2) (.cr (.j2) (.cr (.k2 (λ_ _ _ _=>rfl)) (.cr (.k2 (λi j _ _=>aL _ i j)) (.cr .wk .nil))))
 ·simp[wH]
 ·intro r x h
  simp only[go_sem,simprocAttr]
  exact h
 rintro mm e H ⟨rest,q,Sx,bd,obx,rfl,hgr,hsz,hs,hWx,hSx,hbd,hMx,rfl,rfl⟩
 simp only[wH,dB,List.cons_append,List.nil_append]
 have q0:(0:Int)<=(q:Int):=by omega
 have hqb:=hgr.le
 by_cases hq:q<b
 rotate_left
 ·have hqi:¬(q:Int)<(b:Int):=by omega
  have hnil:rest= .nil:=by
   cases rest with
   |nil=>rfl
   |pl x y r'=>obtain⟨rfl,h1,_,_,h4⟩:=hgr;have:=h4.le;omega
   |br op x y u v r'=>obtain⟨rfl,_,_,⟨m,_,g2,g3,_⟩,_⟩:=hgr;omega
  subst hnil
  repeat first|with_reducible refine GE.g ?_|simp only[hqi,decide_false,go_sem,simprocAttr]
  exact wZ (ob:=obx) [2,1,0] [] (gP bd) (wH la loc cs pt r Sx) (.cr (.k2 (λ_ _ _ _=>rfl)) (.cr (.k2 (λi j _ _=>aL _ i j)) (.cr .wk .nil))) (.cv (.rfl rfl)) (by simp[wH]) (λr x h=>by simp only[go_sem,simprocAttr];exact h) (aC rfl) ⟨Sx,bd,obx,hs,rfl,hMx,rfl⟩
 have hqi:(q:Int)<(b:Int):=by omega
 have hqc:(q:Int)<(cs.length:Int):=by omega
 have e0:pI cs q 0= .n .i64 (aj cs q):=rfl
 (try simp only[hqi,decide_true,go_sem,simprocAttr])
 iterate 10 (with_reducible refine GE.go aF rfl ?_;try simp only[hqi,decide_true,go_sem,simprocAttr])
 refine GE.cutP (λe2 H2=>∃(rest':Fo) (q':Nat) (S':WS) (z:Bd) (ob':Nat->Option OB),q<=q'/\q'<b/\WF n S'/\Sm (q'+1) S'/\jf z/\lK r ob' S'.lp/\aA cs pt rest' (q'+1) b/\rest'.size<=o.size/\aW cs la o base lp S (0,0)=aW cs la rest' base lp S' (bA bd z)/\e2=aB [(0,.p 0 0),(2,.n .i64 b),(3,.n .i64 base),(4,.n .i64 lp),(10,.p 3 0),(11,.p 4 0),(12,.n .i64 q'),(13,.p 5 0)]/\H2=az ob' ([ae 0 130 [.n .i64 z.1,.n .i64 z.2],ae 0 130 [.n .i64 bd.1,.n .i64 bd.2],ae 0 130 [.n .i64 0,.n .i64 0]]++wH la loc cs pt r S')) ?_ ?_
 rotate_left
 ·rintro e2 H2 ⟨rest',q',S',z,ob',f1,f2,f3,f4,f5,f6,f7,f8,f9,rfl,rfl⟩
  simp only[wH,dB,List.cons_append,List.nil_append]
  have wq:IntKind.i64.wrap ((q':Int)+1)=((q'+1:Nat):Int):=(am (by omega)).trans (by omega)
  repeat first|with_reducible refine GE.g ?_|simp only[go_sem,simprocAttr]
  refine dd ([gP bd,gP z]) (iJ bd z hbd f5) ?_
  simp only[gP]
  repeat first|with_reducible refine GE.g ?_|simp only[wq,go_sem,simprocAttr]
  refine⟨b-(q'+1),_,_,by omega,b6.mkO (ob:=ob') (L:=[(0,.p 0 0),(2,.n .i64 b),(3,.n .i64 base),(4,.n .i64 lp),(10,.p 3 0),(11,.p 4 0),(12,.n .i64 ((q'+1:Nat)))]) (bl:=[ae 0 130 [.n .i64 (bA bd z).1,.n .i64 (bA bd z).2],ae 0 130 [.n .i64 0,.n .i64 0]]++wH la loc cs pt r S') [4,3,2,1,0] [] ?_ ?_ ?_ ?_ (aC rfl),rest',q'+1,S',bA bd z,ob',rfl,f7,f8,f9,f3,f4,CG hbd f5,f6,rfl,rfl⟩
  ·exact ba
  ·exact .cr (.j2) (.cr (.j2) (.cr (.k2 (λ_ _ _ _=>rfl)) (.cr (.k2 (λi j _ _=>aL _ i j)) (.cr .wk .nil))))
  ·simp[wH]
  ·intro r x h
   simp only[go_sem,simprocAttr]
   exact h
 have hcl:b<=1024:=by omega
 cases rest with
 |nil=>have:q=b:=hgr;omega
 |pl x y r'=>
  have hgr2:=hgr
  obtain⟨hx,h1,h2,h3,h4⟩:=hgr2
  have hx':=hx.symm
  subst hx'
  rw[zZ h1] at hs
  have hyb:=h4.le
  obtain⟨n27,n29,n28,n31⟩:=h2 q (Nat.le_refl _) h1
  by_cases h30:aj cs q=30
  ·repeat first|with_reducible refine GE.g ?_|simp only[q0,hqc,e0,h30,Int.toNat_natCast,decide_true,decide_false,go_sem,simprocAttr]
   refine bi la loc cs pt r obx (args2:=[.p 0 0,.n .i64 q,.n .i64 base,.s ⟨#[116]⟩]) (L:=[(0,.p 0 0),(2,.n .i64 b),(3,.n .i64 base),(4,.n .i64 lp),(10,.p 3 0),(11,.p 4 0),(12,.n .i64 q),(13,.p 5 0)]) (bl2:=[ae 0 130 [.n .i64 0,.n .i64 0],ae 0 130 [.n .i64 bd.1,.n .i64 bd.2],ae 0 130 [.n .i64 0,.n .i64 0]]) Sx [5,4,3,2,1,0] [] (pe la loc cs pt r obx q base [116] (by simp) (by omega) Sx (by have:=hSx.st;omega)) ?_ ?_ ?_ ?_ (by simp) rfl (by rfl) (by rfl) (.cons .lq (.cons .lq (.cons .lq .nil))) ?_ ?_
   ·exact ba
   ·exact .cr (.j2) (.cr (.j2) (.cr (.j2) (.cr (.k2 (λ_ _ _ _=>rfl)) (.cr (.k2 (λi j _ _=>aL _ i j)) (.cr .wk .nil)))))
   ·exact⟨Wv.p rfl,Wv.n rfl,Wv.n rfl,Wv.same rfl,trivial⟩
   ·intro r x h
    simp only[go_sem,simprocAttr]
    exact h
   ·rintro v' H' ⟨l,S1,hp,rfl,rfl⟩
    refine⟨S1,obx,rfl,?_⟩
    simp only[wH,dB,List.cons_append,List.nil_append]
    obtain⟨w1,w2,w3,w4,w5⟩:=ce hp hWx
    have s1:=gi hp hSx
    have hlvl:=ij la loc cs pt r obx q lp S1 (by have:=s1.st;omega)
    repeat first|with_reducible refine GE.g ?_|simp only[go_sem,simprocAttr]
    refine bi la loc cs pt r obx (args2:=[.p 0 0,.n .i64 q,.n .i64 lp]) (L:=[(0,.p 0 0),(2,.n .i64 b),(3,.n .i64 base),(4,.n .i64 lp),(10,.p 3 0),(11,.p 4 0),(12,.n .i64 q),(13,.p 5 0)]) (bl2:=[ae 0 130 [.n .i64 0,.n .i64 0],ae 0 130 [.n .i64 bd.1,.n .i64 bd.2],ae 0 130 [.n .i64 0,.n .i64 0]]) S1 [5,4,3,2,1,0] [] (hlvl) ?_ ?_ ?_ ?_ (by simp) rfl (by rfl) (by rfl) (.cons .lq (.cons .lq (.cons .lq .nil))) ?_ ?_
    ·exact ba
    ·exact .cr (.j2) (.cr (.j2) (.cr (.j2) (.cr (.k2 (λ_ _ _ _=>rfl)) (.cr (.k2 (λi j _ _=>aL _ i j)) (.cr .wk .nil)))))
    ·exact⟨Wv.p rfl,Wv.n rfl,Wv.n rfl,trivial⟩
    ·intro r x h
     simp only[go_sem,simprocAttr]
     exact h
    ·rintro v' H' ⟨hl,rfl,rfl⟩
     refine⟨S1,obx,rfl,?_⟩
     simp only[wH,dB,List.cons_append,List.nil_append]
     have hl2:S1.st.length=lp:=by
      unfold lF at hl
      split at hl
      ·assumption
      ·cases hl
     have hst:fu cs la base lp q Sx= .ok ({S1 with lv:=S1.lv++[S1.loc]},(1,0)):=by unfold fu;rw[if_pos h30,hp];exact if_pos hl2
     obtain⟨c1,c3⟩:=iL hst hA hWx
     have c2:=oX hst hSx
     rw[hst] at hs
     have hlvl:=s1.lv
     have hap:(S1.lv.length+1<1099511627776/\(S1.lv.length+1)*24<=140737488355328)/\S1.lv.length<=9223372036854775806:=⟨⟨by omega,by omega⟩,by omega⟩
     repeat first|with_reducible refine GE.g ?_|simp only[hap,Nat.mul_one,go_sem,simprocAttr]
     refine⟨_,_,b6.mkO (ob:=obx) (L:=[(0,.p 0 0),(2,.n .i64 b),(3,.n .i64 base),(4,.n .i64 lp),(10,.p 3 0),(11,.p 4 0),(12,.n .i64 (q:Nat)),(13,.p 5 0)]) (bl:=[ae 0 130 [.n .i64 1,.n .i64 0],ae 0 130 [.n .i64 bd.1,.n .i64 bd.2],ae 0 130 [.n .i64 0,.n .i64 0]]++wH la loc cs pt r {S1 with lv:=S1.lv++[S1.loc]}) [5,4,3,7,1,0] [] ?_ ?_ ?_ ?_ (aC rfl),(hJ q y r'),q,{S1 with lv:=S1.lv++[S1.loc]},(1,0),obx,Nat.le_refl _,by omega,c1.wf,c2,c3,by rw[w5];exact hMx,(k8 hgr),(Nat.le_trans (kZ q y r') hsz),hs,rfl,rfl⟩
     ·exact ba
     ·exact by simp only[wH,dB,List.length_append,List.length_cons,List.length_nil];exact .cr (.j2) (.cr (.j2) (.cr (.j2) (.cr (.snoc (n:=S1.lv.length) (row:=vD S1.lv) (l:=[.fs 2 S1.loc.length (vC S1.loc)]) (by simp only[go_sem,simprocAttr]<;>rfl) (by simp) rfl rfl (by decide) (by omega) (λi j hi _=>by simp only[vD,List.getD_eq_getElem?_getD,List.getElem?_append_left hi]) (λj hj=>by cases Nat.lt_one_iff.1 hj;simp[vD,List.getD_eq_getElem?_getD]) (λi j _ _=>rfl)) (.cr (.k2 (λi j _ _=>aL _ i j)) (.cr .wk .nil)))))
     ·simp[wH]
     ·intro r x h
      simp only[go_sem,simprocAttr]
      exact h
    ·rintro c H' ⟨e,he,rfl⟩
     refine⟨e,?_,rfl⟩
     unfold lF at he
     split at he
     ·cases he
     ·rename_i hne
      cases he
      have hst:fu cs la base lp q Sx= .error ((q:Int),14):=by unfold fu;rw[if_pos h30,hp];exact if_neg hne
      rw[hs,hst]
   ·rintro c H' ⟨e,he,rfl⟩
    refine⟨e,?_,rfl⟩
    have hst:fu cs la base lp q Sx= .error e:=by unfold fu;rw[if_pos h30,he]
    rw[hs,hst]
  ·have hop:=hK.op q (by omega)
   have hpl:=xW la loc cs pt r obx hcs q (by omega) base (by omega) Sx hSx hWx.st (by unfold VH;omega) (hA q) (hK.ar q (by omega)) (λh=>by rw[hWx.loc.1];exact hK.lo q (by omega) h) (by rw[hWx.loc.1];omega)
   repeat first|with_reducible refine GE.g ?_|simp only[q0,hqc,e0,n27,n29,h30,Int.toNat_natCast,decide_false,go_sem,simprocAttr]
   refine bi la loc cs pt r obx (args2:=[.p 0 0,.n .i64 q,.n .i64 base]) (L:=[(0,.p 0 0),(2,.n .i64 b),(3,.n .i64 base),(4,.n .i64 lp),(10,.p 3 0),(11,.p 4 0),(12,.n .i64 q),(13,.p 5 0)]) (bl2:=[ae 0 130 [.n .i64 0,.n .i64 0],ae 0 130 [.n .i64 bd.1,.n .i64 bd.2],ae 0 130 [.n .i64 0,.n .i64 0]]) Sx [5,4,3,2,1,0] [] (hpl) ?_ ?_ ?_ ?_ (by simp) rfl (by rfl) (by rfl) (.cons .lq (.cons .lq (.cons .lq .nil))) ?_ ?_
   ·exact ba
   ·exact .cr (.j2) (.cr (.j2) (.cr (.j2) (.cr (.k2 (λ_ _ _ _=>rfl)) (.cr (.k2 (λi j _ _=>aL _ i j)) (.cr .wk .nil)))))
   ·exact⟨Wv.p rfl,Wv.n rfl,Wv.n rfl,trivial⟩
   ·intro r x h
    simp only[go_sem,simprocAttr]
    exact h
   ·rintro v' H' ⟨S',z,hz,rfl,rfl⟩
    refine⟨S',obx,rfl,?_⟩
    simp only[wH,dB,List.cons_append,List.nil_append,gP]
    have hst:fu cs la base lp q Sx= .ok (S',z):=by unfold fu;rw[if_neg h30];exact hz
    obtain⟨c1,c3⟩:=iL hst hA hWx
    have c2:=oX hst hSx
    have c4:S'.lp=Sx.lp:=vg hz (hA q) hWx
    rw[hst] at hs
    repeat first|with_reducible refine GE.g ?_|simp only[go_sem,simprocAttr]
    refine⟨_,_,b6.mkO (ob:=obx) (L:=[(0,.p 0 0),(2,.n .i64 b),(3,.n .i64 base),(4,.n .i64 lp),(10,.p 3 0),(11,.p 4 0),(12,.n .i64 (q:Nat)),(13,.p 5 0)]) (bl:=[ae 0 130 [.n .i64 z.1,.n .i64 z.2],ae 0 130 [.n .i64 bd.1,.n .i64 bd.2],ae 0 130 [.n .i64 0,.n .i64 0]]++wH la loc cs pt r S') [5,4,3,2,1,0] [] ?_ ?_ ?_ ?_ (aC rfl),(hJ q y r'),q,S',z,obx,Nat.le_refl _,by omega,c1.wf,c2,c3,by rw[c4];exact hMx,(k8 hgr),(Nat.le_trans (kZ q y r') hsz),hs,rfl,rfl⟩
    ·exact ba
    ·exact .cr (.j2) (.cr (.j2) (.cr (.j2) (.cr (.k2 (λ_ _ _ _=>rfl)) (.cr (.k2 (λi j _ _=>aL _ i j)) (.cr .wk .nil)))))
    ·simp[wH]
    ·intro r x h
     simp only[go_sem,simprocAttr]
     exact h
   ·rintro c H' ⟨e,he,rfl⟩
    refine⟨e,?_,rfl⟩
    have hst:fu cs la base lp q Sx= .error e:=by unfold fu;rw[if_neg h30];exact he
    rw[hs,hst]
 |br op x y u v r'=>
  obtain⟨hx,hop,hopv,⟨m,g1,g2,g3,g4,g5⟩,hgr⟩:=hgr
  have hx':=hx.symm
  subst hx'
  have hyb:=hgr.le
  simp only[Fo.size] at hsz
  have hmy:m<y/\1<=y:=by rcases g5 with⟨_,e,_,q2,_,_,q5⟩|⟨_,_,q2⟩<;>omega
  have hqy:q<y:=by have:=g2.1;omega
  have hgN:aA cs pt (.br op q y u v .nil) q y:=⟨rfl,hop,hopv,⟨m,g1,g2,hmy.1,g4,by
   rcases g5 with⟨p0,e,p1,p2,p3,p4,p5⟩|p
   ·exact .inl ⟨p0,e,p1,p2,by omega,p4,p5⟩
   ·exact .inr p⟩,rfl⟩
  rw[nj] at hs
  rcases hopv with h27|h29
  ·subst h27
   rw[if_pos rfl] at hs
   have hch:=wK la loc cs pt r n hn hcs hpt hA q y u v base lp Sx obx (ih u (by omega)) (ih v (by omega)) hgN (by omega) hbase hlp hWx hSx hMx
   repeat first|with_reducible refine GE.g ?_|simp only[q0,hqc,e0,hop,Int.toNat_natCast,decide_true,go_sem,simprocAttr]
   refine bi la loc cs pt r obx (args2:=[.p 0 0,.n .i64 q,.n .i64 base,.n .i64 lp]) (L:=[(0,.p 0 0),(2,.n .i64 b),(3,.n .i64 base),(4,.n .i64 lp),(10,.p 3 0),(11,.p 4 0),(13,.p 5 0)]) (bl2:=[ae 0 130 [.n .i64 0,.n .i64 0],ae 0 130 [.n .i64 bd.1,.n .i64 bd.2],ae 0 130 [.n .i64 0,.n .i64 0]]) Sx [5,4,3,2,1,0] [] (hch) ?_ ?_ ?_ ?_ (by simp) rfl (by rfl) (by rfl) (.cons .lq (.cons .lq (.cons .lq .nil))) ?_ ?_
   ·exact ba
   ·exact .cr (.j2) (.cr (.j2) (.cr (.j2) (.cr (.k2 (λ_ _ _ _=>rfl)) (.cr (.k2 (λi j _ _=>aL _ i j)) (.cr .wk .nil)))))
   ·exact⟨Wv.p rfl,Wv.n rfl,Wv.n rfl,Wv.n rfl,trivial⟩
   ·intro r x h
    simp only[go_sem,simprocAttr]
    exact h
   ·rintro v' H' ⟨S',z,ob',hz,rfl,hM',rfl⟩
    refine⟨S',ob',rfl,?_⟩
    simp only[wH,dB,List.cons_append,List.nil_append,gP]
    obtain⟨c1,c2,c3⟩:=tp hA hgN hz hWx hSx
    rw[hz] at hs
    repeat first|with_reducible refine GE.g ?_|simp only[go_sem,simprocAttr]
    refine⟨_,_,b6.mkO (ob:=ob') (L:=[(0,.p 0 0),(2,.n .i64 b),(3,.n .i64 base),(4,.n .i64 lp),(10,.p 3 0),(11,.p 4 0),(12,.n .i64 ((y-1):Nat)),(13,.p 5 0)]) (bl:=[ae 0 130 [.n .i64 z.1,.n .i64 z.2],ae 0 130 [.n .i64 bd.1,.n .i64 bd.2],ae 0 130 [.n .i64 0,.n .i64 0]]++wH la loc cs pt r S') [5,4,3,2,1,0] [] ?_ ?_ ?_ ?_ (aC rfl),r',(y-1),S',z,ob',by omega,by omega,c1,by rw[show y-1+1=y by omega];exact c2,c3,hM',(by rw[show y-1+1=y by omega];exact hgr),(by omega),hs,rfl,rfl⟩
    ·exact ba
    ·exact .cr (.j2) (.cr (.j2) (.cr (.j2) (.cr (.k2 (λ_ _ _ _=>rfl)) (.cr (.k2 (λi j _ _=>aL _ i j)) (.cr .wk .nil)))))
    ·simp[wH]
    ·intro r x h
     simp only[go_sem,simprocAttr]
     exact h
   ·rintro c H' ⟨e,he,rfl⟩
    refine⟨e,?_,rfl⟩
    rw[hs,he]
    rfl
  ·subst h29
   rw[if_neg (by decide)] at hs
   have hch:=nL la loc cs pt r n hn hcs hpt hA q y u v base Sx obx (ih u (by omega)) hgN (by omega) hbase hWx hSx hMx
   repeat first|with_reducible refine GE.g ?_|simp only[q0,hqc,e0,hop,Int.toNat_natCast,decide_true,decide_false,go_sem,simprocAttr]
   refine bi la loc cs pt r obx (args2:=[.p 0 0,.n .i64 q,.n .i64 base]) (L:=[(0,.p 0 0),(2,.n .i64 b),(3,.n .i64 base),(4,.n .i64 lp),(10,.p 3 0),(11,.p 4 0),(13,.p 5 0)]) (bl2:=[ae 0 130 [.n .i64 0,.n .i64 0],ae 0 130 [.n .i64 bd.1,.n .i64 bd.2],ae 0 130 [.n .i64 0,.n .i64 0]]) Sx [5,4,3,2,1,0] [] (hch) ?_ ?_ ?_ ?_ (by simp) rfl (by rfl) (by rfl) (.cons .lq (.cons .lq (.cons .lq .nil))) ?_ ?_
   ·exact ba
   ·exact .cr (.j2) (.cr (.j2) (.cr (.j2) (.cr (.k2 (λ_ _ _ _=>rfl)) (.cr (.k2 (λi j _ _=>aL _ i j)) (.cr .wk .nil)))))
   ·exact⟨Wv.p rfl,Wv.n rfl,Wv.n rfl,trivial⟩
   ·intro r x h
    simp only[go_sem,simprocAttr]
    exact h
   ·rintro v' H' ⟨S',z,ob',hz,rfl,hM',rfl⟩
    refine⟨S',ob',rfl,?_⟩
    simp only[wH,dB,List.cons_append,List.nil_append,gP]
    obtain⟨c1,c2,c3⟩:=yI (lp:=lp) hA hgN hz hWx hSx
    rw[hz] at hs
    repeat first|with_reducible refine GE.g ?_|simp only[go_sem,simprocAttr]
    refine⟨_,_,b6.mkO (ob:=ob') (L:=[(0,.p 0 0),(2,.n .i64 b),(3,.n .i64 base),(4,.n .i64 lp),(10,.p 3 0),(11,.p 4 0),(12,.n .i64 ((y-1):Nat)),(13,.p 5 0)]) (bl:=[ae 0 130 [.n .i64 z.1,.n .i64 z.2],ae 0 130 [.n .i64 bd.1,.n .i64 bd.2],ae 0 130 [.n .i64 0,.n .i64 0]]++wH la loc cs pt r S') [5,4,3,2,1,0] [] ?_ ?_ ?_ ?_ (aC rfl),r',(y-1),S',z,ob',by omega,by omega,c1,by rw[show y-1+1=y by omega];exact c2,c3,hM',(by rw[show y-1+1=y by omega];exact hgr),(by omega),hs,rfl,rfl⟩
    ·exact ba
    ·exact .cr (.j2) (.cr (.j2) (.cr (.j2) (.cr (.k2 (λ_ _ _ _=>rfl)) (.cr (.k2 (λi j _ _=>aL _ i j)) (.cr .wk .nil)))))
    ·simp[wH]
    ·intro r x h
     simp only[go_sem,simprocAttr]
     exact h
   ·rintro c H' ⟨e,he,rfl⟩
    refine⟨e,?_,rfl⟩
    rw[hs,he]
    rfl
end
end Go.Proofs.YtdpkgnmmikebdaaGreat
namespace Go.Proofs.YtdpkgnmmikebdaaGreat
open Go.RowKit
theorem oD(la:List (Bool×Int))(loc:Int)(cs:List (Int×Int))(pt:List Int)(r n:Nat)(hn:n<1000)(hpt:pt.length=cs.length)(hK:rX la n cs):∀(k:Nat) (o:Fo),o.size<k->oP la loc cs pt r n o
 |0,o,h=>absurd h (Nat.not_lt_zero _)
 |k+1,o,h=>wJ la loc cs pt r n hn hpt hK o λu hu=>oD la loc cs pt r n hn hpt hK k u (by omega)
def zC(_i _j:Nat):AV:= .n .i64 0
theorem Bb(ob:Nat->Option OB)(n:Nat)(hn:n<=1024):PC Tryz.prog (λ_=>false) 53 [.sl 0 0 1 1,.n .i64 n] (az ob [ae 2 127 [.n .i64 0,.n .i64 0]]) (λv H'=>v= .os 0 n/\H'=az ob [ai 127 2 n 0 zC]) (λ_ _=>False):=by
 have h1:¬(n:Int)<0:=by omega
 have w1:IntKind.u64.wrap (n:Int)=n:=lL (by omega) (by omega)
 have w2:IntKind.u64.wrap 1=1:=by decide
 have w3:IntKind.i64.wrap (n:Int)=n:=am (by omega)
 have h2:¬(9223372036854775807:Int)<n:=by omega
 refine PC.vw (cI RA ⟨by simp,by decide⟩ ?_)
 simp only[aH]
 repeat first|with_reducible refine GE.g ?_|simp only[h1,w1,w2,decide_false,go_sem,simprocAttr]
 refine dd ([.n .u64 1,.n .u64 n]) (uf n hn) ?_
 have hms:0<=(n:Int)/\(n:Int)<=n/\(n:Int)<=16777216/\16*n<=140737488355328/\n*2<1099511627776:=⟨by omega,by omega,by omega,by omega,by omega⟩
 have hm1:Nat.min 1 n=if n=0 then 0 else 1:=by
  by_cases h:n=0
  ·subst h;rfl
  ·rw[if_neg h];exact Nat.min_eq_left (by omega)
 repeat first|with_reducible refine GE.g ?_|simp only[h2,w3,hms,decide_false,go_sem,simprocAttr]
 have fin:Vw (λ_=>false) (λv H'=>v= .os 0 n/\H'=az ob [ai 127 2 n 0 zC]) (.os 1 n) (az ob [ai 127 2 n 0 zC,ae 2 127 [.n .i64 0,.n .i64 0]]):=
  wZ (ob:=ob) [1] [] (.os 0 n) [ai 127 2 n 0 zC] (.cr (.same (row:=zC) (by simp only[go_sem,simprocAttr]) rfl (by decide) (λi j hi hj=>rfl) (λ_ _ _ _=>rfl)) .nil) (Wv.os rfl) (by simp) (λr x h=>h) pn ⟨rfl,rfl⟩
 have hround:∀(Q:AE->Tr AV->AH->Prop) m e H,(∃k,m+k=n/\(n=0\/0<k)/\e=aB [(7,.os 1 n),(8,.n .i64 (k:Nat))]/\H=az ob [ai 127 2 n 0 zC,ae 2 127 [.n .i64 0,.n .i64 0]])->(Q (.exit 0) (aB [(37,.b false),(36,.n .i64 n),(35,.os 1 n),(34,.n .i64 n),(7,.os 1 n),(8,.n .i64 n)]) (az ob [ai 127 2 n 0 zC,ae 2 127 [.n .i64 0,.n .i64 0]]))->GE Tryz.prog 48 (λ_=>false) (af Tryz.prog 53) CV e H (pb 48 (λ_=>false) (λm e H=>∃k,m+k=n/\(n=0\/0<k)/\e=aB [(7,.os 1 n),(8,.n .i64 (k:Nat))]/\H=az ob [ai 127 2 n 0 zC,ae 2 127 [.n .i64 0,.n .i64 0]]) Q m) (λ_ _=>False):=by
  rintro Q m e H ⟨k,hk,hk0,rfl,rfl⟩ hQ
  have h0k:(0:Int)<=(k:Int):=by omega
  by_cases hkn:k<n
  ·have hkn':(k:Int)<n:=by omega
   repeat (first|with_reducible refine GE.seq ?_|with_reducible refine GE.block ?_|with_reducible refine GE.skip ?_|with_reducible refine GE.reg ?_|with_reducible refine GE.cond ?_|simp only[hkn',h0k,decide_true,go_sem,simprocAttr])
   refine GE.mixm aF 1 (by simp only[go_sem,simprocAttr,bI]) ?_
   have hs1:¬(k:Int)=0:=by omega
   have hs2:0<(k:Int):=by omega
   have hs3:(k:Int)<=n:=by omega
   obtain⟨q,hq⟩:∃q,Nat.min k (n-k)=q:=⟨_,rfl⟩
   have hq2:q<=k/\q<=n-k/\0<q/\(q=k\/q=n-k):=by
    rw[<-hq]
    have e1:=Nat.min_le_left k (n-k)
    have e2:=Nat.min_le_right k (n-k)
    have e3:min k (n-k)=k\/min k (n-k)=n-k:=by omega
    have e4:Nat.min k (n-k)=min k (n-k):=rfl
    rw[e4]
    omega
   have hq0:¬q=0:=by omega
   simp only[hs1,hs2,hs3,h0k,hkn',Int.le_refl,hq,hq0,wI,oY,Option.bind_some,go_sem,simprocAttr]
   obtain⟨HH,hHH⟩:∃HH,HH=(az ob [ai 127 2 n 0 zC,ae 2 127 [.n .i64 0,.n .i64 0]]).setLow (2^40):=⟨_,rfl⟩
   have hat:HH.at 1=some (ai 127 2 n 0 zC):=by rw[hHH];simp only[go_sem,simprocAttr]
   have hld:HH.loadN 1 0 (q*2)=some (List.replicate (q*2) (.n .i64 0)):=kC hat (q*2) 0 (by show 0+q*2<=n*2;omega) (λi _ hi=>rfl)
   have hst:HH.storeN 1 (k*2) (List.replicate (q*2) (.n .i64 0))=some (HH.upd 1 ((ai 127 2 n 0 zC).putN (k*2) (List.replicate (q*2) (.n .i64 0)))):=ma (by decide) hat (by omega) (by show k*2+q*2<=n*2;omega) rfl
   rw[hHH] at hld hst
   have hone:(List.replicate (q*2) (AV.n .i64 0)).all AV.one=true:=by rw[List.all_replicate];simp[AV.one]
   have wq:IntKind.i64.wrap ((k:Int)+q)=((k+q:Nat):Int):=(am (by omega)).trans (by omega)
   rw[hld]
   dsimp only
   rw[hst,hone]
   simp only[wq,go_sem,simprocAttr]
   refine⟨m-q,_,_,by omega,b6.mkO (ob:=ob) [1,0] [] ?_ ?_ (by simp) (λr x h=>by simp only[go_sem,simprocAttr];exact h) pn,k+q,by omega,by omega,rfl,rfl⟩
   ·exact ba
   ·exact .cr (.rows (x:=_) (by simp only[go_sem,simprocAttr]<;>rfl) (by rfl) (by rfl) (by rfl) (Nat.le_refl _) (by rw[if_neg (by simp)];exact Nat.le_refl _) (by decide) (λi j hi hj=>by
     rw[dl (by rw[List.length_replicate];omega),List.length_replicate]
     by_cases hh:k*2<=i*2+j/\i*2+j<k*2+q*2
     ·rw[if_pos hh,List.getElem?_replicate,if_pos (by omega)]
      rfl
     ·rw[if_neg hh,aK i j hj]) (λ_ _ _ _=>rfl)) (.cr (.j2) .nil)
  ·have hkn':¬(k:Int)<n:=by omega
   obtain rfl:k=n:=by omega
   repeat first|with_reducible refine GE.g ?_|simp only[hkn',decide_false,go_sem,simprocAttr]
   exact hQ
 by_cases hn0:n=0
 ·rw[if_pos hn0] at hm1
  simp only[hm1,wI,oY,Option.bind_some,go_sem,simprocAttr]
  repeat first|with_reducible refine GE.g ?_|simp only[go_sem,simprocAttr]
  refine GE.loop (I:=λm e H=>∃k,m+k=n/\(n=0\/0<k)/\e=aB [(7,.os 1 n),(8,.n .i64 (k:Nat))]/\H=az ob [ai 127 2 n 0 zC,ae 2 127 [.n .i64 0,.n .i64 0]]) (m:=0) (b6.mkO (ob:=ob) [1,0] [] ?_ ?_ (by simp) (λr x h=>by simp only[go_sem,simprocAttr];exact h) pn) ⟨0,by omega,by omega,rfl,rfl⟩ ?_
  ·exact ba
  ·exact .cr (.same (row:=λ_ j=>[AV.n .i64 0,.n .i64 0][j]?.getD .u) (row2:=zC) (by simp only[go_sem,simprocAttr]) rfl (by decide) (λi j hi=>by omega) (λ_ _ _ _=>rfl)) (.cr (.j2) .nil)
  intro m e H hI
  refine hround _ m e H hI ?_
  simp only[go_sem,simprocAttr]
  repeat first|with_reducible refine GE.g ?_|simp only[go_sem,simprocAttr]
  exact fin
 ·rw[if_neg hn0] at hm1
  have hn1:1<=n:=by omega
  have hn2:2<=n*2:=by omega
  simp only[hm1,hn1,hn2,wI,oY,Option.bind_some,go_sem,simprocAttr]
  repeat first|with_reducible refine GE.g ?_|simp only[go_sem,simprocAttr]
  refine GE.loop (I:=λm e H=>∃k,m+k=n/\(n=0\/0<k)/\e=aB [(7,.os 1 n),(8,.n .i64 (k:Nat))]/\H=az ob [ai 127 2 n 0 zC,ae 2 127 [.n .i64 0,.n .i64 0]]) (m:=(n-1)) (b6.mkO (ob:=ob) [1,0] [] ?_ ?_ (by simp) (λr x h=>by simp only[go_sem,simprocAttr];exact h) pn) ⟨1,by omega,by omega,rfl,rfl⟩ ?_
  ·exact ba
  ·exact .cr (.put (row:=λ_ j=>[AV.n .i64 0,.n .i64 0][j]?.getD .u) (row2:=zC) (q:=0) (l:=[.n .i64 0,.n .i64 0]) (by simp only[go_sem,simprocAttr]<;>rfl) (by simp) rfl (by omega) rfl (by decide) (by omega) (λi j hi hj=>by rcases yx hj with rfl|rfl<;>(by_cases hh:i=0<;>simp[hh,zC])) (λ_ _ _ _=>rfl)) (.cr (.j2) .nil)
  intro m e H hI
  refine hround _ m e H hI ?_
  simp only[go_sem,simprocAttr]
  repeat first|with_reducible refine GE.g ?_|simp only[go_sem,simprocAttr]
  exact fin
def xf(la:List (Bool×Int))(loc:Int)(cs:List (Int×Int)):AV:= .agg [.f 57 [] [],.f 58 [] [.fp 3 (Ax la loc cs) 0]]
theorem sN{i:Nat}(h:i<3):i=0\/i=1\/i=2:=by omega
theorem jH(la:List (Bool×Int))(loc:Int)(cs:List (Int×Int)):bN Tryz.prog 32 [aJ la loc cs] [.v (xf la loc cs)]:=by
 refine pG (by rfl) (ag aF S9 ⟨by simp,by decide⟩ ?_)
 simp only[aH,aJ,xf]
 repeat first|with_reducible refine ao ?_|simp only[go_sem,simprocAttr]
 refine⟨[0],.agg rfl λi v v' h1 h2=>?_⟩
 rcases(show i=0\/i=1\/2<=i by omega) with rfl|rfl|h
 ·cases h1;cases h2;exact .rfl rfl
 ·cases h1;cases h2
  refine .f rfl rfl (λi v v' h1 h2=>by simp at h1) (λi v v' h1 h2=>?_)
  cases i with
  |succ i=>simp at h1
  |zero=>
   cases h1;cases h2
   refine .p (o:=0) (j:=0) (x:=?x) (by simp) ?hx ?hn ?h0 (λq hq=>?_) (λq hq=>?_)
   case hx=>simp only[go_sem,simprocAttr]<;>rfl
   case hn=>show 0+3<=3;decide
   case h0=>show 0<3;decide
   ·rcases sN hq with rfl|rfl|rfl<;>(simp only[go_sem,simprocAttr];rfl)
   ·rcases sN hq with rfl|rfl|rfl<;>rfl
 ·obtain⟨i,rfl⟩:∃k,i=k+2:=⟨i-2,by omega⟩
  simp at h1
theorem V9{i:Nat}(h:i<4):i=0\/i=1\/i=2\/i=3:=by omega
theorem oB{P:Program}{n:Nat}{kk kk':Nat->Bool}{g:FuncId}{args:List AV}{e:Tr AV}{H:AH}{Q:AV->Tr AV->AH->Prop}{E:List PanicEntry->AH->Prop}(hk:∀b,kk' b=true->kk b=true)(h:de P n kk g args e H Q E):de P n kk' g args e H Q E:=
 ⟨h.1,λB σ a w args' hE hH ha=>(h.2 B σ a w args' hE hH ha).mono λen w' hp=>by
  cases en with
  |returned u=>
   obtain⟨v,e',H',σ',r0,r1,r2,r3,r4⟩:=hp
   exact⟨v,e',H',σ',r0,r1,r2,r3,r4.sub hk⟩
  |panicked c=>exact hp
  |outgrown=>exact hp.elim⟩
theorem Kv{n i j:Nat}(h:i<n)(hj:j<2):zC i j=vC (List.replicate n (0,0)) i j:=by
 simp only[zC,vC,List.getD_eq_getElem?_getD,List.getElem?_replicate,if_pos h]
 split<;>rfl
def bE(lp:List (Int×Int)):Nat->List (Int×Int)
 |0=>[]
 |k+1=>match dz lp k with
  |some mo=>bE lp k++[((k:Int),mo)]
  |none=>bE lp k
theorem jZ(lp:List (Int×Int)):∀k,(bE lp k).length<=k
 |0=>Nat.le_refl _
 |k+1=>by
  have:=jZ lp k
  unfold bE
  split
  ·rw[List.length_append];simp only[List.length_cons,List.length_nil];omega
  ·omega
def fg(l:List (Int×Int))(i j:Nat):AV:=if j=0 then .n .i64 (l.getD i (0,0)).1 else if j=1 then .n .i64 (l.getD i (0,0)).2 else .ow
theorem ju(l:List (Int×Int))(i j:Nat):(fg l i j).pu 3=true:=by unfold fg;(repeat' split)<;>rfl
theorem eM(l:List (Int×Int))(i j:Nat):(fg l i j).cell=true:=by unfold fg;(repeat' split)<;>rfl
def S0(n:Nat):WS:=⟨List.replicate n (0,0),[],0,[],[]⟩
def jd(cs:List (Int×Int))(la:List (Bool×Int))(n:Nat)(o:Fo):Option (Except Er (WS×Bd)):=match aW cs la o 0 0 (S0 n) (0,0) with
 |none=>none
 |some (.error e)=>some (.error e)
 |some (.ok (S,b))=>if S.st.length=0 then some (.ok (S,b)) else some (.error ((cs.length:Int),14))
theorem nB(la:List (Bool×Int))(cs:List (Int×Int))(n:Nat)(hn:n<=16)(hK:rX la n cs)(o:Fo)(pt:List Int)(hr:cn cs= .ok (o,pt)):
  PC Tryz.prog (λ_=>false) 31 [aJ la n cs,xf la n cs] (ah []) (λv H'=>∃(S:WS) (b:Bd),jd cs la n o=some (.ok (S,b))/\v= .agg [.n .i64 b.1,.n .i64 b.2,.n .i64 S.ht,.os 0 (bE S.lp cs.length).length]/\H'=ah [ai 48 3 (bE S.lp cs.length).length 0 (fg (bE S.lp cs.length))]) (λc _=>∃e:Er,jd cs la n o=some (.error e)/\c=ea e.1 e.2):=by
 obtain⟨hg,hpt⟩:=iR hr
 have hcs:=hK.len
 have hpe:dp cs=(pt,0):=by rw[dp,if_neg (by omega),hr]
 refine PC.vw (cI RR ⟨by simp,by decide⟩ ?_)
 simp only[aH,aJ,xf]
 repeat first|with_reducible refine GE.g ?_|simp only[go_sem,simprocAttr]
 refine dd ([.fs 2 cs.length (pI cs)]) (xZ cs) ?_
 rw[hpe]
 repeat first|with_reducible refine GE.g ?_|simp only[go_sem,simprocAttr]
 refine dd ([.b true,.n .i64 0,.n .i64 0]) (cy 0 0) ?_
 repeat first|with_reducible refine GE.g ?_|simp only[go_sem,simprocAttr]
 refine pk λr hrn=>?_
 obtain⟨ob0,hob0⟩:∃ob0:Nat->Option OB,ob0=(n9 (λ_=>none) r (.mp ⟨true,λ_=>none,0,none⟩)):=⟨_,rfl⟩
 (try simp only[go_sem,simprocAttr])
 iterate 1 (with_reducible refine GE.go aF rfl ?_;try simp only[go_sem,simprocAttr])
 refine GE.cut (aB [(2,.p 3 0),(4,.p 4 0),(7,.p 0 0)]) (az ob0 ([ae 0 38 [.n .i64 0,.n .i64 0,.n .i64 0,.sl0],ae 0 25 [.fs 2 la.length (pA la),.n .i64 n,.fs 2 cs.length (pI cs)]]++wH la n cs pt r (S0 n))) ?_ ?_
 ·repeat first|with_reducible refine GE.g ?_|simp only[go_sem,simprocAttr]
  refine Kq ([.n .u32 0]) (ff 0 (by decide)) ?_
  simp only[iv]
  repeat first|with_reducible refine GE.g ?_|simp only[go_sem,simprocAttr]
  refine dX (ob:=ob0) (λ_=>false) [3,2,1,0,4] [] [(2,.p 1 0),(4,.p 3 0),(7,.p 4 0),(29,.p 4 0)] [.sl 0 0 1 1,.n .i64 n] [ae 0 124 [.fs 2 la.length (pA la),.n .i64 n,.fs 2 cs.length (pI cs),.fs 1 pt.length (iC pt),.f 57 [] [],.f 58 [] [.fp 3 (Ax la n cs) 0],.sl0,.sl0,.n .i64 0,.sl0,.cv (.map (some r))],ae 0 38 [.n .i64 0,.n .i64 0,.n .i64 0,.sl0],ae 0 83 [.f 57 [] [],.f 58 [] [.fp 3 (Ax la n cs) 0]],ae 0 25 [.fs 2 la.length (pA la),.n .i64 n,.fs 2 cs.length (pI cs)]] [ae 2 127 [.n .i64 0,.n .i64 0]] (Bb ob0 n (by omega)) ?_ ?_ ?_ ?_ ?_ ?_ ?_ ?_ ?_ ?_ ?_ ?_ ?_ ?_
  ·exact ba
  ·exact .cr .wk (.cr (.j4) (.cr (.j2) (.cr (.j3) (.cr (.j2) .nil))))
  ·exact⟨Wv.sl rfl,Wv.n rfl,trivial⟩
  ·intro r x h
   simp only[go_sem,simprocAttr]
   rw[hob0] at h
   exact h
  ·simp
  ·rfl
  ·exact λb hb=>by cases hb
  ·exact λb x hb=>by cases hb
  ·rfl
  ·rfl
  ·exact .cons .lq .nil
  ·exact .cons .lq (.cons .lq (.cons .lq (.cons .lq .nil)))
  ·rintro v H' ⟨rfl,rfl⟩
   refine⟨ob0,ob0,[ai 127 2 n 0 zC],[ae 0 38 [.n .i64 0,.n .i64 0,.n .i64 0,.sl0],ae 0 25 [.fs 2 la.length (pA la),.n .i64 n,.fs 2 cs.length (pI cs)],ae 0 124 [.fs 2 la.length (pA la),.n .i64 n,.fs 2 cs.length (pI cs),.fs 1 pt.length (iC pt),.f 57 [] [],.f 58 [] [.fp 3 (Ax la n cs) 0],.sl0,.sl0,.n .i64 0,.sl0,.cv (.map (some r))]],[3,1,4],[0],.fs 2 n zC,[(2,.p 1 0),(4,.p 2 0),(7,.p 0 0),(29,.p 0 0)],rfl,rfl,?_,?_,?_,?_,?_,?_,?_⟩
   ·exact ba
   ·exact .cr (.j4) (.cr (.j3) (.cr .wk .nil))
   ·exact .cv (.ownb (ty:=127) (z:=0) (by simp only[go_sem,simprocAttr]<;>rfl) (λi j _ _=>rfl) (by simp))
   ·simp
   ·exact λ_ _ h=>h
   ·exact λb hb=>by cases hb
   repeat first|with_reducible refine GE.g ?_|simp only[go_sem,simprocAttr]
   refine(b6.nilc 0 7 3 221 (x:=?x) ?hx ?hi (by decide) (by decide) ?hlv ?hv ?hn).trans ((b6.nilc 0 9 1 46 (x:=?y) ?hx2 ?hi2 (by decide) (by decide) ?hlv2 ?hv2 ?hn2).trans (b6.mkO (ob:=ob0) [2,1,4,3,0] [] ?_ ?_ ?_ ?_ (λb hb=>by cases hb)))
   case hx=>simp only[go_sem,simprocAttr]<;>rfl
   case hi=>show 7<11;decide
   case hlv=>rfl
   case hv=>simp only[go_sem,simprocAttr]
   case hn=>simp only[go_sem,simprocAttr]<;>decide
   case hx2=>simp only[go_sem,simprocAttr]<;>rfl
   case hi2=>show 9<11;decide
   case hlv2=>rfl
   case hv2=>simp only[go_sem,simprocAttr]
   case hn2=>simp only[go_sem,simprocAttr]<;>decide
   ·exact ba
   ·simp only[wH,dB,S0,List.length_replicate]
    exact .cr (.j4) (.cr (.j3) (.cr (.rows (x:=_) (by simp only[go_sem,simprocAttr]<;>rfl) (by rfl) (by rfl) (by rfl) (Nat.zero_le _) (Nat.le_refl _) (by decide) (λi j h=>absurd h (Nat.not_lt_zero _)) (λi j h=>absurd h (Nat.not_lt_zero _))) (.cr (.rows (x:=_) (by simp only[go_sem,simprocAttr]<;>rfl) (by rfl) (by rfl) (by rfl) (Nat.zero_le _) (Nat.le_refl _) (by decide) (λi j h=>absurd h (Nat.not_lt_zero _)) (λi j h=>absurd h (Nat.not_lt_zero _))) (.cr (.wk (hg:=λi hi=>by rcases qS hi with rfl|rfl|rfl|rfl|rfl|rfl|rfl|rfl|rfl|rfl|rfl<;>(simp only[go_sem,simprocAttr];first|exact Wv.same rfl|exact Wv.os rfl|exact .cv (.fs λi j h1 h2=>Kv h1 h2)))) .nil))))
   ·simp[wH]
   ·intro r x h
    simp only[go_sem,simprocAttr]
    exact h
  ·exact λc H' h=>h.elim
 have hW0:WF n (S0 n):=⟨⟨List.length_replicate,λx hx=>by rw[(List.mem_replicate.1 hx).2];exact oe⟩,λv hv=>(by cases hv),λl hl=>(by cases hl)⟩
 have hS0:Sm 0 (S0 n):=⟨Nat.zero_le _,⟨(by show(0:Int)<=0;decide),(by show(0:Int)<=32;decide)⟩,Nat.zero_le _⟩
 have hM0:lK r ob0 (S0 n).lp:=⟨⟨true,λ_=>none,0,none⟩,by rw[hob0];exact if_pos rfl,rfl,λk=>rfl⟩
 have hco:=oD la n cs pt r n (by omega) hpt hK (o.size+1) o (by omega) 0 cs.length 0 0 (S0 n) ob0 hg (Nat.le_refl _) (by decide) (by decide) hW0 hS0 hM0
 obtain⟨Si,hSi⟩:∃Si,Si=S0 n:=⟨_,rfl⟩
 rw[<-hSi] at hco hW0 hS0 hM0 ⊢
 simp only[wH,dB,List.cons_append,List.nil_append]
 repeat first|with_reducible refine GE.g ?_|simp only[go_sem,simprocAttr]
 refine oB (kk:=bG) (λb hb=>by cases hb) (bi la n cs pt r ob0 (args2:=[.p 0 0,.n .i64 ((0:Nat)),.n .i64 cs.length,.n .i64 ((0:Nat)),.n .i64 ((0:Nat))]) (L:=[(2,.p 3 0),(4,.p 4 0),(7,.p 0 0)]) (bl2:=[ae 0 38 [.n .i64 0,.n .i64 0,.n .i64 0,.sl0],ae 0 25 [.fs 2 la.length (pA la),.n .i64 n,.fs 2 cs.length (pI cs)]]) Si [4,3,2,1,0] [] hco ?_ ?_ ?_ ?_ (by simp) rfl (by rfl) (by rfl) (.cons .lq (.cons .lq .nil)) ?_ ?_)
 ·exact ba
 ·exact .cr (.j4) (.cr (.j3) (.cr (.k2 (λ_ _ _ _=>rfl)) (.cr (.k2 (λi j _ _=>aL _ i j)) (.cr .wk .nil))))
 ·exact⟨Wv.p rfl,Wv.n rfl,Wv.n rfl,Wv.n rfl,Wv.n rfl,trivial⟩
 ·intro r x h
  simp only[go_sem,simprocAttr]
  exact h
 ·rintro v' H' ⟨S1,bx,ob1,hz,rfl,hM1,rfl⟩
  refine⟨S1,ob1,rfl,?_⟩
  simp only[wH,dB,List.cons_append,List.nil_append,gP]
  have s1:=ck o 0 cs.length 0 0 hg hz hS0
  have hlvl:=ij la n cs pt r ob1 cs.length 0 S1 (by have:=s1.st;omega)
  repeat first|with_reducible refine GE.g ?_|simp only[go_sem,simprocAttr]
  refine oB (kk:=bG) (λb hb=>by cases hb) (bi la n cs pt r ob1 (args2:=[.p 0 0,.n .i64 cs.length,.n .i64 ((0:Nat))]) (L:=[(2,.p 3 0),(4,.p 4 0),(7,.p 0 0),(8,.p 5 0)]) (bl2:=[ae 0 130 [.n .i64 bx.1,.n .i64 bx.2],ae 0 38 [.n .i64 0,.n .i64 0,.n .i64 0,.sl0],ae 0 25 [.fs 2 la.length (pA la),.n .i64 n,.fs 2 cs.length (pI cs)]]) S1 [5,4,3,2,1,0] [] hlvl ?_ ?_ ?_ ?_ (by simp) rfl (by rfl) (by rfl) (.cons .lq (.cons .lq (.cons .lq .nil))) ?_ ?_)
  ·exact ba
  ·exact .cr (.j2) (.cr (.j4) (.cr (.j3) (.cr (.k2 (λ_ _ _ _=>rfl)) (.cr (.k2 (λi j _ _=>aL _ i j)) (.cr .wk .nil)))))
  ·exact⟨Wv.p rfl,Wv.n rfl,Wv.n rfl,trivial⟩
  ·intro r x h
   simp only[go_sem,simprocAttr]
   exact h
  ·rintro v' H' ⟨hl,rfl,rfl⟩
   refine⟨S1,ob1,rfl,?_⟩
   simp only[wH,dB,List.cons_append,List.nil_append]
   repeat first|with_reducible refine GE.g ?_|simp only[go_sem,simprocAttr]
   refine GE.loop (I:=λm e H=>∃k:Nat,m=cs.length-k/\k<=cs.length/\e=aB [(4,.p 3 0),(7,.p 0 0),(9,.p 4 0),(58,.n .i64 cs.length),(59,.n .i64 k)]/\H=az ob1 ([ai 48 3 (bE S1.lp k).length 0 (fg (bE S1.lp k)),ae 0 38 [.n .i64 bx.1,.n .i64 bx.2,.n .i64 S1.ht,.os 5 (bE S1.lp k).length],ae 0 38 [.n .i64 0,.n .i64 0,.n .i64 0,.sl0]]++wH la n cs pt r S1)) (m:=cs.length) ((b6.nilc 6 3 3 48 (x:=?x3) ?hx3 ?hi3 (by decide) (by decide) ?hlv3 ?hv3 ?hn3).trans (b6.mkO (ob:=ob1) [7,6,4,2,1,0] [] ?_ ?_ ?_ ?_ (λb hb=>by cases hb))) ⟨0,rfl,Nat.zero_le _,rfl,rfl⟩ ?_
   case hx3=>simp only[go_sem,simprocAttr]<;>rfl
   case hi3=>show 3<4;decide
   case hlv3=>rfl
   case hv3=>simp only[go_sem,simprocAttr]
   case hn3=>simp only[go_sem,simprocAttr]<;>decide
   ·exact ba
   ·exact .cr (.rows (x:=_) (by simp only[go_sem,simprocAttr]<;>rfl) (by rfl) (by rfl) (by rfl) (Nat.zero_le _) (Nat.le_refl _) (by decide) (λi j h=>absurd h (Nat.not_lt_zero _)) (λi j h=>absurd h (Nat.not_lt_zero _))) (.cr (.j4) (.cr (.j4) (.cr (.k2 (λ_ _ _ _=>rfl)) (.cr (.k2 (λi j _ _=>aL _ i j)) (.cr .wk .nil)))))
   ·simp[wH]
   ·intro r x h
    simp only[go_sem,simprocAttr]
    exact h
   rintro m e H ⟨k,rfl,hk,rfl,rfl⟩
   simp only[wH,dB,List.cons_append,List.nil_append]
   have k0:(0:Int)<=(k:Int):=by omega
   obtain⟨mx,hmx,hown,hget⟩:=hM1
   have hil:=jZ S1.lp k
   by_cases hkc:k<cs.length
   ·have hki:(k:Int)<(cs.length:Int):=by omega
    have wk:IntKind.i64.wrap ((k:Int)+1)=((k+1:Nat):Int):=(am (by omega)).trans (by omega)
    cases hlk:dz S1.lp k with
    |none=>
     have hlook:mx.look true (.agg [.n .i64 0,.n .i64 0,.sl0]) k= .tup [.agg [.n .i64 0,.n .i64 0,.sl0],.b false]:=by
      unfold fW.look
      rw[hget,hlk]
      rfl
     have hiv:bE S1.lp (k+1)=bE S1.lp k:=by simp only[bE,hlk]
     repeat first|with_reducible refine GE.g ?_|simp only[hki,hmx,hlook,wk,decide_true,go_sem,simprocAttr]
     refine⟨cs.length-(k+1),_,_,by omega,b6.mkO (ob:=ob1) [5,4,3,2,1,0] [] ?_ ?_ ?_ ?_ (λb hb=>by cases hb),k+1,rfl,by omega,rfl,rfl⟩
     ·exact ba
     ·rw[hiv]
      exact .cr (.k2 (λi j _ _=>ju _ i j)) (.cr (.j4) (.cr (.j4) (.cr (.k2 (λ_ _ _ _=>rfl)) (.cr (.k2 (λi j _ _=>aL _ i j)) (.cr .wk .nil)))))
     ·simp[wH]
     ·intro r x h
      simp only[go_sem,simprocAttr]
      exact h
    |some mo=>
     have hlook:mx.look true (.agg [.n .i64 0,.n .i64 0,.sl0]) k= .tup [.agg [.n .i64 k,.n .i64 mo,.ow],.b true]:=by
      unfold fW.look
      rw[hget,hlk]
      rfl
     have hiv:bE S1.lp (k+1)=bE S1.lp k++[((k:Int),mo)]:=by simp only[bE,hlk]
     have hap:(((bE S1.lp k).length+1)*3<1099511627776/\((bE S1.lp k).length+1)*40<=140737488355328)/\(bE S1.lp k).length<=9223372036854775806:=⟨⟨by omega,by omega⟩,by omega⟩
     repeat first|with_reducible refine GE.g ?_|simp only[hki,hmx,hlook,wk,hap,nr,sG,decide_true,go_sem,simprocAttr]
     refine⟨cs.length-(k+1),_,_,by omega,b6.mkO (ob:=ob1) [8,4,3,2,1,0] [] ?_ ?_ ?_ ?_ (λb hb=>by cases hb),k+1,rfl,by omega,rfl,rfl⟩
     ·exact ba
     ·rw[hiv]
      simp only[List.length_append,List.length_cons,List.length_nil]
      exact .cr (.snoc (n:=(bE S1.lp k).length) (row:=fg (bE S1.lp k)) (l:=[.n .i64 k,.n .i64 mo,.ow]) (by simp only[go_sem,simprocAttr]<;>rfl) (by simp) rfl rfl (by decide) (by omega) (λi j hi _=>by simp only[fg,List.getD_eq_getElem?_getD,List.getElem?_append_left hi]) (λj hj=>by rcases sN hj with rfl|rfl|rfl<;>simp[fg,List.getD_eq_getElem?_getD]) (λi j _ _=>ju _ i j)) (.cr (.j4) (.cr (.j4) (.cr (.k2 (λ_ _ _ _=>rfl)) (.cr (.k2 (λi j _ _=>aL _ i j)) (.cr .wk .nil)))))
     ·simp[wH]
     ·intro r x h
      simp only[go_sem,simprocAttr]
      exact h
   ·have hki:¬(k:Int)<(cs.length:Int):=by omega
    obtain rfl:k=cs.length:=by omega
    repeat first|with_reducible refine GE.g ?_|simp only[hki,decide_false,go_sem,simprocAttr]
    have hl0:S1.st.length=0:=by
     unfold lF at hl
     split at hl
     ·assumption
     ·cases hl
    refine wZ (ob:=λ_=>none) [5] [] (.agg [.n .i64 bx.1,.n .i64 bx.2,.n .i64 S1.ht,.os 0 (bE S1.lp cs.length).length]) [ai 48 3 (bE S1.lp cs.length).length 0 (fg (bE S1.lp cs.length))] (.cr (.k2 (λi j _ _=>ju _ i j)) .nil) (.agg rfl λi v v' h1 h2=>?_) (by simp) (λr x h=>by cases h) (λb hb=>by cases hb) ⟨S1,bx,by unfold jd;rw[<-hSi,hz];exact if_pos hl0,rfl,ax _⟩
    rcases(show i=0\/i=1\/i=2\/i=3\/4<=i by omega) with rfl|rfl|rfl|rfl|h
    ·cases h1;cases h2;exact Wv.same rfl
    ·cases h1;cases h2;exact Wv.same rfl
    ·cases h1;cases h2;exact Wv.same rfl
    ·cases h1;cases h2;exact Wv.os rfl
    ·exact absurd (List.getElem?_eq_some_iff.1 h1).1 (by simp only[List.length_cons,List.length_nil];omega)
  ·rintro c H' ⟨x,hx,rfl⟩
   refine⟨x,?_,rfl⟩
   unfold jd
   rw[<-hSi,hz]
   unfold lF at hx
   split at hx
   ·cases hx
   ·rename_i hne
    cases hx
    exact if_neg hne
 ·rintro c H' ⟨e,he,rfl⟩
  exact⟨e,by unfold jd;rw[<-hSi,he],rfl⟩
def mB(cs:List (Int×Int))(S:WS)(b:Bd):List gG:=[.v (.n .i64 b.1),.v (.n .i64 b.2),.v (.n .i64 S.ht),.o 48 3 (bE S.lp cs.length).length 0 (fg (bE S.lp cs.length))]
section
variable (la:List (Bool×Int)) (cs:List (Int×Int)) (n:Nat) (hn:n<=16) (hK:rX la n cs) (o:Fo) (pt:List Int) (hr:cn cs= .ok (o,pt))
include hn hK hr
theorem lA{S:WS}{b:Bd}(h:jd cs la n o=some (.ok (S,b))):bN Tryz.prog 31 [aJ la n cs,xf la n cs] [.a (mB cs S b)]:=by
 refine ka ((nB la cs n hn hK o pt hr).mono (λv H q=>?_) (λc H q=>?_))
 ·obtain⟨S',b',h',rfl,rfl⟩:=q
  rw[h] at h'
  cases h'
  refine⟨[_],rfl,⟨(by show 4<=8;decide),_,rfl,⟨rfl,rfl⟩,⟨rfl,rfl⟩,⟨rfl,rfl⟩,.inr ⟨0,rfl,by simp[ss],_,by simp only[go_sem,simprocAttr],rfl,rfl,by decide,rfl,Nat.le_refl _,Nat.le_refl _,λi j hi hj=>aK i j hj,λi j _ _=>eM _ i j⟩,trivial⟩,rfl,trivial⟩
 ·obtain⟨e,h',_⟩:=q
  rw[h] at h'
  cases h'
theorem ly{e:Er}(h:jd cs la n o=some (.error e)):Kp Tryz.prog 31 [aJ la n cs,xf la n cs] (ea e.1 e.2):=by
 refine x5 ((nB la cs n hn hK o pt hr).mono (λv H q=>?_) (λc H q=>?_))
 ·obtain⟨S',b',h',_⟩:=q
  rw[h] at h'
  cases h'
 ·obtain⟨e',h',rfl⟩:=q
  rw[h] at h'
  cases h'
  rfl
end
def gY(cs:List (Int×Int))(la:List (Bool×Int))(n:Nat)(o:Fo):Option (Except Er (WS×Bd)):=match jd cs la n o with
 |none=>none
 |some (.error e)=>some (.error e)
 |some (.ok (S,b))=>if b.1<=281474976710656 then some (.ok (S,b)) else some (.error (0,18))
theorem sr(la:List (Bool×Int))(cs:List (Int×Int))(n:Nat)(hn:n<=16)(hK:rX la n cs)(o:Fo)(pt:List Int)(hr:cn cs= .ok (o,pt)):
  PC Tryz.prog db 30 [.p 0 0,.p 1 0] (ah [ae 0 38 [.n .i64 0,.n .i64 0,.n .i64 0,.sl0],ae 0 25 [.fs 2 la.length (pA la),.n .i64 n,.fs 2 cs.length (pI cs)]])
   (λv H'=>∃(S:WS) (b:Bd),gY cs la n o=some (.ok (S,b))/\v= .tup []/\H'=ah [ai 48 3 (bE S.lp cs.length).length 0 (fg (bE S.lp cs.length)),ae 0 38 [.n .i64 b.1,.n .i64 b.2,.n .i64 S.ht,.os 2 (bE S.lp cs.length).length],ae 0 25 [.fs 2 la.length (pA la),.n .i64 n,.fs 2 cs.length (pI cs)]])
   (λc _=>∃e:Er,gY cs la n o=some (.error e)/\c=ea e.1 e.2):=by
 have hcs:=hK.len
 obtain⟨hg,hpt⟩:=iR hr
 have hW0:WF n (S0 n):=⟨⟨List.length_replicate,λx hx=>by rw[(List.mem_replicate.1 hx).2];exact oe⟩,λv hv=>(by cases hv),λl hl=>(by cases hl)⟩
 obtain⟨R,hR⟩:=bU hK.arg o 0 cs.length 0 0 (S0 n) (0,0) hg hW0 jE
 refine PC.vw (cI CX ⟨by simp,by decide⟩ ?_)
 simp only[aH]
 repeat first|with_reducible refine GE.g ?_|simp only[go_sem,simprocAttr]
 refine Kq ([aJ la n cs]) (jH la n cs) ?_
 simp only[xf]
 repeat first|with_reducible refine GE.g ?_|simp only[go_sem,simprocAttr]
 cases ha:jd cs la n o with
 |none=>
  exfalso
  unfold jd at ha
  rw[hR] at ha
  cases R with
  |error e=>cases ha
  |ok q=>obtain⟨S,b⟩:=q;dsimp only at ha;split at ha<;>cases ha
 |some q=>
  cases q with
  |error e=>exact aM [] (fargs:=[aJ la n cs,xf la n cs]) (cm.same rfl) (ly la cs n hn hK o pt hr ha) ⟨e,by unfold gY;rw[ha],rfl⟩
  |ok q=>
   obtain⟨S,b⟩:=q
   refine dd ([aJ la n cs,xf la n cs]) (lA la cs n hn hK o pt hr ha) ?_
   simp only[mB]
   by_cases h:b.1<=281474976710656
   ·repeat first|with_reducible refine GE.g ?_|simp only[h,decide_true,go_sem,simprocAttr]
    refine dd ([.b true,.n .i64 0,.n .i64 18]) (cy 0 18) ?_
    repeat first|with_reducible refine GE.g ?_|simp only[go_sem,simprocAttr]
    exact gX [2,1,0] [] (.tup []) [ai 48 3 (bE S.lp cs.length).length 0 (fg (bE S.lp cs.length)),ae 0 38 [.n .i64 b.1,.n .i64 b.2,.n .i64 S.ht,.os 2 (bE S.lp cs.length).length],ae 0 25 [.fs 2 la.length (pA la),.n .i64 n,.fs 2 cs.length (pI cs)]] (.cr (.k2 (λi j _ _=>ju _ i j)) (.cr (.j4) (.cr (.j3) .nil))) (.cv (.rfl rfl)) (by simp) (bg rfl rfl) ⟨S,b,by unfold gY;rw[ha];exact if_pos h,rfl,rfl⟩
   ·repeat first|with_reducible refine GE.g ?_|simp only[h,decide_false,go_sem,simprocAttr]
    exact aM [] (fargs:=[.b false,.n .i64 0,.n .i64 18]) (cm.same rfl) (cV 0 18) ⟨(0,18),by unfold gY;rw[ha];exact if_neg h,rfl⟩
end Go.Proofs.YtdpkgnmmikebdaaGreat
namespace Go.Proofs.YtdpkgnmmikebdaaGreat
open Go.RowKit
theorem oV(w:World):(binOp .eql 20 .nilIface .nilIface).run Tryz.prog w= .ok (.bool true) w:=by kernel_rfl
theorem nH(a n:Int)(w:World):(binOp .eql 20 (.iface 118 (.agg #[.int .i64 a,.int .i64 n])) .nilIface).run Tryz.prog w= .ok (.bool false) w:=by kernel_rfl
theorem Bf(a n:Int)(w:World):(Instr.typeAssert (.iface 118 (.agg #[.int .i64 a,.int .i64 n])) 20 118 true).run Tryz.prog w= .ok (.tuple #[.agg #[.int .i64 a,.int .i64 n],.bool true]) w:=by kernel_rfl
theorem C4(p q x:Value): #[p,q]++(Array.replicate 13 undef).setIfInBounds 3 x=
  #[p,q,undef,undef,undef,x,undef,undef,undef,undef,undef,undef,undef,undef,undef]:=by kernel_rfl
theorem sW(ab eb:Nat)(w:World):
  CallsD Tryz.prog 51 #[.pointer (some ⟨ab,0,none⟩),.pointer (some ⟨eb,0,none⟩)] .returning w λe u' w'=>e= .returned (.tuple #[])/\u'= .returning/\w'=w:=by
 refine callsD_of_wpS Tryz.func51 rfl λc₀ cs hu=>?_
 apply wpS_seq
 apply wpS_region
 simp[wpOpsS,go_sem,recoverD,hu,Tryz.ntmps51,Exit.thenS]
 refine wpS_of_wp ?_
 rw[C4]
 have hq:=oV
 go_wp2
 cases c₀
 simp_all [bodyPostS,results,Tryz.results51]
theorem lJ(ab eb:Nat)(x y a n:Int)(older:List PanicEntry)(w:World)(ha:w.heap[ab]? =some (.cells #[.int .i64 x] 3 (0,0)))(he:w.heap[eb]? =some (.cells #[.int .i64 y] 30 (0,0)))(hne:¬ab=eb)(hne2:¬eb=ab):
  CallsD Tryz.prog 51 #[.pointer (some ⟨ab,0,none⟩),.pointer (some ⟨eb,0,none⟩)] (.panicking ({v:= .iface 118 (.agg #[.int .i64 a,.int .i64 n]),recovered:=false}::older)) w λe u' w'=>
   e= .returned (.tuple #[])/\u'= .panicking ({v:= .iface 118 (.agg #[.int .i64 a,.int .i64 n]),recovered:=true}::older)/\w'.heap[ab]? =some (.cells #[.int .i64 a] 3 (0,0))/\w'.heap[eb]? =some (.cells #[.int .i64 n] 30 (0,0))/\(∀k,k<w.heap.size->k≠ab->k≠eb->w'.heap[k]? =w.heap[k]?)/\w'.os=w.os/\w'.tape=w.tape/\w'.output=w.output/\w.heap.size<=w'.heap.size:=by
 have hq:=nH a n
 have hta:=Bf a n
 refine callsD_of_wpS Tryz.func51 rfl λc₀ cs hu=>?_
 apply wpS_seq
 apply wpS_region
 simp[wpOpsS,go_sem,recoverD,hu,Tryz.ntmps51,Exit.thenS]
 refine wpS_of_wp ?_
 rw[C4]
 go_wp2
 have hal:ab<w.heap.size:=(Array.getElem?_eq_some_iff.1 ha).1
 have hel:eb<w.heap.size:=(Array.getElem?_eq_some_iff.1 he).1
 have z0:w.cell? ⟨ab,0,none⟩=some (.int .i64 x):=by simp[World.cell?,ha]
 have z1:w.cell? ⟨eb,0,none⟩=some (.int .i64 y):=by simp[World.cell?,he]
 have f0:w.frozen? ⟨ab,0,none⟩=false:=by simp[World.frozen?,ha]
 have f1:w.frozen? ⟨eb,0,none⟩=false:=by simp[World.frozen?,he]
 have y0:∀v,(w.setCell ⟨eb,0,none⟩ v).cell? ⟨ab,0,none⟩=some (.int .i64 x):=λv=>by rw[World.cell?_of_block (Below.heap_setCell _ _ _ _ hne)];exact z0
 have y1:∀v,(w.setCell ⟨ab,0,none⟩ v).cell? ⟨eb,0,none⟩=some (.int .i64 y):=λv=>by rw[World.cell?_of_block (Below.heap_setCell _ _ _ _ hne2)];exact z1
 have g0:∀v,(w.setCell ⟨eb,0,none⟩ v).frozen? ⟨ab,0,none⟩=false:=λv=>by simp only[World.frozen?];rw[Below.heap_setCell _ _ _ _ (show ab≠(⟨eb,0,none⟩:Addr).block from hne),ha];rfl
 have g1:∀v,(w.setCell ⟨ab,0,none⟩ v).frozen? ⟨eb,0,none⟩=false:=λv=>by simp only[World.frozen?];rw[Below.heap_setCell _ _ _ _ (show eb≠(⟨ab,0,none⟩:Addr).block from hne2),he];rfl
 go_region
 go_wp2
 cases c₀
 simp only at hu
 subst hu
 simp only[bodyPostS]
 refine⟨trivial,_,rfl,?_⟩
 refine⟨_,results_none rfl _ _ _,?_⟩
 refine⟨rfl,rfl,?_⟩
 have hs:((w.setCell ⟨ab,0,none⟩ (.int .i64 a)).setCell ⟨eb,0,none⟩ (.int .i64 n)).heap.size=w.heap.size:=by simp[World.setCell]
 have hd:∀k,k<w.heap.size->((((w.setCell ⟨ab,0,none⟩ (.int .i64 a)).setCell ⟨eb,0,none⟩ (.int .i64 n)).alloc (Obj.cells #[.int .i64 a,.int .i64 n] 118)).drew).heap[k]? =((w.setCell ⟨ab,0,none⟩ (.int .i64 a)).setCell ⟨eb,0,none⟩ (.int .i64 n)).heap[k]? :=λk hk=>Below.heap_alloc _ _ _ (by rw[hs];exact hk)
 refine⟨?_,?_,λk hk h1 h2=>?_,rfl,rfl,rfl,?_⟩
 ·rw[hd ab hal,Below.heap_setCell _ _ _ _ (show ab≠(⟨eb,0,none⟩:Addr).block from hne)]
  simp only[World.setCell,Array.getElem?_modify,if_true,ha]
  rfl
 ·rw[hd eb hel]
  simp only[World.setCell,Array.getElem?_modify,if_true,if_neg hne,he]
  rfl
 ·rw[hd k hk,Below.heap_setCell _ _ _ _ (show k≠(⟨eb,0,none⟩:Addr).block from h2),Below.heap_setCell _ _ _ _ (show k≠(⟨ab,0,none⟩:Addr).block from h1)]
 ·have:((((w.setCell ⟨ab,0,none⟩ (.int .i64 a)).setCell ⟨eb,0,none⟩ (.int .i64 n)).alloc (Obj.cells #[.int .i64 a,.int .i64 n] 118)).drew).heap.size=w.heap.size+1:=by rw[<-hs];exact Array.size_push ..
  omega
theorem HR.rework{B:Nat}{σ:Sg}{H:AH}{w w':World}(h:HR B σ H w)(p q:Nat)(hp:∀b o,σ b≠some (p,o))(hq:∀b o,σ b≠some (q,o))(fp:σ.fz p=none)(fq:σ.fz q=none)(np:¬cP w.heap[p]?)(nq:¬cP w.heap[q]?)
  (hk:∀k,k<w.heap.size->k≠p->k≠q->w'.heap[k]? =w.heap[k]?) (hs:w.heap.size<=w'.heap.size):HR B σ H w':=by
 refine⟨h.new,h.newl,h.old,h.small,Nat.le_trans h.hB hs,h.nil,h.nilp,λb x c o hx hsb=>?_,h.szs,h.inj,λc fs hf=>?_,h.ob.keep λr hr hn=>hk r hr (λe=>np (e ▸ hn)) (λe=>nq (e ▸ hn))⟩
 ·obtain⟨cs,e1,e2,e3⟩:=h.blk b x c o hx hsb
  exact⟨cs,e1,by rw[hk c (Array.getElem?_eq_some_iff.1 e2).1 (λe=>hp b o (e ▸ hsb)) (λe=>hq b o (e ▸ hsb))];exact e2,e3⟩
 ·obtain⟨cs,t,fr,e1,e2,e3⟩:=h.frz c fs hf
  exact⟨cs,t,fr,by rw[hk c (h.fzlt hf) (λe=>by subst e;rw[fp] at hf;cases hf) (λe=>by subst e;rw[fq] at hf;cases hf)];exact e1,e2,e3⟩
def wY(w:World):World:=(w.alloc (Obj.cells #[.int .i64 0] 3)).alloc (Obj.cells #[.int .i64 0] 30)
theorem lX(w:World):(wY w).heap.size=w.heap.size+2:=by simp[wY]
theorem C3(w:World):(wY w).heap[w.heap.size]? =some (.cells #[.int .i64 0] 3 (0,0)):=xt w
theorem C2(w:World):(wY w).heap[w.heap.size+1]? =some (.cells #[.int .i64 0] 30 (0,0)):=xr w
theorem A7(w:World){c:Nat}(hc:c<w.heap.size):(wY w).heap[c]? =w.heap[c]? :=(oU w).block c hc
theorem xq{B:Nat}{σ:Sg}{H:AH}{w:World}(h:HR B σ H w):HR B σ H (wY w):=((h.junk _).1.junk _).1
theorem tP(kk:Nat->Bool){B:Nat}{σ:Sg}{H:AH}{w:World}(h:HR B σ H w):eg kk B σ w σ (wY w):=
 ⟨((Below.refl _ _).alloc h.hB _).alloc (by have:=h.hB;simp;omega) _,.refl _ _,λb c o hs=> .inl ⟨b,o,hs⟩,λc hc _=> .inl (A7 w hc),λ_ _ _=>rfl,λ_ _ _ hs=>hs⟩
def Full(H:AH):Prop:=∀b,b<H.next->∃x,H.at b=some x
theorem HR.named_lt{B:Nat}{σ:Sg}{H:AH}{w:World}(h:HR B σ H w)(hF:Full H){b c:Nat}{o:Option Nat}(hs:σ b=some (c,o)):c<w.heap.size:=by
 by_cases hb:b<H.next
 ·obtain⟨x,hx⟩:=hF b hb
  obtain⟨cs,e1,e2,e3⟩:=h.blk b x c o hx hs
  exact(Array.getElem?_eq_some_iff.1 e2).1
 ·rw[h.new b (by omega)] at hs
  cases hs
theorem eE{v:Value}{t:TypeId}{o:Option Obj}(h:o=some (.cells #[v] t (0,0))):¬cP o:=λhn=>hn _ _ _ h
theorem oG{kk:Nat->Bool}{B:Nat}{σ σ2:Sg}{H:AH}{w w2:World}(h:HR B σ H w)(hF:Full H)(ha:eg kk B σ (wY w) σ2 w2):
  w2.heap[w.heap.size]? =some (.cells #[.int .i64 0] 3 (0,0))/\w2.heap[w.heap.size+1]? =some (.cells #[.int .i64 0] 30 (0,0))/\(∀b o,σ2 b≠some (w.heap.size,o))/\(∀b o,σ2 b≠some (w.heap.size+1,o))/\σ2.fz w.heap.size=none/\σ2.fz (w.heap.size+1)=none:=by
 have hz:=lX w
 have n1:∀b o,σ b≠some (w.heap.size,o):=λb o hs=>by have:=h.named_lt hF hs;omega
 have n2:∀b o,σ b≠some (w.heap.size+1,o):=λb o hs=>by have:=h.named_lt hF hs;omega
 have f:∀c,w.heap.size<=c->σ.fz c=none:=λc hc=>by
  cases hf:σ.fz c with
  |none=>rfl
  |some fs=>have:=h.fzlt hf;omega
 refine⟨?_,?_,ha.un (by omega) n1,ha.un (by omega) n2,(ha.fz _ (by omega) n1).trans (f _ (Nat.le_refl _)),(ha.fz _ (by omega) n2).trans (f _ (by omega))⟩
 ·rcases ha.same _ (by omega) n1 with e|e
  ·exact e.trans (C3 w)
  ·exact absurd e (eE (C3 w))
 ·rcases ha.same _ (by omega) n2 with e|e
  ·exact e.trans (C2 w)
  ·exact absurd e (eE (C2 w))
theorem sV{kk:Nat->Bool}{caps:List AV}{H:AH}{Q:AV->AH->Prop}(hF:Full H)(h:PC Tryz.prog kk 30 caps H Q (λ_ _=>False)):
  PC Tryz.prog kk 29 [.f 30 [] caps] H (λv H'=>v= .tup [.n .i64 0,.n .i64 0]/\∃v',Q v' H') (λ_ _=>False):=by
 refine⟨⟨_,Tryz.func29,by kernel_rfl,rfl⟩,λB σ w args' hR ha=>?_⟩
 obtain⟨c1,c2,rfl,hc1,hc⟩:∃c1 c2,args'= #[.func (.func 30) c1 c2]/\c1= #[]/\a8 σ caps c2.toList:=by
  obtain⟨l⟩:=args'
  obtain⟨h1,h2⟩:=ha
  match l,h1 with
  |[x],_=>
   have:=h2 0 _ rfl
   cases this with
   |f n1 g1 n2 g2=>exact⟨_,_,rfl,Array.eq_empty_of_size_eq_zero (by simpa using n1.symm),by simpa using n2,λi v hv=>by simpa using g2 i v hv⟩
 subst hc1
 have HR0:=gU.mk hR
 have HC:=gU.mk hc
 have HH:=gU.mk h
 clear hR hc h ha
 go_enter_defers Tryz.func29,Tryz.ntmps29
 go_wp2_with fail
 show Calls _ _ _ (wY w) _
 have hz:=lX w
 refine((HH.out).2 B σ (wY w) c2 (xq HR0.out) HC.out).mono ?_
 rintro e w2 hp
 cases e with
 |outgrown=>exact hp.elim
 |panicked c=>
  obtain⟨_,_,h,_⟩:=hp
  exact h.elim
 |returned v=>
  obtain⟨v',H2,σ2,hq,hv,hHR,hA⟩:=hp
  obtain⟨q1,q2,n1,n2,g1,g2⟩:=oG HR0.out hF hA
  have z0:w2.cell? ⟨w.heap.size,0,none⟩=some (.int .i64 0):=by simp[World.cell?,q1]
  have z1:w2.cell? ⟨w.heap.size+1,0,none⟩=some (.int .i64 0):=by simp[World.cell?,q2]
  have f0:w2.frozen? ⟨w.heap.size,0,none⟩=false:=by simp[World.frozen?,q1]
  have f1:w2.frozen? ⟨w.heap.size+1,0,none⟩=false:=by simp[World.frozen?,q2]
  have hn1:w.heap.size≠w.heap.size+1:=by omega
  have hd:∀k,k≠w.heap.size->k≠w.heap.size+1->((w2.setCell ⟨w.heap.size,0,none⟩ (.int .i64 0)).setCell ⟨w.heap.size+1,0,none⟩ (.int .i64 0)).heap[k]? =w2.heap[k]? :=λk h1 h2=>by
   rw[Below.heap_setCell _ _ _ _ (show k≠(⟨w.heap.size+1,0,none⟩:Addr).block from h2),Below.heap_setCell _ _ _ _ (show k≠(⟨w.heap.size,0,none⟩:Addr).block from h1)]
  have y1:((w2.setCell ⟨w.heap.size,0,none⟩ (.int .i64 0)).setCell ⟨w.heap.size+1,0,none⟩ (.int .i64 0)).cell? ⟨w.heap.size,0,none⟩=some (.int .i64 0):=by
   rw[World.cell?_of_block (Below.heap_setCell _ _ _ _ (show w.heap.size≠(⟨w.heap.size+1,0,none⟩:Addr).block from hn1))]
   simp[World.cell?,World.setCell,Array.getElem?_modify,q1]
  have y2:((w2.setCell ⟨w.heap.size,0,none⟩ (.int .i64 0)).setCell ⟨w.heap.size+1,0,none⟩ (.int .i64 0)).cell? ⟨w.heap.size+1,0,none⟩=some (.int .i64 0):=by
   simp[World.cell?,World.setCell,Array.getElem?_modify,q2]
  have hsz:((w2.setCell ⟨w.heap.size,0,none⟩ (.int .i64 0)).setCell ⟨w.heap.size+1,0,none⟩ (.int .i64 0)).heap.size=w2.heap.size:=by simp[World.setCell]
  have hfin:uK kk B σ w (λv H'=>v= .tup [.n .i64 0,.n .i64 0]/\∃v',Q v' H') (λ_ _=>False) (.returned (.tuple #[.int .i64 0,.int .i64 0])) ((w2.setCell ⟨w.heap.size,0,none⟩ (.int .i64 0)).setCell ⟨w.heap.size+1,0,none⟩ (.int .i64 0)):=by
   have hAA:=(tP kk HR0.out).trans hA
   have hB:=HR0.out.hB
   refine⟨_,H2,σ2,⟨rfl,v',hq⟩,((a8.nil.cons (.n _ _)).cons (.n _ _)).tup,hHR.rework _ _ n1 n2 g1 g2 (eE q1) (eE q2) (λk _ h1 h2=>hd k h1 h2) (by omega),⟨(hAA.bel.setCell hB _).setCell (Nat.le_succ_of_le hB) _,hAA.fzb,hAA.im,λc hc hn=>?_,hAA.fz,hAA.kp⟩⟩
   rw[hd c (by omega) (by omega)]
   exact hAA.same c hc hn
  have HH2:=gU.mk hfin
  have Y1:=gU.mk y1
  have Y2:=gU.mk y2
  clear hfin hd hHR hA hv hq q1 q2 n1 n2 g1 g2 hsz y1 y2
  go_wp2
  refine leaves_cons (f:=51) (args:= #[.pointer (some ⟨w.heap.size,0,none⟩),.pointer (some ⟨w.heap.size+1,0,none⟩)]) (by simp) (by simp[go_sem]) ?_
  refine(sW w.heap.size (w.heap.size+1) _).mono ?_
  rintro e u' w'' ⟨rfl,rfl,rfl⟩
  have y1:=Y1.out
  have y2:=Y2.out
  refine⟨.tuple #[.int .i64 0,.int .i64 0],?_,HH2.out⟩
  simp[results,Tryz.results29,go_sem,y1,y2]
theorem HR.empty2{φ:Fz}{B:Nat}(w:World)(hB:B<=w.heap.size)(t1 t2:TypeId)(e1 e2:Nat)(r1 r2:Nat->Nat->AV)(hφ:∀c fs,φ c=some fs->∃cs t fr,w.heap[c]? =some (.cells cs t fr)/\gS fs cs):
  HR B ⟨λ_=>none,λb=>b<2,φ⟩ (ah [ai t2 e2 0 0 r2,ai t1 e1 0 0 r1]) w:=by
 have hat:∀b x,(ah [ai t2 e2 0 0 r2,ai t1 e1 0 0 r1]).at b=some x->b<2/\x.size=0/\x.opn=true:=λb x hx=>by
  rw[cQ,dP (by rw[aZ];simp),cQ,dP (by rw[aZ];simp),iB,ic,aZ] at hx
  by_cases h1:b=0+1
  ·rw[show([]:List AB).length=0 from rfl,if_pos h1] at hx
   cases hx
   exact⟨by omega,Nat.zero_mul _,rfl⟩
  ·rw[show([]:List AB).length=0 from rfl,if_neg h1] at hx
   by_cases h0:b=0
   ·rw[if_pos h0] at hx
    cases hx
    exact⟨by omega,Nat.zero_mul _,rfl⟩
   ·rw[if_neg h0] at hx
    cases hx
 refine⟨λ_ _=>rfl,λb hb h=>?_,λb hb=>?_,(by rw[aZ];simp),hB,λb x hx _=>⟨(hat b x hx).2.1,(hat b x hx).2.2,(hat b x hx).1⟩,λ_ _=>rfl,λb x c o hx hs=>(by cases hs),λb x hx=>(by rw[(hat b x hx).2.1];decide),λb b' x x' c o o' _ _ hs=>(by cases hs),λc fs hc=>?_,?_⟩
 ·simp only[aZ] at hb
  exact absurd h (Nat.not_lt.2 hb)
 ·simp only[aZ] at hb
  cases hx:(ah [ai t2 e2 0 0 r2,ai t1 e1 0 0 r1]).at b with
  |none=>rfl
  |some x=>have:=(hat b x hx).1;have:2<=b:=hb;omega
 ·obtain⟨cs,t,fr,h1,h2⟩:=hφ c fs hc
  exact⟨cs,t,fr,h1,h2,λb x o _ hs=>by cases hs⟩
 ·exact .none λr x hr=>by rw[lP] at hr;cases hr
theorem rj{kk:Nat->Bool}{caps:List AV}{H:AH}{a n:Int}(t1 t2:TypeId)(e1 e2:Nat)(r1 r2:Nat->Nat->AV)(hF:Full H)(h:PC Tryz.prog kk 30 caps H (λ_ _=>False) (λc _=>c=ea a n)):
  PC Tryz.prog (λ_=>false) 29 [.f 30 [] caps] H (λv H'=>v= .tup [.n .i64 a,.n .i64 n]/\H'=ah [ai t2 e2 0 0 r2,ai t1 e1 0 0 r1]) (λ_ _=>False):=by
 refine⟨⟨_,Tryz.func29,by kernel_rfl,rfl⟩,λB σ w args' hR ha=>?_⟩
 obtain⟨c1,c2,rfl,hc1,hc⟩:∃c1 c2,args'= #[.func (.func 30) c1 c2]/\c1= #[]/\a8 σ caps c2.toList:=by
  obtain⟨l⟩:=args'
  obtain⟨h1,h2⟩:=ha
  match l,h1 with
  |[x],_=>
   have:=h2 0 _ rfl
   cases this with
   |f n1 g1 n2 g2=>exact⟨_,_,rfl,Array.eq_empty_of_size_eq_zero (by simpa using n1.symm),by simpa using n2,λi v hv=>by simpa using g2 i v hv⟩
 subst hc1
 have HR0:=gU.mk hR
 have HC:=gU.mk hc
 have HH:=gU.mk h
 clear hR hc h ha
 go_enter_defers Tryz.func29,Tryz.ntmps29
 go_wp2_with fail
 show Calls _ _ _ (wY w) _
 have hz:=lX w
 refine((HH.out).2 B σ (wY w) c2 (xq HR0.out) HC.out).mono ?_
 rintro e w2 hp
 cases e with
 |outgrown=>exact hp.elim
 |returned v=>
  obtain⟨_,_,_,h,_⟩:=hp
  exact h.elim
 |panicked c=>
  obtain⟨H2,σ2,rfl,hHR,hA⟩:=hp
  obtain⟨q1,q2,n1,n2,g1,g2⟩:=oG HR0.out hF hA
  refine leaves_cons (f:=51) (args:= #[.pointer (some ⟨w.heap.size,0,none⟩),.pointer (some ⟨w.heap.size+1,0,none⟩)]) (by simp) (by simp[go_sem]) ?_
  refine(lJ w.heap.size (w.heap.size+1) 0 0 a n [] w2 q1 q2 (by omega) (by omega)).mono ?_
  rintro e u' w3 ⟨rfl,rfl,b1,b2,b3,ho3,ht3,hp3,hs3⟩
  have y1:w3.cell? ⟨w.heap.size,0,none⟩=some (.int .i64 a):=by simp[World.cell?,b1]
  have y2:w3.cell? ⟨w.heap.size+1,0,none⟩=some (.int .i64 n):=by simp[World.cell?,b2]
  have hAA:=(tP (λ_=>false) HR0.out).trans hA
  have hB:=HR0.out.hB
  have h2s:=hA.bel.size
  have hR3:HR B σ2 H2 w3:=hHR.rework _ _ n1 n2 g1 g2 (eE q1) (eE q2) (λk hk h1 h2=>b3 k hk h1 h2) hs3
  have hfin:uK (λ_=>false) B σ w (λv H'=>v= .tup [.n .i64 a,.n .i64 n]/\H'=ah [ai t2 e2 0 0 r2,ai t1 e1 0 0 r1]) (λ_ _=>False) (.returned (.tuple #[.int .i64 a,.int .i64 n])) w3:=by
   have hw:w.heap.size<=w3.heap.size:=Nat.le_trans hAA.bel.size hs3
   refine⟨_,_,⟨λ_=>none,λb=>b<2,σ2.fz⟩,⟨rfl,rfl⟩,((a8.nil.cons (.n _ _)).cons (.n _ _)).tup,HR.empty2 w3 (Nat.le_trans hB hw) t1 t2 e1 e2 r1 r2 (λc fs hf=>?_),⟨⟨ho3.trans hAA.bel.os,ht3.trans hAA.bel.tape,hp3.trans hAA.bel.output,hw,λk hk=>?_⟩,⟨hAA.fzb.eq,hAA.fzb.le⟩,λb c o hs=>(by cases hs),λc hc hn=>?_,hAA.fz,λb x hb=>(by cases hb)⟩⟩
   ·obtain⟨cs,t,fr,e1,e2,_⟩:=hR3.frz c fs hf
    exact⟨cs,t,fr,e1,e2⟩
   ·rw[b3 k (by omega) (by omega) (by omega)]
    exact hAA.bel.block k hk
   ·rw[b3 c (by omega) (by omega) (by omega)]
    exact hAA.same c hc hn
  have HH2:=gU.mk hfin
  clear hfin hHR hA hAA hR3 q1 q2 n1 n2 g1 g2
  simp[Leaves,settle,results,Tryz.results29,go_sem,y1,y2]
  exact HH2.out
theorem uJ.nmk{p:Nat->Bool}:∀{L:List (Nat×AV)},(L.all λq=>decide (q.1<1000000)&&q.2.nm p 3)=true->∀t v,(aB L).get t=some v->v.nm p 3=true
 |[],_,t,v,h=>by rw[ey] at h;cases h
 |x::L,hL,t,v,h=>by
  simp only[List.all_cons,Bool.and_eq_true,decide_eq_true_eq] at hL
  rw[dV hL.1.1] at h
  by_cases e:t=x.1
  ·rw[if_pos e] at h
   cases h
   exact hL.1.2
  ·rw[if_neg e] at h
   exact uJ.nmk hL.2 t v h
theorem zS{P:Program}{n:Nat}{kk kk':Nat->Bool}{g:FuncId}{args:List AV}{e:Tr AV}{H:AH}{Q':AV->AH->Prop}{E':List PanicEntry->AH->Prop}{Q:AV->Tr AV->AH->Prop}{E:List PanicEntry->AH->Prop}
  (ρ M:List Nat) (L:List (Nat×AV)) (args2:List AV) (bl:List AB) (h:PC P kk' g args2 (ah bl) Q' E')
  (he:d9 (λb2=>ρ.reverse[b2]?) M H e L) (hh:cM (λb2=>ρ.reverse[b2]?) M H ρ bl) (hv:CR (λb2=>ρ.reverse[b2]?) M H args args2) (hl:bl.length<1000000) (hL:(L.all λp=>decide (p.1<1000000)&&p.2.nm kk' 3)=true) (hsz:∀b,kk' b=true->∃x,(ah bl).at b=some x/\0<x.size)
  (hkk:∀b,kk b=false) (hQ:∀v H',Q' v H'->Q v (aB L) H') (hE:∀c H',E' c H'->E c H'):de P n kk g args e H Q E:=by
 refine⟨h.1,λB σ a w args' hEn hH ha'=>?_⟩
 obtain⟨σ2,q1,q2,q3,q4,q5,q6⟩:=Wk.mkE (ob:=λ_=>none) ρ M he hh hl (λr x hx=>by cases hx) hEn hH
 rw[ax] at q2
 have hA:eg (λ_=>false) B σ w σ2 w:=by
  refine⟨Below.refl _ _,q3,λb c o hs=>?_,λ_ _ _=> .inl rfl,λc _ hn=>q5 c hn,λb x hb hs=>by cases hb⟩
  rw[q4] at hs
  obtain⟨b0,h1,h2⟩:=Option.bind_eq_some_iff.1 hs
  exact .inl ⟨b0,o,h2⟩
 have hargs:a8 σ2 args2 args'.toList:=by
  obtain⟨v1,v2⟩:=hv.get
  refine⟨v1.symm.trans ha'.1,λi v' hv'=>?_⟩
  obtain⟨v,g1,g2⟩:=v2 i v' hv'
  exact q6 g2 (ha'.2 i v g1)
 refine(h.2 B σ2 w args' q2 hargs).mono λen w' hp=>?_
 cases en with
 |returned u=>
  obtain⟨v,H',σ',r0,r1,r2,r3⟩:=hp
  have hall:=hA.trans r3.no
  refine⟨v,_,H',σ',hQ v H' r0,r1,⟨⟨q1.er.df,λt v hv=>?_⟩,q1.sz,q1.sm⟩,r2,hall.bel,hall.fzb,hall.im,hall.same,hall.fz,λb x hb _=>by rw[hkk b] at hb;cases hb⟩
  have e1:=VR.only 3 (uJ.nmk hL t v hv) (q1.er.get t v hv)
  have e2:(σ2.only kk').le σ':=by
   refine⟨λb x hx=>?_,λb hb=>?_,λc fs hf=>r3.fzb.le c fs hf⟩
   ·have hx':(if kk' b then σ2.nm b else none)=some x:=hx
    split at hx'
    ·rename_i hb
     exact r3.kp b x hb hx'
    ·cases hx'
   ·obtain⟨hb1,hb2⟩:=hb
    obtain⟨x,g1,g2⟩:=hsz b hb1
    have:=(q2.nil b x g1 (q2.nilp b hb2)).1
    omega
  exact e1.mono e2
 |panicked c=>
  obtain⟨H',σ',r0,r1,r2⟩:=hp
  exact⟨H',σ',hE c H' r0,r1,hA.trans r2⟩
 |outgrown=>exact hp.elim
/-! ### an error is never 0-/
theorem ib{p n:Int}(h:n≠0):((p,n):Er).2≠0:=h
theorem lM{p:Int}{base:Nat}{ty:List UInt8}{S:WS}{e:Er}(h:eS p base ty S= .error e):e.2≠0:=by
 unfold eS at h
 split at h
 ·cases h;exact ib (by decide)
 ·split at h<;>cases h
  exact ib (by decide)
theorem dn{p:Int}{l:List Vl}{S:WS}{e:Er}(h:bX p l S= .error e):e.2≠0:=by
 unfold bX at h
 split at h<;>cases h
 exact ib (by decide)
theorem dj{b:Bd}{x:Except Er WS}{e:Er}(h:cx b x= .error e)(hx:∀e,x= .error e->e.2≠0):e.2≠0:=by
 cases x with
 |error e'=>cases h;exact hx _ rfl
 |ok S=>cases h
theorem rD{la:List (Bool×Int)}{arg p:Int}{v:Vl}{e:Er}(h:dA la arg p v= .error e):e.2≠0:=by
 unfold dA at h
 split at h<;>cases h
 exact ib (by decide)
theorem CQ{la:List (Bool×Int)}{op arg p:Int}{l:List Vl}{S:WS}{e:Er}(h:b8 la op arg p l S= .error e):e.2≠0:=by
 unfold b8 at h
 by_cases c0:op=0
 ·rw[if_pos c0] at h;exact dj h λ_=>dn
 rw[if_neg c0] at h
 by_cases c1:op=1
 ·rw[if_pos c1] at h;exact dj h λ_=>dn
 rw[if_neg c1] at h
 by_cases c2:op=2
 ·rw[if_pos c2] at h;cases h
 rw[if_neg c2] at h
 by_cases c3:op=3
 ·rw[if_pos c3] at h
  cases hx:dA la arg p (l.getD 0 v0) with
  |error e'=>rw[hx] at h;cases h;exact rD hx
  |ok x=>rw[hx] at h;exact dj h λ_=>dn
 rw[if_neg c3] at h
 by_cases c4:op=4
 ·rw[if_pos c4] at h
  cases hx:dA la arg p (l.getD 0 v0) with
  |error e'=>rw[hx] at h;cases h;exact rD hx
  |ok x=>rw[hx] at h;cases h
 rw[if_neg c4] at h
 by_cases c5:op=5
 ·rw[if_pos c5] at h;exact dj h λ_=>dn
 rw[if_neg c5] at h
 by_cases c7:op=7
 ·rw[if_pos c7] at h;exact dj h λ_=>dn
 rw[if_neg c7] at h
 by_cases c6:op=6\/op=35
 ·rw[if_pos c6] at h;cases h
 rw[if_neg c6] at h
 by_cases c34:op=34
 ·rw[if_pos c34] at h;cases h
 rw[if_neg c34] at h
 by_cases c32:op=32
 ·rw[if_pos c32] at h;exact dj h λ_=>dn
 rw[if_neg c32] at h
 by_cases c26:op=26
 ·rw[if_pos c26] at h;exact dj h λ_=>dn
 rw[if_neg c26] at h
 by_cases ct:(eU op).2=[116]
 ·rw[if_pos ct] at h;exact dj h λ_=>dn
 rw[if_neg ct] at h
 by_cases ca:(bm op (l.getD 0 v0).2 (l.getD 1 v0).2).2=0
 ·rw[if_pos ca] at h;exact dj h λ_=>dn
 ·rw[if_neg ca] at h;cases h;exact ca
theorem Bj{cs:List (Int×Int)}{la:List (Bool×Int)}{base loop p:Nat}{S:WS}{e:Er}(h:fu cs la base loop p S= .error e):e.2≠0:=by
 unfold fu at h
 split at h
 ·split at h
  ·rename_i hp;cases h;exact lM hp
  ·split at h<;>cases h
   exact ib (by decide)
 ·unfold dI at h
  split at h
  ·rename_i hp;cases h;exact lM hp
  ·exact CQ h
theorem qw{cs:List (Int×Int)}{la:List (Bool×Int)}{base loop:Nat}:∀(n p:Nat) {S:WS} {b:Bd} {e:Er},g9 cs la base loop n p S b= .error e->e.2≠0
 |0,p,S,b,e,h=>by cases h
 |n+1,p,S,b,e,h=>by
  rw[g9] at h
  split at h
  ·rename_i h1;cases h;exact Bj h1
  ·exact qw n (p+1) h
theorem t0{body:WS->Option (Except Er (WS×Bd))}{to h:Nat}{sto:Nat->Bool}(hB:∀S e,body S=some (.error e)->e.2≠0):∀(f:Nat) (pass:Int) (head:List Iv) {S:WS} {e:Er},gJ body to h sto f pass head S=some (.error e)->e.2≠0
 |0,pass,head,S,e,hh=>by cases hh
 |f+1,pass,head,S,e,hh=>by
  rw[gJ] at hh
  split at hh
  ·cases hh
  ·rename_i h1;cases hh;exact hB _ _ h1
  ·split at hh
   ·split at hh
    ·cases hh
    ·exact t0 hB f _ _ hh
   ·cases hh;exact ib (by decide)
theorem dY{cs:List (Int×Int)}{la:List (Bool×Int)}:∀(o:Fo) (base loop:Nat) {S:WS} {bd:Bd} {e:Er},aW cs la o base loop S bd=some (.error e)->e.2≠0
 |.nil,base,loop,S,bd,e,h=>by cases h
 |.pl x y r,base,loop,S,bd,e,h=>by
  rw[aW] at h
  split at h
  ·rename_i h1;cases h;exact qw _ _ h1
  ·exact dY r base loop h
 |.br op x y u v r,base,loop,S,bd,e,h=>by
  rw[aW] at h
  split at h
  ·split at h
   ·rename_i h1;cases h;exact lM h1
   ·split at h
    ·cases h
    ·rename_i h1;cases h;exact dY u _ _ h1
    ·split at h
     rotate_left
     ·cases h;exact ib (by decide)
     split at h
     ·split at h
      ·cases h
      ·rename_i h1;cases h;exact dY v _ _ h1
      ·split at h
       ·exact dY r _ _ h
       ·cases h;exact ib (by decide)
     ·exact dY r _ _ h
  ·split at h
   ·rename_i h1;cases h;exact lM h1
   ·split at h
    rotate_left
    ·cases h;exact ib (by decide)
    split at h
    ·cases h
    ·rename_i h1;cases h;exact t0 (λS e h2=>dY u _ _ h2) _ _ _ h1
    ·exact dY r _ _ h
theorem tQ{la:List (Bool×Int)}{cs:List (Int×Int)}{n:Nat}{o:Fo}{e:Er}(h:gY cs la n o=some (.error e)):e.2≠0:=by
 unfold gY at h
 split at h
 ·cases h
 ·rename_i h1
  cases h
  unfold jd at h1
  split at h1
  ·cases h1
  ·rename_i h2;cases h1;exact dY _ _ _ h2
  ·split at h1<;>cases h1
   exact ib (by decide)
 ·split at h<;>cases h
  exact ib (by decide)
theorem nk:∀{cs:List (Int×Int)},bF cs=0->∀i ∈ cs,dN i=0
 |[],_,i,hi=>by cases hi
 |x::l,h,i,hi=>by
  simp only[bF] at h
  split at h
  ·rename_i h0
   rcases List.mem_cons.1 hi with rfl|hi
   ·exact h0
   ·exact nk h i hi
  ·rename_i h0
   exact absurd h h0
theorem ny{la:List (Bool×Int)}{loc:Int}:∀{cs:List (Int×Int)} {k:Nat},(iE la loc cs k).2=0->∀i ∈ cs,¬gz la loc i
 |[],_,_,i,hi=>by cases hi
 |x::l,k,h,i,hi=>by
  simp only[iE] at h
  split at h
  ·exact absurd (show(2:Int)=0 from h) (by decide)
  ·rename_i h0
   rcases List.mem_cons.1 hi with rfl|hi
   ·exact h0
   ·exact ny h i hi
theorem kL{la:List (Bool×Int)}{loc:Int}{cs:List (Int×Int)}(ha:bV cs)(h:(cC la loc cs).2=0):
  ∃n:Nat,loc=n/\n<=16/\rX la n cs/\∃o pt,cn cs= .ok (o,pt)/\(aw cs).1=o:=by
 obtain⟨hp,hlen⟩:=iy h
 unfold cC at h
 split at h
 rotate_left
 ·rename_i h0
  exact absurd h h0
 rename_i hf
 try rw[if_pos hp] at h
 unfold bb at hf
 split at hf
 rotate_left
 ·rename_i h0
  exact absurd hf h0
 split at hf
 ·exact absurd hf (by decide)
 rename_i hl
 rw[if_neg (by omega)] at hf
 have hi:=nk hf
 have hb:=ny h
 have hr:∃o pt,cn cs= .ok (o,pt)/\(aw cs).1=o:=by
  unfold aw at hp ⊢
  rw[if_neg (by omega)] at hp ⊢
  cases hrd:cn cs with
  |error x=>rw[hrd] at hp;exact absurd (show(15:Int)=0 from hp) (by decide)
  |ok q=>exact⟨q.1,q.2,rfl,rfl⟩
 refine⟨loc.toNat,by omega,by omega,⟨hlen,λp h=>?_,λp h h34=>?_,λp h h12=>?_,ha.k⟩,hr⟩
 ·have hm:=hi _ (eD (d:=(0,0)) h)
  unfold dN at hm
  split at hm
  ·exact absurd hm (by decide)
  ·show 0<=(cs.getD p (0,0)).1/\(cs.getD p (0,0)).1<=35
   omega
 ·have hm:=hb _ (eD (d:=(0,0)) h)
  unfold gz at hm
  have h34':(cs.getD p (0,0)).1=3\/(cs.getD p (0,0)).1=4:=h34
  omega
 ·have hm:=hb _ (eD (d:=(0,0)) h)
  unfold gz at hm
  have h12':(cs.getD p (0,0)).1=1\/(cs.getD p (0,0)).1=2:=h12
  omega
def yX(b:Nat):Bool:=decide (b<3)
theorem yW{ρ:List Nat}(h0:ρ.reverse[0]? =some 0)(h1:ρ.reverse[1]? =some 1)(h2:ρ.reverse[2]? =some 2):∀b,yX b=true->ρ.reverse[b]? =some b:=λb hb=>by
 have:=of_decide_eq_true hb
 have h:b=0\/b=1\/b=2:=by omega
 rcases h with rfl|rfl|rfl
 ·exact h0
 ·exact h1
 ·exact h2
theorem qn(la:List (Bool×Int))(cs:List (Int×Int))(n:Nat)(hn:n<=16)(hK:rX la n cs)(o:Fo)(pt:List Int)(hr:cn cs= .ok (o,pt)):
  PC Tryz.prog yX 30 [.p 0 0,.p 2 0] (ah [ae 0 38 [.n .i64 0,.n .i64 0,.n .i64 0,.sl0],ae 0 38 [.n .i64 0,.n .i64 0,.n .i64 0,.sl0],ae 0 25 [.fs 2 la.length (pA la),.n .i64 n,.fs 2 cs.length (pI cs)]])
   (λv H'=>∃(S:WS) (b:Bd),gY cs la n o=some (.ok (S,b))/\v= .tup []/\H'=ah [ai 48 3 (bE S.lp cs.length).length 0 (fg (bE S.lp cs.length)),ae 0 38 [.n .i64 b.1,.n .i64 b.2,.n .i64 S.ht,.os 3 (bE S.lp cs.length).length],ae 0 38 [.n .i64 0,.n .i64 0,.n .i64 0,.sl0],ae 0 25 [.fs 2 la.length (pA la),.n .i64 n,.fs 2 cs.length (pI cs)]])
   (λc _=>∃e:Er,gY cs la n o=some (.error e)/\c=ea e.1 e.2):=by
 have hcs:=hK.len
 obtain⟨hg,hpt⟩:=iR hr
 have hW0:WF n (S0 n):=⟨⟨List.length_replicate,λx hx=>by rw[(List.mem_replicate.1 hx).2];exact oe⟩,λv hv=>(by cases hv),λl hl=>(by cases hl)⟩
 obtain⟨R,hR⟩:=bU hK.arg o 0 cs.length 0 0 (S0 n) (0,0) hg hW0 jE
 refine PC.vw (cI CX ⟨by simp,by decide⟩ ?_)
 simp only[aH]
 repeat first|with_reducible refine GE.g ?_|simp only[go_sem,simprocAttr]
 refine Kq ([aJ la n cs]) (jH la n cs) ?_
 simp only[xf]
 repeat first|with_reducible refine GE.g ?_|simp only[go_sem,simprocAttr]
 cases ha:jd cs la n o with
 |none=>
  exfalso
  unfold jd at ha
  rw[hR] at ha
  cases R with
  |error e=>cases ha
  |ok q=>obtain⟨S,b⟩:=q;dsimp only at ha;split at ha<;>cases ha
 |some q=>
  cases q with
  |error e=>exact aM [] (fargs:=[aJ la n cs,xf la n cs]) (cm.same rfl) (ly la cs n hn hK o pt hr ha) ⟨e,by unfold gY;rw[ha],rfl⟩
  |ok q=>
   obtain⟨S,b⟩:=q
   refine dd ([aJ la n cs,xf la n cs]) (lA la cs n hn hK o pt hr ha) ?_
   simp only[mB]
   by_cases h:b.1<=281474976710656
   ·repeat first|with_reducible refine GE.g ?_|simp only[h,decide_true,go_sem,simprocAttr]
    refine dd ([.b true,.n .i64 0,.n .i64 18]) (cy 0 18) ?_
    repeat first|with_reducible refine GE.g ?_|simp only[go_sem,simprocAttr]
    exact gX [3,2,1,0] [] (.tup []) [ai 48 3 (bE S.lp cs.length).length 0 (fg (bE S.lp cs.length)),ae 0 38 [.n .i64 b.1,.n .i64 b.2,.n .i64 S.ht,.os 3 (bE S.lp cs.length).length],ae 0 38 [.n .i64 0,.n .i64 0,.n .i64 0,.sl0],ae 0 25 [.fs 2 la.length (pA la),.n .i64 n,.fs 2 cs.length (pI cs)]] (.cr (.k2 (λi j _ _=>ju _ i j)) (.cr (.j4) (.cr (.j4) (.cr (.j3) .nil)))) (.cv (.rfl rfl)) (by simp) (yW rfl rfl rfl) ⟨S,b,by unfold gY;rw[ha];exact if_pos h,rfl,rfl⟩
   ·repeat first|with_reducible refine GE.g ?_|simp only[h,decide_false,go_sem,simprocAttr]
    exact aM [] (fargs:=[.b false,.n .i64 0,.n .i64 18]) (cm.same rfl) (cV 0 18) ⟨(0,18),by unfold gY;rw[ha];exact if_neg h,rfl⟩
theorem Full.two{x y:AB}(hx:x.live=true)(hy:y.live=true):Full (ah [x,y]):=λb hb=>by
 rw[aZ] at hb
 have h2:b=0\/b=1:=by have:b<2:=hb;omega
 rw[cQ,dP (by rw[aZ];simp),cQ,dP (by rw[aZ];simp),ic,aZ]
 rcases h2 with rfl|rfl
 ·exact⟨y,by simp[hy]⟩
 ·exact⟨x,by simp[hx]⟩
theorem nU{la:List (Bool×Int)}{cs:List (Int×Int)}{n:Nat}(hn:n<=16)(hK:rX la n cs){o:Fo}{pt:List Int}(hr:cn cs= .ok (o,pt)):gY cs la n o≠none:=by
 obtain⟨hg,hpt⟩:=iR hr
 have hW0:WF n (S0 n):=⟨⟨List.length_replicate,λx hx=>by rw[(List.mem_replicate.1 hx).2];exact oe⟩,λv hv=>(by cases hv),λl hl=>(by cases hl)⟩
 obtain⟨R,hR⟩:=bU hK.arg o 0 cs.length 0 0 (S0 n) (0,0) hg hW0 jE
 unfold gY
 cases ha:jd cs la n o with
 |none=>
  exfalso
  unfold jd at ha
  rw[hR] at ha
  cases R with
  |error e=>cases ha
  |ok q=>obtain⟨S,b⟩:=q;dsimp only at ha;split at ha<;>cases ha
 |some q=>
  cases q with
  |error e=>simp
  |ok q=>dsimp only;split<;>simp
theorem rJ{x y z:AB}(hx:x.live=true)(hy:y.live=true)(hz:z.live=true){b:Nat}(hb:b<3):(ah [x,y,z]).at b=some (if b=2 then x else if b=1 then y else z):=by
 have h2:b=0\/b=1\/b=2:=by omega
 rw[cQ,dP (by rw[aZ];simp),cQ,dP (by rw[aZ];simp),cQ,dP (by rw[aZ];simp),aZ,ic,ic,aZ]
 rcases h2 with rfl|rfl|rfl<;>simp[hx,hy,hz]
def ei(la:List (Bool×Int))(n:Nat)(cs:List (Int×Int)):Option (Except Er (WS×Bd)):=
 if(cC la n cs).2=0 then gY cs la n (aw cs).1 else some (.error ((cC la n cs).1,(cC la n cs).2))
theorem nT(la:List (Bool×Int))(n:Nat)(cs:List (Int×Int))(hl:la.length<=9223372036854775807)(hc:cs.length<=9223372036854775807)(ha:bV cs):
  PC Tryz.prog (λ_=>false) 12 [aJ la n cs] (ah [])
   (λv H'=>(∃(S:WS) (b:Bd),ei la n cs=some (.ok (S,b))/\∃k,v= .tup [.agg [.n .i64 b.1,.n .i64 b.2,.n .i64 S.ht,.os k (bE S.lp cs.length).length],.n .i64 0,.n .i64 0]/\H'.at k=some (ai 48 3 (bE S.lp cs.length).length 0 (fg (bE S.lp cs.length))))\/
    (∃e:Er,ei la n cs=some (.error e)/\v= .tup [.agg [.n .i64 0,.n .i64 0,.n .i64 0,.sl0],.n .i64 e.1,.n .i64 e.2]))
   (λ_ _=>False):=by
 refine cI RI ⟨by simp,by decide⟩ ?_
 simp only[aH,aJ]
 repeat first|with_reducible refine GE.g ?_|simp only[go_sem,simprocAttr]
 refine dd ([aJ la n cs]) (jl la n cs hl hc ha) ?_
 by_cases h0:(cC la n cs).2=0
 ·obtain⟨m,hm,hn,hK,o,pt,hr,hpo⟩:=kL ha h0
  obtain rfl:n=m:=by omega
  repeat first|with_reducible refine GE.g ?_|simp only[h0,ne_eq,not_true_eq_false,decide_true,decide_false,Bool.not_true,go_sem,simprocAttr]
  cases hv:gY cs la n o with
  |none=>exact absurd hv (nU hn hK hr)
  |some R=>
   cases R with
   |ok q=>
    obtain⟨S,b⟩:=q
    have hb:ei la n cs=some (.ok (S,b)):=by unfold ei;rw[if_pos h0,hpo];exact hv
    refine zS (kk':=yX) [2,1,0] [] [(2,.p 1 0),(7,.p 2 0)] [.f 30 [] [.p 0 0,.p 2 0]] [ae 0 38 [.n .i64 0,.n .i64 0,.n .i64 0,.sl0],ae 0 38 [.n .i64 0,.n .i64 0,.n .i64 0,.sl0],ae 0 25 [.fs 2 la.length (pA la),.n .i64 n,.fs 2 cs.length (pI cs)]] (sV ?full ((qn la cs n hn hK o pt hr).mono (λv H q=>q) (λc H q=>?q2))) ?_ ?_ ?_ (by simp) (by rfl) ?hsz (λ_=>rfl) ?_ (λ_ _ h=>h.elim)
    case full=>exact λb hb=>⟨_,rJ rfl rfl rfl hb⟩
    case q2=>obtain⟨e',h,_⟩:=q;rw[hv] at h;cases h
    case hsz=>exact λb hb=>⟨_,rJ rfl rfl rfl (of_decide_eq_true hb),by split<;>(try split)<;>(show 0<(_:Nat);simp[ae])⟩
    ·exact ba
    ·exact .cr (.j4) (.cr (.j4) (.cr (.j3) .nil))
    ·exact⟨Wv.f rfl rfl (λi v v' h1 h2=>by cases h1) (λi v v' h1 h2=>by rcases i with _|_|i<;>cases h1<;>cases h2<;>exact Wv.p rfl),trivial⟩
    ·rintro v H' ⟨rfl,v',S',b',h,rfl,rfl⟩
     rw[hv] at h
     cases h
     repeat first|with_reducible refine GE.g ?_|simp only[ne_eq,not_true_eq_false,decide_false,Bool.not_true,go_sem,simprocAttr]
     exact .inl ⟨S,b,hb,3,rfl,by simp only[go_sem,simprocAttr]<;>rfl⟩
   |error e=>
    have hb:ei la n cs=some (.error e):=by unfold ei;rw[if_pos h0,hpo];exact hv
    refine dX (ob:=λ_=>none) (λ_=>false) [1,2,0] [] [(2,.p 2 0)] [.f 30 [] [.p 0 0,.p 1 0]] [ae 0 38 [.n .i64 0,.n .i64 0,.n .i64 0,.sl0]] [ae 0 38 [.n .i64 0,.n .i64 0,.n .i64 0,.sl0],ae 0 25 [.fs 2 la.length (pA la),.n .i64 n,.fs 2 cs.length (pI cs)]] (rj (a:=e.1) (n:=e.2) 3 3 1 1 (λ_ _=> .n .i64 0) (λ_ _=> .n .i64 0) ?full ((sr la cs n hn hK o pt hr).mono (λv H q=>?q1) (λc H q=>?q2))).o ?_ ?_ ?_ ?_ ?_ ?_ ?_ ?_ ?_ ?_ ?_ ?_ ?_ ?_
    case full=>exact Full.two rfl rfl
    case q1=>obtain⟨S,b,h,_⟩:=q;rw[hv] at h;cases h
    case q2=>obtain⟨e',h,rfl⟩:=q;rw[hv] at h;cases h;rfl
    ·exact ba
    ·exact .cr (.j4) (.cr (.j4) (.cr (.j3) .nil))
    ·exact⟨Wv.f rfl rfl (λi v v' h1 h2=>by cases h1) (λi v v' h1 h2=>by rcases i with _|_|i<;>cases h1<;>cases h2<;>exact Wv.p rfl),trivial⟩
    ·exact λr x hx=>by cases hx
    ·simp
    ·rfl
    ·exact λb hb=>by cases hb
    ·exact λb x hb _=>by cases hb
    ·rfl
    ·rfl
    ·exact .cons .lq (.cons .lq .nil)
    ·exact .cons .lq .nil
    ·have he:e.2≠0:=tQ hv
     rintro v H' ⟨rfl,rfl⟩
     refine⟨λ_=>none,λ_=>none,[ai 3 1 0 0 (λ_ _=> .n .i64 0),ai 3 1 0 0 (λ_ _=> .n .i64 0)],[ae 0 38 [.n .i64 0,.n .i64 0,.n .i64 0,.sl0]],[2],[],_,[(2,.p 0 0)],(ax _).symm,rfl,?_,?_,Wv.same rfl,by simp,(λr x hx=>by cases hx),(λb hb=>by cases hb),?_⟩
     ·exact ba
     ·simp only[List.cons_append,List.nil_append,ax]
      exact .cr (.j4) .nil
     rw[ax]
     repeat first|with_reducible refine GE.g ?_|simp only[he,ne_eq,not_true_eq_false,not_false_eq_true,decide_true,decide_false,Bool.not_true,Bool.not_false,go_sem,simprocAttr]
     exact .inr ⟨e,hb,rfl⟩
    ·exact λc H' h=>h.elim
 ·repeat first|with_reducible refine GE.g ?_|simp only[h0,ne_eq,not_true_eq_false,not_false_eq_true,decide_true,decide_false,Bool.not_true,Bool.not_false,go_sem,simprocAttr]
  exact(.inr ⟨((cC la n cs).1,(cC la n cs).2),by unfold ei;exact if_neg h0,rfl⟩)
/-! ### partners are no loops-/
def PI(cs:List (Int×Int))(l:List Int):Prop:=∀q,aj cs q≠31->l.getD q 0<=0\/aj cs (l.getD q 0).toNat=28\/aj cs (l.getD q 0).toNat=31
theorem Ij(l:List Int)(q i:Nat)(v:Int):(i=q/\(l.set q v).getD i 0=v)\/(l.set q v).getD i 0=l.getD i 0:=by
 by_cases e:i=q
 ·subst e
  by_cases h:i<l.length
  ·exact .inl ⟨rfl,dF h⟩
  ·right
   rw[List.set_eq_of_length_le (by omega)]
 ·exact .inr (a9 e)
theorem PI.set{cs:List (Int×Int)}{l:List Int}(h:PI cs l){q:Nat}{v:Int}(hv:aj cs q=31\/v<=0\/aj cs v.toNat=28\/aj cs v.toNat=31):PI cs (l.set q v):=λi hi=>by
 rcases Ij l q i v with⟨rfl,h1⟩|h1
 ·rw[h1]
  rcases hv with hv|hv
  ·exact absurd hv hi
  ·exact hv
 ·rw[h1];exact h i hi
theorem xJ{cs:List (Int×Int)}{i:Nat}{s s':RS}(h:bQ cs i s=some s')(hI:PI cs s.out):PI cs s'.out:=by
 have k1:PI cs (s.out.set i (-1)):=hI.set (.inr (.inl (by decide)))
 unfold bQ at h
 split at h
 ·split at h<;>cases h
  exact k1
 split at h
 ·rename_i h28
  split at h
  ·split at h<;>cases h
   exact k1.set (.inr (.inr (.inl (by rw[Int.toNat_natCast];exact h28))))
  ·cases h
 split at h
 ·split at h<;>cases h
  exact k1
 split at h
 ·rename_i h31
  split at h
  ·cases h
   rename_i b _ c _ _ _
   have k2:=k1.set (q:=i) (v:=(b:Nat)) (.inl h31)
   dsimp only
   split
   ·exact k2.set (.inr (.inr (.inr (by rw[Int.toNat_natCast];exact h31))))
   ·exact k2.set (.inr (.inr (.inr (by rw[Int.toNat_natCast];exact h31))))
  ·cases h
 ·cases h
  exact k1
theorem qy{cs:List (Int×Int)}:∀(n i:Nat) {s s':RS},bz cs n i s= .ok s'->PI cs s.out->PI cs s'.out
 |0,i,s,s',h,hI=>by cases h;exact hI
 |n+1,i,s,s',h,hI=>by
  rw[bz] at h
  split at h
  ·cases h
  ·rename_i s1 h1
   exact qy n (i+1) h (xJ h1 hI)
theorem Br{cs:List (Int×Int)}{out:List Int}(h:ej cs= .ok out):PI cs out:=by
 unfold ej at h
 split at h
 ·cases h
 ·rename_i s hs
  split at h<;>cases h
  refine qy _ _ hs λq _=> .inl ?_
  show(List.replicate cs.length (0:Int)).getD q 0<=0
  rw[List.getD_eq_getElem?_getD,List.getElem?_replicate]
  split<;>exact Int.le_refl _
/-! ### what is noted of the loops-/
def jF(cs:List (Int×Int))(a b:Nat)(lp lp':List (Int×Int)):Prop:=
 (∀q:Nat,(q<a\/b<=q\/aj cs q≠29)->dz lp' q=dz lp q)/\∀q:Nat,a<=q->q<b->aj cs q=29->∃m,dz lp' q=some m/\0<=m/\m<=65536
theorem jF.no{cs:List (Int×Int)}{a b:Nat}{l:List (Int×Int)}(h:∀q,a<=q->q<b->aj cs q≠29):jF cs a b l l:=⟨λ_ _=>rfl,λq h1 h2 h3=>absurd h3 (h q h1 h2)⟩
theorem jF.one{cs:List (Int×Int)}{a:Nat}{l:List (Int×Int)}(h:aj cs a≠29):jF cs a (a+1) l l:= .no λq h1 h2=>by rwa [show q=a by omega]
theorem jF.trans{cs:List (Int×Int)}{a b c:Nat}{l1 l2 l3:List (Int×Int)}(h:jF cs a c l1 l2)(h':jF cs c b l2 l3)(h1:a<=c)(h2:c<=b):jF cs a b l1 l3:=
 ⟨λq hq=>(h'.1 q (by omega)).trans (h.1 q (by omega)),λq hq1 hq2 h29=>by
  by_cases e:q<c
  ·obtain⟨m,k1,k2⟩:=h.2 q hq1 e h29
   exact⟨m,(h'.1 q (.inl e)).trans k1,k2⟩
  ·exact h'.2 q (by omega) hq2 h29⟩
def AG(li:List cS)(cs:List (Int×Int))(a b:Nat)(lp:List (Int×Int)):Prop:=∀(q:Nat) (m:Int),a<=q->q<b->aj cs q=29->dz lp q=some m->aO li q=m
theorem AG.back{li:List cS}{cs:List (Int×Int)}{a0 b a c c':Nat}{l2 l3:List (Int×Int)}(h:AG li cs a0 b l3)(k:jF cs c' b l2 l3)(h1:a0<=a)(h2:c<=c')(h3:c'<=b):AG li cs a c l2:=
 λq m q1 q2 q3 q4=>h q m (by omega) (by omega) q3 ((k.1 q (.inl (by omega))).trans q4)
theorem nf(cs:List (Int×Int))(a:Nat):∀n,bH cs a (n+1)=(if aj cs a=34 then 1 else 0)+bH cs (a+1) n
 |0=>by simp[bH]
 |n+1=>by
  rw[bH,nf cs a n,bH,show a+1+n=a+(n+1) by omega]
  omega
theorem Kg{la:List (Bool×Int)}{op arg p:Int}{l:List Vl}{S S':WS}{b:Bd}(h:b8 la op arg p l S= .ok (S',b)):b=(1,if op=34 then 1 else 0):=by
 have w:∀{x:Except Er WS} {b0:Bd},cx b0 x= .ok (S',b)->b=b0:=λ{x b0} h=>by
  cases x with
  |error e=>cases h
  |ok S=>cases h;rfl
 unfold b8 at h
 by_cases c:op=34
 ·subst c
  rw[if_neg (by decide),if_neg (by decide),if_neg (by decide),if_neg (by decide),if_neg (by decide),if_neg (by decide),if_neg (by decide),if_neg (by decide),if_pos rfl] at h
  cases h;rfl
 rw[if_neg c]
 by_cases c0:op=0
 ·rw[if_pos c0] at h;exact w h
 rw[if_neg c0] at h
 by_cases c1:op=1
 ·rw[if_pos c1] at h;exact w h
 rw[if_neg c1] at h
 by_cases c2:op=2
 ·rw[if_pos c2] at h;cases h;rfl
 rw[if_neg c2] at h
 by_cases c3:op=3
 ·rw[if_pos c3] at h
  split at h
  ·cases h
  ·exact w h
 rw[if_neg c3] at h
 by_cases c4:op=4
 ·rw[if_pos c4] at h
  split at h<;>cases h
  rfl
 rw[if_neg c4] at h
 by_cases c5:op=5
 ·rw[if_pos c5] at h;exact w h
 rw[if_neg c5] at h
 by_cases c7:op=7
 ·rw[if_pos c7] at h;exact w h
 rw[if_neg c7] at h
 by_cases c6:op=6\/op=35
 ·rw[if_pos c6] at h;cases h;rfl
 rw[if_neg c6,if_neg c] at h
 by_cases c32:op=32
 ·rw[if_pos c32] at h;exact w h
 rw[if_neg c32] at h
 by_cases c26:op=26
 ·rw[if_pos c26] at h;exact w h
 rw[if_neg c26] at h
 by_cases ct:(eU op).2=[116]
 ·rw[if_pos ct] at h;exact w h
 rw[if_neg ct] at h
 by_cases ca:(bm op (l.getD 0 v0).2 (l.getD 1 v0).2).2=0
 ·rw[if_pos ca] at h;exact w h
 ·rw[if_neg ca] at h;cases h
theorem Bk{cs:List (Int×Int)}{la:List (Bool×Int)}{n base loop p:Nat}{S S':WS}{b:Bd}(h:fu cs la base loop p S= .ok (S',b))(ha:kS cs)(hS:WF n S):S'.lp=S.lp/\b=(1,if aj cs p=34 then 1 else 0):=by
 unfold fu at h
 split at h
 ·rename_i h30
  split at h
  ·cases h
  ·rename_i l S1 hp
   obtain⟨k1,k2,k3,k4,k5⟩:=ce hp hS
   split at h<;>cases h
   exact⟨k5,by rw[if_neg (by omega)]⟩
 ·unfold dI at h
  split at h
  ·cases h
  ·rename_i l S1 hp
   obtain⟨k1,k2,k3,k4,k5⟩:=ce hp hS
   obtain⟨m1,m2,m3,m4,m5⟩:=kR h (ha p) k2 k1
   exact⟨m4.trans k5,Kg h⟩
theorem qx{cs:List (Int×Int)}{la:List (Bool×Int)}{n base loop:Nat}(ha:kS cs):∀(k p:Nat) {S S':WS} {b b':Bd},g9 cs la base loop k p S b= .ok (S',b')->WF n S->jf b->
  S'.lp=S.lp/\b'.1=aX (b.1+k)/\b'.2=aX (b.2+(bH cs p k:Nat))
 |0,p,S,S',b,b',h,hS,hb=>by
  cases h
  exact⟨rfl,by rw[gp (by have:=hb.1;omega)];simp,by rw[gp (by have:=hb.2;show _+((0:Nat):Int)<=_;omega)];show _=_+((0:Nat):Int);omega⟩
 |k+1,p,S,S',b,b',h,hS,hb=>by
  rw[g9] at h
  split at h
  ·cases h
  ·rename_i S1 x h1
   obtain⟨k1,k2⟩:=iL h1 ha hS
   obtain⟨e1,rfl⟩:=Bk h1 ha hS
   obtain⟨m1,m2,m3⟩:=qx ha k (p+1) h k1.wf (bf hb.nn k2.nn)
   have hb1:=hb.1
   have hb2:=hb.2
   refine⟨m1.trans e1,?_,?_⟩
   ·rw[m2]
    show aX (aX (b.1+1)+k)=_
    rw[Int.add_comm,bB (by omega)]
    congr 1
    omega
   ·rw[m3,nf]
    show aX (aX (b.2+if aj cs p=34 then 1 else 0)+_)=_
    rw[Int.add_comm,bB (by omega)]
    congr 1
    split<;>omega
def Aw(cs:List (Int×Int))(n a b:Nat)(u:Fo)(body:WS->Option (Except Er (WS×Bd))):Prop:=∀S S' bd,body S=some (.ok (S',bd))->WF n S->
 jF cs a b S.lp S'.lp/\∀li,AG li cs a b S'.lp->bd.1=av li u 0/\bd.2=aE cs li u 0
theorem jF.join{cs:List (Int×Int)}{a b:Nat}{l1 l2 l3:List (Int×Int)}(h:jF cs a b l1 l2)(h':jF cs a b l2 l3):jF cs a b l1 l3:=⟨λq hq=>(h'.1 q hq).trans (h.1 q hq),h'.2⟩
theorem t7{cs:List (Int×Int)}{n a b x0 to h:Nat}{u:Fo}{body:WS->Option (Except Er (WS×Bd))}(hB:iG cs n a b body)(hL:Aw cs n a b u body):∀(f:Nat) (pass:Int) (head:List Iv) {S S':WS} {hd:List Iv} {bd:Bd},gJ body to h (stoF cs x0 (to-x0)) f pass head S=some (.ok (hd,S',bd))->WF n S->sd n head->
  jF cs a b S.lp S'.lp/\∀li,AG li cs a b S'.lp->bd.1=av li u 0/\bd.2=aE cs li u 0
 |0,pass,head,S,S',hd,bd,hr,_,_=>by cases hr
 |f+1,pass,head,S,S',hd,bd,hr,hS,hh=>by
  rw[gJ] at hr
  split at hr
  ·cases hr
  ·cases hr
  ·rename_i S1 b1 hb1
   have hS0:WF n {S with loc:=head,lv:=[]}:=⟨hh,hS.st,λl hl=>by cases hl⟩
   obtain⟨k1,k2⟩:=hB _ _ _ hb1 hS0
   have k3:=hL _ _ _ hb1 hS0
   split at hr
   ·split at hr
    ·cases hr
     exact k3
    ·obtain⟨m1,m2⟩:=t7 hB hL f (pass+1) _ hr k1.wf (gB hh _ _ _ _)
     exact⟨jF.join k3.1 m1,m2⟩
   ·cases hr
theorem dZ{cs:List (Int×Int)}{la:List (Bool×Int)}{out:List Int}{n:Nat}(hPI:PI cs out)(ha:kS cs):∀(o:Fo) (a b base loop:Nat) {S S':WS} {bd bd':Bd},aA cs out o a b->aW cs la o base loop S bd=some (.ok (S',bd'))->WF n S->jf bd->
  jF cs a b S.lp S'.lp/\∀li,AG li cs a b S'.lp->bd'.1=av li o bd.1/\bd'.2=aE cs li o bd.2
 |.nil,a,b,base,loop,S,S',bd,bd',hg,h,hS,hb=>by
  cases h
  have:a=b:=hg
  exact⟨.no λq h1 h2=>by omega,λli _=>⟨rfl,rfl⟩⟩
 |.pl x y r,a,b,base,loop,S,S',bd,bd',hg,h,hS,hb=>by
  obtain⟨rfl,h1,hno,_,h4⟩:=hg
  rw[aW] at h
  split at h
  ·cases h
  ·rename_i S1 b1 hr
   obtain⟨k1,k2⟩:=gh ha _ _ hr hS hb
   obtain⟨e1,e2,e3⟩:=qx ha _ _ hr hS hb
   obtain⟨m1,m2⟩:=dZ hPI ha r y b base loop h4 h k1.wf k2
   rw[e1] at m1
   refine⟨(jF.no (λq q1 q2=>(hno q q1 q2).2.1)).trans m1 (by omega) h4.le,λli hA=>?_⟩
   obtain⟨t1,t2⟩:=m2 li (λq m q1 q2 q3 q4=>hA q m (by omega) q2 q3 q4)
   rw[t1,t2,av,aE,e2,e3,show(((y-x:Nat):Int))=(y:Int)-x by omega]
   exact⟨rfl,rfl⟩
 |.br op x y u v r,a,b,base,loop,S,S',bd,bd',hg,h,hS,hb=>by
  obtain⟨rfl,hop,hopv,⟨m,g1,g2,g3,g4,g5⟩,h4⟩:=hg
  have hle:=h4.le
  have hul:=g4.le
  have hmy:m<y:=by rcases g5 with⟨_,e,_,q2,_,_,q5⟩|⟨_,_,q2⟩<;>omega
  have hm29:aj cs m≠29:=by
   have:=hPI x (by omega)
   rw[g1,Int.toNat_natCast] at this
   omega
  rw[aW,g4.lastB] at h
  split at h
  ·rename_i h27
   have hx29:aj cs x≠29:=by omega
   split at h
   ·cases h
   ·rename_i l S1 hp
    obtain⟨k1,k2,k3,k4,k5⟩:=ce hp hS
    split at h
    ·cases h
    ·cases h
    ·rename_i S2 bx hu
     obtain⟨m1,m2⟩:=aQ ha u (x+1) m _ loop g4 hu k1 jE
     obtain⟨c1,c2⟩:=dZ hPI ha u (x+1) m _ loop g4 hu k1 jE
     rw[k5] at c1
     split at h
     rotate_left
     ·cases h
     split at h
     ·rename_i h28
      rcases g5 with⟨_,e,q1,q2,q3,q4,q5⟩|⟨q0,_,_⟩
      rotate_left
      ·exact absurd h28 q0
      have he29:aj cs e≠29:=by
       have:=hPI m (by omega)
       rw[q1,Int.toNat_natCast] at this
       omega
      subst q5
      have hvl:=q4.le
      split at h
      ·cases h
      ·cases h
      ·rename_i S4 by_ hv
       have hS3:WF n {S2 with loc:=S1.loc}:=⟨k1.loc,m1.wf.st,m1.wf.lv⟩
       obtain⟨n1,n2⟩:=aQ ha v (m+1) e _ loop q4 hv hS3 jE
       obtain⟨d1,d2⟩:=dZ hPI ha v (m+1) e _ loop q4 hv hS3 jE
       split at h
       rotate_left
       ·cases h
       have hS5:WF n {S4 with loc:=bL S2.loc S4.loc}:=⟨dM m1.wf.loc.1 _,n1.wf.st,n1.wf.lv⟩
       have hbd:jf (bA bd (bA (aU bx.1 by_.1,aU bx.2 by_.2) (1,0))):=bf hb.nn (bf (by have:=m2.nn;have:=n2.nn;unfold aU;dsimp only;constructor<;>split<;>omega) kq.nn).nn
       obtain⟨t1,t2⟩:=dZ hPI ha r (e+1) b base loop h4 h hS5 hbd
       have w1:jF cs e b S4.lp S'.lp:=(jF.one he29).trans t1 (by omega) hle
       have w2:jF cs (m+1) b S2.lp S'.lp:=jF.trans d1 w1 hvl (by omega)
       have w3:jF cs m b S2.lp S'.lp:=(jF.one hm29).trans w2 (by omega) (by omega)
       refine⟨(jF.one hx29).trans (c1.trans w3 hul (by omega)) (by omega) (by omega),λli hA=>?_⟩
       obtain⟨a1,a2⟩:=c2 li (hA.back w3 (by omega) (Nat.le_refl _) (by omega))
       obtain⟨a3,a4⟩:=d2 li (hA.back w1 (by omega) (Nat.le_refl _) (by omega))
       obtain⟨a5,a6⟩:=t2 li (λq z z1 z2 z3 z4=>hA q z (by omega) z2 z3 z4)
       rw[a5,a6,av,aE,if_pos h27,if_pos h27,<-a1,<-a2,<-a3,<-a4]
       refine⟨congrArg (av li r) ?_,congrArg (aE cs li r) ?_⟩
       ·show aX (bd.1+aX (aU bx.1 by_.1+1))=_
        rw[bB hb.nn.1,show bd.1+(aU bx.1 by_.1+1)=bd.1+1+aU bx.1 by_.1 by omega];rfl
       ·show aX (bd.2+aX (aU bx.2 by_.2+0))=_
        rw[bB hb.nn.2,Int.add_zero];rfl
     ·rename_i h28
      rcases g5 with⟨q0,_⟩|⟨q0,q1,q2⟩
      ·exact absurd q0 h28
      subst q1 q2
      have hS5:WF n {S2 with loc:=bL S2.loc S1.loc}:=⟨dM m1.wf.loc.1 _,m1.wf.st,m1.wf.lv⟩
      have hbd:jf (bA bd (bA (aU bx.1 0,aU bx.2 0) (1,0))):=bf hb.nn (bf (by have:=m2.nn;unfold aU;dsimp only;constructor<;>split<;>omega) kq.nn).nn
      obtain⟨t1,t2⟩:=dZ hPI ha r (m+1) b base loop h4 h hS5 hbd
      have w3:jF cs m b S2.lp S'.lp:=(jF.one hm29).trans t1 (by omega) (by omega)
      refine⟨(jF.one hx29).trans (c1.trans w3 hul (by omega)) (by omega) (by omega),λli hA=>?_⟩
      obtain⟨a1,a2⟩:=c2 li (hA.back w3 (by omega) (Nat.le_refl _) (by omega))
      obtain⟨a5,a6⟩:=t2 li (λq z z1 z2 z3 z4=>hA q z (by omega) z2 z3 z4)
      rw[a5,a6,av,aE,if_pos h27,if_pos h27,<-a1,<-a2]
      refine⟨congrArg (av li r) ?_,congrArg (aE cs li r) ?_⟩
      ·show aX (bd.1+aX (aU bx.1 0+1))=_
       rw[bB hb.nn.1,show bd.1+(aU bx.1 0+1)=bd.1+1+aU bx.1 0 by omega];rfl
      ·show aX (bd.2+aX (aU bx.2 0+0))=_
       rw[bB hb.nn.2,Int.add_zero];rfl
  ·rename_i h27
   have h29:op=29:=by rcases hopv with h0|h0;exact absurd h0 h27;exact h0
   split at h
   ·cases h
   ·rename_i l S1 hp
    obtain⟨k1,k2,k3,k4,k5⟩:=ce hp hS
    have hmo:=du k2 0
    split at h
    rotate_left
    ·cases h
    rename_i hmx
    split at h
    ·cases h
    ·cases h
    ·rename_i head S2 bx hr
     have hB:iG cs n (x+1) m (λS'=>aW cs la u S1.st.length S1.st.length S' (0,0)):=λS3 S4 b4 h3 h5=>aQ ha u (x+1) m _ _ g4 h3 h5 jE
     have hL:Aw cs n (x+1) m u (λS'=>aW cs la u S1.st.length S1.st.length S' (0,0)):=λS3 S4 b4 h3 h5=>dZ hPI ha u (x+1) m _ _ g4 h3 h5 jE
     obtain⟨m1,m2,m3,m4,m5⟩:=fH hB (by omega) hul (Nat.le_refl _) 6 1 S1.loc hr k1 k1.loc
     obtain⟨c1,c2⟩:=t7 hB hL 6 1 S1.loc hr k1 k1.loc
     rw[k5] at c1
     have hS5:WF n {S2 with loc:=S2.lv.foldl bL head,lv:=S1.lv,lp:=fM S2.lp x (l.getD 0 v0).2.2}:=⟨ir _ _ m2,m1.st,k1.lv⟩
     have hbd:jf (bA bd (bA (ft bx (l.getD 0 v0).2.2) (1,0))):=bf hb.nn (bf (iK m3 (by omega)).nn kq.nn).nn
     obtain⟨t1,t2⟩:=dZ hPI ha r y b base loop h4 h hS5 hbd
     have hy:y=m+1:=by
      rcases g5 with⟨q0,_⟩|⟨_,_,q2⟩
      ·have:=g2.2 h29;omega
      ·exact q2
     subst hy
     have w0:jF cs x (m+1) S.lp (fM S2.lp x (l.getD 0 v0).2.2):=⟨λq hq=>by
       rw[dJ]
       by_cases e:q=x
       ·rw[e] at hq
        omega
       ·rw[if_neg (by omega)]
        exact c1.1 q (by omega),λq q1 q2 q3=>by
       rw[dJ]
       by_cases e:q=x
       ·rw[if_pos (by omega)]
        exact⟨_,rfl,by omega,hmx⟩
       ·rw[if_neg (by omega)]
        have:q≠m:=λe=>hm29 (e ▸ q3)
        exact c1.2 q (by omega) (by omega) q3⟩
     have w3:jF cs (m+1) b (fM S2.lp x (l.getD 0 v0).2.2) S'.lp:=t1
     refine⟨w0.trans w3 (by omega) hle,λli hA=>?_⟩
     have hmost:aO li x=(l.getD 0 v0).2.2:=hA x _ (Nat.le_refl _) (by omega) (hop.trans h29) ((w3.1 x (.inl (by omega))).trans (by rw[dJ,if_pos rfl]))
     have hAu:AG li cs (x+1) m S2.lp:=λq z z1 z2 z3 z4=>hA q z (by omega) (by omega) z3 ((w3.1 q (.inl (by omega))).trans (by rw[dJ,if_neg (by omega)];exact z4))
     obtain⟨a1,a2⟩:=c2 li hAu
     obtain⟨a5,a6⟩:=t2 li (λq z z1 z2 z3 z4=>hA q z (by omega) z2 z3 z4)
     rw[a5,a6,av,aE,if_neg h27,if_neg h27,<-a1,<-a2,hmost]
     refine⟨congrArg (av li r) ?_,congrArg (aE cs li r) ?_⟩
     ·show aX (bd.1+aX (bc (aX (bx.1+1)) _+1))=_
      rw[bB hb.nn.1]
      congr 1
      omega
     ·show aX (bd.2+aX (bc bx.2 _+0))=_
      rw[bB hb.nn.2,Int.add_zero]
theorem l8{a n:Int}(h:0<=a)(hn:0<=n):bc a n=aX (a*n):=by
 unfold bc
 split
 ·rename_i h1
  obtain⟨h1,h2⟩:=h1
  have h3:=Int.lt_ediv_add_one_mul_self 281474976710657 h1
  have h4:(281474976710657 / n+1)*n<=a*n:=Int.mul_le_mul_of_nonneg_right (by omega) hn
  unfold aX
  rw[if_pos (by omega)]
 ·rfl
theorem cj{a b:Int}(h:a<=b):aX a<=aX b:=by unfold aX;split<;>split<;>omega
theorem gZ{a b n m:Int}(h0:0<=a)(h:a<=b)(hn:0<=n)(hm:n<=m):bc a n<=bc b m:=by
 rw[l8 h0 hn,l8 (by omega) (by omega)]
 exact cj (Int.mul_le_mul h hm hn (by omega))
theorem dS{li li':List cS}(hm:∀a,0<=aO li a/\aO li a<=aO li' a):∀(o:Fo) (n n':Int),Au o->0<=n->n<=n'->n'<=281474976710657->av li o n<=av li' o n'
 |.nil,n,n',_,_,h,_=>h
 |.pl x y r,n,n',ho,h0,h,h2=>by
  have:=ho.1
  exact dS hm r _ _ ho.2.2 (ay (by omega)).1 (cj (by omega)) (ay (by omega)).2
 |.br op x y u v r,n,n',ho,h0,h,h2=>by
  have hu:=bK (λa=>(hm a).1) u 0 ho.2.1 (by omega)
  have hv:=bK (λa=>(hm a).1) v 0 ho.2.2.1 (by omega)
  have hu1:=dS hm u 0 0 ho.2.1 (by omega) (by omega) (by omega)
  have hv1:=dS hm v 0 0 ho.2.2.1 (by omega) (by omega) (by omega)
  have hm':∀a,0<=aO li' a:=λa=>Int.le_trans (hm a).1 (hm a).2
  have hu':=bK hm' u 0 ho.2.1 (by omega)
  have hv':=bK hm' v 0 ho.2.2.1 (by omega)
  rw[av,av]
  by_cases e:op=27
  ·rw[if_pos e,if_pos e]
   exact dS hm r _ _ ho.2.2.2 (ay (by split<;>omega)).1 (cj (by split<;>split<;>omega)) (ay (by split<;>omega)).2
  ·rw[if_neg e,if_neg e]
   have h1:=(bo (ay (n:=av li u 0+1) (by omega)).1 (hm x).1)
   have h1':=(bo (ay (n:=av li' u 0+1) (by omega)).1 (hm' x))
   have h3:=gZ (ay (n:=av li u 0+1) (by omega)).1 (cj (show av li u 0+1<=av li' u 0+1 by omega)) (hm x).1 (hm x).2
   exact dS hm r _ _ ho.2.2.2 (ay (by omega)).1 (cj (by omega)) (ay (by omega)).2
theorem dW{cs:List (Int×Int)}{li li':List cS}(hm:∀a,0<=aO li a/\aO li a<=aO li' a):∀(o:Fo) (n n':Int),0<=n->n<=n'->n'<=281474976710657->aE cs li o n<=aE cs li' o n'
 |.nil,n,n',_,h,_=>h
 |.pl x y r,n,n',h0,h,h2=>dW hm r _ _ (ay (by omega)).1 (cj (by omega)) (ay (by omega)).2
 |.br op x y u v r,n,n',h0,h,h2=>by
  have hu:=bM (cs:=cs) (λa=>(hm a).1) u 0 (by omega)
  have hv:=bM (cs:=cs) (λa=>(hm a).1) v 0 (by omega)
  have hu1:=dW (cs:=cs) hm u 0 0 (by omega) (by omega) (by omega)
  have hv1:=dW (cs:=cs) hm v 0 0 (by omega) (by omega) (by omega)
  have hm':∀a,0<=aO li' a:=λa=>Int.le_trans (hm a).1 (hm a).2
  have hu':=bM (cs:=cs) hm' u 0 (by omega)
  have hv':=bM (cs:=cs) hm' v 0 (by omega)
  rw[aE,aE]
  by_cases e:op=27
  ·rw[if_pos e,if_pos e]
   exact dW hm r _ _ (ay (by split<;>omega)).1 (cj (by split<;>split<;>omega)) (ay (by split<;>omega)).2
  ·rw[if_neg e,if_neg e]
   have h1:=bo hu.1 (hm x).1
   have h1':=bo hu'.1 (hm' x)
   have h3:=gZ hu.1 hu1 (hm x).1 (hm x).2
   exact dW hm r _ _ (ay (by omega)).1 (cj (by omega)) (ay (by omega)).2
theorem fS{cs:List (Int×Int)}{li:List cS}(hm:∀a,0<=aO li a):∀(o:Fo) (n n':Int),Au o->0<=n->n<=n'->n'<=281474976710657->aE cs li o n<=av li o n'
 |.nil,n,n',_,_,h,_=>h
 |.pl x y r,n,n',ho,h0,h,h2=>by
  have:=ho.1
  have:=kg cs x (y-x)
  exact fS hm r _ _ ho.2.2 (ay (by omega)).1 (cj (by omega)) (ay (by omega)).2
 |.br op x y u v r,n,n',ho,h0,h,h2=>by
  have hu:=bM (cs:=cs) hm u 0 (by omega)
  have hv:=bM (cs:=cs) hm v 0 (by omega)
  have hu':=bK hm u 0 ho.2.1 (by omega)
  have hv':=bK hm v 0 ho.2.2.1 (by omega)
  have hu1:=fS (cs:=cs) hm u 0 0 ho.2.1 (by omega) (by omega) (by omega)
  have hv1:=fS (cs:=cs) hm v 0 0 ho.2.2.1 (by omega) (by omega) (by omega)
  rw[aE,av]
  by_cases e:op=27
  ·rw[if_pos e,if_pos e]
   exact fS hm r _ _ ho.2.2.2 (ay (by split<;>omega)).1 (cj (by split<;>split<;>omega)) (ay (by split<;>omega)).2
  ·rw[if_neg e,if_neg e]
   have h1:=bo hu.1 (hm x)
   have hk:aE cs li u 0<=aX (av li u 0+1):=by unfold aX;split<;>omega
   have h1':=bo (ay (n:=av li u 0+1) (by omega)).1 (hm x)
   have h3:=gZ hu.1 hk (hm x) (Int.le_refl _)
   exact fS hm r _ _ ho.2.2.2 (ay (by omega)).1 (cj (by omega)) (ay (by omega)).2
/-! ### the report of Verify-/
def bZ(cs:List (Int×Int))(S:WS):List cS:=(bE S.lp cs.length).map λx=>(x.1,x.2,.ow)
theorem xQ(cs:List (Int×Int))(S:WS):tH (bZ cs S):=λx hx=>by
 obtain⟨y,_,rfl⟩:=List.mem_map.1 hx
 exact .inl rfl
theorem eN{lp:List (Int×Int)}:∀{k:Nat} {x:Int×Int},x ∈ bE lp k->∃q:Nat,q<k/\x.1=q/\dz lp q=some x.2
 |0,x,h=>by cases h
 |k+1,x,h=>by
  unfold bE at h
  split at h
  ·rename_i mo hmo
   rcases List.mem_append.1 h with h|h
   ·obtain⟨q,h1,h2⟩:=eN h
    exact⟨q,by omega,h2⟩
   ·rw[List.mem_singleton.1 h]
    exact⟨k,by omega,rfl,hmo⟩
  ·obtain⟨q,h1,h2⟩:=eN h
   exact⟨q,by omega,h2⟩
theorem mQ{cs:List (Int×Int)}{lp:List (Int×Int)}:∀k:Nat,(∀q:Nat,q<k->(aj cs q=29->∃m,dz lp q=some m)/\(aj cs q≠29->dz lp q=none))->(bE lp k).map (λx=>x.1)=aY cs k
 |0,_=>rfl
 |k+1,h=>by
  have ih:=mQ k λq hq=>h q (by omega)
  obtain⟨h1,h2⟩:=h k (by omega)
  rw[aY,bE]
  by_cases e:aj cs k=29
  ·obtain⟨m,hm⟩:=h1 e
   rw[if_pos e,hm]
   simp only[List.map_append,ih,List.map_cons,List.map_nil]
  ·rw[if_neg e,h2 e]
   exact ih
theorem kA{lp:List (Int×Int)}:∀{k q:Nat} {m:Int},q<k->dz lp q=some m->aO ((bE lp k).map λx=>((x.1,x.2,.ow):cS)) q=m
 |0,q,m,h,_=>absurd h (Nat.not_lt_zero _)
 |k+1,q,m,h,hm=>by
  unfold bE
  split
  ·rename_i mo hmo
   rw[List.map_append]
   show aO (_++[((k:Int),mo,AV.ow)]) q=m
   rw[jq]
   ·by_cases e:q=k
    ·subst e
     rw[if_pos rfl]
     rw[hm] at hmo
     cases hmo
     rfl
    ·rw[if_neg (by show ¬(q:Int)=k;omega)]
     exact kA (by omega) hm
   ·intro hin
    obtain⟨y,hy,hy2⟩:=List.mem_map.1 hin
    obtain⟨z,hz,rfl⟩:=List.mem_map.1 hy
    obtain⟨p,hp,h1,_⟩:=eN hz
    have:(z.1:Int)=k:=hy2
    omega
  ·rename_i hmo
   by_cases e:q=k
   ·subst e;rw[hm] at hmo;cases hmo
   ·exact kA (by omega) hm
theorem u9{la:List (Bool×Int)}{n:Nat}{cs:List (Int×Int)}{S:WS}{b:Bd}(ha:bV cs)(h:ei la n cs=some (.ok (S,b))):
  (cC la n cs).2=0/\dq la n cs (bZ cs S)=0/\av (bZ cs S) (aw cs).1 0=b.1/\aE cs (bZ cs S) (aw cs).1 0=b.2/\(0<=b.1/\b.1<=281474976710656)/\0<=b.2/\b.2<=b.1:=by
 unfold ei at h
 split at h
 rotate_left
 ·cases h
 rename_i h0
 obtain⟨m,hm,hn,hK,o,pt,hr,hpo⟩:=kL ha h0
 obtain rfl:n=m:=by omega
 obtain⟨hp,hcs⟩:=iy h0
 have hsc:=fI cs
 rw[hr] at hsc
 obtain⟨out,hsc1,_,hg⟩:=hsc
 rw[hpo] at h
 unfold gY at h
 split at h
 ·cases h
 ·cases h
 rename_i S' b' hana
 split at h<;>cases h
 rename_i hb
 unfold jd at hana
 split at hana
 ·cases hana
 ·cases hana
 rename_i S'' b'' hcode
 split at hana<;>cases hana
 have hW0:WF n (S0 n):=⟨⟨List.length_replicate,λx hx=>by rw[(List.mem_replicate.1 hx).2];exact oe⟩,λv hv=>(by cases hv),λl hl=>(by cases hl)⟩
 obtain⟨c1,c2⟩:=dZ (Br hsc1) hK.arg o 0 cs.length 0 0 hg hcode hW0 jE
 obtain⟨_,hBb⟩:=aQ hK.arg o 0 cs.length 0 0 hg hcode hW0 jE
 have hl:(bE S.lp cs.length).map (λx=>x.1)=aY cs cs.length:=mQ _ λq hq=>⟨λe=>by obtain⟨m,k,_⟩:=c1.2 q (Nat.zero_le _) hq e;exact⟨m,k⟩,λe=>c1.1 q (.inr (.inr e))⟩
 have hlF:bR cs=aY cs cs.length:=if_pos hp
 have hmap:((bZ cs S).map λx=>x.1)=bR cs:=by
  rw[hlF,<-hl]
  unfold bZ
  rw[List.map_map];rfl
 have hin:CS (bZ cs S):=λx hx=>by
  obtain⟨z,hz,rfl⟩:=List.mem_map.1 hx
  obtain⟨q,h1,h2,h3⟩:=eN hz
  by_cases e:aj cs q=29
  ·obtain⟨m,k1,k2⟩:=c1.2 q (Nat.zero_le _) h1 e
   rw[h3] at k1
   cases k1
   exact k2
  ·have:=c1.1 q (.inr (.inr e))
   rw[h3] at this
   cases this
 have hlen:(bR cs).length=(bZ cs S).length:=by rw[<-hmap,List.length_map]
 have hO:dq la n cs (bZ cs S)=0:=by
  unfold dq
  rw[if_pos h0]
  unfold lC
  rw[if_pos ⟨hlen,hmap⟩,if_pos hin]
 have hA:AG (bZ cs S) cs 0 cs.length S.lp:=λq m _ hq _ hq2=>kA hq hq2
 obtain⟨a1,a2⟩:=c2 _ hA
 have hle:=fS (cs:=cs) (li:=bZ cs S) (λa=>(ig hin a).1) o 0 0 (hg.okf (by omega)) (by decide) (by decide) (by decide)
 have e1:av (bZ cs S) o 0=b.1:=a1.symm
 have e2:aE cs (bZ cs S) o 0=b.2:=a2.symm
 rw[hpo]
 have:=hBb.1
 have:=hBb.2
 exact⟨h0,hO,e1,e2,⟨by omega,hb⟩,by omega,by omega⟩
end Go.Proofs.YtdpkgnmmikebdaaGreat