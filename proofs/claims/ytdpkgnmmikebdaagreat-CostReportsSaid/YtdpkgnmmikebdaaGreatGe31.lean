/- A part of the proof of CostReports: VfQ VfR VfU VfV VfW VfX VfY VfZ CrA CrB. No condition. -/
import Derived.ChangeAlike
import Derived.Defers
import Derived.Recover
import Derived.RegionTactic
import Derived.Test.YtdpkgnmmikebdaaGreatGe30
import Derived.Test.YtdpkgnmmikebdaaGreatGe25
import Derived.Test.YtdpkgnmmikebdaaGreatGe26
import Derived.Test.YtdpkgnmmikebdaaGreatGe28
set_option linter.unusedSimpArgs false
set_option linter.unusedVariables false
set_option linter.constructorNameAsVariable false
set_option maxRecDepth 100000
set_option maxHeartbeats 4000000
namespace Go.Proofs.YtdpkgnmmikebdaaGreat
open Go.RowKit
def hD(q y:Nat)(r:Fo):Fo:=if q+1<y then .pl (q+1) y r else r
theorem kK(q y:Nat)(r:Fo):(hD q y r).size<=(Fo.pl q y r).size:=by
 unfold hD
 split
 ·exact Nat.le_refl _
 ·exact Nat.le_succ _
theorem kL{cs:List (Int×Int)}{out:List Int}{q y b:Nat}{r:Fo}(h:aM cs out (.pl q y r) q b):aM cs out (hD q y r) (q+1) b:=by
 obtain⟨_,h1,h2,h3,h4⟩:=h
 unfold hD
 by_cases hq:q+1<y
 ·rw[if_pos hq]
  exact⟨rfl,hq,λk k1 k2=>h2 k (by omega) k2,h3,h4⟩
 ·rw[if_neg hq,show q+1=y by omega]
  exact h4
theorem Ao{cs:List (Int×Int)}{la:List (Bool×Int)}{q y base lp:Nat}{r:Fo}{S:WS}{bd:Bd}(h:q<y):aR cs la (.pl q y r) base lp S bd=(match fv cs la base lp q S with
  |.error e=>some (.error e)
  |.ok (S',z)=>aR cs la (hD q y r) base lp S' (bw bd z)):=by
 rw[aR,show y-q=(y-(q+1))+1 by omega,g8]
 cases fv cs la base lp q S with
 |error e=>rfl
 |ok w=>
  obtain⟨S',z⟩:=w
  dsimp only
  unfold hD
  by_cases hq:q+1<y
  ·rw[if_pos hq,aR]
  ·rw[if_neg hq,show y-(q+1)=0 by omega]
   rfl
theorem s9{cs:List (Int×Int)}{la:List (Bool×Int)}{out:List Int}{n x y base lp:Nat}{u v:Fo}{S S':WS}{z:Bd}(hA:kD cs)(hg:aM cs out (.br 27 x y u v .nil) x y)(h:eI cs la x u v base lp S=some (.ok (S',z)))(hW:WF n S)(hS:Sm x S):WF n S'/\Sm y S'/\i5 z:=by
 have h0:aR cs la (.br 27 x y u v .nil) base lp S (0,0)=some (.ok (S',bw (0,0) z)):=by rw[mO,if_pos rfl,h];rfl
 refine⟨(aO hA _ x y base lp hg h0 hW jq).1.wf,cj _ x y base lp hg h0 hS,?_⟩
 obtain⟨_,_,_,⟨m,g1,_,g3,g4,g5⟩,_⟩:=hg
 unfold eI at h
 split at h
 ·cases h
 rename_i l S1 hp
 obtain⟨k1,_⟩:=cd hp hW
 rw[g4.lastB] at h
 split at h
 ·cases h
 ·cases h
 rename_i S2 bx hu
 have m2:=(aO hA u (x+1) m _ lp g4 hu k1 jq)
 have mx2:=m2.2.nn
 split at h
 rotate_left
 ·cases h
 split at h
 ·rename_i h28
  rcases g5 with⟨_,e,q1,q2,q3,q4,q5⟩|⟨q0,_,_⟩
  rotate_left
  ·exact absurd h28 q0
  split at h
  ·cases h
  ·cases h
  rename_i S4 b4 hv
  have hS3:WF n {S2 with loc:=S1.loc}:=⟨k1.loc,m2.1.wf.st,m2.1.wf.lv⟩
  have n2:=(aO hA v (m+1) e _ lp q4 hv hS3 jq).2.nn
  split at h
  ·cases h
   exact a7 (by unfold aQ;constructor<;>dsimp only<;>split<;>omega) ka.nn
  ·cases h
 ·cases h
  exact a7 (by unfold aQ;constructor<;>dsimp only<;>split<;>omega) ka.nn
theorem y9{cs:List (Int×Int)}{la:List (Bool×Int)}{out:List Int}{n x y base lp:Nat}{u v:Fo}{S S':WS}{z:Bd}(hA:kD cs)(hg:aM cs out (.br 29 x y u v .nil) x y)(h:jJ cs la x u base S=some (.ok (S',z)))(hW:WF n S)(hS:Sm x S):WF n S'/\Sm y S'/\i5 z:=by
 have h0:aR cs la (.br 29 x y u v .nil) base lp S (0,0)=some (.ok (S',bw (0,0) z)):=by rw[mO,if_neg (by decide),h];rfl
 refine⟨(aO hA _ x y base lp hg h0 hW jq).1.wf,cj _ x y base lp hg h0 hS,?_⟩
 obtain⟨_,_,_,⟨m,g1,g2,g3,g4,g5⟩,_⟩:=hg
 unfold jJ at h
 split at h
 ·cases h
 rename_i l S1 hp
 obtain⟨k1,k2,_⟩:=cd hp hW
 have hmo:=dy k2 0
 rw[g4.lastB] at h
 split at h
 rotate_left
 ·cases h
 split at h
 ·cases h
 ·cases h
 rename_i head S2 bx hr
 have hB:iA cs n (x+1) m (λS'=>aR cs la u S1.st.length S1.st.length S' (0,0)):=λS3 S4 b4 h3 h5=>aO hA u (x+1) m _ _ g4 h3 h5 jq
 obtain⟨m1,m2,m3,m4,m5⟩:=fH hB (by omega) g4.le (Nat.le_refl _) 6 1 S1.loc hr k1 k1.loc
 cases h
 exact a7 (iE m3 (by omega)).nn ka.nn
structure rN(la:List (Bool×Int))(n:Nat)(cs:List (Int×Int)):Prop where
 len:cs.length<=1024
 op:∀p,p<cs.length->0<=am cs p/\am cs p<=35
 ar:∀p,p<cs.length->am cs p=3\/am cs p=4->(cs.getD p (0,0)).2<la.length
 lo:∀p,p<cs.length->am cs p=1\/am cs p=2->(cs.getD p (0,0)).2<n
 arg:kD cs
section
variable (la:List (Bool×Int)) (loc:Int) (cs:List (Int×Int)) (pt:List Int) (r:Nat)
theorem uX{la:List (Bool×Int)}{op arg p:Int}{base n:Nat}{S S':WS}{z:Bd}(h:dL la op arg p base S= .ok (S',z))(ha:0<=arg/\arg<=4294967295)(hW:WF n S):S'.lp=S.lp:=by
 unfold dL at h
 split at h
 ·cases h
 rename_i l S1 hp
 obtain⟨k1,k2,_,_,k5⟩:=cd hp hW
 obtain⟨_,_,_,m4,_⟩:=kC h ha k2 k1
 exact m4.trans k5
theorem wv(n:Nat)(hn:n<1000)(hpt:pt.length=cs.length)(hK:rN la n cs)(o:Fo)(ih:∀u:Fo,u.size<o.size->oG la loc cs pt r n u):oG la loc cs pt r n o:=by
 intro a b base lp S ob hg hb hbase hlp hW hS hM
 have hcs:=hK.len
 have hA:=hK.arg
 refine PC.vw (cS DI ⟨by simp,by decide⟩ ?_)
 simp only[aF,wH,dG]
 repeat first|with_reducible refine GE.g ?_|simp only[go_sem,simprocAttr]
 refine GE.loop (I:=λmm e H=>∃(rest:Fo) (q:Nat) (Sx:WS) (bd:Bd) (obx:Nat->Option OB),mm=b-q/\aM cs pt rest q b/\rest.size<=o.size/\aR cs la o base lp S (0,0)=aR cs la rest base lp Sx bd/\WF n Sx/\Sm q Sx/\i5 bd/\lr r obx Sx.lp/\e=aA [(0,.p 0 0),(2,.n .i64 b),(3,.n .i64 base),(4,.n .i64 lp),(10,.p 3 0),(11,.p 4 0),(12,.n .i64 q)]/\H=aw obx ([aa 0 130 [.n .i64 bd.1,.n .i64 bd.2],aa 0 130 [.n .i64 0,.n .i64 0]]++wH la loc cs pt r Sx)) (m:=b-a) (bZ.mkO (ob:=ob) [4,3,2,1,0] [] ?_ ?_ ?_ ?_ (az rfl)) ⟨o,a,S,(0,0),ob,rfl,hg,Nat.le_refl _,rfl,hW,hS,jq,hM,rfl,rfl⟩ ?_
 ·exact aZ
 ·exact .cr (.j2) (.cr (.j2) (.cr (.k2 (λ_ _ _ _=>rfl)) (.cr (.k2 (λi j _ _=>aG _ i j)) (.cr .wk .nil))))
 ·simp[wH]
 ·intro r x h
  simp only[go_sem,simprocAttr]
  exact h
 rintro mm e H ⟨rest,q,Sx,bd,obx,rfl,hgr,hsz,hs,hWx,hSx,hbd,hMx,rfl,rfl⟩
 simp only[wH,dG,List.cons_append,List.nil_append]
 have q0:(0:Int)<=(q:Int):=by omega
 have hqb:=hgr.le
 by_cases hq:q<b
 rotate_left
 ·have hqi:¬(q:Int)<(b:Int):=by omega
  have hnil:rest= .nil:=by
   cases rest with
   |nil=>rfl
   |pl x y r'=>obtain⟨rfl,h1,_,_,h4⟩:=hgr;have:=h4.le;omega
   |br op x y u v r'=>obtain⟨rfl,_,_,⟨m,_,g2,g3,_⟩,_⟩:=hgr;omega
  subst hnil
  repeat first|with_reducible refine GE.g ?_|simp only[hqi,decide_false,go_sem,simprocAttr]
  exact wO (ob:=obx) [2,1,0] [] (gJ bd) (wH la loc cs pt r Sx) (.cr (.k2 (λ_ _ _ _=>rfl)) (.cr (.k2 (λi j _ _=>aG _ i j)) (.cr .wk .nil))) (.cv (.rfl rfl)) (by simp[wH]) (λr x h=>by simp only[go_sem,simprocAttr];exact h) (az rfl) ⟨Sx,bd,obx,hs,rfl,hMx,rfl⟩
 have hqi:(q:Int)<(b:Int):=by omega
 have hqc:(q:Int)<(cs.length:Int):=by omega
 have e0:pI cs q 0= .n .i64 (am cs q):=rfl
 (try simp only[hqi,decide_true,go_sem,simprocAttr])
 iterate 10 (with_reducible refine GE.go aE rfl ?_;try simp only[hqi,decide_true,go_sem,simprocAttr])
 refine GE.cutP (λe2 H2=>∃(rest':Fo) (q':Nat) (S':WS) (z:Bd) (ob':Nat->Option OB),q<=q'/\q'<b/\WF n S'/\Sm (q'+1) S'/\i5 z/\lr r ob' S'.lp/\aM cs pt rest' (q'+1) b/\rest'.size<=o.size/\aR cs la o base lp S (0,0)=aR cs la rest' base lp S' (bw bd z)/\e2=aA [(0,.p 0 0),(2,.n .i64 b),(3,.n .i64 base),(4,.n .i64 lp),(10,.p 3 0),(11,.p 4 0),(12,.n .i64 q'),(13,.p 5 0)]/\H2=aw ob' ([aa 0 130 [.n .i64 z.1,.n .i64 z.2],aa 0 130 [.n .i64 bd.1,.n .i64 bd.2],aa 0 130 [.n .i64 0,.n .i64 0]]++wH la loc cs pt r S')) ?_ ?_
 rotate_left
 ·rintro e2 H2 ⟨rest',q',S',z,ob',f1,f2,f3,f4,f5,f6,f7,f8,f9,rfl,rfl⟩
  simp only[wH,dG,List.cons_append,List.nil_append]
  have wq:IntKind.i64.wrap ((q':Int)+1)=((q'+1:Nat):Int):=(aj (by omega)).trans (by omega)
  repeat first|with_reducible refine GE.g ?_|simp only[go_sem,simprocAttr]
  refine dR ([gJ bd,gJ z]) (iB bd z hbd f5) ?_
  simp only[gJ]
  repeat first|with_reducible refine GE.g ?_|simp only[wq,go_sem,simprocAttr]
  refine⟨b-(q'+1),_,_,by omega,bZ.mkO (ob:=ob') (L:=[(0,.p 0 0),(2,.n .i64 b),(3,.n .i64 base),(4,.n .i64 lp),(10,.p 3 0),(11,.p 4 0),(12,.n .i64 ((q'+1:Nat)))]) (bl:=[aa 0 130 [.n .i64 (bw bd z).1,.n .i64 (bw bd z).2],aa 0 130 [.n .i64 0,.n .i64 0]]++wH la loc cs pt r S') [4,3,2,1,0] [] ?_ ?_ ?_ ?_ (az rfl),rest',q'+1,S',bw bd z,ob',rfl,f7,f8,f9,f3,f4,CS hbd f5,f6,rfl,rfl⟩
  ·exact aZ
  ·exact .cr (.j2) (.cr (.j2) (.cr (.k2 (λ_ _ _ _=>rfl)) (.cr (.k2 (λi j _ _=>aG _ i j)) (.cr .wk .nil))))
  ·simp[wH]
  ·intro r x h
   simp only[go_sem,simprocAttr]
   exact h
 have hcl:b<=1024:=by omega
 cases rest with
 |nil=>have:q=b:=hgr;omega
 |pl x y r'=>
  have hgr2:=hgr
  obtain⟨hx,h1,h2,h3,h4⟩:=hgr2
  have hx':=hx.symm
  subst hx'
  rw[Ao h1] at hs
  have hyb:=h4.le
  obtain⟨n27,n29,n28,n31⟩:=h2 q (Nat.le_refl _) h1
  by_cases h30:am cs q=30
  ·repeat first|with_reducible refine GE.g ?_|simp only[q0,hqc,e0,h30,Int.toNat_natCast,decide_true,decide_false,go_sem,simprocAttr]
   refine bc la loc cs pt r obx (args2:=[.p 0 0,.n .i64 q,.n .i64 base,.s ⟨#[116]⟩]) (L:=[(0,.p 0 0),(2,.n .i64 b),(3,.n .i64 base),(4,.n .i64 lp),(10,.p 3 0),(11,.p 4 0),(12,.n .i64 q),(13,.p 5 0)]) (bl2:=[aa 0 130 [.n .i64 0,.n .i64 0],aa 0 130 [.n .i64 bd.1,.n .i64 bd.2],aa 0 130 [.n .i64 0,.n .i64 0]]) Sx [5,4,3,2,1,0] [] (oX la loc cs pt r obx q base [116] (by simp) (by omega) Sx (by have:=hSx.st;omega)) ?_ ?_ ?_ ?_ (by simp) rfl (by rfl) (by rfl) (.cons .lq (.cons .lq (.cons .lq .nil))) ?_ ?_
   ·exact aZ
   ·exact .cr (.j2) (.cr (.j2) (.cr (.j2) (.cr (.k2 (λ_ _ _ _=>rfl)) (.cr (.k2 (λi j _ _=>aG _ i j)) (.cr .wk .nil)))))
   ·exact⟨Wv.p rfl,Wv.n rfl,Wv.n rfl,Wv.same rfl,trivial⟩
   ·intro r x h
    simp only[go_sem,simprocAttr]
    exact h
   ·rintro v' H' ⟨l,S1,hp,rfl,rfl⟩
    refine⟨S1,obx,rfl,?_⟩
    simp only[wH,dG,List.cons_append,List.nil_append]
    obtain⟨w1,w2,w3,w4,w5⟩:=cd hp hWx
    have s1:=gi hp hSx
    have hlvl:=ii la loc cs pt r obx q lp S1 (by have:=s1.st;omega)
    repeat first|with_reducible refine GE.g ?_|simp only[go_sem,simprocAttr]
    refine bc la loc cs pt r obx (args2:=[.p 0 0,.n .i64 q,.n .i64 lp]) (L:=[(0,.p 0 0),(2,.n .i64 b),(3,.n .i64 base),(4,.n .i64 lp),(10,.p 3 0),(11,.p 4 0),(12,.n .i64 q),(13,.p 5 0)]) (bl2:=[aa 0 130 [.n .i64 0,.n .i64 0],aa 0 130 [.n .i64 bd.1,.n .i64 bd.2],aa 0 130 [.n .i64 0,.n .i64 0]]) S1 [5,4,3,2,1,0] [] (hlvl) ?_ ?_ ?_ ?_ (by simp) rfl (by rfl) (by rfl) (.cons .lq (.cons .lq (.cons .lq .nil))) ?_ ?_
    ·exact aZ
    ·exact .cr (.j2) (.cr (.j2) (.cr (.j2) (.cr (.k2 (λ_ _ _ _=>rfl)) (.cr (.k2 (λi j _ _=>aG _ i j)) (.cr .wk .nil)))))
    ·exact⟨Wv.p rfl,Wv.n rfl,Wv.n rfl,trivial⟩
    ·intro r x h
     simp only[go_sem,simprocAttr]
     exact h
    ·rintro v' H' ⟨hl,rfl,rfl⟩
     refine⟨S1,obx,rfl,?_⟩
     simp only[wH,dG,List.cons_append,List.nil_append]
     have hl2:S1.st.length=lp:=by
      unfold lb at hl
      split at hl
      ·assumption
      ·cases hl
     have hst:fv cs la base lp q Sx= .ok ({S1 with lv:=S1.lv++[S1.loc]},(1,0)):=by unfold fv;rw[if_pos h30,hp];exact if_pos hl2
     obtain⟨c1,c3⟩:=iG hst hA hWx
     have c2:=oM hst hSx
     rw[hst] at hs
     have hlvl:=s1.lv
     have hap:(S1.lv.length+1<1099511627776/\(S1.lv.length+1)*24<=140737488355328)/\S1.lv.length<=9223372036854775806:=⟨⟨by omega,by omega⟩,by omega⟩
     repeat first|with_reducible refine GE.g ?_|simp only[hap,Nat.mul_one,go_sem,simprocAttr]
     refine⟨_,_,bZ.mkO (ob:=obx) (L:=[(0,.p 0 0),(2,.n .i64 b),(3,.n .i64 base),(4,.n .i64 lp),(10,.p 3 0),(11,.p 4 0),(12,.n .i64 (q:Nat)),(13,.p 5 0)]) (bl:=[aa 0 130 [.n .i64 1,.n .i64 0],aa 0 130 [.n .i64 bd.1,.n .i64 bd.2],aa 0 130 [.n .i64 0,.n .i64 0]]++wH la loc cs pt r {S1 with lv:=S1.lv++[S1.loc]}) [5,4,3,7,1,0] [] ?_ ?_ ?_ ?_ (az rfl),(hD q y r'),q,{S1 with lv:=S1.lv++[S1.loc]},(1,0),obx,Nat.le_refl _,by omega,c1.wf,c2,c3,by rw[w5];exact hMx,(kL hgr),(Nat.le_trans (kK q y r') hsz),hs,rfl,rfl⟩
     ·exact aZ
     ·exact by simp only[wH,dG,List.length_append,List.length_cons,List.length_nil];exact .cr (.j2) (.cr (.j2) (.cr (.j2) (.cr (.snoc (n:=S1.lv.length) (row:=vp S1.lv) (l:=[.fs 2 S1.loc.length (vC S1.loc)]) (by simp only[go_sem,simprocAttr]<;>rfl) (by simp) rfl rfl (by decide) (by omega) (λi j hi _=>by simp only[vp,List.getD_eq_getElem?_getD,List.getElem?_append_left hi]) (λj hj=>by cases Nat.lt_one_iff.1 hj;simp[vp,List.getD_eq_getElem?_getD]) (λi j _ _=>rfl)) (.cr (.k2 (λi j _ _=>aG _ i j)) (.cr .wk .nil)))))
     ·simp[wH]
     ·intro r x h
      simp only[go_sem,simprocAttr]
      exact h
    ·rintro c H' ⟨e,he,rfl⟩
     refine⟨e,?_,rfl⟩
     unfold lb at he
     split at he
     ·cases he
     ·rename_i hne
      cases he
      have hst:fv cs la base lp q Sx= .error ((q:Int),14):=by unfold fv;rw[if_pos h30,hp];exact if_neg hne
      rw[hs,hst]
   ·rintro c H' ⟨e,he,rfl⟩
    refine⟨e,?_,rfl⟩
    have hst:fv cs la base lp q Sx= .error e:=by unfold fv;rw[if_pos h30,he]
    rw[hs,hst]
  ·have hop:=hK.op q (by omega)
   have hpl:=yk la loc cs pt r obx hcs q (by omega) base (by omega) Sx hSx hWx.st (by unfold plK;omega) (hA q) (hK.ar q (by omega)) (λh=>by rw[hWx.loc.1];exact hK.lo q (by omega) h) (by rw[hWx.loc.1];omega)
   repeat first|with_reducible refine GE.g ?_|simp only[q0,hqc,e0,n27,n29,h30,Int.toNat_natCast,decide_false,go_sem,simprocAttr]
   refine bc la loc cs pt r obx (args2:=[.p 0 0,.n .i64 q,.n .i64 base]) (L:=[(0,.p 0 0),(2,.n .i64 b),(3,.n .i64 base),(4,.n .i64 lp),(10,.p 3 0),(11,.p 4 0),(12,.n .i64 q),(13,.p 5 0)]) (bl2:=[aa 0 130 [.n .i64 0,.n .i64 0],aa 0 130 [.n .i64 bd.1,.n .i64 bd.2],aa 0 130 [.n .i64 0,.n .i64 0]]) Sx [5,4,3,2,1,0] [] (hpl) ?_ ?_ ?_ ?_ (by simp) rfl (by rfl) (by rfl) (.cons .lq (.cons .lq (.cons .lq .nil))) ?_ ?_
   ·exact aZ
   ·exact .cr (.j2) (.cr (.j2) (.cr (.j2) (.cr (.k2 (λ_ _ _ _=>rfl)) (.cr (.k2 (λi j _ _=>aG _ i j)) (.cr .wk .nil)))))
   ·exact⟨Wv.p rfl,Wv.n rfl,Wv.n rfl,trivial⟩
   ·intro r x h
    simp only[go_sem,simprocAttr]
    exact h
   ·rintro v' H' ⟨S',z,hz,rfl,rfl⟩
    refine⟨S',obx,rfl,?_⟩
    simp only[wH,dG,List.cons_append,List.nil_append,gJ]
    have hst:fv cs la base lp q Sx= .ok (S',z):=by unfold fv;rw[if_neg h30];exact hz
    obtain⟨c1,c3⟩:=iG hst hA hWx
    have c2:=oM hst hSx
    have c4:S'.lp=Sx.lp:=uX hz (hA q) hWx
    rw[hst] at hs
    repeat first|with_reducible refine GE.g ?_|simp only[go_sem,simprocAttr]
    refine⟨_,_,bZ.mkO (ob:=obx) (L:=[(0,.p 0 0),(2,.n .i64 b),(3,.n .i64 base),(4,.n .i64 lp),(10,.p 3 0),(11,.p 4 0),(12,.n .i64 (q:Nat)),(13,.p 5 0)]) (bl:=[aa 0 130 [.n .i64 z.1,.n .i64 z.2],aa 0 130 [.n .i64 bd.1,.n .i64 bd.2],aa 0 130 [.n .i64 0,.n .i64 0]]++wH la loc cs pt r S') [5,4,3,2,1,0] [] ?_ ?_ ?_ ?_ (az rfl),(hD q y r'),q,S',z,obx,Nat.le_refl _,by omega,c1.wf,c2,c3,by rw[c4];exact hMx,(kL hgr),(Nat.le_trans (kK q y r') hsz),hs,rfl,rfl⟩
    ·exact aZ
    ·exact .cr (.j2) (.cr (.j2) (.cr (.j2) (.cr (.k2 (λ_ _ _ _=>rfl)) (.cr (.k2 (λi j _ _=>aG _ i j)) (.cr .wk .nil)))))
    ·simp[wH]
    ·intro r x h
     simp only[go_sem,simprocAttr]
     exact h
   ·rintro c H' ⟨e,he,rfl⟩
    refine⟨e,?_,rfl⟩
    have hst:fv cs la base lp q Sx= .error e:=by unfold fv;rw[if_neg h30];exact he
    rw[hs,hst]
 |br op x y u v r'=>
  obtain⟨hx,hop,hopv,⟨m,g1,g2,g3,g4,g5⟩,hgr⟩:=hgr
  have hx':=hx.symm
  subst hx'
  have hyb:=hgr.le
  simp only[Fo.size] at hsz
  have hmy:m<y/\1<=y:=by rcases g5 with⟨_,e,_,q2,_,_,q5⟩|⟨_,_,q2⟩<;>omega
  have hqy:q<y:=by have:=g2.1;omega
  have hgN:aM cs pt (.br op q y u v .nil) q y:=⟨rfl,hop,hopv,⟨m,g1,g2,hmy.1,g4,by
   rcases g5 with⟨p0,e,p1,p2,p3,p4,p5⟩|p
   ·exact .inl ⟨p0,e,p1,p2,by omega,p4,p5⟩
   ·exact .inr p⟩,rfl⟩
  rw[mO] at hs
  rcases hopv with h27|h29
  ·subst h27
   rw[if_pos rfl] at hs
   have hch:=ww la loc cs pt r n hn hcs hpt hA q y u v base lp Sx obx (ih u (by omega)) (ih v (by omega)) hgN (by omega) hbase hlp hWx hSx hMx
   repeat first|with_reducible refine GE.g ?_|simp only[q0,hqc,e0,hop,Int.toNat_natCast,decide_true,go_sem,simprocAttr]
   refine bc la loc cs pt r obx (args2:=[.p 0 0,.n .i64 q,.n .i64 base,.n .i64 lp]) (L:=[(0,.p 0 0),(2,.n .i64 b),(3,.n .i64 base),(4,.n .i64 lp),(10,.p 3 0),(11,.p 4 0),(13,.p 5 0)]) (bl2:=[aa 0 130 [.n .i64 0,.n .i64 0],aa 0 130 [.n .i64 bd.1,.n .i64 bd.2],aa 0 130 [.n .i64 0,.n .i64 0]]) Sx [5,4,3,2,1,0] [] (hch) ?_ ?_ ?_ ?_ (by simp) rfl (by rfl) (by rfl) (.cons .lq (.cons .lq (.cons .lq .nil))) ?_ ?_
   ·exact aZ
   ·exact .cr (.j2) (.cr (.j2) (.cr (.j2) (.cr (.k2 (λ_ _ _ _=>rfl)) (.cr (.k2 (λi j _ _=>aG _ i j)) (.cr .wk .nil)))))
   ·exact⟨Wv.p rfl,Wv.n rfl,Wv.n rfl,Wv.n rfl,trivial⟩
   ·intro r x h
    simp only[go_sem,simprocAttr]
    exact h
   ·rintro v' H' ⟨S',z,ob',hz,rfl,hM',rfl⟩
    refine⟨S',ob',rfl,?_⟩
    simp only[wH,dG,List.cons_append,List.nil_append,gJ]
    obtain⟨c1,c2,c3⟩:=s9 hA hgN hz hWx hSx
    rw[hz] at hs
    repeat first|with_reducible refine GE.g ?_|simp only[go_sem,simprocAttr]
    refine⟨_,_,bZ.mkO (ob:=ob') (L:=[(0,.p 0 0),(2,.n .i64 b),(3,.n .i64 base),(4,.n .i64 lp),(10,.p 3 0),(11,.p 4 0),(12,.n .i64 ((y-1):Nat)),(13,.p 5 0)]) (bl:=[aa 0 130 [.n .i64 z.1,.n .i64 z.2],aa 0 130 [.n .i64 bd.1,.n .i64 bd.2],aa 0 130 [.n .i64 0,.n .i64 0]]++wH la loc cs pt r S') [5,4,3,2,1,0] [] ?_ ?_ ?_ ?_ (az rfl),r',(y-1),S',z,ob',by omega,by omega,c1,by rw[show y-1+1=y by omega];exact c2,c3,hM',(by rw[show y-1+1=y by omega];exact hgr),(by omega),hs,rfl,rfl⟩
    ·exact aZ
    ·exact .cr (.j2) (.cr (.j2) (.cr (.j2) (.cr (.k2 (λ_ _ _ _=>rfl)) (.cr (.k2 (λi j _ _=>aG _ i j)) (.cr .wk .nil)))))
    ·simp[wH]
    ·intro r x h
     simp only[go_sem,simprocAttr]
     exact h
   ·rintro c H' ⟨e,he,rfl⟩
    refine⟨e,?_,rfl⟩
    rw[hs,he]
    rfl
  ·subst h29
   rw[if_neg (by decide)] at hs
   have hch:=nh la loc cs pt r n hn hcs hpt hA q y u v base Sx obx (ih u (by omega)) hgN (by omega) hbase hWx hSx hMx
   repeat first|with_reducible refine GE.g ?_|simp only[q0,hqc,e0,hop,Int.toNat_natCast,decide_true,decide_false,go_sem,simprocAttr]
   refine bc la loc cs pt r obx (args2:=[.p 0 0,.n .i64 q,.n .i64 base]) (L:=[(0,.p 0 0),(2,.n .i64 b),(3,.n .i64 base),(4,.n .i64 lp),(10,.p 3 0),(11,.p 4 0),(13,.p 5 0)]) (bl2:=[aa 0 130 [.n .i64 0,.n .i64 0],aa 0 130 [.n .i64 bd.1,.n .i64 bd.2],aa 0 130 [.n .i64 0,.n .i64 0]]) Sx [5,4,3,2,1,0] [] (hch) ?_ ?_ ?_ ?_ (by simp) rfl (by rfl) (by rfl) (.cons .lq (.cons .lq (.cons .lq .nil))) ?_ ?_
   ·exact aZ
   ·exact .cr (.j2) (.cr (.j2) (.cr (.j2) (.cr (.k2 (λ_ _ _ _=>rfl)) (.cr (.k2 (λi j _ _=>aG _ i j)) (.cr .wk .nil)))))
   ·exact⟨Wv.p rfl,Wv.n rfl,Wv.n rfl,trivial⟩
   ·intro r x h
    simp only[go_sem,simprocAttr]
    exact h
   ·rintro v' H' ⟨S',z,ob',hz,rfl,hM',rfl⟩
    refine⟨S',ob',rfl,?_⟩
    simp only[wH,dG,List.cons_append,List.nil_append,gJ]
    obtain⟨c1,c2,c3⟩:=y9 (lp:=lp) hA hgN hz hWx hSx
    rw[hz] at hs
    repeat first|with_reducible refine GE.g ?_|simp only[go_sem,simprocAttr]
    refine⟨_,_,bZ.mkO (ob:=ob') (L:=[(0,.p 0 0),(2,.n .i64 b),(3,.n .i64 base),(4,.n .i64 lp),(10,.p 3 0),(11,.p 4 0),(12,.n .i64 ((y-1):Nat)),(13,.p 5 0)]) (bl:=[aa 0 130 [.n .i64 z.1,.n .i64 z.2],aa 0 130 [.n .i64 bd.1,.n .i64 bd.2],aa 0 130 [.n .i64 0,.n .i64 0]]++wH la loc cs pt r S') [5,4,3,2,1,0] [] ?_ ?_ ?_ ?_ (az rfl),r',(y-1),S',z,ob',by omega,by omega,c1,by rw[show y-1+1=y by omega];exact c2,c3,hM',(by rw[show y-1+1=y by omega];exact hgr),(by omega),hs,rfl,rfl⟩
    ·exact aZ
    ·exact .cr (.j2) (.cr (.j2) (.cr (.j2) (.cr (.k2 (λ_ _ _ _=>rfl)) (.cr (.k2 (λi j _ _=>aG _ i j)) (.cr .wk .nil)))))
    ·simp[wH]
    ·intro r x h
     simp only[go_sem,simprocAttr]
     exact h
   ·rintro c H' ⟨e,he,rfl⟩
    refine⟨e,?_,rfl⟩
    rw[hs,he]
    rfl
end
end Go.Proofs.YtdpkgnmmikebdaaGreat
namespace Go.Proofs.YtdpkgnmmikebdaaGreat
open Go.RowKit
theorem ov(la:List (Bool×Int))(loc:Int)(cs:List (Int×Int))(pt:List Int)(r n:Nat)(hn:n<1000)(hpt:pt.length=cs.length)(hK:rN la n cs):∀(k:Nat) (o:Fo),o.size<k->oG la loc cs pt r n o
 |0,o,h=>absurd h (Nat.not_lt_zero _)
 |k+1,o,h=>wv la loc cs pt r n hn hpt hK o λu hu=>ov la loc cs pt r n hn hpt hK k u (by omega)
def zC(_i _j:Nat):AV:= .n .i64 0
theorem Bs(ob:Nat->Option OB)(n:Nat)(hn:n<=1024):PC Tryz.prog (λ_=>false) 53 [.sl 0 0 1 1,.n .i64 n] (aw ob [aa 2 127 [.n .i64 0,.n .i64 0]]) (λv H'=>v= .os 0 n/\H'=aw ob [ai 127 2 n 0 zC]) (λ_ _=>False):=by
 have h1:¬(n:Int)<0:=by omega
 have w1:IntKind.u64.wrap (n:Int)=n:=lu (by omega) (by omega)
 have w2:IntKind.u64.wrap 1=1:=by decide
 have w3:IntKind.i64.wrap (n:Int)=n:=aj (by omega)
 have h2:¬(9223372036854775807:Int)<n:=by omega
 refine PC.vw (cS DJ ⟨by simp,by decide⟩ ?_)
 simp only[aF]
 repeat first|with_reducible refine GE.g ?_|simp only[h1,w1,w2,decide_false,go_sem,simprocAttr]
 refine dR ([.n .u64 1,.n .u64 n]) (tU n hn) ?_
 have hms:0<=(n:Int)/\(n:Int)<=n/\(n:Int)<=16777216/\16*n<=140737488355328/\n*2<1099511627776:=⟨by omega,by omega,by omega,by omega,by omega⟩
 have hm1:Nat.min 1 n=if n=0 then 0 else 1:=by
  by_cases h:n=0
  ·subst h;rfl
  ·rw[if_neg h];exact Nat.min_eq_left (by omega)
 repeat first|with_reducible refine GE.g ?_|simp only[h2,w3,hms,decide_false,go_sem,simprocAttr]
 have fin:Vw (λ_=>false) (λv H'=>v= .os 0 n/\H'=aw ob [ai 127 2 n 0 zC]) (.os 1 n) (aw ob [ai 127 2 n 0 zC,aa 2 127 [.n .i64 0,.n .i64 0]]):=
  wO (ob:=ob) [1] [] (.os 0 n) [ai 127 2 n 0 zC] (.cr (.same (row:=zC) (by simp only[go_sem,simprocAttr]) rfl (by decide) (λi j hi hj=>rfl) (λ_ _ _ _=>rfl)) .nil) (Wv.os rfl) (by simp) (λr x h=>h) pe ⟨rfl,rfl⟩
 have hround:∀(Q:AE->Tr AV->AH->Prop) m e H,(∃k,m+k=n/\(n=0\/0<k)/\e=aA [(7,.os 1 n),(8,.n .i64 (k:Nat))]/\H=aw ob [ai 127 2 n 0 zC,aa 2 127 [.n .i64 0,.n .i64 0]])->(Q (.exit 0) (aA [(37,.b false),(36,.n .i64 n),(35,.os 1 n),(34,.n .i64 n),(7,.os 1 n),(8,.n .i64 n)]) (aw ob [ai 127 2 n 0 zC,aa 2 127 [.n .i64 0,.n .i64 0]]))->GE Tryz.prog 48 (λ_=>false) (af Tryz.prog 53) DK e H (oU 48 (λ_=>false) (λm e H=>∃k,m+k=n/\(n=0\/0<k)/\e=aA [(7,.os 1 n),(8,.n .i64 (k:Nat))]/\H=aw ob [ai 127 2 n 0 zC,aa 2 127 [.n .i64 0,.n .i64 0]]) Q m) (λ_ _=>False):=by
  rintro Q m e H ⟨k,hk,hk0,rfl,rfl⟩ hQ
  have h0k:(0:Int)<=(k:Int):=by omega
  by_cases hkn:k<n
  ·have hkn':(k:Int)<n:=by omega
   repeat (first|with_reducible refine GE.seq ?_|with_reducible refine GE.block ?_|with_reducible refine GE.skip ?_|with_reducible refine GE.reg ?_|with_reducible refine GE.cond ?_|simp only[hkn',h0k,decide_true,go_sem,simprocAttr])
   refine GE.mixm aE 1 (by simp only[go_sem,simprocAttr,bH]) ?_
   have hs1:¬(k:Int)=0:=by omega
   have hs2:0<(k:Int):=by omega
   have hs3:(k:Int)<=n:=by omega
   obtain⟨q,hq⟩:∃q,Nat.min k (n-k)=q:=⟨_,rfl⟩
   have hq2:q<=k/\q<=n-k/\0<q/\(q=k\/q=n-k):=by
    rw[<-hq]
    have e1:=Nat.min_le_left k (n-k)
    have e2:=Nat.min_le_right k (n-k)
    have e3:min k (n-k)=k\/min k (n-k)=n-k:=by omega
    have e4:Nat.min k (n-k)=min k (n-k):=rfl
    rw[e4]
    omega
   have hq0:¬q=0:=by omega
   simp only[hs1,hs2,hs3,h0k,hkn',Int.le_refl,hq,hq0,wt,oO,Option.bind_some,go_sem,simprocAttr]
   obtain⟨HH,hHH⟩:∃HH,HH=(aw ob [ai 127 2 n 0 zC,aa 2 127 [.n .i64 0,.n .i64 0]]).setLow (2^40):=⟨_,rfl⟩
   have hat:HH.at 1=some (ai 127 2 n 0 zC):=by rw[hHH];simp only[go_sem,simprocAttr]
   have hld:HH.loadN 1 0 (q*2)=some (List.replicate (q*2) (.n .i64 0)):=ko hat (q*2) 0 (by show 0+q*2<=n*2;omega) (λi _ hi=>rfl)
   have hst:HH.storeN 1 (k*2) (List.replicate (q*2) (.n .i64 0))=some (HH.upd 1 ((ai 127 2 n 0 zC).putN (k*2) (List.replicate (q*2) (.n .i64 0)))):=lS (by decide) hat (by omega) (by show k*2+q*2<=n*2;omega) rfl
   rw[hHH] at hld hst
   have hone:(List.replicate (q*2) (AV.n .i64 0)).all AV.one=true:=by rw[List.all_replicate];simp[AV.one]
   have wq:IntKind.i64.wrap ((k:Int)+q)=((k+q:Nat):Int):=(aj (by omega)).trans (by omega)
   rw[hld]
   dsimp only
   rw[hst,hone]
   simp only[wq,go_sem,simprocAttr]
   refine⟨m-q,_,_,by omega,bZ.mkO (ob:=ob) [1,0] [] ?_ ?_ (by simp) (λr x h=>by simp only[go_sem,simprocAttr];exact h) pe,k+q,by omega,by omega,rfl,rfl⟩
   ·exact aZ
   ·exact .cr (.rows (x:=_) (by simp only[go_sem,simprocAttr]<;>rfl) (by rfl) (by rfl) (by rfl) (Nat.le_refl _) (by rw[if_neg (by simp)];exact Nat.le_refl _) (by decide) (λi j hi hj=>by
     rw[dZ (by rw[List.length_replicate];omega),List.length_replicate]
     by_cases hh:k*2<=i*2+j/\i*2+j<k*2+q*2
     ·rw[if_pos hh,List.getElem?_replicate,if_pos (by omega)]
      rfl
     ·rw[if_neg hh,aN i j hj]) (λ_ _ _ _=>rfl)) (.cr (.j2) .nil)
  ·have hkn':¬(k:Int)<n:=by omega
   obtain rfl:k=n:=by omega
   repeat first|with_reducible refine GE.g ?_|simp only[hkn',decide_false,go_sem,simprocAttr]
   exact hQ
 by_cases hn0:n=0
 ·rw[if_pos hn0] at hm1
  simp only[hm1,wt,oO,Option.bind_some,go_sem,simprocAttr]
  repeat first|with_reducible refine GE.g ?_|simp only[go_sem,simprocAttr]
  refine GE.loop (I:=λm e H=>∃k,m+k=n/\(n=0\/0<k)/\e=aA [(7,.os 1 n),(8,.n .i64 (k:Nat))]/\H=aw ob [ai 127 2 n 0 zC,aa 2 127 [.n .i64 0,.n .i64 0]]) (m:=0) (bZ.mkO (ob:=ob) [1,0] [] ?_ ?_ (by simp) (λr x h=>by simp only[go_sem,simprocAttr];exact h) pe) ⟨0,by omega,by omega,rfl,rfl⟩ ?_
  ·exact aZ
  ·exact .cr (.same (row:=λ_ j=>[AV.n .i64 0,.n .i64 0][j]?.getD .u) (row2:=zC) (by simp only[go_sem,simprocAttr]) rfl (by decide) (λi j hi=>by omega) (λ_ _ _ _=>rfl)) (.cr (.j2) .nil)
  intro m e H hI
  refine hround _ m e H hI ?_
  simp only[go_sem,simprocAttr]
  repeat first|with_reducible refine GE.g ?_|simp only[go_sem,simprocAttr]
  exact fin
 ·rw[if_neg hn0] at hm1
  have hn1:1<=n:=by omega
  have hn2:2<=n*2:=by omega
  simp only[hm1,hn1,hn2,wt,oO,Option.bind_some,go_sem,simprocAttr]
  repeat first|with_reducible refine GE.g ?_|simp only[go_sem,simprocAttr]
  refine GE.loop (I:=λm e H=>∃k,m+k=n/\(n=0\/0<k)/\e=aA [(7,.os 1 n),(8,.n .i64 (k:Nat))]/\H=aw ob [ai 127 2 n 0 zC,aa 2 127 [.n .i64 0,.n .i64 0]]) (m:=(n-1)) (bZ.mkO (ob:=ob) [1,0] [] ?_ ?_ (by simp) (λr x h=>by simp only[go_sem,simprocAttr];exact h) pe) ⟨1,by omega,by omega,rfl,rfl⟩ ?_
  ·exact aZ
  ·exact .cr (.put (row:=λ_ j=>[AV.n .i64 0,.n .i64 0][j]?.getD .u) (row2:=zC) (q:=0) (l:=[.n .i64 0,.n .i64 0]) (by simp only[go_sem,simprocAttr]<;>rfl) (by simp) rfl (by omega) rfl (by decide) (by omega) (λi j hi hj=>by rcases yR hj with rfl|rfl<;>(by_cases hh:i=0<;>simp[hh,zC])) (λ_ _ _ _=>rfl)) (.cr (.j2) .nil)
  intro m e H hI
  refine hround _ m e H hI ?_
  simp only[go_sem,simprocAttr]
  repeat first|with_reducible refine GE.g ?_|simp only[go_sem,simprocAttr]
  exact fin
def wT(la:List (Bool×Int))(loc:Int)(cs:List (Int×Int)):AV:= .agg [.f 57 [] [],.f 58 [] [.fp 3 (A6 la loc cs) 0]]
theorem Od{i:Nat}(h:i<3):i=0\/i=1\/i=2:=by omega
theorem jt(la:List (Bool×Int))(loc:Int)(cs:List (Int×Int)):bU Tryz.prog 32 [aK la loc cs] [.v (wT la loc cs)]:=by
 refine ug (by rfl) (ah aE DX ⟨by simp,by decide⟩ ?_)
 simp only[aF,aK,wT]
 repeat first|with_reducible refine au ?_|simp only[go_sem,simprocAttr]
 refine⟨[0],.agg rfl λi v v' h1 h2=>?_⟩
 rcases(show i=0\/i=1\/2<=i by omega) with rfl|rfl|h
 ·cases h1;cases h2;exact .rfl rfl
 ·cases h1;cases h2
  refine .f rfl rfl (λi v v' h1 h2=>by simp at h1) (λi v v' h1 h2=>?_)
  cases i with
  |succ i=>simp at h1
  |zero=>
   cases h1;cases h2
   refine .p (o:=0) (j:=0) (x:=?x) (by simp) ?hx ?hn ?h0 (λq hq=>?_) (λq hq=>?_)
   case hx=>simp only[go_sem,simprocAttr]<;>rfl
   case hn=>show 0+3<=3;decide
   case h0=>show 0<3;decide
   ·rcases Od hq with rfl|rfl|rfl<;>(simp only[go_sem,simprocAttr];rfl)
   ·rcases Od hq with rfl|rfl|rfl<;>rfl
 ·obtain⟨i,rfl⟩:∃k,i=k+2:=⟨i-2,by omega⟩
  simp at h1
theorem lt4q{i:Nat}(h:i<4):i=0\/i=1\/i=2\/i=3:=by omega
theorem oo{P:Program}{n:Nat}{kk kk':Nat->Bool}{g:FuncId}{args:List AV}{e:Tr AV}{H:AH}{Q:AV->Tr AV->AH->Prop}{E:List PanicEntry->AH->Prop}(hk:∀b,kk' b=true->kk b=true)(h:dl P n kk g args e H Q E):dl P n kk' g args e H Q E:=
 ⟨h.1,λB σ a w args' hE hH ha=>(h.2 B σ a w args' hE hH ha).mono λen w' hp=>by
  cases en with
  |returned u=>
   obtain⟨v,e',H',σ',r0,r1,r2,r3,r4⟩:=hp
   exact⟨v,e',H',σ',r0,r1,r2,r3,r4.sub hk⟩
  |panicked c=>exact hp
  |outgrown=>exact hp.elim⟩
theorem Ph{n i j:Nat}(h:i<n)(hj:j<2):zC i j=vC (List.replicate n (0,0)) i j:=by
 simp only[zC,vC,List.getD_eq_getElem?_getD,List.getElem?_replicate,if_pos h]
 split<;>rfl
def bt(lp:List (Int×Int)):Nat->List (Int×Int)
 |0=>[]
 |k+1=>match dD lp k with
  |some mo=>bt lp k++[((k:Int),mo)]
  |none=>bt lp k
theorem mw(lp:List (Int×Int)):∀k,(bt lp k).length<=k
 |0=>Nat.le_refl _
 |k+1=>by
  have:=mw lp k
  unfold bt
  split
  ·rw[List.length_append];simp only[List.length_cons,List.length_nil];omega
  ·omega
def nk(l:List (Int×Int))(i j:Nat):AV:=if j=0 then .n .i64 (l.getD i (0,0)).1 else if j=1 then .n .i64 (l.getD i (0,0)).2 else .ow
theorem mj(l:List (Int×Int))(i j:Nat):(nk l i j).pu 3=true:=by unfold nk;(repeat' split)<;>rfl
theorem mq(l:List (Int×Int))(i j:Nat):(nk l i j).cell=true:=by unfold nk;(repeat' split)<;>rfl
def S0(n:Nat):WS:=⟨List.replicate n (0,0),[],0,[],[]⟩
def i4(cs:List (Int×Int))(la:List (Bool×Int))(n:Nat)(o:Fo):Option (Except Er (WS×Bd)):=match aR cs la o 0 0 (S0 n) (0,0) with
 |none=>none
 |some (.error e)=>some (.error e)
 |some (.ok (S,b))=>if S.st.length=0 then some (.ok (S,b)) else some (.error ((cs.length:Int),14))
theorem mX(la:List (Bool×Int))(cs:List (Int×Int))(n:Nat)(hn:n<=16)(hK:rN la n cs)(o:Fo)(pt:List Int)(hr:cR cs= .ok (o,pt)):
  PC Tryz.prog (λ_=>false) 31 [aK la n cs,wT la n cs] (ag []) (λv H'=>∃(S:WS) (b:Bd),i4 cs la n o=some (.ok (S,b))/\v= .agg [.n .i64 b.1,.n .i64 b.2,.n .i64 S.ht,.os 0 (bt S.lp cs.length).length]/\H'=ag [ai 48 3 (bt S.lp cs.length).length 0 (nk (bt S.lp cs.length))]) (λc _=>∃e:Er,i4 cs la n o=some (.error e)/\c=ek e.1 e.2):=by
 obtain⟨hg,hpt⟩:=iI hr
 have hcs:=hK.len
 have hpe:dw cs=(pt,0):=by rw[dw,if_neg (by omega),hr]
 refine PC.vw (cS DM ⟨by simp,by decide⟩ ?_)
 simp only[aF,aK,wT]
 repeat first|with_reducible refine GE.g ?_|simp only[go_sem,simprocAttr]
 refine dR ([.fs 2 cs.length (pI cs)]) (yn cs) ?_
 rw[hpe]
 repeat first|with_reducible refine GE.g ?_|simp only[go_sem,simprocAttr]
 refine dR ([.b true,.n .i64 0,.n .i64 0]) (cw 0 0) ?_
 repeat first|with_reducible refine GE.g ?_|simp only[go_sem,simprocAttr]
 refine pb λr hrn=>?_
 obtain⟨ob0,hob0⟩:∃ob0:Nat->Option OB,ob0=(nR (λ_=>none) r (.mp ⟨true,λ_=>none,0,none⟩)):=⟨_,rfl⟩
 (try simp only[go_sem,simprocAttr])
 iterate 1 (with_reducible refine GE.go aE rfl ?_;try simp only[go_sem,simprocAttr])
 refine GE.cut (aA [(2,.p 3 0),(4,.p 4 0),(7,.p 0 0)]) (aw ob0 ([aa 0 38 [.n .i64 0,.n .i64 0,.n .i64 0,.sl0],aa 0 25 [.fs 2 la.length (pA la),.n .i64 n,.fs 2 cs.length (pI cs)]]++wH la n cs pt r (S0 n))) ?_ ?_
 ·repeat first|with_reducible refine GE.g ?_|simp only[go_sem,simprocAttr]
  refine Pc ([.n .u32 0]) (fh 0 (by decide)) ?_
  simp only[iv]
  repeat first|with_reducible refine GE.g ?_|simp only[go_sem,simprocAttr]
  refine ef (ob:=ob0) (λ_=>false) [3,2,1,0,4] [] [(2,.p 1 0),(4,.p 3 0),(7,.p 4 0),(29,.p 4 0)] [.sl 0 0 1 1,.n .i64 n] [aa 0 124 [.fs 2 la.length (pA la),.n .i64 n,.fs 2 cs.length (pI cs),.fs 1 pt.length (iC pt),.f 57 [] [],.f 58 [] [.fp 3 (A6 la n cs) 0],.sl0,.sl0,.n .i64 0,.sl0,.cv (.map (some r))],aa 0 38 [.n .i64 0,.n .i64 0,.n .i64 0,.sl0],aa 0 83 [.f 57 [] [],.f 58 [] [.fp 3 (A6 la n cs) 0]],aa 0 25 [.fs 2 la.length (pA la),.n .i64 n,.fs 2 cs.length (pI cs)]] [aa 2 127 [.n .i64 0,.n .i64 0]] (Bs ob0 n (by omega)) ?_ ?_ ?_ ?_ ?_ ?_ ?_ ?_ ?_ ?_ ?_ ?_ ?_ ?_
  ·exact aZ
  ·exact .cr .wk (.cr (.j4) (.cr (.j2) (.cr (.j3) (.cr (.j2) .nil))))
  ·exact⟨Wv.sl rfl,Wv.n rfl,trivial⟩
  ·intro r x h
   simp only[go_sem,simprocAttr]
   rw[hob0] at h
   exact h
  ·simp
  ·rfl
  ·exact λb hb=>by cases hb
  ·exact λb x hb=>by cases hb
  ·rfl
  ·rfl
  ·exact .cons .lq .nil
  ·exact .cons .lq (.cons .lq (.cons .lq (.cons .lq .nil)))
  ·rintro v H' ⟨rfl,rfl⟩
   refine⟨ob0,ob0,[ai 127 2 n 0 zC],[aa 0 38 [.n .i64 0,.n .i64 0,.n .i64 0,.sl0],aa 0 25 [.fs 2 la.length (pA la),.n .i64 n,.fs 2 cs.length (pI cs)],aa 0 124 [.fs 2 la.length (pA la),.n .i64 n,.fs 2 cs.length (pI cs),.fs 1 pt.length (iC pt),.f 57 [] [],.f 58 [] [.fp 3 (A6 la n cs) 0],.sl0,.sl0,.n .i64 0,.sl0,.cv (.map (some r))]],[3,1,4],[0],.fs 2 n zC,[(2,.p 1 0),(4,.p 2 0),(7,.p 0 0),(29,.p 0 0)],rfl,rfl,?_,?_,?_,?_,?_,?_,?_⟩
   ·exact aZ
   ·exact .cr (.j4) (.cr (.j3) (.cr .wk .nil))
   ·exact .cv (.ownb (ty:=127) (z:=0) (by simp only[go_sem,simprocAttr]<;>rfl) (λi j _ _=>rfl) (by simp))
   ·simp
   ·exact λ_ _ h=>h
   ·exact λb hb=>by cases hb
   repeat first|with_reducible refine GE.g ?_|simp only[go_sem,simprocAttr]
   refine(bZ.nilc 0 7 3 221 (x:=?x) ?hx ?hi (by decide) (by decide) ?hlv ?hv ?hn).trans ((bZ.nilc 0 9 1 46 (x:=?y) ?hx2 ?hi2 (by decide) (by decide) ?hlv2 ?hv2 ?hn2).trans (bZ.mkO (ob:=ob0) [2,1,4,3,0] [] ?_ ?_ ?_ ?_ (λb hb=>by cases hb)))
   case hx=>simp only[go_sem,simprocAttr]<;>rfl
   case hi=>show 7<11;decide
   case hlv=>rfl
   case hv=>simp only[go_sem,simprocAttr]
   case hn=>simp only[go_sem,simprocAttr]<;>decide
   case hx2=>simp only[go_sem,simprocAttr]<;>rfl
   case hi2=>show 9<11;decide
   case hlv2=>rfl
   case hv2=>simp only[go_sem,simprocAttr]
   case hn2=>simp only[go_sem,simprocAttr]<;>decide
   ·exact aZ
   ·simp only[wH,dG,S0,List.length_replicate]
    exact .cr (.j4) (.cr (.j3) (.cr (.rows (x:=_) (by simp only[go_sem,simprocAttr]<;>rfl) (by rfl) (by rfl) (by rfl) (Nat.zero_le _) (Nat.le_refl _) (by decide) (λi j h=>absurd h (Nat.not_lt_zero _)) (λi j h=>absurd h (Nat.not_lt_zero _))) (.cr (.rows (x:=_) (by simp only[go_sem,simprocAttr]<;>rfl) (by rfl) (by rfl) (by rfl) (Nat.zero_le _) (Nat.le_refl _) (by decide) (λi j h=>absurd h (Nat.not_lt_zero _)) (λi j h=>absurd h (Nat.not_lt_zero _))) (.cr (.wk (hg:=λi hi=>by rcases qL hi with rfl|rfl|rfl|rfl|rfl|rfl|rfl|rfl|rfl|rfl|rfl<;>(simp only[go_sem,simprocAttr];first|exact Wv.same rfl|exact Wv.os rfl|exact .cv (.fs λi j h1 h2=>Ph h1 h2)))) .nil))))
   ·simp[wH]
   ·intro r x h
    simp only[go_sem,simprocAttr]
    exact h
  ·exact λc H' h=>h.elim
 have hW0:WF n (S0 n):=⟨⟨List.length_replicate,λx hx=>by rw[(List.mem_replicate.1 hx).2];exact nU⟩,λv hv=>(by cases hv),λl hl=>(by cases hl)⟩
 have hS0:Sm 0 (S0 n):=⟨Nat.zero_le _,⟨(by show(0:Int)<=0;decide),(by show(0:Int)<=32;decide)⟩,Nat.zero_le _⟩
 have hM0:lr r ob0 (S0 n).lp:=⟨⟨true,λ_=>none,0,none⟩,by rw[hob0];exact if_pos rfl,rfl,λk=>rfl⟩
 have hco:=ov la n cs pt r n (by omega) hpt hK (o.size+1) o (by omega) 0 cs.length 0 0 (S0 n) ob0 hg (Nat.le_refl _) (by decide) (by decide) hW0 hS0 hM0
 obtain⟨Si,hSi⟩:∃Si,Si=S0 n:=⟨_,rfl⟩
 rw[<-hSi] at hco hW0 hS0 hM0 ⊢
 simp only[wH,dG,List.cons_append,List.nil_append]
 repeat first|with_reducible refine GE.g ?_|simp only[go_sem,simprocAttr]
 refine oo (kk:=bG) (λb hb=>by cases hb) (bc la n cs pt r ob0 (args2:=[.p 0 0,.n .i64 ((0:Nat)),.n .i64 cs.length,.n .i64 ((0:Nat)),.n .i64 ((0:Nat))]) (L:=[(2,.p 3 0),(4,.p 4 0),(7,.p 0 0)]) (bl2:=[aa 0 38 [.n .i64 0,.n .i64 0,.n .i64 0,.sl0],aa 0 25 [.fs 2 la.length (pA la),.n .i64 n,.fs 2 cs.length (pI cs)]]) Si [4,3,2,1,0] [] hco ?_ ?_ ?_ ?_ (by simp) rfl (by rfl) (by rfl) (.cons .lq (.cons .lq .nil)) ?_ ?_)
 ·exact aZ
 ·exact .cr (.j4) (.cr (.j3) (.cr (.k2 (λ_ _ _ _=>rfl)) (.cr (.k2 (λi j _ _=>aG _ i j)) (.cr .wk .nil))))
 ·exact⟨Wv.p rfl,Wv.n rfl,Wv.n rfl,Wv.n rfl,Wv.n rfl,trivial⟩
 ·intro r x h
  simp only[go_sem,simprocAttr]
  exact h
 ·rintro v' H' ⟨S1,bx,ob1,hz,rfl,hM1,rfl⟩
  refine⟨S1,ob1,rfl,?_⟩
  simp only[wH,dG,List.cons_append,List.nil_append,gJ]
  have s1:=cj o 0 cs.length 0 0 hg hz hS0
  have hlvl:=ii la n cs pt r ob1 cs.length 0 S1 (by have:=s1.st;omega)
  repeat first|with_reducible refine GE.g ?_|simp only[go_sem,simprocAttr]
  refine oo (kk:=bG) (λb hb=>by cases hb) (bc la n cs pt r ob1 (args2:=[.p 0 0,.n .i64 cs.length,.n .i64 ((0:Nat))]) (L:=[(2,.p 3 0),(4,.p 4 0),(7,.p 0 0),(8,.p 5 0)]) (bl2:=[aa 0 130 [.n .i64 bx.1,.n .i64 bx.2],aa 0 38 [.n .i64 0,.n .i64 0,.n .i64 0,.sl0],aa 0 25 [.fs 2 la.length (pA la),.n .i64 n,.fs 2 cs.length (pI cs)]]) S1 [5,4,3,2,1,0] [] hlvl ?_ ?_ ?_ ?_ (by simp) rfl (by rfl) (by rfl) (.cons .lq (.cons .lq (.cons .lq .nil))) ?_ ?_)
  ·exact aZ
  ·exact .cr (.j2) (.cr (.j4) (.cr (.j3) (.cr (.k2 (λ_ _ _ _=>rfl)) (.cr (.k2 (λi j _ _=>aG _ i j)) (.cr .wk .nil)))))
  ·exact⟨Wv.p rfl,Wv.n rfl,Wv.n rfl,trivial⟩
  ·intro r x h
   simp only[go_sem,simprocAttr]
   exact h
  ·rintro v' H' ⟨hl,rfl,rfl⟩
   refine⟨S1,ob1,rfl,?_⟩
   simp only[wH,dG,List.cons_append,List.nil_append]
   repeat first|with_reducible refine GE.g ?_|simp only[go_sem,simprocAttr]
   refine GE.loop (I:=λm e H=>∃k:Nat,m=cs.length-k/\k<=cs.length/\e=aA [(4,.p 3 0),(7,.p 0 0),(9,.p 4 0),(58,.n .i64 cs.length),(59,.n .i64 k)]/\H=aw ob1 ([ai 48 3 (bt S1.lp k).length 0 (nk (bt S1.lp k)),aa 0 38 [.n .i64 bx.1,.n .i64 bx.2,.n .i64 S1.ht,.os 5 (bt S1.lp k).length],aa 0 38 [.n .i64 0,.n .i64 0,.n .i64 0,.sl0]]++wH la n cs pt r S1)) (m:=cs.length) ((bZ.nilc 6 3 3 48 (x:=?x3) ?hx3 ?hi3 (by decide) (by decide) ?hlv3 ?hv3 ?hn3).trans (bZ.mkO (ob:=ob1) [7,6,4,2,1,0] [] ?_ ?_ ?_ ?_ (λb hb=>by cases hb))) ⟨0,rfl,Nat.zero_le _,rfl,rfl⟩ ?_
   case hx3=>simp only[go_sem,simprocAttr]<;>rfl
   case hi3=>show 3<4;decide
   case hlv3=>rfl
   case hv3=>simp only[go_sem,simprocAttr]
   case hn3=>simp only[go_sem,simprocAttr]<;>decide
   ·exact aZ
   ·exact .cr (.rows (x:=_) (by simp only[go_sem,simprocAttr]<;>rfl) (by rfl) (by rfl) (by rfl) (Nat.zero_le _) (Nat.le_refl _) (by decide) (λi j h=>absurd h (Nat.not_lt_zero _)) (λi j h=>absurd h (Nat.not_lt_zero _))) (.cr (.j4) (.cr (.j4) (.cr (.k2 (λ_ _ _ _=>rfl)) (.cr (.k2 (λi j _ _=>aG _ i j)) (.cr .wk .nil)))))
   ·simp[wH]
   ·intro r x h
    simp only[go_sem,simprocAttr]
    exact h
   rintro m e H ⟨k,rfl,hk,rfl,rfl⟩
   simp only[wH,dG,List.cons_append,List.nil_append]
   have k0:(0:Int)<=(k:Int):=by omega
   obtain⟨mx,hmx,hown,hget⟩:=hM1
   have hil:=mw S1.lp k
   by_cases hkc:k<cs.length
   ·have hki:(k:Int)<(cs.length:Int):=by omega
    have wk:IntKind.i64.wrap ((k:Int)+1)=((k+1:Nat):Int):=(aj (by omega)).trans (by omega)
    cases hlk:dD S1.lp k with
    |none=>
     have hlook:mx.look true (.agg [.n .i64 0,.n .i64 0,.sl0]) k= .tup [.agg [.n .i64 0,.n .i64 0,.sl0],.b false]:=by
      unfold fW.look
      rw[hget,hlk]
      rfl
     have hiv:bt S1.lp (k+1)=bt S1.lp k:=by simp only[bt,hlk]
     repeat first|with_reducible refine GE.g ?_|simp only[hki,hmx,hlook,wk,decide_true,go_sem,simprocAttr]
     refine⟨cs.length-(k+1),_,_,by omega,bZ.mkO (ob:=ob1) [5,4,3,2,1,0] [] ?_ ?_ ?_ ?_ (λb hb=>by cases hb),k+1,rfl,by omega,rfl,rfl⟩
     ·exact aZ
     ·rw[hiv]
      exact .cr (.k2 (λi j _ _=>mj _ i j)) (.cr (.j4) (.cr (.j4) (.cr (.k2 (λ_ _ _ _=>rfl)) (.cr (.k2 (λi j _ _=>aG _ i j)) (.cr .wk .nil)))))
     ·simp[wH]
     ·intro r x h
      simp only[go_sem,simprocAttr]
      exact h
    |some mo=>
     have hlook:mx.look true (.agg [.n .i64 0,.n .i64 0,.sl0]) k= .tup [.agg [.n .i64 k,.n .i64 mo,.ow],.b true]:=by
      unfold fW.look
      rw[hget,hlk]
      rfl
     have hiv:bt S1.lp (k+1)=bt S1.lp k++[((k:Int),mo)]:=by simp only[bt,hlk]
     have hap:(((bt S1.lp k).length+1)*3<1099511627776/\((bt S1.lp k).length+1)*40<=140737488355328)/\(bt S1.lp k).length<=9223372036854775806:=⟨⟨by omega,by omega⟩,by omega⟩
     repeat first|with_reducible refine GE.g ?_|simp only[hki,hmx,hlook,wk,hap,rn,yz,decide_true,go_sem,simprocAttr]
     refine⟨cs.length-(k+1),_,_,by omega,bZ.mkO (ob:=ob1) [8,4,3,2,1,0] [] ?_ ?_ ?_ ?_ (λb hb=>by cases hb),k+1,rfl,by omega,rfl,rfl⟩
     ·exact aZ
     ·rw[hiv]
      simp only[List.length_append,List.length_cons,List.length_nil]
      exact .cr (.snoc (n:=(bt S1.lp k).length) (row:=nk (bt S1.lp k)) (l:=[.n .i64 k,.n .i64 mo,.ow]) (by simp only[go_sem,simprocAttr]<;>rfl) (by simp) rfl rfl (by decide) (by omega) (λi j hi _=>by simp only[nk,List.getD_eq_getElem?_getD,List.getElem?_append_left hi]) (λj hj=>by rcases Od hj with rfl|rfl|rfl<;>simp[nk,List.getD_eq_getElem?_getD]) (λi j _ _=>mj _ i j)) (.cr (.j4) (.cr (.j4) (.cr (.k2 (λ_ _ _ _=>rfl)) (.cr (.k2 (λi j _ _=>aG _ i j)) (.cr .wk .nil)))))
     ·simp[wH]
     ·intro r x h
      simp only[go_sem,simprocAttr]
      exact h
   ·have hki:¬(k:Int)<(cs.length:Int):=by omega
    obtain rfl:k=cs.length:=by omega
    repeat first|with_reducible refine GE.g ?_|simp only[hki,decide_false,go_sem,simprocAttr]
    have hl0:S1.st.length=0:=by
     unfold lb at hl
     split at hl
     ·assumption
     ·cases hl
    refine wO (ob:=λ_=>none) [5] [] (.agg [.n .i64 bx.1,.n .i64 bx.2,.n .i64 S1.ht,.os 0 (bt S1.lp cs.length).length]) [ai 48 3 (bt S1.lp cs.length).length 0 (nk (bt S1.lp cs.length))] (.cr (.k2 (λi j _ _=>mj _ i j)) .nil) (.agg rfl λi v v' h1 h2=>?_) (by simp) (λr x h=>by cases h) (λb hb=>by cases hb) ⟨S1,bx,by unfold i4;rw[<-hSi,hz];exact if_pos hl0,rfl,av _⟩
    rcases(show i=0\/i=1\/i=2\/i=3\/4<=i by omega) with rfl|rfl|rfl|rfl|h
    ·cases h1;cases h2;exact Wv.same rfl
    ·cases h1;cases h2;exact Wv.same rfl
    ·cases h1;cases h2;exact Wv.same rfl
    ·cases h1;cases h2;exact Wv.os rfl
    ·exact absurd (List.getElem?_eq_some_iff.1 h1).1 (by simp only[List.length_cons,List.length_nil];omega)
  ·rintro c H' ⟨x,hx,rfl⟩
   refine⟨x,?_,rfl⟩
   unfold i4
   rw[<-hSi,hz]
   unfold lb at hx
   split at hx
   ·cases hx
   ·rename_i hne
    cases hx
    exact if_neg hne
 ·rintro c H' ⟨e,he,rfl⟩
  exact⟨e,by unfold i4;rw[<-hSi,he],rfl⟩
def so(cs:List (Int×Int))(S:WS)(b:Bd):List gB:=[.v (.n .i64 b.1),.v (.n .i64 b.2),.v (.n .i64 S.ht),.o 48 3 (bt S.lp cs.length).length 0 (nk (bt S.lp cs.length))]
section
variable (la:List (Bool×Int)) (cs:List (Int×Int)) (n:Nat) (hn:n<=16) (hK:rN la n cs) (o:Fo) (pt:List Int) (hr:cR cs= .ok (o,pt))
include hn hK hr
theorem kY{S:WS}{b:Bd}(h:i4 cs la n o=some (.ok (S,b))):bU Tryz.prog 31 [aK la n cs,wT la n cs] [.a (so cs S b)]:=by
 refine lF ((mX la cs n hn hK o pt hr).mono (λv H q=>?_) (λc H q=>?_))
 ·obtain⟨S',b',h',rfl,rfl⟩:=q
  rw[h] at h'
  cases h'
  refine⟨[_],rfl,⟨(by show 4<=8;decide),_,rfl,⟨rfl,rfl⟩,⟨rfl,rfl⟩,⟨rfl,rfl⟩,.inr ⟨0,rfl,by simp[sf],_,by simp only[go_sem,simprocAttr],rfl,rfl,by decide,rfl,Nat.le_refl _,Nat.le_refl _,λi j hi hj=>aN i j hj,λi j _ _=>mq _ i j⟩,trivial⟩,rfl,trivial⟩
 ·obtain⟨e,h',_⟩:=q
  rw[h] at h'
  cases h'
theorem kX{e:Er}(h:i4 cs la n o=some (.error e)):Pb Tryz.prog 31 [aK la n cs,wT la n cs] (ek e.1 e.2):=by
 refine yo ((mX la cs n hn hK o pt hr).mono (λv H q=>?_) (λc H q=>?_))
 ·obtain⟨S',b',h',_⟩:=q
  rw[h] at h'
  cases h'
 ·obtain⟨e',h',rfl⟩:=q
  rw[h] at h'
  cases h'
  rfl
end
def gV(cs:List (Int×Int))(la:List (Bool×Int))(n:Nat)(o:Fo):Option (Except Er (WS×Bd)):=match i4 cs la n o with
 |none=>none
 |some (.error e)=>some (.error e)
 |some (.ok (S,b))=>if b.1<=281474976710656 then some (.ok (S,b)) else some (.error (0,18))
theorem sd(la:List (Bool×Int))(cs:List (Int×Int))(n:Nat)(hn:n<=16)(hK:rN la n cs)(o:Fo)(pt:List Int)(hr:cR cs= .ok (o,pt)):
  PC Tryz.prog dj 30 [.p 0 0,.p 1 0] (ag [aa 0 38 [.n .i64 0,.n .i64 0,.n .i64 0,.sl0],aa 0 25 [.fs 2 la.length (pA la),.n .i64 n,.fs 2 cs.length (pI cs)]])
   (λv H'=>∃(S:WS) (b:Bd),gV cs la n o=some (.ok (S,b))/\v= .tup []/\H'=ag [ai 48 3 (bt S.lp cs.length).length 0 (nk (bt S.lp cs.length)),aa 0 38 [.n .i64 b.1,.n .i64 b.2,.n .i64 S.ht,.os 2 (bt S.lp cs.length).length],aa 0 25 [.fs 2 la.length (pA la),.n .i64 n,.fs 2 cs.length (pI cs)]])
   (λc _=>∃e:Er,gV cs la n o=some (.error e)/\c=ek e.1 e.2):=by
 have hcs:=hK.len
 obtain⟨hg,hpt⟩:=iI hr
 have hW0:WF n (S0 n):=⟨⟨List.length_replicate,λx hx=>by rw[(List.mem_replicate.1 hx).2];exact nU⟩,λv hv=>(by cases hv),λl hl=>(by cases hl)⟩
 obtain⟨R,hR⟩:=bT hK.arg o 0 cs.length 0 0 (S0 n) (0,0) hg hW0 jq
 refine PC.vw (cS xc ⟨by simp,by decide⟩ ?_)
 simp only[aF]
 repeat first|with_reducible refine GE.g ?_|simp only[go_sem,simprocAttr]
 refine Pc ([aK la n cs]) (jt la n cs) ?_
 simp only[wT]
 repeat first|with_reducible refine GE.g ?_|simp only[go_sem,simprocAttr]
 cases ha:i4 cs la n o with
 |none=>
  exfalso
  unfold i4 at ha
  rw[hR] at ha
  cases R with
  |error e=>cases ha
  |ok q=>obtain⟨S,b⟩:=q;dsimp only at ha;split at ha<;>cases ha
 |some q=>
  cases q with
  |error e=>exact aH [] (fargs:=[aK la n cs,wT la n cs]) (cF.same rfl) (kX la cs n hn hK o pt hr ha) ⟨e,by unfold gV;rw[ha],rfl⟩
  |ok q=>
   obtain⟨S,b⟩:=q
   refine dR ([aK la n cs,wT la n cs]) (kY la cs n hn hK o pt hr ha) ?_
   simp only[so]
   by_cases h:b.1<=281474976710656
   ·repeat first|with_reducible refine GE.g ?_|simp only[h,decide_true,go_sem,simprocAttr]
    refine dR ([.b true,.n .i64 0,.n .i64 18]) (cw 0 18) ?_
    repeat first|with_reducible refine GE.g ?_|simp only[go_sem,simprocAttr]
    exact gU [2,1,0] [] (.tup []) [ai 48 3 (bt S.lp cs.length).length 0 (nk (bt S.lp cs.length)),aa 0 38 [.n .i64 b.1,.n .i64 b.2,.n .i64 S.ht,.os 2 (bt S.lp cs.length).length],aa 0 25 [.fs 2 la.length (pA la),.n .i64 n,.fs 2 cs.length (pI cs)]] (.cr (.k2 (λi j _ _=>mj _ i j)) (.cr (.j4) (.cr (.j3) .nil))) (.cv (.rfl rfl)) (by simp) (a8 rfl rfl) ⟨S,b,by unfold gV;rw[ha];exact if_pos h,rfl,rfl⟩
   ·repeat first|with_reducible refine GE.g ?_|simp only[h,decide_false,go_sem,simprocAttr]
    exact aH [] (fargs:=[.b false,.n .i64 0,.n .i64 18]) (cF.same rfl) (cW 0 18) ⟨(0,18),by unfold gV;rw[ha];exact if_neg h,rfl⟩
end Go.Proofs.YtdpkgnmmikebdaaGreat
namespace Go.Proofs.YtdpkgnmmikebdaaGreat
open Go.RowKit
theorem oL(w:World):(binOp .eql 20 .nilIface .nilIface).run Tryz.prog w= .ok (.bool true) w:=by kernel_rfl
theorem m8(a n:Int)(w:World):(binOp .eql 20 (.iface 118 (.agg #[.int .i64 a,.int .i64 n])) .nilIface).run Tryz.prog w= .ok (.bool false) w:=by kernel_rfl
theorem Bx(a n:Int)(w:World):(Instr.typeAssert (.iface 118 (.agg #[.int .i64 a,.int .i64 n])) 20 118 true).run Tryz.prog w= .ok (.tuple #[.agg #[.int .i64 a,.int .i64 n],.bool true]) w:=by kernel_rfl
theorem EX(p q x:Value): #[p,q]++(Array.replicate 13 undef).setIfInBounds 3 x=
  #[p,q,undef,undef,undef,x,undef,undef,undef,undef,undef,undef,undef,undef,undef]:=by kernel_rfl
theorem sM(ab eb:Nat)(w:World):
  CallsD Tryz.prog 51 #[.pointer (some ⟨ab,0,none⟩),.pointer (some ⟨eb,0,none⟩)] .returning w λe u' w'=>e= .returned (.tuple #[])/\u'= .returning/\w'=w:=by
 refine callsD_of_wpS Tryz.func51 rfl λc₀ cs hu=>?_
 apply wpS_seq
 apply wpS_region
 simp[wpOpsS,go_sem,recoverD,hu,Tryz.ntmps51,Exit.thenS]
 refine wpS_of_wp ?_
 rw[EX]
 have hq:=oL
 go_wp2
 cases c₀
 simp_all [bodyPostS,results,Tryz.results51]
theorem lj(ab eb:Nat)(x y a n:Int)(older:List PanicEntry)(w:World)(ha:w.heap[ab]? =some (.cells #[.int .i64 x] 3 (0,0)))(he:w.heap[eb]? =some (.cells #[.int .i64 y] 30 (0,0)))(hne:¬ab=eb)(hne2:¬eb=ab):
  CallsD Tryz.prog 51 #[.pointer (some ⟨ab,0,none⟩),.pointer (some ⟨eb,0,none⟩)] (.panicking ({v:= .iface 118 (.agg #[.int .i64 a,.int .i64 n]),recovered:=false}::older)) w λe u' w'=>
   e= .returned (.tuple #[])/\u'= .panicking ({v:= .iface 118 (.agg #[.int .i64 a,.int .i64 n]),recovered:=true}::older)/\w'.heap[ab]? =some (.cells #[.int .i64 a] 3 (0,0))/\w'.heap[eb]? =some (.cells #[.int .i64 n] 30 (0,0))/\(∀k,k<w.heap.size->k≠ab->k≠eb->w'.heap[k]? =w.heap[k]?)/\w'.os=w.os/\w'.tape=w.tape/\w'.output=w.output/\w.heap.size<=w'.heap.size:=by
 have hq:=m8 a n
 have hta:=Bx a n
 refine callsD_of_wpS Tryz.func51 rfl λc₀ cs hu=>?_
 apply wpS_seq
 apply wpS_region
 simp[wpOpsS,go_sem,recoverD,hu,Tryz.ntmps51,Exit.thenS]
 refine wpS_of_wp ?_
 rw[EX]
 go_wp2
 have hal:ab<w.heap.size:=(Array.getElem?_eq_some_iff.1 ha).1
 have hel:eb<w.heap.size:=(Array.getElem?_eq_some_iff.1 he).1
 have z0:w.cell? ⟨ab,0,none⟩=some (.int .i64 x):=by simp[World.cell?,ha]
 have z1:w.cell? ⟨eb,0,none⟩=some (.int .i64 y):=by simp[World.cell?,he]
 have f0:w.frozen? ⟨ab,0,none⟩=false:=by simp[World.frozen?,ha]
 have f1:w.frozen? ⟨eb,0,none⟩=false:=by simp[World.frozen?,he]
 have y0:∀v,(w.setCell ⟨eb,0,none⟩ v).cell? ⟨ab,0,none⟩=some (.int .i64 x):=λv=>by rw[World.cell?_of_block (Below.heap_setCell _ _ _ _ hne)];exact z0
 have y1:∀v,(w.setCell ⟨ab,0,none⟩ v).cell? ⟨eb,0,none⟩=some (.int .i64 y):=λv=>by rw[World.cell?_of_block (Below.heap_setCell _ _ _ _ hne2)];exact z1
 have g0:∀v,(w.setCell ⟨eb,0,none⟩ v).frozen? ⟨ab,0,none⟩=false:=λv=>by simp only[World.frozen?];rw[Below.heap_setCell _ _ _ _ (show ab≠(⟨eb,0,none⟩:Addr).block from hne),ha];rfl
 have g1:∀v,(w.setCell ⟨ab,0,none⟩ v).frozen? ⟨eb,0,none⟩=false:=λv=>by simp only[World.frozen?];rw[Below.heap_setCell _ _ _ _ (show eb≠(⟨ab,0,none⟩:Addr).block from hne2),he];rfl
 go_region
 go_wp2
 cases c₀
 simp only at hu
 subst hu
 simp only[bodyPostS]
 refine⟨trivial,_,rfl,?_⟩
 refine⟨_,results_none rfl _ _ _,?_⟩
 refine⟨rfl,rfl,?_⟩
 have hs:((w.setCell ⟨ab,0,none⟩ (.int .i64 a)).setCell ⟨eb,0,none⟩ (.int .i64 n)).heap.size=w.heap.size:=by simp[World.setCell]
 have hd:∀k,k<w.heap.size->((((w.setCell ⟨ab,0,none⟩ (.int .i64 a)).setCell ⟨eb,0,none⟩ (.int .i64 n)).alloc (Obj.cells #[.int .i64 a,.int .i64 n] 118)).drew).heap[k]? =((w.setCell ⟨ab,0,none⟩ (.int .i64 a)).setCell ⟨eb,0,none⟩ (.int .i64 n)).heap[k]? :=λk hk=>Below.heap_alloc _ _ _ (by rw[hs];exact hk)
 refine⟨?_,?_,λk hk h1 h2=>?_,rfl,rfl,rfl,?_⟩
 ·rw[hd ab hal,Below.heap_setCell _ _ _ _ (show ab≠(⟨eb,0,none⟩:Addr).block from hne)]
  simp only[World.setCell,Array.getElem?_modify,if_true,ha]
  rfl
 ·rw[hd eb hel]
  simp only[World.setCell,Array.getElem?_modify,if_true,if_neg hne,he]
  rfl
 ·rw[hd k hk,Below.heap_setCell _ _ _ _ (show k≠(⟨eb,0,none⟩:Addr).block from h2),Below.heap_setCell _ _ _ _ (show k≠(⟨ab,0,none⟩:Addr).block from h1)]
 ·have:((((w.setCell ⟨ab,0,none⟩ (.int .i64 a)).setCell ⟨eb,0,none⟩ (.int .i64 n)).alloc (Obj.cells #[.int .i64 a,.int .i64 n] 118)).drew).heap.size=w.heap.size+1:=by rw[<-hs];exact Array.size_push ..
  omega
theorem HR.rework{B:Nat}{σ:Sg}{H:AH}{w w':World}(h:HR B σ H w)(p q:Nat)(hp:∀b o,σ b≠some (p,o))(hq:∀b o,σ b≠some (q,o))(fp:σ.fz p=none)(fq:σ.fz q=none)(np:¬cO w.heap[p]?)(nq:¬cO w.heap[q]?)
  (hk:∀k,k<w.heap.size->k≠p->k≠q->w'.heap[k]? =w.heap[k]?) (hs:w.heap.size<=w'.heap.size):HR B σ H w':=by
 refine⟨h.new,h.newl,h.old,h.small,Nat.le_trans h.hB hs,h.nil,h.nilp,λb x c o hx hsb=>?_,h.szs,h.inj,λc fs hf=>?_,h.ob.keep λr hr hn=>hk r hr (λe=>np (e ▸ hn)) (λe=>nq (e ▸ hn))⟩
 ·obtain⟨cs,e1,e2,e3⟩:=h.blk b x c o hx hsb
  exact⟨cs,e1,by rw[hk c (Array.getElem?_eq_some_iff.1 e2).1 (λe=>hp b o (e ▸ hsb)) (λe=>hq b o (e ▸ hsb))];exact e2,e3⟩
 ·obtain⟨cs,t,fr,e1,e2,e3⟩:=h.frz c fs hf
  exact⟨cs,t,fr,by rw[hk c (h.fzlt hf) (λe=>by subst e;rw[fp] at hf;cases hf) (λe=>by subst e;rw[fq] at hf;cases hf)];exact e1,e2,e3⟩
def wN(w:World):World:=(w.alloc (Obj.cells #[.int .i64 0] 3)).alloc (Obj.cells #[.int .i64 0] 30)
theorem lK(w:World):(wN w).heap.size=w.heap.size+2:=by simp[wN]
theorem EW(w:World):(wN w).heap[w.heap.size]? =some (.cells #[.int .i64 0] 3 (0,0)):=xR w
theorem EV(w:World):(wN w).heap[w.heap.size+1]? =some (.cells #[.int .i64 0] 30 (0,0)):=xQ w
theorem Bo(w:World){c:Nat}(hc:c<w.heap.size):(wN w).heap[c]? =w.heap[c]? :=(oK w).block c hc
theorem xP{B:Nat}{σ:Sg}{H:AH}{w:World}(h:HR B σ H w):HR B σ H (wN w):=((h.junk _).1.junk _).1
theorem tA(kk:Nat->Bool){B:Nat}{σ:Sg}{H:AH}{w:World}(h:HR B σ H w):eu kk B σ w σ (wN w):=
 ⟨((Below.refl _ _).alloc h.hB _).alloc (by have:=h.hB;simp;omega) _,.refl _ _,λb c o hs=> .inl ⟨b,o,hs⟩,λc hc _=> .inl (Bo w hc),λ_ _ _=>rfl,λ_ _ _ hs=>hs⟩
def Full(H:AH):Prop:=∀b,b<H.next->∃x,H.at b=some x
theorem HR.named_lt{B:Nat}{σ:Sg}{H:AH}{w:World}(h:HR B σ H w)(hF:Full H){b c:Nat}{o:Option Nat}(hs:σ b=some (c,o)):c<w.heap.size:=by
 by_cases hb:b<H.next
 ·obtain⟨x,hx⟩:=hF b hb
  obtain⟨cs,e1,e2,e3⟩:=h.blk b x c o hx hs
  exact(Array.getElem?_eq_some_iff.1 e2).1
 ·rw[h.new b (by omega)] at hs
  cases hs
theorem eO{v:Value}{t:TypeId}{o:Option Obj}(h:o=some (.cells #[v] t (0,0))):¬cO o:=λhn=>hn _ _ _ h
theorem oy{kk:Nat->Bool}{B:Nat}{σ σ2:Sg}{H:AH}{w w2:World}(h:HR B σ H w)(hF:Full H)(ha:eu kk B σ (wN w) σ2 w2):
  w2.heap[w.heap.size]? =some (.cells #[.int .i64 0] 3 (0,0))/\w2.heap[w.heap.size+1]? =some (.cells #[.int .i64 0] 30 (0,0))/\(∀b o,σ2 b≠some (w.heap.size,o))/\(∀b o,σ2 b≠some (w.heap.size+1,o))/\σ2.fz w.heap.size=none/\σ2.fz (w.heap.size+1)=none:=by
 have hz:=lK w
 have n1:∀b o,σ b≠some (w.heap.size,o):=λb o hs=>by have:=h.named_lt hF hs;omega
 have n2:∀b o,σ b≠some (w.heap.size+1,o):=λb o hs=>by have:=h.named_lt hF hs;omega
 have f:∀c,w.heap.size<=c->σ.fz c=none:=λc hc=>by
  cases hf:σ.fz c with
  |none=>rfl
  |some fs=>have:=h.fzlt hf;omega
 refine⟨?_,?_,ha.un (by omega) n1,ha.un (by omega) n2,(ha.fz _ (by omega) n1).trans (f _ (Nat.le_refl _)),(ha.fz _ (by omega) n2).trans (f _ (by omega))⟩
 ·rcases ha.same _ (by omega) n1 with e|e
  ·exact e.trans (EW w)
  ·exact absurd e (eO (EW w))
 ·rcases ha.same _ (by omega) n2 with e|e
  ·exact e.trans (EV w)
  ·exact absurd e (eO (EV w))
theorem sL{kk:Nat->Bool}{caps:List AV}{H:AH}{Q:AV->AH->Prop}(hF:Full H)(h:PC Tryz.prog kk 30 caps H Q (λ_ _=>False)):
  PC Tryz.prog kk 29 [.f 30 [] caps] H (λv H'=>v= .tup [.n .i64 0,.n .i64 0]/\∃v',Q v' H') (λ_ _=>False):=by
 refine⟨⟨_,Tryz.func29,by kernel_rfl,rfl⟩,λB σ w args' hR ha=>?_⟩
 obtain⟨c1,c2,rfl,hc1,hc⟩:∃c1 c2,args'= #[.func (.func 30) c1 c2]/\c1= #[]/\aV σ caps c2.toList:=by
  obtain⟨l⟩:=args'
  obtain⟨h1,h2⟩:=ha
  match l,h1 with
  |[x],_=>
   have:=h2 0 _ rfl
   cases this with
   |f n1 g1 n2 g2=>exact⟨_,_,rfl,Array.eq_empty_of_size_eq_zero (by simpa using n1.symm),by simpa using n2,λi v hv=>by simpa using g2 i v hv⟩
 subst hc1
 have HR0:=gP.mk hR
 have HC:=gP.mk hc
 have HH:=gP.mk h
 clear hR hc h ha
 go_enter_defers Tryz.func29,Tryz.ntmps29
 go_wp2_with fail
 show Calls _ _ _ (wN w) _
 have hz:=lK w
 refine((HH.out).2 B σ (wN w) c2 (xP HR0.out) HC.out).mono ?_
 rintro e w2 hp
 cases e with
 |outgrown=>exact hp.elim
 |panicked c=>
  obtain⟨_,_,h,_⟩:=hp
  exact h.elim
 |returned v=>
  obtain⟨v',H2,σ2,hq,hv,hHR,hA⟩:=hp
  obtain⟨q1,q2,n1,n2,g1,g2⟩:=oy HR0.out hF hA
  have z0:w2.cell? ⟨w.heap.size,0,none⟩=some (.int .i64 0):=by simp[World.cell?,q1]
  have z1:w2.cell? ⟨w.heap.size+1,0,none⟩=some (.int .i64 0):=by simp[World.cell?,q2]
  have f0:w2.frozen? ⟨w.heap.size,0,none⟩=false:=by simp[World.frozen?,q1]
  have f1:w2.frozen? ⟨w.heap.size+1,0,none⟩=false:=by simp[World.frozen?,q2]
  have hn1:w.heap.size≠w.heap.size+1:=by omega
  have hd:∀k,k≠w.heap.size->k≠w.heap.size+1->((w2.setCell ⟨w.heap.size,0,none⟩ (.int .i64 0)).setCell ⟨w.heap.size+1,0,none⟩ (.int .i64 0)).heap[k]? =w2.heap[k]? :=λk h1 h2=>by
   rw[Below.heap_setCell _ _ _ _ (show k≠(⟨w.heap.size+1,0,none⟩:Addr).block from h2),Below.heap_setCell _ _ _ _ (show k≠(⟨w.heap.size,0,none⟩:Addr).block from h1)]
  have y1:((w2.setCell ⟨w.heap.size,0,none⟩ (.int .i64 0)).setCell ⟨w.heap.size+1,0,none⟩ (.int .i64 0)).cell? ⟨w.heap.size,0,none⟩=some (.int .i64 0):=by
   rw[World.cell?_of_block (Below.heap_setCell _ _ _ _ (show w.heap.size≠(⟨w.heap.size+1,0,none⟩:Addr).block from hn1))]
   simp[World.cell?,World.setCell,Array.getElem?_modify,q1]
  have y2:((w2.setCell ⟨w.heap.size,0,none⟩ (.int .i64 0)).setCell ⟨w.heap.size+1,0,none⟩ (.int .i64 0)).cell? ⟨w.heap.size+1,0,none⟩=some (.int .i64 0):=by
   simp[World.cell?,World.setCell,Array.getElem?_modify,q2]
  have hsz:((w2.setCell ⟨w.heap.size,0,none⟩ (.int .i64 0)).setCell ⟨w.heap.size+1,0,none⟩ (.int .i64 0)).heap.size=w2.heap.size:=by simp[World.setCell]
  have hfin:uz kk B σ w (λv H'=>v= .tup [.n .i64 0,.n .i64 0]/\∃v',Q v' H') (λ_ _=>False) (.returned (.tuple #[.int .i64 0,.int .i64 0])) ((w2.setCell ⟨w.heap.size,0,none⟩ (.int .i64 0)).setCell ⟨w.heap.size+1,0,none⟩ (.int .i64 0)):=by
   have hAA:=(tA kk HR0.out).trans hA
   have hB:=HR0.out.hB
   refine⟨_,H2,σ2,⟨rfl,v',hq⟩,((aV.nil.cons (.n _ _)).cons (.n _ _)).tup,hHR.rework _ _ n1 n2 g1 g2 (eO q1) (eO q2) (λk _ h1 h2=>hd k h1 h2) (by omega),⟨(hAA.bel.setCell hB _).setCell (Nat.le_succ_of_le hB) _,hAA.fzb,hAA.im,λc hc hn=>?_,hAA.fz,hAA.kp⟩⟩
   rw[hd c (by omega) (by omega)]
   exact hAA.same c hc hn
  have HH2:=gP.mk hfin
  have Y1:=gP.mk y1
  have Y2:=gP.mk y2
  clear hfin hd hHR hA hv hq q1 q2 n1 n2 g1 g2 hsz y1 y2
  go_wp2
  refine leaves_cons (f:=51) (args:= #[.pointer (some ⟨w.heap.size,0,none⟩),.pointer (some ⟨w.heap.size+1,0,none⟩)]) (by simp) (by simp[go_sem]) ?_
  refine(sM w.heap.size (w.heap.size+1) _).mono ?_
  rintro e u' w'' ⟨rfl,rfl,rfl⟩
  have y1:=Y1.out
  have y2:=Y2.out
  refine⟨.tuple #[.int .i64 0,.int .i64 0],?_,HH2.out⟩
  simp[results,Tryz.results29,go_sem,y1,y2]
theorem HR.empty2{φ:Fz}{B:Nat}(w:World)(hB:B<=w.heap.size)(t1 t2:TypeId)(e1 e2:Nat)(r1 r2:Nat->Nat->AV)(hφ:∀c fs,φ c=some fs->∃cs t fr,w.heap[c]? =some (.cells cs t fr)/\gN fs cs):
  HR B ⟨λ_=>none,λb=>b<2,φ⟩ (ag [ai t2 e2 0 0 r2,ai t1 e1 0 0 r1]) w:=by
 have hat:∀b x,(ag [ai t2 e2 0 0 r2,ai t1 e1 0 0 r1]).at b=some x->b<2/\x.size=0/\x.opn=true:=λb x hx=>by
  rw[cP,dS (by rw[aU];simp),cP,dS (by rw[aU];simp),iy,ic,aU] at hx
  by_cases h1:b=0+1
  ·rw[show([]:List AB).length=0 from rfl,if_pos h1] at hx
   cases hx
   exact⟨by omega,Nat.zero_mul _,rfl⟩
  ·rw[show([]:List AB).length=0 from rfl,if_neg h1] at hx
   by_cases h0:b=0
   ·rw[if_pos h0] at hx
    cases hx
    exact⟨by omega,Nat.zero_mul _,rfl⟩
   ·rw[if_neg h0] at hx
    cases hx
 refine⟨λ_ _=>rfl,λb hb h=>?_,λb hb=>?_,(by rw[aU];simp),hB,λb x hx _=>⟨(hat b x hx).2.1,(hat b x hx).2.2,(hat b x hx).1⟩,λ_ _=>rfl,λb x c o hx hs=>(by cases hs),λb x hx=>(by rw[(hat b x hx).2.1];decide),λb b' x x' c o o' _ _ hs=>(by cases hs),λc fs hc=>?_,?_⟩
 ·simp only[aU] at hb
  exact absurd h (Nat.not_lt.2 hb)
 ·simp only[aU] at hb
  cases hx:(ag [ai t2 e2 0 0 r2,ai t1 e1 0 0 r1]).at b with
  |none=>rfl
  |some x=>have:=(hat b x hx).1;have:2<=b:=hb;omega
 ·obtain⟨cs,t,fr,h1,h2⟩:=hφ c fs hc
  exact⟨cs,t,fr,h1,h2,λb x o _ hs=>by cases hs⟩
 ·exact .none λr x hr=>by rw[lB] at hr;cases hr
theorem qW{kk:Nat->Bool}{caps:List AV}{H:AH}{a n:Int}(t1 t2:TypeId)(e1 e2:Nat)(r1 r2:Nat->Nat->AV)(hF:Full H)(h:PC Tryz.prog kk 30 caps H (λ_ _=>False) (λc _=>c=ek a n)):
  PC Tryz.prog (λ_=>false) 29 [.f 30 [] caps] H (λv H'=>v= .tup [.n .i64 a,.n .i64 n]/\H'=ag [ai t2 e2 0 0 r2,ai t1 e1 0 0 r1]) (λ_ _=>False):=by
 refine⟨⟨_,Tryz.func29,by kernel_rfl,rfl⟩,λB σ w args' hR ha=>?_⟩
 obtain⟨c1,c2,rfl,hc1,hc⟩:∃c1 c2,args'= #[.func (.func 30) c1 c2]/\c1= #[]/\aV σ caps c2.toList:=by
  obtain⟨l⟩:=args'
  obtain⟨h1,h2⟩:=ha
  match l,h1 with
  |[x],_=>
   have:=h2 0 _ rfl
   cases this with
   |f n1 g1 n2 g2=>exact⟨_,_,rfl,Array.eq_empty_of_size_eq_zero (by simpa using n1.symm),by simpa using n2,λi v hv=>by simpa using g2 i v hv⟩
 subst hc1
 have HR0:=gP.mk hR
 have HC:=gP.mk hc
 have HH:=gP.mk h
 clear hR hc h ha
 go_enter_defers Tryz.func29,Tryz.ntmps29
 go_wp2_with fail
 show Calls _ _ _ (wN w) _
 have hz:=lK w
 refine((HH.out).2 B σ (wN w) c2 (xP HR0.out) HC.out).mono ?_
 rintro e w2 hp
 cases e with
 |outgrown=>exact hp.elim
 |returned v=>
  obtain⟨_,_,_,h,_⟩:=hp
  exact h.elim
 |panicked c=>
  obtain⟨H2,σ2,rfl,hHR,hA⟩:=hp
  obtain⟨q1,q2,n1,n2,g1,g2⟩:=oy HR0.out hF hA
  refine leaves_cons (f:=51) (args:= #[.pointer (some ⟨w.heap.size,0,none⟩),.pointer (some ⟨w.heap.size+1,0,none⟩)]) (by simp) (by simp[go_sem]) ?_
  refine(lj w.heap.size (w.heap.size+1) 0 0 a n [] w2 q1 q2 (by omega) (by omega)).mono ?_
  rintro e u' w3 ⟨rfl,rfl,b1,b2,b3,ho3,ht3,hp3,hs3⟩
  have y1:w3.cell? ⟨w.heap.size,0,none⟩=some (.int .i64 a):=by simp[World.cell?,b1]
  have y2:w3.cell? ⟨w.heap.size+1,0,none⟩=some (.int .i64 n):=by simp[World.cell?,b2]
  have hAA:=(tA (λ_=>false) HR0.out).trans hA
  have hB:=HR0.out.hB
  have h2s:=hA.bel.size
  have hR3:HR B σ2 H2 w3:=hHR.rework _ _ n1 n2 g1 g2 (eO q1) (eO q2) (λk hk h1 h2=>b3 k hk h1 h2) hs3
  have hfin:uz (λ_=>false) B σ w (λv H'=>v= .tup [.n .i64 a,.n .i64 n]/\H'=ag [ai t2 e2 0 0 r2,ai t1 e1 0 0 r1]) (λ_ _=>False) (.returned (.tuple #[.int .i64 a,.int .i64 n])) w3:=by
   have hw:w.heap.size<=w3.heap.size:=Nat.le_trans hAA.bel.size hs3
   refine⟨_,_,⟨λ_=>none,λb=>b<2,σ2.fz⟩,⟨rfl,rfl⟩,((aV.nil.cons (.n _ _)).cons (.n _ _)).tup,HR.empty2 w3 (Nat.le_trans hB hw) t1 t2 e1 e2 r1 r2 (λc fs hf=>?_),⟨⟨ho3.trans hAA.bel.os,ht3.trans hAA.bel.tape,hp3.trans hAA.bel.output,hw,λk hk=>?_⟩,⟨hAA.fzb.eq,hAA.fzb.le⟩,λb c o hs=>(by cases hs),λc hc hn=>?_,hAA.fz,λb x hb=>(by cases hb)⟩⟩
   ·obtain⟨cs,t,fr,e1,e2,_⟩:=hR3.frz c fs hf
    exact⟨cs,t,fr,e1,e2⟩
   ·rw[b3 k (by omega) (by omega) (by omega)]
    exact hAA.bel.block k hk
   ·rw[b3 c (by omega) (by omega) (by omega)]
    exact hAA.same c hc hn
  have HH2:=gP.mk hfin
  clear hfin hHR hA hAA hR3 q1 q2 n1 n2 g1 g2
  simp[Leaves,settle,results,Tryz.results29,go_sem,y1,y2]
  exact HH2.out
theorem uy.nmk{p:Nat->Bool}:∀{L:List (Nat×AV)},(L.all λq=>decide (q.1<1000000)&&q.2.nm p 3)=true->∀t v,(aA L).get t=some v->v.nm p 3=true
 |[],_,t,v,h=>by rw[eG] at h;cases h
 |x::L,hL,t,v,h=>by
  simp only[List.all_cons,Bool.and_eq_true,decide_eq_true_eq] at hL
  rw[ed hL.1.1] at h
  by_cases e:t=x.1
  ·rw[if_pos e] at h
   cases h
   exact hL.1.2
  ·rw[if_neg e] at h
   exact uy.nmk hL.2 t v h
theorem Ag{P:Program}{n:Nat}{kk kk':Nat->Bool}{g:FuncId}{args:List AV}{e:Tr AV}{H:AH}{Q':AV->AH->Prop}{E':List PanicEntry->AH->Prop}{Q:AV->Tr AV->AH->Prop}{E:List PanicEntry->AH->Prop}
  (ρ M:List Nat) (L:List (Nat×AV)) (args2:List AV) (bl:List AB) (h:PC P kk' g args2 (ag bl) Q' E')
  (he:ej (λb2=>ρ.reverse[b2]?) M H e L) (hh:cQ (λb2=>ρ.reverse[b2]?) M H ρ bl) (hv:C3 (λb2=>ρ.reverse[b2]?) M H args args2) (hl:bl.length<1000000) (hL:(L.all λp=>decide (p.1<1000000)&&p.2.nm kk' 3)=true) (hsz:∀b,kk' b=true->∃x,(ag bl).at b=some x/\0<x.size)
  (hkk:∀b,kk b=false) (hQ:∀v H',Q' v H'->Q v (aA L) H') (hE:∀c H',E' c H'->E c H'):dl P n kk g args e H Q E:=by
 refine⟨h.1,λB σ a w args' hEn hH ha'=>?_⟩
 obtain⟨σ2,q1,q2,q3,q4,q5,q6⟩:=Wk.mkE (ob:=λ_=>none) ρ M he hh hl (λr x hx=>by cases hx) hEn hH
 rw[av] at q2
 have hA:eu (λ_=>false) B σ w σ2 w:=by
  refine⟨Below.refl _ _,q3,λb c o hs=>?_,λ_ _ _=> .inl rfl,λc _ hn=>q5 c hn,λb x hb hs=>by cases hb⟩
  rw[q4] at hs
  obtain⟨b0,h1,h2⟩:=Option.bind_eq_some_iff.1 hs
  exact .inl ⟨b0,o,h2⟩
 have hargs:aV σ2 args2 args'.toList:=by
  obtain⟨v1,v2⟩:=hv.get
  refine⟨v1.symm.trans ha'.1,λi v' hv'=>?_⟩
  obtain⟨v,g1,g2⟩:=v2 i v' hv'
  exact q6 g2 (ha'.2 i v g1)
 refine(h.2 B σ2 w args' q2 hargs).mono λen w' hp=>?_
 cases en with
 |returned u=>
  obtain⟨v,H',σ',r0,r1,r2,r3⟩:=hp
  have hall:=hA.trans r3.no
  refine⟨v,_,H',σ',hQ v H' r0,r1,⟨⟨q1.er.df,λt v hv=>?_⟩,q1.sz,q1.sm⟩,r2,hall.bel,hall.fzb,hall.im,hall.same,hall.fz,λb x hb _=>by rw[hkk b] at hb;cases hb⟩
  have e1:=VR.only 3 (uy.nmk hL t v hv) (q1.er.get t v hv)
  have e2:(σ2.only kk').le σ':=by
   refine⟨λb x hx=>?_,λb hb=>?_,λc fs hf=>r3.fzb.le c fs hf⟩
   ·have hx':(if kk' b then σ2.nm b else none)=some x:=hx
    split at hx'
    ·rename_i hb
     exact r3.kp b x hb hx'
    ·cases hx'
   ·obtain⟨hb1,hb2⟩:=hb
    obtain⟨x,g1,g2⟩:=hsz b hb1
    have:=(q2.nil b x g1 (q2.nilp b hb2)).1
    omega
  exact e1.mono e2
 |panicked c=>
  obtain⟨H',σ',r0,r1,r2⟩:=hp
  exact⟨H',σ',hE c H' r0,r1,hA.trans r2⟩
 |outgrown=>exact hp.elim
/-! ### an error is never 0-/
theorem ib{p n:Int}(h:n≠0):((p,n):Er).2≠0:=h
theorem ly{p:Int}{base:Nat}{ty:List UInt8}{S:WS}{e:Er}(h:eW p base ty S= .error e):e.2≠0:=by
 unfold eW at h
 split at h
 ·cases h;exact ib (by decide)
 ·split at h<;>cases h
  exact ib (by decide)
theorem du{p:Int}{l:List Vl}{S:WS}{e:Er}(h:bV p l S= .error e):e.2≠0:=by
 unfold bV at h
 split at h<;>cases h
 exact ib (by decide)
theorem dp{b:Bd}{x:Except Er WS}{e:Er}(h:cq b x= .error e)(hx:∀e,x= .error e->e.2≠0):e.2≠0:=by
 cases x with
 |error e'=>cases h;exact hx _ rfl
 |ok S=>cases h
theorem rj{la:List (Bool×Int)}{arg p:Int}{v:Vl}{e:Er}(h:dE la arg p v= .error e):e.2≠0:=by
 unfold dE at h
 split at h<;>cases h
 exact ib (by decide)
theorem C2{la:List (Bool×Int)}{op arg p:Int}{l:List Vl}{S:WS}{e:Er}(h:b8 la op arg p l S= .error e):e.2≠0:=by
 unfold b8 at h
 by_cases c0:op=0
 ·rw[if_pos c0] at h;exact dp h λ_=>du
 rw[if_neg c0] at h
 by_cases c1:op=1
 ·rw[if_pos c1] at h;exact dp h λ_=>du
 rw[if_neg c1] at h
 by_cases c2:op=2
 ·rw[if_pos c2] at h;cases h
 rw[if_neg c2] at h
 by_cases c3:op=3
 ·rw[if_pos c3] at h
  cases hx:dE la arg p (l.getD 0 v0) with
  |error e'=>rw[hx] at h;cases h;exact rj hx
  |ok x=>rw[hx] at h;exact dp h λ_=>du
 rw[if_neg c3] at h
 by_cases c4:op=4
 ·rw[if_pos c4] at h
  cases hx:dE la arg p (l.getD 0 v0) with
  |error e'=>rw[hx] at h;cases h;exact rj hx
  |ok x=>rw[hx] at h;cases h
 rw[if_neg c4] at h
 by_cases c5:op=5
 ·rw[if_pos c5] at h;exact dp h λ_=>du
 rw[if_neg c5] at h
 by_cases c7:op=7
 ·rw[if_pos c7] at h;exact dp h λ_=>du
 rw[if_neg c7] at h
 by_cases c6:op=6\/op=35
 ·rw[if_pos c6] at h;cases h
 rw[if_neg c6] at h
 by_cases c34:op=34
 ·rw[if_pos c34] at h;cases h
 rw[if_neg c34] at h
 by_cases c32:op=32
 ·rw[if_pos c32] at h;exact dp h λ_=>du
 rw[if_neg c32] at h
 by_cases c26:op=26
 ·rw[if_pos c26] at h;exact dp h λ_=>du
 rw[if_neg c26] at h
 by_cases ct:(eY op).2=[116]
 ·rw[if_pos ct] at h;exact dp h λ_=>du
 rw[if_neg ct] at h
 by_cases ca:(bg op (l.getD 0 v0).2 (l.getD 1 v0).2).2=0
 ·rw[if_pos ca] at h;exact dp h λ_=>du
 ·rw[if_neg ca] at h;cases h;exact ca
theorem BC{cs:List (Int×Int)}{la:List (Bool×Int)}{base loop p:Nat}{S:WS}{e:Er}(h:fv cs la base loop p S= .error e):e.2≠0:=by
 unfold fv at h
 split at h
 ·split at h
  ·rename_i hp;cases h;exact ly hp
  ·split at h<;>cases h
   exact ib (by decide)
 ·unfold dL at h
  split at h
  ·rename_i hp;cases h;exact ly hp
  ·exact C2 h
theorem qq{cs:List (Int×Int)}{la:List (Bool×Int)}{base loop:Nat}:∀(n p:Nat) {S:WS} {b:Bd} {e:Er},g8 cs la base loop n p S b= .error e->e.2≠0
 |0,p,S,b,e,h=>by cases h
 |n+1,p,S,b,e,h=>by
  rw[g8] at h
  split at h
  ·rename_i h1;cases h;exact BC h1
  ·exact qq n (p+1) h
theorem tK{body:WS->Option (Except Er (WS×Bd))}{to h:Nat}{sto:Nat->Bool}(hB:∀S e,body S=some (.error e)->e.2≠0):∀(f:Nat) (pass:Int) (head:List Iv) {S:WS} {e:Er},gF body to h sto f pass head S=some (.error e)->e.2≠0
 |0,pass,head,S,e,hh=>by cases hh
 |f+1,pass,head,S,e,hh=>by
  rw[gF] at hh
  split at hh
  ·cases hh
  ·rename_i h1;cases hh;exact hB _ _ h1
  ·split at hh
   ·split at hh
    ·cases hh
    ·exact tK hB f _ _ hh
   ·cases hh;exact ib (by decide)
theorem eg{cs:List (Int×Int)}{la:List (Bool×Int)}:∀(o:Fo) (base loop:Nat) {S:WS} {bd:Bd} {e:Er},aR cs la o base loop S bd=some (.error e)->e.2≠0
 |.nil,base,loop,S,bd,e,h=>by cases h
 |.pl x y r,base,loop,S,bd,e,h=>by
  rw[aR] at h
  split at h
  ·rename_i h1;cases h;exact qq _ _ h1
  ·exact eg r base loop h
 |.br op x y u v r,base,loop,S,bd,e,h=>by
  rw[aR] at h
  split at h
  ·split at h
   ·rename_i h1;cases h;exact ly h1
   ·split at h
    ·cases h
    ·rename_i h1;cases h;exact eg u _ _ h1
    ·split at h
     rotate_left
     ·cases h;exact ib (by decide)
     split at h
     ·split at h
      ·cases h
      ·rename_i h1;cases h;exact eg v _ _ h1
      ·split at h
       ·exact eg r _ _ h
       ·cases h;exact ib (by decide)
     ·exact eg r _ _ h
  ·split at h
   ·rename_i h1;cases h;exact ly h1
   ·split at h
    rotate_left
    ·cases h;exact ib (by decide)
    split at h
    ·cases h
    ·rename_i h1;cases h;exact tK (λS e h2=>eg u _ _ h2) _ _ _ h1
    ·exact eg r _ _ h
theorem tB{la:List (Bool×Int)}{cs:List (Int×Int)}{n:Nat}{o:Fo}{e:Er}(h:gV cs la n o=some (.error e)):e.2≠0:=by
 unfold gV at h
 split at h
 ·cases h
 ·rename_i h1
  cases h
  unfold i4 at h1
  split at h1
  ·cases h1
  ·rename_i h2;cases h1;exact eg _ _ _ h2
  ·split at h1<;>cases h1
   exact ib (by decide)
 ·split at h<;>cases h
  exact ib (by decide)
theorem mP:∀{cs:List (Int×Int)},co cs=0->∀i ∈ cs,dQ i=0
 |[],_,i,hi=>by cases hi
 |x::l,h,i,hi=>by
  simp only[co] at h
  split at h
  ·rename_i h0
   rcases List.mem_cons.1 hi with rfl|hi
   ·exact h0
   ·exact mP h i hi
  ·rename_i h0
   exact absurd h h0
theorem rB{la:List (Bool×Int)}{loc:Int}:∀{cs:List (Int×Int)} {k:Nat},(jY la loc cs k).2=0->∀i ∈ cs,¬jn la loc i
 |[],_,_,i,hi=>by cases hi
 |x::l,k,h,i,hi=>by
  simp only[jY] at h
  split at h
  ·exact absurd (show(2:Int)=0 from h) (by decide)
  ·rename_i h0
   rcases List.mem_cons.1 hi with rfl|hi
   ·exact h0
   ·exact rB h i hi
theorem pM{la:List (Bool×Int)}{loc:Int}{cs:List (Int×Int)}(ha:cL cs)(h:(cZ la loc cs).2=0):
  ∃n:Nat,loc=n/\n<=16/\rN la n cs/\∃o pt,cR cs= .ok (o,pt)/\(aD cs).1=o:=by
 obtain⟨hp,hlen⟩:=mS h
 unfold cZ at h
 split at h
 rotate_left
 ·rename_i h0
  exact absurd h h0
 rename_i hf
 try rw[if_pos hp] at h
 unfold bh at hf
 split at hf
 rotate_left
 ·rename_i h0
  exact absurd hf h0
 split at hf
 ·exact absurd hf (by decide)
 rename_i hl
 rw[if_neg (by omega)] at hf
 have hi:=mP hf
 have hb:=rB h
 have hr:∃o pt,cR cs= .ok (o,pt)/\(aD cs).1=o:=by
  unfold aD at hp ⊢
  rw[if_neg (by omega)] at hp ⊢
  cases hrd:cR cs with
  |error x=>rw[hrd] at hp;exact absurd (show(15:Int)=0 from hp) (by decide)
  |ok q=>exact⟨q.1,q.2,rfl,rfl⟩
 refine⟨loc.toNat,by omega,by omega,⟨hlen,λp h=>?_,λp h h34=>?_,λp h h12=>?_,ha.k⟩,hr⟩
 ·have hm:=hi _ (eN (d:=(0,0)) h)
  unfold dQ at hm
  split at hm
  ·exact absurd hm (by decide)
  ·show 0<=(cs.getD p (0,0)).1/\(cs.getD p (0,0)).1<=35
   omega
 ·have hm:=hb _ (eN (d:=(0,0)) h)
  unfold jn at hm
  have h34':(cs.getD p (0,0)).1=3\/(cs.getD p (0,0)).1=4:=h34
  omega
 ·have hm:=hb _ (eN (d:=(0,0)) h)
  unfold jn at hm
  have h12':(cs.getD p (0,0)).1=1\/(cs.getD p (0,0)).1=2:=h12
  omega
def zq(b:Nat):Bool:=decide (b<3)
theorem zp{ρ:List Nat}(h0:ρ.reverse[0]? =some 0)(h1:ρ.reverse[1]? =some 1)(h2:ρ.reverse[2]? =some 2):∀b,zq b=true->ρ.reverse[b]? =some b:=λb hb=>by
 have:=of_decide_eq_true hb
 have h:b=0\/b=1\/b=2:=by omega
 rcases h with rfl|rfl|rfl
 ·exact h0
 ·exact h1
 ·exact h2
theorem qg(la:List (Bool×Int))(cs:List (Int×Int))(n:Nat)(hn:n<=16)(hK:rN la n cs)(o:Fo)(pt:List Int)(hr:cR cs= .ok (o,pt)):
  PC Tryz.prog zq 30 [.p 0 0,.p 2 0] (ag [aa 0 38 [.n .i64 0,.n .i64 0,.n .i64 0,.sl0],aa 0 38 [.n .i64 0,.n .i64 0,.n .i64 0,.sl0],aa 0 25 [.fs 2 la.length (pA la),.n .i64 n,.fs 2 cs.length (pI cs)]])
   (λv H'=>∃(S:WS) (b:Bd),gV cs la n o=some (.ok (S,b))/\v= .tup []/\H'=ag [ai 48 3 (bt S.lp cs.length).length 0 (nk (bt S.lp cs.length)),aa 0 38 [.n .i64 b.1,.n .i64 b.2,.n .i64 S.ht,.os 3 (bt S.lp cs.length).length],aa 0 38 [.n .i64 0,.n .i64 0,.n .i64 0,.sl0],aa 0 25 [.fs 2 la.length (pA la),.n .i64 n,.fs 2 cs.length (pI cs)]])
   (λc _=>∃e:Er,gV cs la n o=some (.error e)/\c=ek e.1 e.2):=by
 have hcs:=hK.len
 obtain⟨hg,hpt⟩:=iI hr
 have hW0:WF n (S0 n):=⟨⟨List.length_replicate,λx hx=>by rw[(List.mem_replicate.1 hx).2];exact nU⟩,λv hv=>(by cases hv),λl hl=>(by cases hl)⟩
 obtain⟨R,hR⟩:=bT hK.arg o 0 cs.length 0 0 (S0 n) (0,0) hg hW0 jq
 refine PC.vw (cS xc ⟨by simp,by decide⟩ ?_)
 simp only[aF]
 repeat first|with_reducible refine GE.g ?_|simp only[go_sem,simprocAttr]
 refine Pc ([aK la n cs]) (jt la n cs) ?_
 simp only[wT]
 repeat first|with_reducible refine GE.g ?_|simp only[go_sem,simprocAttr]
 cases ha:i4 cs la n o with
 |none=>
  exfalso
  unfold i4 at ha
  rw[hR] at ha
  cases R with
  |error e=>cases ha
  |ok q=>obtain⟨S,b⟩:=q;dsimp only at ha;split at ha<;>cases ha
 |some q=>
  cases q with
  |error e=>exact aH [] (fargs:=[aK la n cs,wT la n cs]) (cF.same rfl) (kX la cs n hn hK o pt hr ha) ⟨e,by unfold gV;rw[ha],rfl⟩
  |ok q=>
   obtain⟨S,b⟩:=q
   refine dR ([aK la n cs,wT la n cs]) (kY la cs n hn hK o pt hr ha) ?_
   simp only[so]
   by_cases h:b.1<=281474976710656
   ·repeat first|with_reducible refine GE.g ?_|simp only[h,decide_true,go_sem,simprocAttr]
    refine dR ([.b true,.n .i64 0,.n .i64 18]) (cw 0 18) ?_
    repeat first|with_reducible refine GE.g ?_|simp only[go_sem,simprocAttr]
    exact gU [3,2,1,0] [] (.tup []) [ai 48 3 (bt S.lp cs.length).length 0 (nk (bt S.lp cs.length)),aa 0 38 [.n .i64 b.1,.n .i64 b.2,.n .i64 S.ht,.os 3 (bt S.lp cs.length).length],aa 0 38 [.n .i64 0,.n .i64 0,.n .i64 0,.sl0],aa 0 25 [.fs 2 la.length (pA la),.n .i64 n,.fs 2 cs.length (pI cs)]] (.cr (.k2 (λi j _ _=>mj _ i j)) (.cr (.j4) (.cr (.j4) (.cr (.j3) .nil)))) (.cv (.rfl rfl)) (by simp) (zp rfl rfl rfl) ⟨S,b,by unfold gV;rw[ha];exact if_pos h,rfl,rfl⟩
   ·repeat first|with_reducible refine GE.g ?_|simp only[h,decide_false,go_sem,simprocAttr]
    exact aH [] (fargs:=[.b false,.n .i64 0,.n .i64 18]) (cF.same rfl) (cW 0 18) ⟨(0,18),by unfold gV;rw[ha];exact if_neg h,rfl⟩
theorem Full.two{x y:AB}(hx:x.live=true)(hy:y.live=true):Full (ag [x,y]):=λb hb=>by
 rw[aU] at hb
 have h2:b=0\/b=1:=by have:b<2:=hb;omega
 rw[cP,dS (by rw[aU];simp),cP,dS (by rw[aU];simp),ic,aU]
 rcases h2 with rfl|rfl
 ·exact⟨y,by simp[hy]⟩
 ·exact⟨x,by simp[hx]⟩
theorem nG{la:List (Bool×Int)}{cs:List (Int×Int)}{n:Nat}(hn:n<=16)(hK:rN la n cs){o:Fo}{pt:List Int}(hr:cR cs= .ok (o,pt)):gV cs la n o≠none:=by
 obtain⟨hg,hpt⟩:=iI hr
 have hW0:WF n (S0 n):=⟨⟨List.length_replicate,λx hx=>by rw[(List.mem_replicate.1 hx).2];exact nU⟩,λv hv=>(by cases hv),λl hl=>(by cases hl)⟩
 obtain⟨R,hR⟩:=bT hK.arg o 0 cs.length 0 0 (S0 n) (0,0) hg hW0 jq
 unfold gV
 cases ha:i4 cs la n o with
 |none=>
  exfalso
  unfold i4 at ha
  rw[hR] at ha
  cases R with
  |error e=>cases ha
  |ok q=>obtain⟨S,b⟩:=q;dsimp only at ha;split at ha<;>cases ha
 |some q=>
  cases q with
  |error e=>simp
  |ok q=>dsimp only;split<;>simp
theorem rx{x y z:AB}(hx:x.live=true)(hy:y.live=true)(hz:z.live=true){b:Nat}(hb:b<3):(ag [x,y,z]).at b=some (if b=2 then x else if b=1 then y else z):=by
 have h2:b=0\/b=1\/b=2:=by omega
 rw[cP,dS (by rw[aU];simp),cP,dS (by rw[aU];simp),cP,dS (by rw[aU];simp),aU,ic,ic,aU]
 rcases h2 with rfl|rfl|rfl<;>simp[hx,hy,hz]
def ey(la:List (Bool×Int))(n:Nat)(cs:List (Int×Int)):Option (Except Er (WS×Bd)):=
 if(cZ la n cs).2=0 then gV cs la n (aD cs).1 else some (.error ((cZ la n cs).1,(cZ la n cs).2))
theorem nF(la:List (Bool×Int))(n:Nat)(cs:List (Int×Int))(hl:la.length<=9223372036854775807)(hc:cs.length<=9223372036854775807)(ha:cL cs):
  PC Tryz.prog (λ_=>false) 12 [aK la n cs] (ag [])
   (λv H'=>(∃(S:WS) (b:Bd),ey la n cs=some (.ok (S,b))/\∃k,v= .tup [.agg [.n .i64 b.1,.n .i64 b.2,.n .i64 S.ht,.os k (bt S.lp cs.length).length],.n .i64 0,.n .i64 0]/\H'.at k=some (ai 48 3 (bt S.lp cs.length).length 0 (nk (bt S.lp cs.length))))\/
    (∃e:Er,ey la n cs=some (.error e)/\v= .tup [.agg [.n .i64 0,.n .i64 0,.n .i64 0,.sl0],.n .i64 e.1,.n .i64 e.2]))
   (λ_ _=>False):=by
 refine cS JP ⟨by simp,by decide⟩ ?_
 simp only[aF,aK]
 repeat first|with_reducible refine GE.g ?_|simp only[go_sem,simprocAttr]
 refine dR ([aK la n cs]) (i9 la n cs hl hc ha) ?_
 by_cases h0:(cZ la n cs).2=0
 ·obtain⟨m,hm,hn,hK,o,pt,hr,hpo⟩:=pM ha h0
  obtain rfl:n=m:=by omega
  repeat first|with_reducible refine GE.g ?_|simp only[h0,ne_eq,not_true_eq_false,decide_true,decide_false,Bool.not_true,go_sem,simprocAttr]
  cases hv:gV cs la n o with
  |none=>exact absurd hv (nG hn hK hr)
  |some R=>
   cases R with
   |ok q=>
    obtain⟨S,b⟩:=q
    have hb:ey la n cs=some (.ok (S,b)):=by unfold ey;rw[if_pos h0,hpo];exact hv
    refine Ag (kk':=zq) [2,1,0] [] [(2,.p 1 0),(7,.p 2 0)] [.f 30 [] [.p 0 0,.p 2 0]] [aa 0 38 [.n .i64 0,.n .i64 0,.n .i64 0,.sl0],aa 0 38 [.n .i64 0,.n .i64 0,.n .i64 0,.sl0],aa 0 25 [.fs 2 la.length (pA la),.n .i64 n,.fs 2 cs.length (pI cs)]] (sL ?full ((qg la cs n hn hK o pt hr).mono (λv H q=>q) (λc H q=>?q2))) ?_ ?_ ?_ (by simp) (by rfl) ?hsz (λ_=>rfl) ?_ (λ_ _ h=>h.elim)
    case full=>exact λb hb=>⟨_,rx rfl rfl rfl hb⟩
    case q2=>obtain⟨e',h,_⟩:=q;rw[hv] at h;cases h
    case hsz=>exact λb hb=>⟨_,rx rfl rfl rfl (of_decide_eq_true hb),by split<;>(try split)<;>(show 0<(_:Nat);simp[aa])⟩
    ·exact aZ
    ·exact .cr (.j4) (.cr (.j4) (.cr (.j3) .nil))
    ·exact⟨Wv.f rfl rfl (λi v v' h1 h2=>by cases h1) (λi v v' h1 h2=>by rcases i with _|_|i<;>cases h1<;>cases h2<;>exact Wv.p rfl),trivial⟩
    ·rintro v H' ⟨rfl,v',S',b',h,rfl,rfl⟩
     rw[hv] at h
     cases h
     repeat first|with_reducible refine GE.g ?_|simp only[ne_eq,not_true_eq_false,decide_false,Bool.not_true,go_sem,simprocAttr]
     exact .inl ⟨S,b,hb,3,rfl,by simp only[go_sem,simprocAttr]<;>rfl⟩
   |error e=>
    have hb:ey la n cs=some (.error e):=by unfold ey;rw[if_pos h0,hpo];exact hv
    refine ef (ob:=λ_=>none) (λ_=>false) [1,2,0] [] [(2,.p 2 0)] [.f 30 [] [.p 0 0,.p 1 0]] [aa 0 38 [.n .i64 0,.n .i64 0,.n .i64 0,.sl0]] [aa 0 38 [.n .i64 0,.n .i64 0,.n .i64 0,.sl0],aa 0 25 [.fs 2 la.length (pA la),.n .i64 n,.fs 2 cs.length (pI cs)]] (qW (a:=e.1) (n:=e.2) 3 3 1 1 (λ_ _=> .n .i64 0) (λ_ _=> .n .i64 0) ?full ((sd la cs n hn hK o pt hr).mono (λv H q=>?q1) (λc H q=>?q2))).o ?_ ?_ ?_ ?_ ?_ ?_ ?_ ?_ ?_ ?_ ?_ ?_ ?_ ?_
    case full=>exact Full.two rfl rfl
    case q1=>obtain⟨S,b,h,_⟩:=q;rw[hv] at h;cases h
    case q2=>obtain⟨e',h,rfl⟩:=q;rw[hv] at h;cases h;rfl
    ·exact aZ
    ·exact .cr (.j4) (.cr (.j4) (.cr (.j3) .nil))
    ·exact⟨Wv.f rfl rfl (λi v v' h1 h2=>by cases h1) (λi v v' h1 h2=>by rcases i with _|_|i<;>cases h1<;>cases h2<;>exact Wv.p rfl),trivial⟩
    ·exact λr x hx=>by cases hx
    ·simp
    ·rfl
    ·exact λb hb=>by cases hb
    ·exact λb x hb _=>by cases hb
    ·rfl
    ·rfl
    ·exact .cons .lq (.cons .lq .nil)
    ·exact .cons .lq .nil
    ·have he:e.2≠0:=tB hv
     rintro v H' ⟨rfl,rfl⟩
     refine⟨λ_=>none,λ_=>none,[ai 3 1 0 0 (λ_ _=> .n .i64 0),ai 3 1 0 0 (λ_ _=> .n .i64 0)],[aa 0 38 [.n .i64 0,.n .i64 0,.n .i64 0,.sl0]],[2],[],_,[(2,.p 0 0)],(av _).symm,rfl,?_,?_,Wv.same rfl,by simp,(λr x hx=>by cases hx),(λb hb=>by cases hb),?_⟩
     ·exact aZ
     ·simp only[List.cons_append,List.nil_append,av]
      exact .cr (.j4) .nil
     rw[av]
     repeat first|with_reducible refine GE.g ?_|simp only[he,ne_eq,not_true_eq_false,not_false_eq_true,decide_true,decide_false,Bool.not_true,Bool.not_false,go_sem,simprocAttr]
     exact .inr ⟨e,hb,rfl⟩
    ·exact λc H' h=>h.elim
 ·repeat first|with_reducible refine GE.g ?_|simp only[h0,ne_eq,not_true_eq_false,not_false_eq_true,decide_true,decide_false,Bool.not_true,Bool.not_false,go_sem,simprocAttr]
  exact(.inr ⟨((cZ la n cs).1,(cZ la n cs).2),by unfold ey;exact if_neg h0,rfl⟩)
/-! ### partners are no loops-/
def PI(cs:List (Int×Int))(l:List Int):Prop:=∀q,am cs q≠31->l.getD q 0<=0\/am cs (l.getD q 0).toNat=28\/am cs (l.getD q 0).toNat=31
theorem MS(l:List Int)(q i:Nat)(v:Int):(i=q/\(l.set q v).getD i 0=v)\/(l.set q v).getD i 0=l.getD i 0:=by
 by_cases e:i=q
 ·subst e
  by_cases h:i<l.length
  ·exact .inl ⟨rfl,ga h⟩
  ·right
   rw[List.set_eq_of_length_le (by omega)]
 ·exact .inr (bp e)
theorem PI.set{cs:List (Int×Int)}{l:List Int}(h:PI cs l){q:Nat}{v:Int}(hv:am cs q=31\/v<=0\/am cs v.toNat=28\/am cs v.toNat=31):PI cs (l.set q v):=λi hi=>by
 rcases MS l q i v with⟨rfl,h1⟩|h1
 ·rw[h1]
  rcases hv with hv|hv
  ·exact absurd hv hi
  ·exact hv
 ·rw[h1];exact h i hi
theorem x9{cs:List (Int×Int)}{i:Nat}{s s':RS}(h:cg cs i s=some s')(hI:PI cs s.out):PI cs s'.out:=by
 have k1:PI cs (s.out.set i (-1)):=hI.set (.inr (.inl (by decide)))
 unfold cg at h
 split at h
 ·split at h<;>cases h
  exact k1
 split at h
 ·rename_i h28
  split at h
  ·split at h<;>cases h
   exact k1.set (.inr (.inr (.inl (by rw[Int.toNat_natCast];exact h28))))
  ·cases h
 split at h
 ·split at h<;>cases h
  exact k1
 split at h
 ·rename_i h31
  split at h
  ·cases h
   rename_i b _ c _ _ _
   have k2:=k1.set (q:=i) (v:=(b:Nat)) (.inl h31)
   dsimp only
   split
   ·exact k2.set (.inr (.inr (.inr (by rw[Int.toNat_natCast];exact h31))))
   ·exact k2.set (.inr (.inr (.inr (by rw[Int.toNat_natCast];exact h31))))
  ·cases h
 ·cases h
  exact k1
theorem qs{cs:List (Int×Int)}:∀(n i:Nat) {s s':RS},bJ cs n i s= .ok s'->PI cs s.out->PI cs s'.out
 |0,i,s,s',h,hI=>by cases h;exact hI
 |n+1,i,s,s',h,hI=>by
  rw[bJ] at h
  split at h
  ·cases h
  ·rename_i s1 h1
   exact qs n (i+1) h (x9 h1 hI)
theorem BH{cs:List (Int×Int)}{out:List Int}(h:gX cs= .ok out):PI cs out:=by
 unfold gX at h
 split at h
 ·cases h
 ·rename_i s hs
  split at h<;>cases h
  refine qs _ _ hs λq _=> .inl ?_
  show(List.replicate cs.length (0:Int)).getD q 0<=0
  rw[List.getD_eq_getElem?_getD,List.getElem?_replicate]
  split<;>exact Int.le_refl _
/-! ### what is noted of the loops-/
def jr(cs:List (Int×Int))(a b:Nat)(lp lp':List (Int×Int)):Prop:=
 (∀q:Nat,(q<a\/b<=q\/am cs q≠29)->dD lp' q=dD lp q)/\∀q:Nat,a<=q->q<b->am cs q=29->∃m,dD lp' q=some m/\0<=m/\m<=65536
theorem jr.no{cs:List (Int×Int)}{a b:Nat}{l:List (Int×Int)}(h:∀q,a<=q->q<b->am cs q≠29):jr cs a b l l:=⟨λ_ _=>rfl,λq h1 h2 h3=>absurd h3 (h q h1 h2)⟩
theorem jr.one{cs:List (Int×Int)}{a:Nat}{l:List (Int×Int)}(h:am cs a≠29):jr cs a (a+1) l l:= .no λq h1 h2=>by rwa [show q=a by omega]
theorem jr.trans{cs:List (Int×Int)}{a b c:Nat}{l1 l2 l3:List (Int×Int)}(h:jr cs a c l1 l2)(h':jr cs c b l2 l3)(h1:a<=c)(h2:c<=b):jr cs a b l1 l3:=
 ⟨λq hq=>(h'.1 q (by omega)).trans (h.1 q (by omega)),λq hq1 hq2 h29=>by
  by_cases e:q<c
  ·obtain⟨m,k1,k2⟩:=h.2 q hq1 e h29
   exact⟨m,(h'.1 q (.inl e)).trans k1,k2⟩
  ·exact h'.2 q (by omega) hq2 h29⟩
def AG(li:List eV)(cs:List (Int×Int))(a b:Nat)(lp:List (Int×Int)):Prop:=∀(q:Nat) (m:Int),a<=q->q<b->am cs q=29->dD lp q=some m->bi li q=m
theorem AG.back{li:List eV}{cs:List (Int×Int)}{a0 b a c c':Nat}{l2 l3:List (Int×Int)}(h:AG li cs a0 b l3)(k:jr cs c' b l2 l3)(h1:a0<=a)(h2:c<=c')(h3:c'<=b):AG li cs a c l2:=
 λq m q1 q2 q3 q4=>h q m (by omega) (by omega) q3 ((k.1 q (.inl (by omega))).trans q4)
theorem mJ(cs:List (Int×Int))(a:Nat):∀n,cA cs a (n+1)=(if am cs a=34 then 1 else 0)+cA cs (a+1) n
 |0=>by simp[cA]
 |n+1=>by
  rw[cA,mJ cs a n,cA,show a+1+n=a+(n+1) by omega]
  omega
theorem OY{la:List (Bool×Int)}{op arg p:Int}{l:List Vl}{S S':WS}{b:Bd}(h:b8 la op arg p l S= .ok (S',b)):b=(1,if op=34 then 1 else 0):=by
 have w:∀{x:Except Er WS} {b0:Bd},cq b0 x= .ok (S',b)->b=b0:=λ{x b0} h=>by
  cases x with
  |error e=>cases h
  |ok S=>cases h;rfl
 unfold b8 at h
 by_cases c:op=34
 ·subst c
  rw[if_neg (by decide),if_neg (by decide),if_neg (by decide),if_neg (by decide),if_neg (by decide),if_neg (by decide),if_neg (by decide),if_neg (by decide),if_pos rfl] at h
  cases h;rfl
 rw[if_neg c]
 by_cases c0:op=0
 ·rw[if_pos c0] at h;exact w h
 rw[if_neg c0] at h
 by_cases c1:op=1
 ·rw[if_pos c1] at h;exact w h
 rw[if_neg c1] at h
 by_cases c2:op=2
 ·rw[if_pos c2] at h;cases h;rfl
 rw[if_neg c2] at h
 by_cases c3:op=3
 ·rw[if_pos c3] at h
  split at h
  ·cases h
  ·exact w h
 rw[if_neg c3] at h
 by_cases c4:op=4
 ·rw[if_pos c4] at h
  split at h<;>cases h
  rfl
 rw[if_neg c4] at h
 by_cases c5:op=5
 ·rw[if_pos c5] at h;exact w h
 rw[if_neg c5] at h
 by_cases c7:op=7
 ·rw[if_pos c7] at h;exact w h
 rw[if_neg c7] at h
 by_cases c6:op=6\/op=35
 ·rw[if_pos c6] at h;cases h;rfl
 rw[if_neg c6,if_neg c] at h
 by_cases c32:op=32
 ·rw[if_pos c32] at h;exact w h
 rw[if_neg c32] at h
 by_cases c26:op=26
 ·rw[if_pos c26] at h;exact w h
 rw[if_neg c26] at h
 by_cases ct:(eY op).2=[116]
 ·rw[if_pos ct] at h;exact w h
 rw[if_neg ct] at h
 by_cases ca:(bg op (l.getD 0 v0).2 (l.getD 1 v0).2).2=0
 ·rw[if_pos ca] at h;exact w h
 ·rw[if_neg ca] at h;cases h
theorem BD{cs:List (Int×Int)}{la:List (Bool×Int)}{n base loop p:Nat}{S S':WS}{b:Bd}(h:fv cs la base loop p S= .ok (S',b))(ha:kD cs)(hS:WF n S):S'.lp=S.lp/\b=(1,if am cs p=34 then 1 else 0):=by
 unfold fv at h
 split at h
 ·rename_i h30
  split at h
  ·cases h
  ·rename_i l S1 hp
   obtain⟨k1,k2,k3,k4,k5⟩:=cd hp hS
   split at h<;>cases h
   exact⟨k5,by rw[if_neg (by omega)]⟩
 ·unfold dL at h
  split at h
  ·cases h
  ·rename_i l S1 hp
   obtain⟨k1,k2,k3,k4,k5⟩:=cd hp hS
   obtain⟨m1,m2,m3,m4,m5⟩:=kC h (ha p) k2 k1
   exact⟨m4.trans k5,OY h⟩
theorem qr{cs:List (Int×Int)}{la:List (Bool×Int)}{n base loop:Nat}(ha:kD cs):∀(k p:Nat) {S S':WS} {b b':Bd},g8 cs la base loop k p S b= .ok (S',b')->WF n S->i5 b->
  S'.lp=S.lp/\b'.1=bj (b.1+k)/\b'.2=bj (b.2+(cA cs p k:Nat))
 |0,p,S,S',b,b',h,hS,hb=>by
  cases h
  exact⟨rfl,by rw[pF (by have:=hb.1;omega)];simp,by rw[pF (by have:=hb.2;show _+((0:Nat):Int)<=_;omega)];show _=_+((0:Nat):Int);omega⟩
 |k+1,p,S,S',b,b',h,hS,hb=>by
  rw[g8] at h
  split at h
  ·cases h
  ·rename_i S1 x h1
   obtain⟨k1,k2⟩:=iG h1 ha hS
   obtain⟨e1,rfl⟩:=BD h1 ha hS
   obtain⟨m1,m2,m3⟩:=qr ha k (p+1) h k1.wf (a7 hb.nn k2.nn)
   have hb1:=hb.1
   have hb2:=hb.2
   refine⟨m1.trans e1,?_,?_⟩
   ·rw[m2]
    show bj (bj (b.1+1)+k)=_
    rw[Int.add_comm,cz (by omega)]
    congr 1
    omega
   ·rw[m3,mJ]
    show bj (bj (b.2+if am cs p=34 then 1 else 0)+_)=_
    rw[Int.add_comm,cz (by omega)]
    congr 1
    split<;>omega
def A4(cs:List (Int×Int))(n a b:Nat)(u:Fo)(body:WS->Option (Except Er (WS×Bd))):Prop:=∀S S' bd,body S=some (.ok (S',bd))->WF n S->
 jr cs a b S.lp S'.lp/\∀li,AG li cs a b S'.lp->bd.1=aP li u 0/\bd.2=a9 cs li u 0
theorem jr.join{cs:List (Int×Int)}{a b:Nat}{l1 l2 l3:List (Int×Int)}(h:jr cs a b l1 l2)(h':jr cs a b l2 l3):jr cs a b l1 l3:=⟨λq hq=>(h'.1 q hq).trans (h.1 q hq),h'.2⟩
theorem tL{cs:List (Int×Int)}{n a b x0 to h:Nat}{u:Fo}{body:WS->Option (Except Er (WS×Bd))}(hB:iA cs n a b body)(hL:A4 cs n a b u body):∀(f:Nat) (pass:Int) (head:List Iv) {S S':WS} {hd:List Iv} {bd:Bd},gF body to h (stoF cs x0 (to-x0)) f pass head S=some (.ok (hd,S',bd))->WF n S->rV n head->
  jr cs a b S.lp S'.lp/\∀li,AG li cs a b S'.lp->bd.1=aP li u 0/\bd.2=a9 cs li u 0
 |0,pass,head,S,S',hd,bd,hr,_,_=>by cases hr
 |f+1,pass,head,S,S',hd,bd,hr,hS,hh=>by
  rw[gF] at hr
  split at hr
  ·cases hr
  ·cases hr
  ·rename_i S1 b1 hb1
   have hS0:WF n {S with loc:=head,lv:=[]}:=⟨hh,hS.st,λl hl=>by cases hl⟩
   obtain⟨k1,k2⟩:=hB _ _ _ hb1 hS0
   have k3:=hL _ _ _ hb1 hS0
   split at hr
   ·split at hr
    ·cases hr
     exact k3
    ·obtain⟨m1,m2⟩:=tL hB hL f (pass+1) _ hr k1.wf (gw hh _ _ _ _)
     exact⟨jr.join k3.1 m1,m2⟩
   ·cases hr
theorem eh{cs:List (Int×Int)}{la:List (Bool×Int)}{out:List Int}{n:Nat}(hPI:PI cs out)(ha:kD cs):∀(o:Fo) (a b base loop:Nat) {S S':WS} {bd bd':Bd},aM cs out o a b->aR cs la o base loop S bd=some (.ok (S',bd'))->WF n S->i5 bd->
  jr cs a b S.lp S'.lp/\∀li,AG li cs a b S'.lp->bd'.1=aP li o bd.1/\bd'.2=a9 cs li o bd.2
 |.nil,a,b,base,loop,S,S',bd,bd',hg,h,hS,hb=>by
  cases h
  have:a=b:=hg
  exact⟨.no λq h1 h2=>by omega,λli _=>⟨rfl,rfl⟩⟩
 |.pl x y r,a,b,base,loop,S,S',bd,bd',hg,h,hS,hb=>by
  obtain⟨rfl,h1,hno,_,h4⟩:=hg
  rw[aR] at h
  split at h
  ·cases h
  ·rename_i S1 b1 hr
   obtain⟨k1,k2⟩:=gf ha _ _ hr hS hb
   obtain⟨e1,e2,e3⟩:=qr ha _ _ hr hS hb
   obtain⟨m1,m2⟩:=eh hPI ha r y b base loop h4 h k1.wf k2
   rw[e1] at m1
   refine⟨(jr.no (λq q1 q2=>(hno q q1 q2).2.1)).trans m1 (by omega) h4.le,λli hA=>?_⟩
   obtain⟨t1,t2⟩:=m2 li (λq m q1 q2 q3 q4=>hA q m (by omega) q2 q3 q4)
   rw[t1,t2,aP,a9,e2,e3,show(((y-x:Nat):Int))=(y:Int)-x by omega]
   exact⟨rfl,rfl⟩
 |.br op x y u v r,a,b,base,loop,S,S',bd,bd',hg,h,hS,hb=>by
  obtain⟨rfl,hop,hopv,⟨m,g1,g2,g3,g4,g5⟩,h4⟩:=hg
  have hle:=h4.le
  have hul:=g4.le
  have hmy:m<y:=by rcases g5 with⟨_,e,_,q2,_,_,q5⟩|⟨_,_,q2⟩<;>omega
  have hm29:am cs m≠29:=by
   have:=hPI x (by omega)
   rw[g1,Int.toNat_natCast] at this
   omega
  rw[aR,g4.lastB] at h
  split at h
  ·rename_i h27
   have hx29:am cs x≠29:=by omega
   split at h
   ·cases h
   ·rename_i l S1 hp
    obtain⟨k1,k2,k3,k4,k5⟩:=cd hp hS
    split at h
    ·cases h
    ·cases h
    ·rename_i S2 bx hu
     obtain⟨m1,m2⟩:=aO ha u (x+1) m _ loop g4 hu k1 jq
     obtain⟨c1,c2⟩:=eh hPI ha u (x+1) m _ loop g4 hu k1 jq
     rw[k5] at c1
     split at h
     rotate_left
     ·cases h
     split at h
     ·rename_i h28
      rcases g5 with⟨_,e,q1,q2,q3,q4,q5⟩|⟨q0,_,_⟩
      rotate_left
      ·exact absurd h28 q0
      have he29:am cs e≠29:=by
       have:=hPI m (by omega)
       rw[q1,Int.toNat_natCast] at this
       omega
      subst q5
      have hvl:=q4.le
      split at h
      ·cases h
      ·cases h
      ·rename_i S4 by_ hv
       have hS3:WF n {S2 with loc:=S1.loc}:=⟨k1.loc,m1.wf.st,m1.wf.lv⟩
       obtain⟨n1,n2⟩:=aO ha v (m+1) e _ loop q4 hv hS3 jq
       obtain⟨d1,d2⟩:=eh hPI ha v (m+1) e _ loop q4 hv hS3 jq
       split at h
       rotate_left
       ·cases h
       have hS5:WF n {S4 with loc:=bK S2.loc S4.loc}:=⟨dP m1.wf.loc.1 _,n1.wf.st,n1.wf.lv⟩
       have hbd:i5 (bw bd (bw (aQ bx.1 by_.1,aQ bx.2 by_.2) (1,0))):=a7 hb.nn (a7 (by have:=m2.nn;have:=n2.nn;unfold aQ;dsimp only;constructor<;>split<;>omega) ka.nn).nn
       obtain⟨t1,t2⟩:=eh hPI ha r (e+1) b base loop h4 h hS5 hbd
       have w1:jr cs e b S4.lp S'.lp:=(jr.one he29).trans t1 (by omega) hle
       have w2:jr cs (m+1) b S2.lp S'.lp:=jr.trans d1 w1 hvl (by omega)
       have w3:jr cs m b S2.lp S'.lp:=(jr.one hm29).trans w2 (by omega) (by omega)
       refine⟨(jr.one hx29).trans (c1.trans w3 hul (by omega)) (by omega) (by omega),λli hA=>?_⟩
       obtain⟨a1,a2⟩:=c2 li (hA.back w3 (by omega) (Nat.le_refl _) (by omega))
       obtain⟨a3,a4⟩:=d2 li (hA.back w1 (by omega) (Nat.le_refl _) (by omega))
       obtain⟨a5,a6⟩:=t2 li (λq z z1 z2 z3 z4=>hA q z (by omega) z2 z3 z4)
       rw[a5,a6,aP,a9,if_pos h27,if_pos h27,<-a1,<-a2,<-a3,<-a4]
       refine⟨congrArg (aP li r) ?_,congrArg (a9 cs li r) ?_⟩
       ·show bj (bd.1+bj (aQ bx.1 by_.1+1))=_
        rw[cz hb.nn.1,show bd.1+(aQ bx.1 by_.1+1)=bd.1+1+aQ bx.1 by_.1 by omega];rfl
       ·show bj (bd.2+bj (aQ bx.2 by_.2+0))=_
        rw[cz hb.nn.2,Int.add_zero];rfl
     ·rename_i h28
      rcases g5 with⟨q0,_⟩|⟨q0,q1,q2⟩
      ·exact absurd q0 h28
      subst q1 q2
      have hS5:WF n {S2 with loc:=bK S2.loc S1.loc}:=⟨dP m1.wf.loc.1 _,m1.wf.st,m1.wf.lv⟩
      have hbd:i5 (bw bd (bw (aQ bx.1 0,aQ bx.2 0) (1,0))):=a7 hb.nn (a7 (by have:=m2.nn;unfold aQ;dsimp only;constructor<;>split<;>omega) ka.nn).nn
      obtain⟨t1,t2⟩:=eh hPI ha r (m+1) b base loop h4 h hS5 hbd
      have w3:jr cs m b S2.lp S'.lp:=(jr.one hm29).trans t1 (by omega) (by omega)
      refine⟨(jr.one hx29).trans (c1.trans w3 hul (by omega)) (by omega) (by omega),λli hA=>?_⟩
      obtain⟨a1,a2⟩:=c2 li (hA.back w3 (by omega) (Nat.le_refl _) (by omega))
      obtain⟨a5,a6⟩:=t2 li (λq z z1 z2 z3 z4=>hA q z (by omega) z2 z3 z4)
      rw[a5,a6,aP,a9,if_pos h27,if_pos h27,<-a1,<-a2]
      refine⟨congrArg (aP li r) ?_,congrArg (a9 cs li r) ?_⟩
      ·show bj (bd.1+bj (aQ bx.1 0+1))=_
       rw[cz hb.nn.1,show bd.1+(aQ bx.1 0+1)=bd.1+1+aQ bx.1 0 by omega];rfl
      ·show bj (bd.2+bj (aQ bx.2 0+0))=_
       rw[cz hb.nn.2,Int.add_zero];rfl
  ·rename_i h27
   have h29:op=29:=by rcases hopv with h0|h0;exact absurd h0 h27;exact h0
   split at h
   ·cases h
   ·rename_i l S1 hp
    obtain⟨k1,k2,k3,k4,k5⟩:=cd hp hS
    have hmo:=dy k2 0
    split at h
    rotate_left
    ·cases h
    rename_i hmx
    split at h
    ·cases h
    ·cases h
    ·rename_i head S2 bx hr
     have hB:iA cs n (x+1) m (λS'=>aR cs la u S1.st.length S1.st.length S' (0,0)):=λS3 S4 b4 h3 h5=>aO ha u (x+1) m _ _ g4 h3 h5 jq
     have hL:A4 cs n (x+1) m u (λS'=>aR cs la u S1.st.length S1.st.length S' (0,0)):=λS3 S4 b4 h3 h5=>eh hPI ha u (x+1) m _ _ g4 h3 h5 jq
     obtain⟨m1,m2,m3,m4,m5⟩:=fH hB (by omega) hul (Nat.le_refl _) 6 1 S1.loc hr k1 k1.loc
     obtain⟨c1,c2⟩:=tL hB hL 6 1 S1.loc hr k1 k1.loc
     rw[k5] at c1
     have hS5:WF n {S2 with loc:=S2.lv.foldl bK head,lv:=S1.lv,lp:=fL S2.lp x (l.getD 0 v0).2.2}:=⟨ip _ _ m2,m1.st,k1.lv⟩
     have hbd:i5 (bw bd (bw (fu bx (l.getD 0 v0).2.2) (1,0))):=a7 hb.nn (a7 (iE m3 (by omega)).nn ka.nn).nn
     obtain⟨t1,t2⟩:=eh hPI ha r y b base loop h4 h hS5 hbd
     have hy:y=m+1:=by
      rcases g5 with⟨q0,_⟩|⟨_,_,q2⟩
      ·have:=g2.2 h29;omega
      ·exact q2
     subst hy
     have w0:jr cs x (m+1) S.lp (fL S2.lp x (l.getD 0 v0).2.2):=⟨λq hq=>by
       rw[dM]
       by_cases e:q=x
       ·rw[e] at hq
        omega
       ·rw[if_neg (by omega)]
        exact c1.1 q (by omega),λq q1 q2 q3=>by
       rw[dM]
       by_cases e:q=x
       ·rw[if_pos (by omega)]
        exact⟨_,rfl,by omega,hmx⟩
       ·rw[if_neg (by omega)]
        have:q≠m:=λe=>hm29 (e ▸ q3)
        exact c1.2 q (by omega) (by omega) q3⟩
     have w3:jr cs (m+1) b (fL S2.lp x (l.getD 0 v0).2.2) S'.lp:=t1
     refine⟨w0.trans w3 (by omega) hle,λli hA=>?_⟩
     have hmost:bi li x=(l.getD 0 v0).2.2:=hA x _ (Nat.le_refl _) (by omega) (hop.trans h29) ((w3.1 x (.inl (by omega))).trans (by rw[dM,if_pos rfl]))
     have hAu:AG li cs (x+1) m S2.lp:=λq z z1 z2 z3 z4=>hA q z (by omega) (by omega) z3 ((w3.1 q (.inl (by omega))).trans (by rw[dM,if_neg (by omega)];exact z4))
     obtain⟨a1,a2⟩:=c2 li hAu
     obtain⟨a5,a6⟩:=t2 li (λq z z1 z2 z3 z4=>hA q z (by omega) z2 z3 z4)
     rw[a5,a6,aP,a9,if_neg h27,if_neg h27,<-a1,<-a2,hmost]
     refine⟨congrArg (aP li r) ?_,congrArg (a9 cs li r) ?_⟩
     ·show bj (bd.1+bj (bb (bj (bx.1+1)) _+1))=_
      rw[cz hb.nn.1]
      congr 1
      omega
     ·show bj (bd.2+bj (bb bx.2 _+0))=_
      rw[cz hb.nn.2,Int.add_zero]
theorem ja{a n:Int}(h:0<=a)(hn:0<=n):bb a n=bj (a*n):=by
 unfold bb
 split
 ·rename_i h1
  obtain⟨h1,h2⟩:=h1
  have h3:=Int.lt_ediv_add_one_mul_self 281474976710657 h1
  have h4:(281474976710657 / n+1)*n<=a*n:=Int.mul_le_mul_of_nonneg_right (by omega) hn
  unfold bj
  rw[if_pos (by omega)]
 ·rfl
theorem ch{a b:Int}(h:a<=b):bj a<=bj b:=by unfold bj;split<;>split<;>omega
theorem gW{a b n m:Int}(h0:0<=a)(h:a<=b)(hn:0<=n)(hm:n<=m):bb a n<=bb b m:=by
 rw[ja h0 hn,ja (by omega) (by omega)]
 exact ch (Int.mul_le_mul h hm hn (by omega))
theorem dX{li li':List eV}(hm:∀a,0<=bi li a/\bi li a<=bi li' a):∀(o:Fo) (n n':Int),Ba o->0<=n->n<=n'->n'<=281474976710657->aP li o n<=aP li' o n'
 |.nil,n,n',_,_,h,_=>h
 |.pl x y r,n,n',ho,h0,h,h2=>by
  have:=ho.1
  exact dX hm r _ _ ho.2.2 (aC (by omega)).1 (ch (by omega)) (aC (by omega)).2
 |.br op x y u v r,n,n',ho,h0,h,h2=>by
  have hu:=bW (λa=>(hm a).1) u 0 ho.2.1 (by omega)
  have hv:=bW (λa=>(hm a).1) v 0 ho.2.2.1 (by omega)
  have hu1:=dX hm u 0 0 ho.2.1 (by omega) (by omega) (by omega)
  have hv1:=dX hm v 0 0 ho.2.2.1 (by omega) (by omega) (by omega)
  have hm':∀a,0<=bi li' a:=λa=>Int.le_trans (hm a).1 (hm a).2
  have hu':=bW hm' u 0 ho.2.1 (by omega)
  have hv':=bW hm' v 0 ho.2.2.1 (by omega)
  rw[aP,aP]
  by_cases e:op=27
  ·rw[if_pos e,if_pos e]
   exact dX hm r _ _ ho.2.2.2 (aC (by split<;>omega)).1 (ch (by split<;>split<;>omega)) (aC (by split<;>omega)).2
  ·rw[if_neg e,if_neg e]
   have h1:=(bz (aC (n:=aP li u 0+1) (by omega)).1 (hm x).1)
   have h1':=(bz (aC (n:=aP li' u 0+1) (by omega)).1 (hm' x))
   have h3:=gW (aC (n:=aP li u 0+1) (by omega)).1 (ch (show aP li u 0+1<=aP li' u 0+1 by omega)) (hm x).1 (hm x).2
   exact dX hm r _ _ ho.2.2.2 (aC (by omega)).1 (ch (by omega)) (aC (by omega)).2
theorem ee{cs:List (Int×Int)}{li li':List eV}(hm:∀a,0<=bi li a/\bi li a<=bi li' a):∀(o:Fo) (n n':Int),0<=n->n<=n'->n'<=281474976710657->a9 cs li o n<=a9 cs li' o n'
 |.nil,n,n',_,h,_=>h
 |.pl x y r,n,n',h0,h,h2=>ee hm r _ _ (aC (by omega)).1 (ch (by omega)) (aC (by omega)).2
 |.br op x y u v r,n,n',h0,h,h2=>by
  have hu:=bX (cs:=cs) (λa=>(hm a).1) u 0 (by omega)
  have hv:=bX (cs:=cs) (λa=>(hm a).1) v 0 (by omega)
  have hu1:=ee (cs:=cs) hm u 0 0 (by omega) (by omega) (by omega)
  have hv1:=ee (cs:=cs) hm v 0 0 (by omega) (by omega) (by omega)
  have hm':∀a,0<=bi li' a:=λa=>Int.le_trans (hm a).1 (hm a).2
  have hu':=bX (cs:=cs) hm' u 0 (by omega)
  have hv':=bX (cs:=cs) hm' v 0 (by omega)
  rw[a9,a9]
  by_cases e:op=27
  ·rw[if_pos e,if_pos e]
   exact ee hm r _ _ (aC (by split<;>omega)).1 (ch (by split<;>split<;>omega)) (aC (by split<;>omega)).2
  ·rw[if_neg e,if_neg e]
   have h1:=bz hu.1 (hm x).1
   have h1':=bz hu'.1 (hm' x)
   have h3:=gW hu.1 hu1 (hm x).1 (hm x).2
   exact ee hm r _ _ (aC (by omega)).1 (ch (by omega)) (aC (by omega)).2
theorem fR{cs:List (Int×Int)}{li:List eV}(hm:∀a,0<=bi li a):∀(o:Fo) (n n':Int),Ba o->0<=n->n<=n'->n'<=281474976710657->a9 cs li o n<=aP li o n'
 |.nil,n,n',_,_,h,_=>h
 |.pl x y r,n,n',ho,h0,h,h2=>by
  have:=ho.1
  have:=jU cs x (y-x)
  exact fR hm r _ _ ho.2.2 (aC (by omega)).1 (ch (by omega)) (aC (by omega)).2
 |.br op x y u v r,n,n',ho,h0,h,h2=>by
  have hu:=bX (cs:=cs) hm u 0 (by omega)
  have hv:=bX (cs:=cs) hm v 0 (by omega)
  have hu':=bW hm u 0 ho.2.1 (by omega)
  have hv':=bW hm v 0 ho.2.2.1 (by omega)
  have hu1:=fR (cs:=cs) hm u 0 0 ho.2.1 (by omega) (by omega) (by omega)
  have hv1:=fR (cs:=cs) hm v 0 0 ho.2.2.1 (by omega) (by omega) (by omega)
  rw[a9,aP]
  by_cases e:op=27
  ·rw[if_pos e,if_pos e]
   exact fR hm r _ _ ho.2.2.2 (aC (by split<;>omega)).1 (ch (by split<;>split<;>omega)) (aC (by split<;>omega)).2
  ·rw[if_neg e,if_neg e]
   have h1:=bz hu.1 (hm x)
   have hk:a9 cs li u 0<=bj (aP li u 0+1):=by unfold bj;split<;>omega
   have h1':=bz (aC (n:=aP li u 0+1) (by omega)).1 (hm x)
   have h3:=gW hu.1 hk (hm x) (Int.le_refl _)
   exact fR hm r _ _ ho.2.2.2 (aC (by omega)).1 (ch (by omega)) (aC (by omega)).2
/-! ### the report of Verify-/
def dB(cs:List (Int×Int))(S:WS):List eV:=(bt S.lp cs.length).map λx=>(x.1,x.2,.ow)
theorem qx(cs:List (Int×Int))(S:WS):(dB cs S).length=(bt S.lp cs.length).length:=List.length_map ..
theorem xU(cs:List (Int×Int))(S:WS)(i j:Nat):vI (dB cs S) i j=nk (bt S.lp cs.length) i j:=by
 have e:(dB cs S).getD i lh=(((bt S.lp cs.length).getD i (0,0)).1,((bt S.lp cs.length).getD i (0,0)).2,AV.ow):=by
  unfold dB
  rw[List.getD_eq_getElem?_getD,List.getD_eq_getElem?_getD,List.getElem?_map]
  cases (bt S.lp cs.length)[i]? <;>rfl
 unfold vI nk
 rw[e]
theorem qw(cs:List (Int×Int))(S:WS):C4 (dB cs S):=λx hx=>by
 obtain⟨y,_,rfl⟩:=List.mem_map.1 hx
 exact .inl rfl
theorem jL{lp:List (Int×Int)}:∀{k:Nat} {x:Int×Int},x ∈ bt lp k->∃q:Nat,q<k/\x.1=q/\dD lp q=some x.2
 |0,x,h=>by cases h
 |k+1,x,h=>by
  unfold bt at h
  split at h
  ·rename_i mo hmo
   rcases List.mem_append.1 h with h|h
   ·obtain⟨q,h1,h2⟩:=jL h
    exact⟨q,by omega,h2⟩
   ·rw[List.mem_singleton.1 h]
    exact⟨k,by omega,rfl,hmo⟩
  ·obtain⟨q,h1,h2⟩:=jL h
   exact⟨q,by omega,h2⟩
theorem mr{cs:List (Int×Int)}{lp:List (Int×Int)}:∀k:Nat,(∀q:Nat,q<k->(am cs q=29->∃m,dD lp q=some m)/\(am cs q≠29->dD lp q=none))->(bt lp k).map (λx=>x.1)=bD cs k
 |0,_=>rfl
 |k+1,h=>by
  have ih:=mr k λq hq=>h q (by omega)
  obtain⟨h1,h2⟩:=h k (by omega)
  rw[bD,bt]
  by_cases e:am cs k=29
  ·obtain⟨m,hm⟩:=h1 e
   rw[if_pos e,hm]
   simp only[List.map_append,ih,List.map_cons,List.map_nil]
  ·rw[if_neg e,h2 e]
   exact ih
theorem kl{lp:List (Int×Int)}:∀{k q:Nat} {m:Int},q<k->dD lp q=some m->bi ((bt lp k).map λx=>((x.1,x.2,.ow):eV)) q=m
 |0,q,m,h,_=>absurd h (Nat.not_lt_zero _)
 |k+1,q,m,h,hm=>by
  unfold bt
  split
  ·rename_i mo hmo
   rw[List.map_append]
   show bi (_++[((k:Int),mo,AV.ow)]) q=m
   rw[jf]
   ·by_cases e:q=k
    ·subst e
     rw[if_pos rfl]
     rw[hm] at hmo
     cases hmo
     rfl
    ·rw[if_neg (by show ¬(q:Int)=k;omega)]
     exact kl (by omega) hm
   ·intro hin
    obtain⟨y,hy,hy2⟩:=List.mem_map.1 hin
    obtain⟨z,hz,rfl⟩:=List.mem_map.1 hy
    obtain⟨p,hp,h1,_⟩:=jL hz
    have:(z.1:Int)=k:=hy2
    omega
  ·rename_i hmo
   by_cases e:q=k
   ·subst e;rw[hm] at hmo;cases hmo
   ·exact kl (by omega) hm
theorem uS{la:List (Bool×Int)}{n:Nat}{cs:List (Int×Int)}{S:WS}{b:Bd}(ha:cL cs)(h:ey la n cs=some (.ok (S,b))):
  (cZ la n cs).2=0/\eA la n cs (dB cs S)=0/\aP (dB cs S) (aD cs).1 0=b.1/\a9 cs (dB cs S) (aD cs).1 0=b.2/\(0<=b.1/\b.1<=281474976710656)/\0<=b.2/\b.2<=b.1:=by
 unfold ey at h
 split at h
 rotate_left
 ·cases h
 rename_i h0
 obtain⟨m,hm,hn,hK,o,pt,hr,hpo⟩:=pM ha h0
 obtain rfl:n=m:=by omega
 obtain⟨hp,hcs⟩:=mS h0
 have hsc:=nQ cs
 rw[hr] at hsc
 obtain⟨out,hsc1,_,hg⟩:=hsc
 rw[hpo] at h
 unfold gV at h
 split at h
 ·cases h
 ·cases h
 rename_i S' b' hana
 split at h<;>cases h
 rename_i hb
 unfold i4 at hana
 split at hana
 ·cases hana
 ·cases hana
 rename_i S'' b'' hcode
 split at hana<;>cases hana
 have hW0:WF n (S0 n):=⟨⟨List.length_replicate,λx hx=>by rw[(List.mem_replicate.1 hx).2];exact nU⟩,λv hv=>(by cases hv),λl hl=>(by cases hl)⟩
 obtain⟨c1,c2⟩:=eh (BH hsc1) hK.arg o 0 cs.length 0 0 hg hcode hW0 jq
 obtain⟨_,hBb⟩:=aO hK.arg o 0 cs.length 0 0 hg hcode hW0 jq
 have hl:(bt S.lp cs.length).map (λx=>x.1)=bD cs cs.length:=mr _ λq hq=>⟨λe=>by obtain⟨m,k,_⟩:=c1.2 q (Nat.zero_le _) hq e;exact⟨m,k⟩,λe=>c1.1 q (.inr (.inr e))⟩
 have hlF:dg cs=bD cs cs.length:=if_pos hp
 have hmap:((dB cs S).map λx=>x.1)=dg cs:=by
  rw[hlF,<-hl]
  unfold dB
  rw[List.map_map];rfl
 have hin:E7 (dB cs S):=λx hx=>by
  obtain⟨z,hz,rfl⟩:=List.mem_map.1 hx
  obtain⟨q,h1,h2,h3⟩:=jL hz
  by_cases e:am cs q=29
  ·obtain⟨m,k1,k2⟩:=c1.2 q (Nat.zero_le _) h1 e
   rw[h3] at k1
   cases k1
   exact k2
  ·have:=c1.1 q (.inr (.inr e))
   rw[h3] at this
   cases this
 have hlen:(dg cs).length=(dB cs S).length:=by rw[<-hmap,List.length_map]
 have hO:eA la n cs (dB cs S)=0:=by
  unfold eA
  rw[if_pos h0]
  unfold oV
  rw[if_pos ⟨hlen,hmap⟩,if_pos hin]
 have hA:AG (dB cs S) cs 0 cs.length S.lp:=λq m _ hq _ hq2=>kl hq hq2
 obtain⟨a1,a2⟩:=c2 _ hA
 have hle:=fR (cs:=cs) (li:=dB cs S) (λa=>(jG hin a).1) o 0 0 (hg.okf (by omega)) (by decide) (by decide) (by decide)
 have e1:aP (dB cs S) o 0=b.1:=a1.symm
 have e2:a9 cs (dB cs S) o 0=b.2:=a2.symm
 rw[hpo]
 have:=hBb.1
 have:=hBb.2
 exact⟨h0,hO,e1,e2,⟨by omega,hb⟩,by omega,by omega⟩
end Go.Proofs.YtdpkgnmmikebdaaGreat