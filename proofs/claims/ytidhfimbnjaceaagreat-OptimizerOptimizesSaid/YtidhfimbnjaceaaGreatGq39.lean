/- A part of the proof of OptimizerOptimizes: DeB. No condition. -/
import Derived.Test.YtidhfimbnjaceaaGreatGq33
import Derived.Test.YtidhfimbnjaceaaGreatGq38
set_option linter.unusedSimpArgs false
set_option linter.unusedVariables false
set_option linter.constructorNameAsVariable false
set_option maxRecDepth 100000
set_option maxHeartbeats 4000000
namespace Go.Proofs.YtidhfimbnjaceaaGreat
open Go.RowKit
theorem Ad{H:AH}{b:Nat}{x:AB}(hb:b<2^40)(hl:x.live=true){b0:Nat}{x0:AB}(h:(H.upd b x).at b0=some x0):(b0=b/\x0=x)\/(b0≠b/\H.at b0=some x0):=by
 unfold AH.upd at h
 rw[AH.at_put _ _ _ _ _ _ hb] at h
 by_cases e:b0=b
 ·rw[if_pos e,if_pos hl] at h
  cases h
  exact .inl ⟨e,rfl⟩
 ·rw[if_neg e] at h;exact .inr ⟨e,h⟩
theorem HR.rewrite{B:Nat}{σ:Sg}{H:AH}{w w':World}(h:HR B σ H w){b c k:Nat}{x x2:AB}{arr2:Array Value}(hx:H.at b=some x)(hs:σ b=some (c,some k))(hz:x.fzn=0)(hl:x2.live=true)(hsz:x2.size<2^40)
  (hw:w'.heap[c]? =some (.cells arr2 x2.ty (0,0))) (hbr:BR σ x2 (some k) arr2) (hsize:w'.heap.size=w.heap.size) (hos:w'.os=w.os) (htape:w'.tape=w.tape) (hout:w'.output=w.output) (helse:∀q,q≠c->w'.heap[q]? =w.heap[q]?):
  HR B σ (H.upd b x2) w'/\Fr B σ σ H (H.upd b x2) w w':=by
 have hbn:=AH.at_lt h hx
 have hsm:=h.small
 have hb40:b<2^40:=by omega
 obtain⟨arr,hBc,_,_⟩:=h.blk b x c (some k) hx hs
 have look:=λ{b0 x0}=>Ad (H:=H) (b0:=b0) (x0:=x0) hb40 hl
 have lk:∀{b0 x0},(H.upd b x2).at b0=some x0->∃y,H.at b0=some y:=by
  intro b0 x0 h0
  rcases look h0 with⟨rfl,rfl⟩|⟨_,e⟩
  ·exact⟨x,hx⟩
  ·exact⟨x0,e⟩
 refine⟨⟨h.new,h.newl,λb' hb'=>?_,h.small,by rw[hsize];exact h.hB,λb' x' hx' hn=>?_,h.nilp,λb' x' c' o' hx' hs'=>?_,λb' x' hx'=>?_,λb1 b2 x1 x2 c1 o1 o2 k1 k2 k3 k4=>?_,λc' fs hf=>?_⟩,?_⟩
 ·have hb'':H.next<=b':=hb'
  unfold AH.upd
  rw[AH.at_put _ _ _ _ _ _ hb40,if_neg (by omega)]
  exact h.old b' hb''
 ·rcases look hx' with⟨rfl,rfl⟩|⟨_,e⟩
  ·rw[hs] at hn;cases hn
  ·exact h.nil b' x' e hn
 ·rcases look hx' with⟨rfl,rfl⟩|⟨ne,e⟩
  ·rw[hs] at hs'
   cases hs'
   exact⟨arr2,hBc,hw,hbr⟩
  ·obtain⟨cs',g1,g2,g3⟩:=h.blk b' x' c' o' e hs'
   refine⟨cs',g1,?_,g3⟩
   rw[helse c' λhc=>?_]
   ·exact g2
   ·subst hc
    exact ne (h.inj b' b x' x c' o' (some k) e hx hs' hs)
 ·rcases look hx' with⟨rfl,rfl⟩|⟨_,e⟩
  ·exact hsz
  ·exact h.szs b' x' e
 ·obtain⟨y1,e1⟩:=lk k1
  obtain⟨y2,e2⟩:=lk k2
  exact h.inj b1 b2 y1 y2 c1 o1 o2 e1 e2 k3 k4
 ·obtain⟨cs',t,fr,g1,g2,g3⟩:=h.frz c' fs hf
  by_cases hc:c'=c
  ·subst hc
   have h0:fs.size=0:=by have:=g3 b x (some k) hx hs;omega
   exact⟨arr2,_,_,hw,⟨by omega,λi hi=>by omega⟩,λb' x' o hx' hs'=>by omega⟩
  ·refine⟨cs',t,fr,by rw[helse c' hc];exact g1,g2,λb' x' o hx' hs'=>?_⟩
   rcases look hx' with⟨rfl,rfl⟩|⟨_,e⟩
   ·rw[hs] at hs';cases hs';exact absurd rfl hc
   ·exact g3 b' x' o e hs'
 ·refine⟨λ_ _=>rfl,σ.le_refl,Nat.le_refl _,Nat.min_le_left _ _,⟨hos,htape,hout,by omega,λq hq=>helse q (by omega)⟩,λq hq=>?_,λb' c' o hb' hs' hc'=>?_⟩
  ·by_cases e:q=c
   ·subst e
    exact .inr ⟨b,some k,hbn,hs,Nat.min_le_right _ _⟩
   ·exact .inl (helse q e)
  ·rw[h.new b' hb'] at hs';cases hs'
theorem II:oB Tryz.prog 77 37:=by
 intro cs i d b H Q hcs hat hb hd hid hQ
 refine⟨⟨_,Tryz.func77,by kernel_rfl,by kernel_rfl⟩,λB σ w args' hH ha=>?_⟩
 obtain⟨v0,v1,v2,hargs⟩:∃v0 v1 v2,args'= #[v0,v1,v2]:=by
  have hl:args'.toList.length=3:=ha.1.symm
  obtain⟨l⟩:=args'
  match l,hl with
  |[a,b,c],_=>exact⟨a,b,c,rfl⟩
 subst hargs
 have e0:VR σ (.os b cs.length) v0:=ha.2 0 _ rfl
 have e1:VR σ (.n .i64 (i:Int)) v1:=ha.2 1 _ rfl
 have e2:VR σ (.n .i64 ((i+d:Nat):Int)) v2:=ha.2 2 _ rfl
 cases e1
 cases e2
 generalize hn:cs.length=n at e0
 cases e0 with
 |os0 hh a0=>omega
 |@os _ _ _ c k hs hl=>
 subst hn
 obtain⟨arr,hB,hblk,hbr⟩:=hH.blk b _ c (some k) hat hs
 have hsz:=(hbr.op k rfl).1
 have hkm:=(hbr.op k rfl).2
 have hrow:∀q,(am 37 5 cs.length 0 (cC cs)).get q=cC cs (q / 5) (q%5):=λq=>by
  have:=aH (ty:=37) (n:=cs.length) (z:=0) (row:=cC cs) (q / 5) (q%5) (Nat.mod_lt q (by decide))
  rwa [show q / 5*5+q%5=q by omega] at this
 have hcell:∀q,q<cs.length*5->VR σ (cC cs (q / 5) (q%5)) (arr.getD q undef):=λq hq=>by
  have:=hbr.cell q hq
  rwa [hrow q] at this
 have hsz':arr.size=k*5:=hsz
 refine(xK c k cs.length i (i+d) arr w hblk hsz' (by omega) (by unfold maxLen at hkm;omega) (by omega) hid (λq hq=>?_)).mono λe w' hp=>?_
 ·have h1:=bh (cs:=cs) (q / 5) (Nat.mod_lt q (by decide))
  simp only[AV.cell,Bool.and_eq_true] at h1
  exact AV.one_cell (hcell q hq) h1.2
 obtain⟨rfl,arr2,g1,g2,g3,g4,g5,g6,g7,g8,g9⟩:=hp
 have hnd:i+(cs.length-(i+d))=cs.length-d:=by omega
 rw[hnd]
 have hrow2:∀q,(am 37 5 (cs.length-d) 0 (cC (fq cs i d))).get q=cC (fq cs i d) (q / 5) (q%5):=λq=>by
  have:=aH (ty:=37) (n:=cs.length-d) (z:=0) (row:=cC (fq cs i d)) (q / 5) (q%5) (Nat.mod_lt q (by decide))
  rwa [show q / 5*5+q%5=q by omega] at this
 have hbr2:BR σ (am 37 5 (cs.length-d) 0 (cC (fq cs i d))) (some k) arr2:=by
  refine⟨?_,λh=>(by cases h),λk' h=>(by cases h;exact⟨by rw[g2];exact hsz',hkm⟩),rfl,λq hq=>?_⟩
  ·show(cs.length-d)*5<=arr2.size
   omega
  ·have hq':q<(cs.length-d)*5:=hq
   rw[hrow2,<-kd cs i d hid (q / 5) (q%5)]
   by_cases h:q / 5<i
   ·rw[if_pos h]
    have e:=g3 q (by omega)
    have:=hcell q (by omega)
    rw[Array.getD_eq_getD_getElem?] at this ⊢
    rw[e];exact this
   ·rw[if_neg h]
    have e:=g4 (q-i*5) (by omega)
    have:=hcell (q+d*5) (by omega)
    rw[show i*5+(q-i*5)=q by omega,show(i+d)*5+(q-i*5)=q+d*5 by omega] at e
    rw[Array.getD_eq_getD_getElem?] at this ⊢
    rw[e,show i+d+(q / 5-i)=(q+d*5) / 5 by omega,show q%5=(q+d*5)%5 by omega]
    exact this
 obtain⟨f1,f2⟩:=hH.rewrite (x2:=am 37 5 (cs.length-d) 0 (cC (fq cs i d))) hat hs rfl rfl (show(cs.length-d)*5<2^40 by omega) g1 hbr2 g5 g6 g7 g8 g9
 refine⟨.os b (cs.length-d),_,σ,hQ _ rfl rfl rfl rfl rfl (Nat.le_refl _) (λq j hq hj=>?_),.os hs (by omega),f1,f2,lB.refl _ _⟩
 exact aH q j hj
end Go.Proofs.YtidhfimbnjaceaaGreat