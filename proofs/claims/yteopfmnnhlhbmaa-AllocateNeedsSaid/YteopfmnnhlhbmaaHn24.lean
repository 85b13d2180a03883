/- A part of the proof of AllocateNeeds: BlB BlE BlC GrA. No condition. -/
import Derived.Test.YteopfmnnhlhbmaaHn23
set_option linter.unusedSimpArgs false
set_option linter.unusedVariables false
set_option linter.constructorNameAsVariable false
set_option maxRecDepth 100000
set_option maxHeartbeats 4000000
namespace Go.Proofs.Yteopfmnnhlhbmaa
open Go.RowKit
theorem dk{n:Nat}{e:Tr AV}{H:AH}{ob:Nat->Option OB}{d k j:Nat}{s:BS}{L:List (Nat×AV)}(hj:j<8)(hd8:d<=8)(hk:(s.lv j).length<100000)(hs:∀i,i<8->i≠j->H.at i=some (mM s.lv i))(h8:H.at 8=some (aH 3 1 d 0 (fe s.opn)))(h9:H.at 9=some (aH 3 1 d 0 (fe s.mid)))
  (h10:H.at 10=some ((aH 39 1 d 0 (oD s.lv)).putN j [.os 12 ((s.lv j).length+1)])) (h12:H.at 12=some ((mM s.lv j).app (s.lv j).length (.li [.n .i64 ((k:Nat):Int)]))) (hob:H.ob=ob)
  (he:∀(ρ:List Nat) (H':AH),ρ.reverse[8]? =some 8->ρ.reverse[9]? =some 9->ρ.reverse[10]? =some 10->bk (λb2=>ρ.reverse[b2]?) [] H' e L):Wk n e H (aE L) (ba ob (iv d ⟨s.opn,s.mid,aZ s.lv j (s.lv j++[k]),s.pm⟩)):=by
 subst hob
 have hou:∀i,i<d->((aH 39 1 d 0 (oD s.lv)).putN j [.os 12 ((s.lv j).length+1)]).get i= .os (if i=j then 12 else i) (aZ s.lv j (s.lv j++[k]) i).length:=λi hi=>by
  rw[fo (by simp;omega)]
  by_cases e:i=j
  ·subst e
   rw[if_pos (by simp),if_pos rfl,aY,List.length_append]
   simp
  ·rw[if_neg (by simp;omega),if_neg e,ae _ _ e]
   have:=aL (ty:=39) (n:=d) (z:=0) (row:=oD s.lv) i 0 (by decide:0<1)
   rwa [Nat.mul_one,Nat.add_zero] at this
 have hnew:∀{r:Nat->Option Nat},cZ r [] H 12 (mM (aZ s.lv j (s.lv j++[k])) j):=λ{r}=>by
  unfold mM
  rw[aY]
  refine .rowW h12 rfl rfl (by rfl) ?_ (by exact Nat.le_refl _) rfl (by decide) (λi q hi hq=>?_)
  ·rw[app_size];simp only[cg.len,List.length_cons,List.length_nil,List.length_append];omega
  ·obtain rfl:q=0:=by omega
   simp only[List.length_append,List.length_singleton] at hi
   rw[Nat.mul_one,Nat.add_zero,db _ _ _ (by omega) _ hi]
   rw[<-qn (s.lv j) k i 0 hi (by decide)]
   by_cases e:i<(s.lv j).length
   ·rw[if_pos e,if_pos e]
    have:=aL (ty:=3) (n:=(s.lv j).length) (z:=0) (row:=fe (s.lv j)) i 0 (by decide:0<1)
    rw[Nat.mul_one,Nat.add_zero] at this
    rw[this];exact Wv.same rfl
   ·rw[if_neg e,if_neg e];exact Wv.same rfl
 rcases r9 hj with rfl|rfl|rfl|rfl|rfl|rfl|rfl|rfl
 ·exact Wk.mkS [10,9,8,7,6,5,4,3,2,1,12] [] (he _ _ rfl rfl rfl) (.cons rfl (.ou2 (q:=0) (nm:=12) h10 (by rfl) (by rfl) (by rfl) (by show d<=d*1;omega) (by rfl) hd8 hou (by rfl) (by decide)) (.cons rfl (.k1 h9) (.cons rfl (.k1 h8) (.cons rfl (aa (lv:=s.lv) (hs 7 (by decide) (by decide)) (show aZ s.lv 0 (s.lv 0++[k]) 7=s.lv 7 from ae _ _ (by decide))) (.cons rfl (aa (lv:=s.lv) (hs 6 (by decide) (by decide)) (show aZ s.lv 0 (s.lv 0++[k]) 6=s.lv 6 from ae _ _ (by decide))) (.cons rfl (aa (lv:=s.lv) (hs 5 (by decide) (by decide)) (show aZ s.lv 0 (s.lv 0++[k]) 5=s.lv 5 from ae _ _ (by decide))) (.cons rfl (aa (lv:=s.lv) (hs 4 (by decide) (by decide)) (show aZ s.lv 0 (s.lv 0++[k]) 4=s.lv 4 from ae _ _ (by decide))) (.cons rfl (aa (lv:=s.lv) (hs 3 (by decide) (by decide)) (show aZ s.lv 0 (s.lv 0++[k]) 3=s.lv 3 from ae _ _ (by decide))) (.cons rfl (aa (lv:=s.lv) (hs 2 (by decide) (by decide)) (show aZ s.lv 0 (s.lv 0++[k]) 2=s.lv 2 from ae _ _ (by decide))) (.cons rfl (aa (lv:=s.lv) (hs 1 (by decide) (by decide)) (show aZ s.lv 0 (s.lv 0++[k]) 1=s.lv 1 from ae _ _ (by decide))) (.cons rfl hnew .nil))))))))))) (by simp)
 ·exact Wk.mkS [10,9,8,7,6,5,4,3,2,12,0] [] (he _ _ rfl rfl rfl) (.cons rfl (.ou2 (q:=1) (nm:=12) h10 (by rfl) (by rfl) (by rfl) (by show d<=d*1;omega) (by rfl) hd8 hou (by rfl) (by decide)) (.cons rfl (.k1 h9) (.cons rfl (.k1 h8) (.cons rfl (aa (lv:=s.lv) (hs 7 (by decide) (by decide)) (show aZ s.lv 1 (s.lv 1++[k]) 7=s.lv 7 from ae _ _ (by decide))) (.cons rfl (aa (lv:=s.lv) (hs 6 (by decide) (by decide)) (show aZ s.lv 1 (s.lv 1++[k]) 6=s.lv 6 from ae _ _ (by decide))) (.cons rfl (aa (lv:=s.lv) (hs 5 (by decide) (by decide)) (show aZ s.lv 1 (s.lv 1++[k]) 5=s.lv 5 from ae _ _ (by decide))) (.cons rfl (aa (lv:=s.lv) (hs 4 (by decide) (by decide)) (show aZ s.lv 1 (s.lv 1++[k]) 4=s.lv 4 from ae _ _ (by decide))) (.cons rfl (aa (lv:=s.lv) (hs 3 (by decide) (by decide)) (show aZ s.lv 1 (s.lv 1++[k]) 3=s.lv 3 from ae _ _ (by decide))) (.cons rfl (aa (lv:=s.lv) (hs 2 (by decide) (by decide)) (show aZ s.lv 1 (s.lv 1++[k]) 2=s.lv 2 from ae _ _ (by decide))) (.cons rfl hnew (.cons rfl (aa (lv:=s.lv) (hs 0 (by decide) (by decide)) (show aZ s.lv 1 (s.lv 1++[k]) 0=s.lv 0 from ae _ _ (by decide))) .nil))))))))))) (by simp)
 ·exact Wk.mkS [10,9,8,7,6,5,4,3,12,1,0] [] (he _ _ rfl rfl rfl) (.cons rfl (.ou2 (q:=2) (nm:=12) h10 (by rfl) (by rfl) (by rfl) (by show d<=d*1;omega) (by rfl) hd8 hou (by rfl) (by decide)) (.cons rfl (.k1 h9) (.cons rfl (.k1 h8) (.cons rfl (aa (lv:=s.lv) (hs 7 (by decide) (by decide)) (show aZ s.lv 2 (s.lv 2++[k]) 7=s.lv 7 from ae _ _ (by decide))) (.cons rfl (aa (lv:=s.lv) (hs 6 (by decide) (by decide)) (show aZ s.lv 2 (s.lv 2++[k]) 6=s.lv 6 from ae _ _ (by decide))) (.cons rfl (aa (lv:=s.lv) (hs 5 (by decide) (by decide)) (show aZ s.lv 2 (s.lv 2++[k]) 5=s.lv 5 from ae _ _ (by decide))) (.cons rfl (aa (lv:=s.lv) (hs 4 (by decide) (by decide)) (show aZ s.lv 2 (s.lv 2++[k]) 4=s.lv 4 from ae _ _ (by decide))) (.cons rfl (aa (lv:=s.lv) (hs 3 (by decide) (by decide)) (show aZ s.lv 2 (s.lv 2++[k]) 3=s.lv 3 from ae _ _ (by decide))) (.cons rfl hnew (.cons rfl (aa (lv:=s.lv) (hs 1 (by decide) (by decide)) (show aZ s.lv 2 (s.lv 2++[k]) 1=s.lv 1 from ae _ _ (by decide))) (.cons rfl (aa (lv:=s.lv) (hs 0 (by decide) (by decide)) (show aZ s.lv 2 (s.lv 2++[k]) 0=s.lv 0 from ae _ _ (by decide))) .nil))))))))))) (by simp)
 ·exact Wk.mkS [10,9,8,7,6,5,4,12,2,1,0] [] (he _ _ rfl rfl rfl) (.cons rfl (.ou2 (q:=3) (nm:=12) h10 (by rfl) (by rfl) (by rfl) (by show d<=d*1;omega) (by rfl) hd8 hou (by rfl) (by decide)) (.cons rfl (.k1 h9) (.cons rfl (.k1 h8) (.cons rfl (aa (lv:=s.lv) (hs 7 (by decide) (by decide)) (show aZ s.lv 3 (s.lv 3++[k]) 7=s.lv 7 from ae _ _ (by decide))) (.cons rfl (aa (lv:=s.lv) (hs 6 (by decide) (by decide)) (show aZ s.lv 3 (s.lv 3++[k]) 6=s.lv 6 from ae _ _ (by decide))) (.cons rfl (aa (lv:=s.lv) (hs 5 (by decide) (by decide)) (show aZ s.lv 3 (s.lv 3++[k]) 5=s.lv 5 from ae _ _ (by decide))) (.cons rfl (aa (lv:=s.lv) (hs 4 (by decide) (by decide)) (show aZ s.lv 3 (s.lv 3++[k]) 4=s.lv 4 from ae _ _ (by decide))) (.cons rfl hnew (.cons rfl (aa (lv:=s.lv) (hs 2 (by decide) (by decide)) (show aZ s.lv 3 (s.lv 3++[k]) 2=s.lv 2 from ae _ _ (by decide))) (.cons rfl (aa (lv:=s.lv) (hs 1 (by decide) (by decide)) (show aZ s.lv 3 (s.lv 3++[k]) 1=s.lv 1 from ae _ _ (by decide))) (.cons rfl (aa (lv:=s.lv) (hs 0 (by decide) (by decide)) (show aZ s.lv 3 (s.lv 3++[k]) 0=s.lv 0 from ae _ _ (by decide))) .nil))))))))))) (by simp)
 ·exact Wk.mkS [10,9,8,7,6,5,12,3,2,1,0] [] (he _ _ rfl rfl rfl) (.cons rfl (.ou2 (q:=4) (nm:=12) h10 (by rfl) (by rfl) (by rfl) (by show d<=d*1;omega) (by rfl) hd8 hou (by rfl) (by decide)) (.cons rfl (.k1 h9) (.cons rfl (.k1 h8) (.cons rfl (aa (lv:=s.lv) (hs 7 (by decide) (by decide)) (show aZ s.lv 4 (s.lv 4++[k]) 7=s.lv 7 from ae _ _ (by decide))) (.cons rfl (aa (lv:=s.lv) (hs 6 (by decide) (by decide)) (show aZ s.lv 4 (s.lv 4++[k]) 6=s.lv 6 from ae _ _ (by decide))) (.cons rfl (aa (lv:=s.lv) (hs 5 (by decide) (by decide)) (show aZ s.lv 4 (s.lv 4++[k]) 5=s.lv 5 from ae _ _ (by decide))) (.cons rfl hnew (.cons rfl (aa (lv:=s.lv) (hs 3 (by decide) (by decide)) (show aZ s.lv 4 (s.lv 4++[k]) 3=s.lv 3 from ae _ _ (by decide))) (.cons rfl (aa (lv:=s.lv) (hs 2 (by decide) (by decide)) (show aZ s.lv 4 (s.lv 4++[k]) 2=s.lv 2 from ae _ _ (by decide))) (.cons rfl (aa (lv:=s.lv) (hs 1 (by decide) (by decide)) (show aZ s.lv 4 (s.lv 4++[k]) 1=s.lv 1 from ae _ _ (by decide))) (.cons rfl (aa (lv:=s.lv) (hs 0 (by decide) (by decide)) (show aZ s.lv 4 (s.lv 4++[k]) 0=s.lv 0 from ae _ _ (by decide))) .nil))))))))))) (by simp)
 ·exact Wk.mkS [10,9,8,7,6,12,4,3,2,1,0] [] (he _ _ rfl rfl rfl) (.cons rfl (.ou2 (q:=5) (nm:=12) h10 (by rfl) (by rfl) (by rfl) (by show d<=d*1;omega) (by rfl) hd8 hou (by rfl) (by decide)) (.cons rfl (.k1 h9) (.cons rfl (.k1 h8) (.cons rfl (aa (lv:=s.lv) (hs 7 (by decide) (by decide)) (show aZ s.lv 5 (s.lv 5++[k]) 7=s.lv 7 from ae _ _ (by decide))) (.cons rfl (aa (lv:=s.lv) (hs 6 (by decide) (by decide)) (show aZ s.lv 5 (s.lv 5++[k]) 6=s.lv 6 from ae _ _ (by decide))) (.cons rfl hnew (.cons rfl (aa (lv:=s.lv) (hs 4 (by decide) (by decide)) (show aZ s.lv 5 (s.lv 5++[k]) 4=s.lv 4 from ae _ _ (by decide))) (.cons rfl (aa (lv:=s.lv) (hs 3 (by decide) (by decide)) (show aZ s.lv 5 (s.lv 5++[k]) 3=s.lv 3 from ae _ _ (by decide))) (.cons rfl (aa (lv:=s.lv) (hs 2 (by decide) (by decide)) (show aZ s.lv 5 (s.lv 5++[k]) 2=s.lv 2 from ae _ _ (by decide))) (.cons rfl (aa (lv:=s.lv) (hs 1 (by decide) (by decide)) (show aZ s.lv 5 (s.lv 5++[k]) 1=s.lv 1 from ae _ _ (by decide))) (.cons rfl (aa (lv:=s.lv) (hs 0 (by decide) (by decide)) (show aZ s.lv 5 (s.lv 5++[k]) 0=s.lv 0 from ae _ _ (by decide))) .nil))))))))))) (by simp)
 ·exact Wk.mkS [10,9,8,7,12,5,4,3,2,1,0] [] (he _ _ rfl rfl rfl) (.cons rfl (.ou2 (q:=6) (nm:=12) h10 (by rfl) (by rfl) (by rfl) (by show d<=d*1;omega) (by rfl) hd8 hou (by rfl) (by decide)) (.cons rfl (.k1 h9) (.cons rfl (.k1 h8) (.cons rfl (aa (lv:=s.lv) (hs 7 (by decide) (by decide)) (show aZ s.lv 6 (s.lv 6++[k]) 7=s.lv 7 from ae _ _ (by decide))) (.cons rfl hnew (.cons rfl (aa (lv:=s.lv) (hs 5 (by decide) (by decide)) (show aZ s.lv 6 (s.lv 6++[k]) 5=s.lv 5 from ae _ _ (by decide))) (.cons rfl (aa (lv:=s.lv) (hs 4 (by decide) (by decide)) (show aZ s.lv 6 (s.lv 6++[k]) 4=s.lv 4 from ae _ _ (by decide))) (.cons rfl (aa (lv:=s.lv) (hs 3 (by decide) (by decide)) (show aZ s.lv 6 (s.lv 6++[k]) 3=s.lv 3 from ae _ _ (by decide))) (.cons rfl (aa (lv:=s.lv) (hs 2 (by decide) (by decide)) (show aZ s.lv 6 (s.lv 6++[k]) 2=s.lv 2 from ae _ _ (by decide))) (.cons rfl (aa (lv:=s.lv) (hs 1 (by decide) (by decide)) (show aZ s.lv 6 (s.lv 6++[k]) 1=s.lv 1 from ae _ _ (by decide))) (.cons rfl (aa (lv:=s.lv) (hs 0 (by decide) (by decide)) (show aZ s.lv 6 (s.lv 6++[k]) 0=s.lv 0 from ae _ _ (by decide))) .nil))))))))))) (by simp)
 ·exact Wk.mkS [10,9,8,12,6,5,4,3,2,1,0] [] (he _ _ rfl rfl rfl) (.cons rfl (.ou2 (q:=7) (nm:=12) h10 (by rfl) (by rfl) (by rfl) (by show d<=d*1;omega) (by rfl) hd8 hou (by rfl) (by decide)) (.cons rfl (.k1 h9) (.cons rfl (.k1 h8) (.cons rfl hnew (.cons rfl (aa (lv:=s.lv) (hs 6 (by decide) (by decide)) (show aZ s.lv 7 (s.lv 7++[k]) 6=s.lv 6 from ae _ _ (by decide))) (.cons rfl (aa (lv:=s.lv) (hs 5 (by decide) (by decide)) (show aZ s.lv 7 (s.lv 7++[k]) 5=s.lv 5 from ae _ _ (by decide))) (.cons rfl (aa (lv:=s.lv) (hs 4 (by decide) (by decide)) (show aZ s.lv 7 (s.lv 7++[k]) 4=s.lv 4 from ae _ _ (by decide))) (.cons rfl (aa (lv:=s.lv) (hs 3 (by decide) (by decide)) (show aZ s.lv 7 (s.lv 7++[k]) 3=s.lv 3 from ae _ _ (by decide))) (.cons rfl (aa (lv:=s.lv) (hs 2 (by decide) (by decide)) (show aZ s.lv 7 (s.lv 7++[k]) 2=s.lv 2 from ae _ _ (by decide))) (.cons rfl (aa (lv:=s.lv) (hs 1 (by decide) (by decide)) (show aZ s.lv 7 (s.lv 7++[k]) 1=s.lv 1 from ae _ _ (by decide))) (.cons rfl (aa (lv:=s.lv) (hs 0 (by decide) (by decide)) (show aZ s.lv 7 (s.lv 7++[k]) 0=s.lv 0 from ae _ _ (by decide))) .nil))))))))))) (by simp)
theorem zp{hints:bz}{Q:AE->Tr AV->AH->Prop}(cs:List In)(hn:cs.length<=16384)(r d k:Nat)(s:BS)(nb:List NB)(ob:Nat->Option OB)(hk:k<cs.length)(hd:d=s.opn.length)(hb:wl (cs.map bq) k s nb)(hd8:d<=8)(hex:∃i,i<d/\aq (cs.map bq) (s.opn.getD i 0)=29)
  (hQ:∀e' H',Wk 126 e' H' (zo cs r d k) (ba ob (iv d ⟨s.opn,s.mid,aZ s.lv (bj (cs.map bq) s.opn s.opn.length) (s.lv (bj (cs.map bq) s.opn s.opn.length)++[k]),s.pm⟩))->Q .normal e' H'):
  GA Try.prog 126 hints (.seq (.reg Cb) (.seq (.block 3 Cf) (.reg Ca))) (aE ((7,.n .i64 k)::sY cs r d k)) (ba ob (iv d s)) Q:=by
 obtain⟨m,rfl⟩:∃m,d=m+1:=by obtain⟨i,h1,_⟩:=hex;exact⟨d-1,by omega⟩
 have hm0:IntKind.wrap .i64 (((m+1:Nat):Int)-1)=(m:Int):=by rw[aU (by omega)];omega
 have hcd:(cs.map bq).length=cs.length:=List.length_map ..
 have hlg:bj (cs.map bq) s.opn s.opn.length=bj (cs.map bq) s.opn (m+1):=by rw[<-hd]
 repeat first|with_reducible refine aw ?_|simp only[hm0,go_sem,simprocAttr]
 refine GA.loop (I:=λmm e H=>∃(j:Nat),mm=j+1/\j<m+1/\bj (cs.map bq) s.opn (j+1)=bj (cs.map bq) s.opn (m+1)/\(∃i,i<j+1/\aq (cs.map bq) (s.opn.getD i 0)=29)/\e=aE ((10,.n .i64 j)::(7,.n .i64 k)::sY cs r (m+1) k)/\H=ba ob (iv (m+1) s)) (Wk.mkS [10,9,8,7,6,5,4,3,2,1,0] [] ?_ ?_ ?_) ⟨m,rfl,by omega,rfl,hex,rfl,rfl⟩ ?_
 ·simp only[bk,bh,go_sem,simprocAttr]
  repeat' refine ab ?_ ?_
  all_goals first|exact bu|skip
 ·exact .cons rfl (.ou (by simp only[go_sem,simprocAttr]) hd8) (.cons rfl .k1 (.cons rfl .k1 (.cons rfl .k1 (.cons rfl .k1 (.cons rfl .k1 (.cons rfl .k1 (.cons rfl .k1 (.cons rfl .k1 (.cons rfl .k1 (.cons rfl .k1 .nil))))))))))
 ·simp
 rintro mm e H ⟨j,rfl,hj,hl,hex2,rfl,rfl⟩
 have hj0:(0:Int)<=(j:Int):=by omega
 have hj1:(j:Int)<((m+1:Nat):Int):=by omega
 have hjo:s.opn.getD j 0<k:=by
  have:s.opn.getD j 0 ∈ s.opn:=by rw[List.getD_eq_getElem?_getD,List.getElem?_eq_getElem (by omega)];exact List.getElem_mem (by omega)
  exact hb.opn _ this
 have hop:=nI cs (k:=s.opn.getD j 0) (by omega)
 have hrg:(aH 3 1 (m+1) 0 (fe s.opn)).get j= .n .i64 ((s.opn.getD j 0:Nat):Int):=by
  have:=aL (ty:=3) (n:=m+1) (z:=0) (row:=fe s.opn) j 0 (by decide:0<1)
  rwa [Nat.mul_one,Nat.add_zero] at this
 have hrou:(aH 39 1 (m+1) 0 (oD s.lv)).get j= .os j (s.lv j).length:=by
  have:=aL (ty:=39) (n:=m+1) (z:=0) (row:=oD s.lv) j 0 (by decide:0<1)
  rwa [Nat.mul_one,Nat.add_zero] at this
 generalize hq:s.opn.getD j 0=q at*
 have hq0:(0:Int)<=(q:Int):=by omega
 have hq1:(q:Int)<(cs.length:Int):=by omega
 have hcc0:=ww cs q
 repeat first|with_reducible refine aw ?_|simp only[hj,hj0,hj1,hrg,hq0,hq1,hcc0,go_sem,simprocAttr]
 refine⟨λh=>?_,λh=>?_⟩
 ·have hne:¬aq (cs.map bq) q=29:=by rw[hop];exact h
  obtain⟨j',rfl⟩:∃j',j=j'+1:=by
   obtain⟨i,h1,h2⟩:=hex2
   have:i≠j:=λe=>hne (by rw[<-hq,<-e];exact h2)
   exact⟨j-1,by omega⟩
  have hw:IntKind.wrap .i64 (((j'+1:Nat):Int)-1)=(j':Int):=by rw[aU (by omega)];omega
  repeat first|with_reducible refine aw ?_|simp only[hw,go_sem,simprocAttr]
  refine⟨_,_,_,?_,Wk.mkS [10,9,8,7,6,5,4,3,2,1,0] [] ?_ ?_ ?_,j',rfl,by omega,?_,?_,rfl,rfl⟩
  ·omega
  ·simp only[bk,bh,go_sem,simprocAttr]
   repeat' refine ab ?_ ?_
   all_goals first|exact bu|skip
  ·exact .cons rfl (.ou (by simp only[go_sem,simprocAttr]) hd8) (.cons rfl .k1 (.cons rfl .k1 (.cons rfl .k1 (.cons rfl .k1 (.cons rfl .k1 (.cons rfl .k1 (.cons rfl .k1 (.cons rfl .k1 (.cons rfl .k1 (.cons rfl .k1 .nil))))))))))
  ·simp
  ·rw[<-hl,bj.eq_2 _ _ (j'+1),hq,if_neg hne]
  ·obtain⟨i,h1,h2⟩:=hex2
   have:i≠j'+1:=λe=>hne (by rw[<-hq,<-e];exact h2)
   exact⟨i,by omega,h2⟩
 ·have heq:aq (cs.map bq) q=29:=by rw[hop];exact h
  have hlj:bj (cs.map bq) s.opn (m+1)=j:=by rw[<-hl,bj,hq,if_pos heq]
  have hj8:j<8:=by omega
  have hl1:(s.lv j).length+1<1099511627776:=by have:=(hb.lvs j).1;omega
  have hl2:((s.lv j).length+1)*8<=140737488355328:=by have:=(hb.lvs j).1;omega
  have hl3:(s.lv j).length<=9223372036854775806:=by have:=(hb.lvs j).1;omega
  have hl4:(s.lv j).length<100000:=by have:=(hb.lvs j).1;omega
  have hl5:j+1<=m+1:=by omega
  rw[hlg,hlj] at hQ
  clear hl hex2 hq hjo hop hrg hcc0 hq0 hq1 h heq hlj hex hlg hm0
  rcases r9 hj8 with rfl|rfl|rfl|rfl|rfl|rfl|rfl|rfl
  ·have g1:(0:Int)<((m+1:Nat):Int):=by omega
   have g2:0<m+1:=by omega
   have g3:1<=m+1:=by omega
   have g4:0<=m:=by omega
   clear hj0 hj1
   repeat first|with_reducible refine aw ?_|simp only[g1,g2,g3,g4,hrou,hl1,hl2,hl3,go_sem,simprocAttr]
   refine hQ _ _ ?_
   refine dk (by decide) hd8 hl4 (λi hi hne=>?_) (by simp only[go_sem,simprocAttr]) (by simp only[go_sem,simprocAttr]) (by simp only[go_sem,simprocAttr]) (by simp only[go_sem,simprocAttr]) (by simp only[go_sem,simprocAttr]) (λρ H' g2 g3 g4=>?_)
   ·rcases r9 hi with rfl|rfl|rfl|rfl|rfl|rfl|rfl|rfl<;>first|(exact absurd rfl hne)|simp only[go_sem,simprocAttr]
   ·simp only[bk,bh,go_sem,simprocAttr]
    repeat' refine ab ?_ ?_
    all_goals first|exact bu|skip
    all_goals first|exact Wv.os g2|exact Wv.os g3|exact Wv.os g4
  ·have g1:(1:Int)<((m+1:Nat):Int):=by omega
   have g2:1<m+1:=by omega
   have g3:2<=m+1:=by omega
   have g4:1<=m:=by omega
   clear hj0 hj1
   repeat first|with_reducible refine aw ?_|simp only[g1,g2,g3,g4,hrou,hl1,hl2,hl3,go_sem,simprocAttr]
   refine hQ _ _ ?_
   refine dk (by decide) hd8 hl4 (λi hi hne=>?_) (by simp only[go_sem,simprocAttr]) (by simp only[go_sem,simprocAttr]) (by simp only[go_sem,simprocAttr]) (by simp only[go_sem,simprocAttr]) (by simp only[go_sem,simprocAttr]) (λρ H' g2 g3 g4=>?_)
   ·rcases r9 hi with rfl|rfl|rfl|rfl|rfl|rfl|rfl|rfl<;>first|(exact absurd rfl hne)|simp only[go_sem,simprocAttr]
   ·simp only[bk,bh,go_sem,simprocAttr]
    repeat' refine ab ?_ ?_
    all_goals first|exact bu|skip
    all_goals first|exact Wv.os g2|exact Wv.os g3|exact Wv.os g4
  ·have g1:(2:Int)<((m+1:Nat):Int):=by omega
   have g2:2<m+1:=by omega
   have g3:3<=m+1:=by omega
   have g4:2<=m:=by omega
   clear hj0 hj1
   repeat first|with_reducible refine aw ?_|simp only[g1,g2,g3,g4,hrou,hl1,hl2,hl3,go_sem,simprocAttr]
   refine hQ _ _ ?_
   refine dk (by decide) hd8 hl4 (λi hi hne=>?_) (by simp only[go_sem,simprocAttr]) (by simp only[go_sem,simprocAttr]) (by simp only[go_sem,simprocAttr]) (by simp only[go_sem,simprocAttr]) (by simp only[go_sem,simprocAttr]) (λρ H' g2 g3 g4=>?_)
   ·rcases r9 hi with rfl|rfl|rfl|rfl|rfl|rfl|rfl|rfl<;>first|(exact absurd rfl hne)|simp only[go_sem,simprocAttr]
   ·simp only[bk,bh,go_sem,simprocAttr]
    repeat' refine ab ?_ ?_
    all_goals first|exact bu|skip
    all_goals first|exact Wv.os g2|exact Wv.os g3|exact Wv.os g4
  ·have g1:(3:Int)<((m+1:Nat):Int):=by omega
   have g2:3<m+1:=by omega
   have g3:4<=m+1:=by omega
   have g4:3<=m:=by omega
   clear hj0 hj1
   repeat first|with_reducible refine aw ?_|simp only[g1,g2,g3,g4,hrou,hl1,hl2,hl3,go_sem,simprocAttr]
   refine hQ _ _ ?_
   refine dk (by decide) hd8 hl4 (λi hi hne=>?_) (by simp only[go_sem,simprocAttr]) (by simp only[go_sem,simprocAttr]) (by simp only[go_sem,simprocAttr]) (by simp only[go_sem,simprocAttr]) (by simp only[go_sem,simprocAttr]) (λρ H' g2 g3 g4=>?_)
   ·rcases r9 hi with rfl|rfl|rfl|rfl|rfl|rfl|rfl|rfl<;>first|(exact absurd rfl hne)|simp only[go_sem,simprocAttr]
   ·simp only[bk,bh,go_sem,simprocAttr]
    repeat' refine ab ?_ ?_
    all_goals first|exact bu|skip
    all_goals first|exact Wv.os g2|exact Wv.os g3|exact Wv.os g4
  ·have g1:(4:Int)<((m+1:Nat):Int):=by omega
   have g2:4<m+1:=by omega
   have g3:5<=m+1:=by omega
   have g4:4<=m:=by omega
   clear hj0 hj1
   repeat first|with_reducible refine aw ?_|simp only[g1,g2,g3,g4,hrou,hl1,hl2,hl3,go_sem,simprocAttr]
   refine hQ _ _ ?_
   refine dk (by decide) hd8 hl4 (λi hi hne=>?_) (by simp only[go_sem,simprocAttr]) (by simp only[go_sem,simprocAttr]) (by simp only[go_sem,simprocAttr]) (by simp only[go_sem,simprocAttr]) (by simp only[go_sem,simprocAttr]) (λρ H' g2 g3 g4=>?_)
   ·rcases r9 hi with rfl|rfl|rfl|rfl|rfl|rfl|rfl|rfl<;>first|(exact absurd rfl hne)|simp only[go_sem,simprocAttr]
   ·simp only[bk,bh,go_sem,simprocAttr]
    repeat' refine ab ?_ ?_
    all_goals first|exact bu|skip
    all_goals first|exact Wv.os g2|exact Wv.os g3|exact Wv.os g4
  ·have g1:(5:Int)<((m+1:Nat):Int):=by omega
   have g2:5<m+1:=by omega
   have g3:6<=m+1:=by omega
   have g4:5<=m:=by omega
   clear hj0 hj1
   repeat first|with_reducible refine aw ?_|simp only[g1,g2,g3,g4,hrou,hl1,hl2,hl3,go_sem,simprocAttr]
   refine hQ _ _ ?_
   refine dk (by decide) hd8 hl4 (λi hi hne=>?_) (by simp only[go_sem,simprocAttr]) (by simp only[go_sem,simprocAttr]) (by simp only[go_sem,simprocAttr]) (by simp only[go_sem,simprocAttr]) (by simp only[go_sem,simprocAttr]) (λρ H' g2 g3 g4=>?_)
   ·rcases r9 hi with rfl|rfl|rfl|rfl|rfl|rfl|rfl|rfl<;>first|(exact absurd rfl hne)|simp only[go_sem,simprocAttr]
   ·simp only[bk,bh,go_sem,simprocAttr]
    repeat' refine ab ?_ ?_
    all_goals first|exact bu|skip
    all_goals first|exact Wv.os g2|exact Wv.os g3|exact Wv.os g4
  ·have g1:(6:Int)<((m+1:Nat):Int):=by omega
   have g2:6<m+1:=by omega
   have g3:7<=m+1:=by omega
   have g4:6<=m:=by omega
   clear hj0 hj1
   repeat first|with_reducible refine aw ?_|simp only[g1,g2,g3,g4,hrou,hl1,hl2,hl3,go_sem,simprocAttr]
   refine hQ _ _ ?_
   refine dk (by decide) hd8 hl4 (λi hi hne=>?_) (by simp only[go_sem,simprocAttr]) (by simp only[go_sem,simprocAttr]) (by simp only[go_sem,simprocAttr]) (by simp only[go_sem,simprocAttr]) (by simp only[go_sem,simprocAttr]) (λρ H' g2 g3 g4=>?_)
   ·rcases r9 hi with rfl|rfl|rfl|rfl|rfl|rfl|rfl|rfl<;>first|(exact absurd rfl hne)|simp only[go_sem,simprocAttr]
   ·simp only[bk,bh,go_sem,simprocAttr]
    repeat' refine ab ?_ ?_
    all_goals first|exact bu|skip
    all_goals first|exact Wv.os g2|exact Wv.os g3|exact Wv.os g4
  ·have g1:(7:Int)<((m+1:Nat):Int):=by omega
   have g2:7<m+1:=by omega
   have g3:8<=m+1:=by omega
   have g4:7<=m:=by omega
   clear hj0 hj1
   repeat first|with_reducible refine aw ?_|simp only[g1,g2,g3,g4,hrou,hl1,hl2,hl3,go_sem,simprocAttr]
   refine hQ _ _ ?_
   refine dk (by decide) hd8 hl4 (λi hi hne=>?_) (by simp only[go_sem,simprocAttr]) (by simp only[go_sem,simprocAttr]) (by simp only[go_sem,simprocAttr]) (by simp only[go_sem,simprocAttr]) (by simp only[go_sem,simprocAttr]) (λρ H' g2 g3 g4=>?_)
   ·rcases r9 hi with rfl|rfl|rfl|rfl|rfl|rfl|rfl|rfl<;>first|(exact absurd rfl hne)|simp only[go_sem,simprocAttr]
   ·simp only[bk,bh,go_sem,simprocAttr]
    repeat' refine ab ?_ ?_
    all_goals first|exact bu|skip
    all_goals first|exact Wv.os g2|exact Wv.os g3|exact Wv.os g4
theorem Af(ob:Nat->Option OB)(d:Nat)(s:BS){m:Nat}(hm:m<8):(ba ob (iv d s)).at m=some (mM s.lv m):=by
 rcases r9 hm with rfl|rfl|rfl|rfl|rfl|rfl|rfl|rfl<;>(simp only[go_sem,simprocAttr])
theorem uA(lv:Nat->List Nat)(m q:Nat):(mM lv m).get q= .n .i64 (((lv m).getD q 0:Nat):Int):=by
 have:=aL (ty:=3) (n:=(lv m).length) (z:=0) (row:=fe (lv m)) q 0 (by decide:0<1)
 rwa [Nat.mul_one,Nat.add_zero] at this
theorem wQ(l:List Nat)(q:Nat)(h:q<l.length):l.take (q+1)=l.take q++[l.getD q 0]:=by
 rw[List.take_succ_eq_append_getElem h,List.getD_eq_getElem?_getD,List.getElem?_eq_getElem h];rfl
theorem Hv{hints:bz}{Q:AE->Tr AV->AH->Prop}(cs:List In)(hn:cs.length<=16384)(r m k:Nat)(s:BS)(nb:List NB)(ob:Nat->Option OB)(mx:dl)(hk:k<cs.length)(hd:m+1=s.opn.length)(hb:wl (cs.map bq) k s nb)(hm8:m<8)(hob:ob r=some (.mp mx))(hown:mx.own=true)(hget:mx.get=fu s.pm)
  (hQ:∀e' H' ob' mx',Wk 126 e' H' (zo cs r m k) (ba ob' (iv m ⟨s.opn.take m,s.mid.take m,s.lv,dt k (s.lv m) (bX (bX s.pm (s.mid.getD m 0) k) k (s.opn.getD m 0))⟩))->ob' r=some (.mp mx')->mx'.own=true->mx'.get=fu (dt k (s.lv m) (bX (bX s.pm (s.mid.getD m 0) k) k (s.opn.getD m 0)))->Q .normal e' H'):
  GA Try.prog 126 hints (.seq (.reg B9) (.seq (.mix Cd) (.seq (.seq (.reg B8) (.block 5 Ce)) (.mix Cc)))) (aE ((7,.n .i64 k)::sY cs r (m+1) k)) (ba ob (iv (m+1) s)) Q:=by
 have hm0:IntKind.wrap .i64 (((m+1:Nat):Int)-1)=(m:Int):=by rw[aU (by omega)];omega
 have hj0:(0:Int)<=(m:Int):=by omega
 have hj1:(m:Int)<((m+1:Nat):Int):=by omega
 have hj2:(m:Int)<=((m+1:Nat):Int):=by omega
 have hj3:m<=m+1:=by omega
 have hj4:m<m+1:=by omega
 have hadd:∀j:Nat,j<100000->IntKind.wrap .i64 ((j:Int)+1)=((j+1:Nat):Int):=λj hj=>by rw[aU (by omega)];omega
 have hrg:∀(l:List Nat) (z:Nat),(aH 3 1 (m+1) z (fe l)).get m= .n .i64 ((l.getD m 0:Nat):Int):=λl z=>by
  have:=aL (ty:=3) (n:=m+1) (z:=z) (row:=fe l) m 0 (by decide:0<1)
  rwa [Nat.mul_one,Nat.add_zero] at this
 have hrou:(aH 39 1 (m+1) 0 (oD s.lv)).get m= .os m (s.lv m).length:=by
  have:=aL (ty:=39) (n:=m+1) (z:=0) (row:=oD s.lv) m 0 (by decide:0<1)
  rwa [Nat.mul_one,Nat.add_zero] at this
 repeat first|with_reducible refine aw ?_|simp only[hm0,hj0,hj1,hj4,hrg,hob,go_sem,simprocAttr]
 refine r8 hown (λst=>?_)
 repeat first|with_reducible refine aw ?_|simp only[go_sem,simprocAttr]
 refine sI ((s.mid.getD m 0:Nat):Int) hown rfl rfl ?_
 repeat first|with_reducible refine aw ?_|simp only[go_sem,simprocAttr]
 refine r8 hown (λst2=>?_)
 repeat first|with_reducible refine aw ?_|simp only[go_sem,simprocAttr]
 refine sI (k:Int) hown rfl rfl ?_
 have hg1:=(pn mx (.n .i64 0) ((s.mid.getD m 0:Nat):Int) st (.n .i64 (k:Int))).trans (ic hget ((s.mid.getD m 0:Nat):Int) (k:Int))
 have hg3:=(pn ((mx.ask (.n .i64 0) ((s.mid.getD m 0:Nat):Int) st).put ((s.mid.getD m 0:Nat):Int) (.n .i64 (k:Int))) (.n .i64 0) (k:Int) st2 (.n .i64 ((s.opn.getD m 0:Nat):Int))).trans (ic hg1 (k:Int) ((s.opn.getD m 0:Nat):Int))
 clear hg1
 generalize hpm1:bX (bX s.pm ((s.mid.getD m 0:Nat):Int) k) (k:Int) ((s.opn.getD m 0:Nat):Int)=pm1 at hg3 hQ
 repeat first|with_reducible refine aw ?_|simp only[hj0,hj1,hj4,hrou,go_sem,simprocAttr]
 have hat:∀ob,(ba ob (iv (m+1) s)).at m=some (mM s.lv m):=λob=>Af ob (m+1) s hm8
 have hll:=(hb.lvs m).1
 refine GA.loop (I:=λmm e H=>∃(q:Nat) (ob2:Nat->Option OB) (x2:dl),mm=(s.lv m).length-q/\q<=(s.lv m).length/\ob2 r=some (.mp x2)/\x2.own=true/\x2.get=fu (dt k ((s.lv m).take q) pm1)/\e=aE ((105,.os m (s.lv m).length)::(106,.n .i64 (s.lv m).length)::(107,.n .i64 q)::(11,.n .i64 m)::(7,.n .i64 k)::sY cs r (m+1) k)/\H=ba ob2 (iv (m+1) s)) (Wk.mkS [10,9,8,7,6,5,4,3,2,1,0] [] ?_ ?_ ?_) ⟨0,_,(((mx.ask (.n .i64 0) ((s.mid.getD m 0:Nat):Int) st).put ((s.mid.getD m 0:Nat):Int) (.n .i64 (k:Int))).ask (.n .i64 0) (k:Int) st2).put (k:Int) (.n .i64 ((s.opn.getD m 0:Nat):Int)),rfl,Nat.zero_le _,aJ _ _ _,hown,hg3,rfl,rfl⟩ ?_
 ·simp only[bk,bh,go_sem,simprocAttr]
  repeat' refine ab ?_ ?_
  all_goals first|exact bu|skip
  all_goals exact Wv.os (Ao hm8)
 ·exact .cons rfl (.ou (by simp only[go_sem,simprocAttr]) (by omega)) (.cons rfl .k1 (.cons rfl .k1 (.cons rfl .k1 (.cons rfl .k1 (.cons rfl .k1 (.cons rfl .k1 (.cons rfl .k1 (.cons rfl .k1 (.cons rfl .k1 (.cons rfl .k1 .nil))))))))))
 ·simp
 rintro mm e H ⟨q,ob2,x2,rfl,hq,hob2,hown2,hget2,rfl,rfl⟩
 repeat first|with_reducible refine aw ?_|simp only[go_sem,simprocAttr]
 refine⟨λh=>?_,λh=>?_⟩
 ·have hql:q<(s.lv m).length:=by omega
  have hq0:(0:Int)<=(q:Int):=by omega
  have ha:=hadd q (by omega)
  have hput:=(Az x2 (((s.lv m).getD q 0:Nat):Int) (.n .i64 (k:Int))).trans (ic hget2 (((s.lv m).getD q 0:Nat):Int) (k:Int))
  rw[<-lB,<-wQ _ _ hql] at hput
  repeat first|with_reducible refine aw ?_|simp only[hq0,h,hat,uA,hql,hob2,hown2,ha,go_sem,simprocAttr]
  refine⟨_,_,_,?_,Wk.mkS [10,9,8,7,6,5,4,3,2,1,0] [] ?_ ?_ ?_,q+1,_,x2.put (((s.lv m).getD q 0:Nat):Int) (.n .i64 (k:Int)),rfl,hql,aJ _ _ _,hown2,hput,rfl,rfl⟩
  ·omega
  ·simp only[bk,bh,go_sem,simprocAttr]
   repeat' refine ab ?_ ?_
   all_goals first|exact bu|skip
   all_goals exact Wv.os (Ao hm8)
  ·exact .cons rfl (.ou (by simp only[go_sem,simprocAttr]) (by omega)) (.cons rfl .k1 (.cons rfl .k1 (.cons rfl .k1 (.cons rfl .k1 (.cons rfl .k1 (.cons rfl .k1 (.cons rfl .k1 (.cons rfl .k1 (.cons rfl .k1 (.cons rfl .k1 .nil))))))))))
  ·simp
 ·have hq2:q=(s.lv m).length:=by omega
  subst hq2
  rw[List.take_length] at hget2
  repeat first|with_reducible refine aw ?_|simp only[hj0,hj2,hj3,go_sem,simprocAttr]
  refine hQ _ _ ob2 x2 ?_ hob2 hown2 hget2
  refine Wk.mkS [10,9,8,7,6,5,4,3,2,1,0] [] ?_ ?_ ?_
  ·simp only[bk,bh,go_sem,simprocAttr]
   repeat' refine ab ?_ ?_
   all_goals first|exact bu|skip
  ·refine .cons rfl (.rowW (by simp only[go_sem,simprocAttr];rfl) (by rfl) (by rfl) (by rfl) (by show m*1<=(m+1)*1;omega) (by exact Nat.le_refl _) rfl (by decide) (λi j hi hj=>?_)) (.cons rfl (.rowW (by simp only[go_sem,simprocAttr];rfl) (by rfl) (by rfl) (by rfl) (by show m*1<=(m+1)*1;omega) (by exact Nat.le_refl _) rfl (by decide) (λi j hi hj=>?_)) (.cons rfl (.rowW (by simp only[go_sem,simprocAttr];rfl) (by rfl) (by rfl) (by rfl) (by show m*1<=(m+1)*1;omega) (by exact Nat.le_refl _) rfl (by decide) (λi j hi hj=>?_)) (.cons rfl .k1 (.cons rfl .k1 (.cons rfl .k1 (.cons rfl .k1 (.cons rfl .k1 (.cons rfl .k1 (.cons rfl .k1 (.cons rfl .k1 .nil))))))))))
   ·rw[aL i j hj];exact Wv.os (Ao (by omega))
   ·rw[aL i j hj,qk _ m i j hi];exact Wv.same rfl
   ·rw[aL i j hj,qk _ m i j hi];exact Wv.same rfl
  ·simp
theorem sX(cs:List In)(hn:cs.length<=16384)(hnest:(aX (cs.map bq) 0 []).2=false):iw Try.prog 86 [.fs 5 cs.length (cC cs)] (λ_=>True) (λM rs N=>∃(r:Nat) (x:dl),rs=[.v (.cv (.map (some r)))]/\N r=some (.mp x)/\x.get=fu (cI (cs.map bq) (cs.map bq).length 0 ⟨[],[],λ_=>[],λ_=>none⟩).pm/\∀r',r'≠r->N r'=none):=by
 have hadd:∀j:Nat,j<100000->IntKind.wrap .i64 ((j:Int)+1)=((j+1:Nat):Int):=λj hj=>by rw[aU (by omega)];omega
 refine jw bf Qj ⟨by simp,by decide⟩ λM hM=>?_
 simp only[bI]
 repeat first|with_reducible refine aw ?_|simp only[go_sem,simprocAttr]
 refine fR (λr hr=>?_)
 repeat first|with_reducible refine aw ?_|simp only[go_sem,simprocAttr]
 refine GA.wk (Wk.addNil 1 3 (by simp only[go_sem,simprocAttr])) ?_
 refine GA.wk (Wk.addNil 1 3 (by simp only[go_sem,simprocAttr])) ?_
 refine GA.wk (Wk.addNil 1 3 (by simp only[go_sem,simprocAttr])) ?_
 refine GA.wk (Wk.addNil 1 3 (by simp only[go_sem,simprocAttr])) ?_
 refine GA.wk (Wk.addNil 1 3 (by simp only[go_sem,simprocAttr])) ?_
 refine GA.wk (Wk.addNil 1 3 (by simp only[go_sem,simprocAttr])) ?_
 refine GA.wk (Wk.addNil 1 3 (by simp only[go_sem,simprocAttr])) ?_
 refine GA.wk (Wk.addNil 1 3 (by simp only[go_sem,simprocAttr])) ?_
 refine GA.wk (Wk.nil 4 1 3 (by simp only[go_sem,simprocAttr]) (by decide) (by simp only[go_sem,simprocAttr])) ?_
 refine GA.wk (Wk.nil 5 1 3 (by simp only[go_sem,simprocAttr]) (by decide) (by simp only[go_sem,simprocAttr])) ?_
 refine GA.wk (Wk.nil 6 1 39 (by simp only[go_sem,simprocAttr]) (by decide) (by simp only[go_sem,simprocAttr])) ?_
 have hcd:(cs.map bq).length=cs.length:=List.length_map ..
 refine GA.loop (I:=λmm e H=>∃(k d:Nat) (s:BS) (nb:List NB) (ob:Nat->Option OB) (x:dl),mm=cs.length-k/\d=s.opn.length/\wl (cs.map bq) k s nb/\ob r=some (.mp x)/\x.own=true/\x.get=fu s.pm/\e=zo cs r d k/\H=ba ob (iv d s))
  (Wk.mkS [10,9,8,7,6,5,4,3,2,1,0] [] ?_ ?_ ?_) ⟨0,0,⟨[],[],λ_=>[],λ_=>none⟩,[],_,_,rfl,rfl,⟨Nat.zero_le _,rfl,hnest,AY _,by decide,rfl,λx hx=>(by cases hx),λx hx=>(by cases hx),λj=>⟨Nat.zero_le _,λx hx=>(by cases hx)⟩⟩,aJ _ _ _,rfl,rfl,rfl,rfl⟩ ?_
 ·simp only[bk,bh,go_sem,simprocAttr]
  repeat' refine ab ?_ ?_
  all_goals first|exact bu|skip
 ·have key:∀{b ty:Nat} {H:AH} {row:Nat->Nat->AV},H.at b=some (gh 1 ty)->cZ (λb2=>([10,9,8,7,6,5,4,3,2,1,0]:List Nat).reverse[b2]?) [] H b (aH ty 1 0 0 row):=λhx=> .rowW hx rfl rfl rfl (Nat.le_refl _) (Nat.le_refl _) rfl (by decide) (λi j hi=>by omega)
  refine .cons rfl (key ?_) (.cons rfl (key ?_) (.cons rfl (key ?_) (.cons rfl (key ?_) (.cons rfl (key ?_) (.cons rfl (key ?_) (.cons rfl (key ?_) (.cons rfl (key ?_) (.cons rfl (key ?_) (.cons rfl (key ?_) (.cons rfl (key ?_) .nil))))))))))
  all_goals simp only[go_sem,simprocAttr]
  all_goals rfl
 ·simp
 rintro mm e H ⟨k,d,s,nb,ob,mx,rfl,hd,hb,hob,hown,hget,rfl,rfl⟩
 repeat first|with_reducible refine aw ?_|simp only[go_sem,simprocAttr]
 refine⟨λh=>?_,λh=>?_⟩
 ·have hkl:k<cs.length:=by omega
  have hk0:(0:Int)<=(k:Int):=by omega
  have ha:=hadd k (by omega)
  have hcc0:=ww cs k
  have hcc1:=CB cs k
  have hcc2:=CA cs k
  have hcc3:=Cz cs k
  have hcc4:=Cy cs k
  have hopk:=nI cs hkl
  obtain⟨nb',hnb,hnest'⟩:=A2 (by rw[hcd];exact hkl) hb.nest
  rw[hopk] at hnb
  generalize hx:cs.getD k (0,0,0,0,0)=x at hcc0 hcc1 hcc2 hcc3 hcc4 hopk hnb
  obtain⟨op,to,a,b,arg⟩:=x
  have hbn:=hb.next (by rw[hcd];exact hkl) (by rw[hopk];exact hnb) hnest'
  have hd8:d<=8:=by rw[hd,<-hb.nr.len];exact hb.l8
  simp only at hopk hnb
  have hcase:(op=27\/op=29)\/op=28\/op=30\/op=31\/¬dN op:=by
   unfold dN;omega
  rcases hcase with h1|h1|h1|h1|h1
  ·
   have hd7:d<8:=by
    have hl:=hb.nr.len
    rcases h1 with rfl|rfl
    ·simp only[aD,if_true] at hnb
     split at hnb
     ·omega
     ·cases hnb
    ·simp only[aD,if_true,show ¬(29:Int)=27 by decide,if_false] at hnb
     split at hnb
     ·omega
     ·cases hnb
   rw[jE (by rw[hopk];exact h1)] at hbn
   have hmd:s.mid.length=d:=by rw[hb.mid,hd]
   rw[<-hd] at hbn
   have hl1:d+1<1099511627776:=by omega
   have hl2:(d+1)*8<=140737488355328:=by omega
   have hl3:(d+1)*24<=140737488355328:=by omega
   have hl4:d<=9223372036854775806:=by omega
   rcases h1 with rfl|rfl
   ·repeat first|with_reducible refine aw ?_|simp only[hk0,h,hcc0,hcc1,hcc2,hcc3,hcc4,decide_true,decide_false,ha,hl1,hl2,hl3,hl4,go_sem,simprocAttr]
    refine⟨_,zo cs r (d+1) (k+1),ba ob (iv (d+1) ⟨s.opn++[k],s.mid++[k],aZ s.lv d [],s.pm⟩),?_,qd hd7 (by rw[hb.mid,hd]) hd.symm (λi hi=>by rcases r9 hi with rfl|rfl|rfl|rfl|rfl|rfl|rfl|rfl<;>simp only[go_sem,simprocAttr]) (by simp only[go_sem,simprocAttr]) (by simp only[go_sem,simprocAttr]) (by simp only[go_sem,simprocAttr]) (by simp only[go_sem,simprocAttr]) (by simp only[go_sem,simprocAttr]) (λρ H' g2 g3 g4=>?_),k+1,d+1,⟨s.opn++[k],s.mid++[k],aZ s.lv d [],s.pm⟩,nb',ob,mx,rfl,by simp only[List.length_append,List.length_singleton];omega,hbn,hob,hown,hget,rfl,rfl⟩
    ·omega
    ·simp only[bk,bh,go_sem,simprocAttr]
     repeat' refine ab ?_ ?_
     all_goals first|exact bu|skip
     all_goals first|exact Wv.os g2|exact Wv.os g3|exact Wv.os g4
   ·repeat first|with_reducible refine aw ?_|simp only[hk0,h,hcc0,hcc1,hcc2,hcc3,hcc4,decide_true,decide_false,ha,hl1,hl2,hl3,hl4,go_sem,simprocAttr]
    refine⟨_,zo cs r (d+1) (k+1),ba ob (iv (d+1) ⟨s.opn++[k],s.mid++[k],aZ s.lv d [],s.pm⟩),?_,qd hd7 (by rw[hb.mid,hd]) hd.symm (λi hi=>by rcases r9 hi with rfl|rfl|rfl|rfl|rfl|rfl|rfl|rfl<;>simp only[go_sem,simprocAttr]) (by simp only[go_sem,simprocAttr]) (by simp only[go_sem,simprocAttr]) (by simp only[go_sem,simprocAttr]) (by simp only[go_sem,simprocAttr]) (by simp only[go_sem,simprocAttr]) (λρ H' g2 g3 g4=>?_),k+1,d+1,⟨s.opn++[k],s.mid++[k],aZ s.lv d [],s.pm⟩,nb',ob,mx,rfl,by simp only[List.length_append,List.length_singleton];omega,hbn,hob,hown,hget,rfl,rfl⟩
    ·omega
    ·simp only[bk,bh,go_sem,simprocAttr]
     repeat' refine ab ?_ ?_
     all_goals first|exact bu|skip
     all_goals first|exact Wv.os g2|exact Wv.os g3|exact Wv.os g4
  ·
   obtain⟨m,hm⟩:∃m,d=m+1:=by
    rw[h1] at hnb
    simp only[aD,if_true,show ¬(28:Int)=27 by decide,show ¬(28:Int)=29 by decide,if_false] at hnb
    split at hnb
    ·rename_i hc
     have:nb.length≠0:=λe=>hc.1 (List.eq_nil_of_length_eq_zero e)
     have:=hb.nr.len
     exact⟨d-1,by omega⟩
    ·cases hnb
   subst hm
   subst h1
   rw[pg hopk] at hbn
   have hm0:IntKind.wrap .i64 (((m+1:Nat):Int)-1)=(m:Int):=by rw[aU (by omega)];omega
   have hmi:(0:Int)<=(m:Int):=by omega
   have hml:(m:Int)<((m+1:Nat):Int):=by omega
   have hml2:m+1<=m+1:=Nat.le_refl _
   have hnt:∀(l:List Nat) (i:Nat),fe l i 0= .n .i64 ((l.getD i 0:Nat):Int):=λ_ _=>rfl
   have hrg:∀(l:List Nat) (z:Nat),(aH 3 1 (m+1) z (fe l)).get m= .n .i64 ((l.getD m 0:Nat):Int):=λl z=>by
    have:=aL (ty:=3) (n:=m+1) (z:=z) (row:=fe l) m 0 (by decide:0<1)
    rwa [Nat.mul_one,Nat.add_zero] at this
   rw[<-hd,Nat.add_sub_cancel] at hbn
   repeat first|with_reducible refine aw ?_|simp only[hk0,h,hcc0,hcc1,hcc2,hcc3,hcc4,decide_true,decide_false,hm0,hmi,hml,hml2,hrg,Nat.lt_succ_self,hob,go_sem,simprocAttr]
   refine r8 hown (λst=>?_)
   repeat first|with_reducible refine aw ?_|simp only[go_sem,simprocAttr]
   refine sI ((s.opn.getD m 0:Nat):Int) hown rfl rfl ?_
   repeat first|with_reducible refine aw ?_|simp only[hmi,hml,hml2,ha,go_sem,simprocAttr]
   refine⟨_,_,_,?_,Wk.mkS [10,9,8,7,6,5,4,3,2,1,0] [] ?_ ?_ ?_,k+1,m+1,⟨s.opn,s.mid.set m k,s.lv,bX s.pm ((s.opn.getD m 0:Nat):Int) k⟩,nb',_,((mx.ask (.n .i64 0) ((s.opn.getD m 0:Nat):Int) st).put ((s.opn.getD m 0:Nat):Int) (.n .i64 (k:Int))),rfl,hd,hbn,aJ _ _ _,hown,(pn _ _ _ _ _).trans (ic hget _ _),rfl,rfl⟩
   ·omega
   ·simp only[bk,bh,go_sem,simprocAttr]
    repeat' refine ab ?_ ?_
    all_goals first|exact bu|skip
   ·refine .cons rfl (.ou (by simp only[go_sem,simprocAttr]) hd8) (.cons rfl (.put (q:=m) (by simp only[go_sem,simprocAttr];rfl) (by simp) rfl (by omega) rfl (by decide) (by omega) (λi j hi hj=>AW _ _ _ (by rw[hb.mid,<-hd];omega) _ _ (by rw[hb.mid,<-hd];exact hi) hj) (λi j hi hj=>rfl)) (.cons rfl .k1 (.cons rfl .k1 (.cons rfl .k1 (.cons rfl .k1 (.cons rfl .k1 (.cons rfl .k1 (.cons rfl .k1 (.cons rfl .k1 (.cons rfl .k1 .nil))))))))))
   ·simp
  ·
   subst h1
   rw[mB hopk] at hbn
   have hex:∃i,i<d/\aq (cs.map bq) (s.opn.getD i 0)=29:=by
    simp only[aD,if_true,show ¬(30:Int)=27 by decide,show ¬(30:Int)=29 by decide,show ¬(30:Int)=28 by decide,if_false] at hnb
    split at hnb
    ·rename_i hw
     have:=hb.nr.lp s.opn.length (Nat.le_refl _) (by rw[List.take_of_length_le (by rw[hb.nr.len];exact Nat.le_refl _)];exact hw)
     rw[hd];exact this
    ·cases hnb
   (try simp only[hk0,h,hcc0,hcc1,hcc2,hcc3,hcc4,decide_true,decide_false,go_sem,simprocAttr])
   iterate 20 (with_reducible refine GA.go bf rfl ?_;try simp only[hk0,h,hcc0,hcc1,hcc2,hcc3,hcc4,decide_true,decide_false,go_sem,simprocAttr])
   refine GA.wk (Wk.mkS (L:=(7,.n .i64 k)::sY cs r d k) (bl:=iv d s) [10,9,8,7,6,5,4,3,2,1,0] [] ?_ ?_ ?_) ?_
   ·simp only[bk,bh,go_sem,simprocAttr]
    repeat' refine ab ?_ ?_
    all_goals first|exact bu|skip
   ·exact .cons rfl (.ou (by simp only[go_sem,simprocAttr]) hd8) (.cons rfl .k1 (.cons rfl .k1 (.cons rfl .k1 (.cons rfl .k1 (.cons rfl .k1 (.cons rfl .k1 (.cons rfl .k1 (.cons rfl .k1 (.cons rfl .k1 (.cons rfl .k1 .nil))))))))))
   ·simp
   refine zp cs hn r d k s nb ob hkl hd hb hd8 hex (λe' H' hwk=>?_)
   simp only[go_sem,simprocAttr]
   refine GA.wk hwk ?_
   repeat first|with_reducible refine aw ?_|simp only[ha,go_sem,simprocAttr]
   refine⟨_,_,_,?_,Wk.mkS [10,9,8,7,6,5,4,3,2,1,0] [] ?_ ?_ ?_,k+1,d,⟨s.opn,s.mid,aZ s.lv (bj (cs.map bq) s.opn s.opn.length) (s.lv (bj (cs.map bq) s.opn s.opn.length)++[k]),s.pm⟩,nb',ob,mx,rfl,hd,hbn,hob,hown,hget,rfl,rfl⟩
   ·omega
   ·simp only[bk,bh,go_sem,simprocAttr]
    repeat' refine ab ?_ ?_
    all_goals first|exact bu|skip
   ·exact .cons rfl (.ou (by simp only[go_sem,simprocAttr]) hd8) (.cons rfl .k1 (.cons rfl .k1 (.cons rfl .k1 (.cons rfl .k1 (.cons rfl .k1 (.cons rfl .k1 (.cons rfl .k1 (.cons rfl .k1 (.cons rfl .k1 (.cons rfl .k1 .nil))))))))))
   ·simp
  ·
   obtain⟨m,hm⟩:∃m,d=m+1:=by
    rw[h1] at hnb
    simp only[aD,if_true,show ¬(31:Int)=27 by decide,show ¬(31:Int)=29 by decide,show ¬(31:Int)=28 by decide,show ¬(31:Int)=30 by decide,if_false] at hnb
    split at hnb
    ·rename_i hc
     have:nb.length≠0:=λe=>hc (List.eq_nil_of_length_eq_zero e)
     have:=hb.nr.len
     exact⟨d-1,by omega⟩
    ·cases hnb
   subst hm
   subst h1
   rw[sW hopk,<-hd,Nat.add_sub_cancel] at hbn
   (try simp only[hk0,h,hcc0,hcc1,hcc2,hcc3,hcc4,decide_true,decide_false,go_sem,simprocAttr])
   iterate 23 (with_reducible refine GA.go bf rfl ?_;try simp only[hk0,h,hcc0,hcc1,hcc2,hcc3,hcc4,decide_true,decide_false,go_sem,simprocAttr])
   refine GA.wk (Wk.mkS (L:=(7,.n .i64 k)::sY cs r (m+1) k) (bl:=iv (m+1) s) [10,9,8,7,6,5,4,3,2,1,0] [] ?_ ?_ ?_) ?_
   ·simp only[bk,bh,go_sem,simprocAttr]
    repeat' refine ab ?_ ?_
    all_goals first|exact bu|skip
   ·exact .cons rfl (.ou (by simp only[go_sem,simprocAttr]) hd8) (.cons rfl .k1 (.cons rfl .k1 (.cons rfl .k1 (.cons rfl .k1 (.cons rfl .k1 (.cons rfl .k1 (.cons rfl .k1 (.cons rfl .k1 (.cons rfl .k1 (.cons rfl .k1 .nil))))))))))
   ·simp
   refine Hv cs hn r m k s nb ob mx hkl hd hb (by omega) hob hown hget (λe' H' ob' mx' hwk hob' hown' hget'=>?_)
   simp only[go_sem,simprocAttr]
   refine GA.wk hwk ?_
   repeat first|with_reducible refine aw ?_|simp only[ha,go_sem,simprocAttr]
   refine⟨_,_,_,?_,Wk.mkS [10,9,8,7,6,5,4,3,2,1,0] [] ?_ ?_ ?_,k+1,m,⟨s.opn.take m,s.mid.take m,s.lv,dt k (s.lv m) (bX (bX s.pm (s.mid.getD m 0) k) k (s.opn.getD m 0))⟩,nb',ob',mx',rfl,by rw[List.length_take];omega,hbn,hob',hown',hget',rfl,rfl⟩
   ·omega
   ·simp only[bk,bh,go_sem,simprocAttr]
    repeat' refine ab ?_ ?_
    all_goals first|exact bu|skip
   ·exact .cons rfl (.ou (by simp only[go_sem,simprocAttr]) (by omega)) (.cons rfl .k1 (.cons rfl .k1 (.cons rfl .k1 (.cons rfl .k1 (.cons rfl .k1 (.cons rfl .k1 (.cons rfl .k1 (.cons rfl .k1 (.cons rfl .k1 (.cons rfl .k1 .nil))))))))))
   ·simp
  ·rw[mA (by rw[hopk];exact h1)] at hbn
   have hn27:¬op=27:=λe=>h1 (.inl e)
   have hn28:¬op=28:=λe=>h1 (.inr (.inl e))
   have hn29:¬op=29:=λe=>h1 (.inr (.inr (.inl e)))
   have hn30:¬op=30:=λe=>h1 (.inr (.inr (.inr (.inl e))))
   have hn31:¬op=31:=λe=>h1 (.inr (.inr (.inr (.inr e))))
   repeat first|with_reducible refine aw ?_|simp only[hk0,h,hcc0,hcc1,hcc2,hcc3,hcc4,hn27,hn28,hn29,hn30,hn31,decide_false,ha,go_sem,simprocAttr]
   refine⟨_,_,_,?_,Wk.mkS [10,9,8,7,6,5,4,3,2,1,0] [] ?_ ?_ ?_,k+1,d,s,nb',ob,mx,rfl,hd,hbn,hob,hown,hget,rfl,rfl⟩
   ·omega
   ·simp only[bk,bh,go_sem,simprocAttr]
    repeat' refine ab ?_ ?_
    all_goals first|exact bu|skip
   ·exact .cons rfl (.ou (by simp only[go_sem,simprocAttr]) hd8) (.cons rfl .k1 (.cons rfl .k1 (.cons rfl .k1 (.cons rfl .k1 (.cons rfl .k1 (.cons rfl .k1 (.cons rfl .k1 (.cons rfl .k1 (.cons rfl .k1 (.cons rfl .k1 .nil))))))))))
   ·simp
 ·have hk:k=cs.length:=by have:=hb.le;omega
  subst hk
  repeat first|with_reducible refine aw ?_|simp only[go_sem,simprocAttr]
  have hrun:=hb.run
  rw[hcd,Nat.sub_self] at hrun
  refine⟨_,λr'=>if r'=r then some (.mp mx) else none,[_],⟨r,mx,rfl,if_pos rfl,by rw[hget,hcd,<-hrun];rfl,λr' hr'=>if_neg hr'⟩,rfl,⟨⟨rfl,rfl⟩,True.intro⟩,λr' x hx=>?_⟩
  have hx:(if r'=r then some (OB.mp mx) else none)=some x:=hx
  split at hx
  ·rename_i e
   cases hx
   subst e
   exact⟨hob,hown⟩
  ·cases hx
abbrev bU(cs:List In)(i:Nat):Int:=(cs.getD i (0,0,0,0,0)).1
def nxt(cs:List In)(pt:Nat->Nat)(i:Nat):List Nat:=
 if bU cs i=27 then[i+1,if bU cs (pt i)=31 then pt i else pt i+1]
 else if bU cs i=29\/bU cs i=30 then[i+1,pt i+1]
 else if bU cs i=28 then[pt i+1]
 else if bU cs i=31 then(if bU cs (pt i)=29 then[i+1,pt i+1] else[i+1])
 else[i+1]
theorem dQ{r:Nat->Option Nat}{M:List Nat}{H:AH}{nx:Nat->List Nat}{ty i z q j:Nat}{v:AV}(hn:i<1000000)(hq:q<i+1)(hj:j<1)(h:Cv M H v (gC nx i 0)):Wv r M H (((aH ty 1 i z (gC nx)).app i (.li [v])).get (q*1+j)) (gC nx q j):=by
 obtain rfl:j=0:=by omega
 rw[Nat.mul_one,Nat.add_zero,db _ _ _ hn _ hq]
 by_cases e:q<i
 ·rw[if_pos e]
  have:=aL (ty:=ty) (n:=i) (z:=z) (row:=gC nx) q 0 (by decide:0<1)
  rw[Nat.mul_one,Nat.add_zero] at this
  rw[this]
  exact .cv (.rfl (O5 _ _ _))
 ·obtain rfl:q=i:=by omega
  rw[if_neg e]
  exact .cv h
theorem oO{M:List Nat}{H:AH}{nx:Nat->List Nat}{i a b:Nat}{x:AB}(hx:H.at b=some x)(hm:M.contains b=true)(hs:1=x.size)(hnx:nx i=[a])(hg:x.get 0= .n .i64 (a:Int)):Cv M H (.sl b 0 1 1) (gC nx i 0):=by
 unfold gC
 rw[hnx]
 refine .sl (by simpa using hm) hx (by rw[<-hs];decide) (by decide) (by rw[<-hs];decide) (λp j hp hj=>?_) (λp j hp hj=>rfl)
 obtain rfl:p=0:=by have hp':p<1:=hp;omega
 obtain rfl:j=0:=by omega
 exact hg
theorem mb{M:List Nat}{H:AH}{nx:Nat->List Nat}{i a a2 b:Nat}{x:AB}(hx:H.at b=some x)(hm:M.contains b=true)(hs:2=x.size)(hnx:nx i=[a,a2])(hg:x.get 0= .n .i64 (a:Int))(hg2:x.get 1= .n .i64 (a2:Int)):Cv M H (.os b 2) (gC nx i 0):=by
 unfold gC
 rw[hnx]
 refine .os (by simpa using hm) hx (by rw[<-hs];decide) (λp j hp hj=>?_) (λp j hp hj=>rfl)
 obtain rfl:j=0:=by omega
 have hp':p<2:=hp
 obtain rfl|rfl:p=0\/p=1:=by omega
 ·exact hg
 ·exact hg2
theorem qE(ty:Nat)(v w:AV):((AB.mk 1 1 ty (λ_=> .u) (eB [v]) false true 0).app 1 (.li [w])).get 0=v:=by
 rw[db _ _ _ (by decide) _ (by decide),if_pos (by decide)]
 rfl
theorem qD(ty:Nat)(v w:AV):((AB.mk 1 1 ty (λ_=> .u) (eB [v]) false true 0).app 1 (.li [w])).get 1=w:=by
 rw[db _ _ _ (by decide) _ (by decide),if_neg (by decide)]
theorem vA(cs:List In)(hn:cs.length<=16384)(pm:Int->Option Int)(pt:Nat->Nat)(hpt:∀i,i<cs.length->dN (bU cs i)->pm i=some (pt i:Int)/\pt i<cs.length)
  (hbl:iw Try.prog 86 [.fs 5 cs.length (cC cs)] (λ_=>True) (λM rs N=>∃(r:Nat) (x:dl),rs=[.v (.cv (.map (some r)))]/\N r=some (.mp x)/\x.get=fu pm/\∀r',r'≠r->N r'=none)):
  bR Try.prog 66 [.fs 5 cs.length (cC cs)] [.v (.fs 1 cs.length (gC (nxt cs pt)))]:=by
 have hadd:∀j:Nat,j<100000->IntKind.wrap .i64 ((j:Int)+1)=((j+1:Nat):Int):=λj hj=>by rw[aU (by omega)];omega
 refine aK bf P8 ⟨by simp,by decide⟩ ?_
 simp only[bI]
 repeat first|with_reducible refine aw ?_|simp only[go_sem,simprocAttr]
 refine bN [] (.cons (.rfl (by rfl)) .nil) hbl True.intro (by simp only[go_sem,simprocAttr]) ?_
 rintro rs N ⟨r,mx,rfl,hNr,hget,_⟩ hfree
 repeat first|with_reducible refine aw ?_|simp only[go_sem,simprocAttr]
 refine GA.wk (Wk.nil 4 1 39 (by simp only[go_sem,simprocAttr]) (by decide) (by simp only[go_sem,simprocAttr])) ?_
 refine GA.loop (I:=λmm e H=>∃(i:Nat) (ob:Nat->Option OB),mm=cs.length-i/\i<=cs.length/\ob r=some (.mp mx)/\e=aE [(3,.cv (.map (some r))),(4,.os 0 i),(11,.fs 5 cs.length (cC cs)),(0,.fs 5 cs.length (cC cs)),(12,.n .i64 cs.length),(13,.n .i64 i)]/\H=ba ob [aH 39 1 i 0 (gC (nxt cs pt))]) (Wk.mkS [0] [] ?_ ?_ ?_) ⟨0,_,rfl,Nat.zero_le _,?_,rfl,rfl⟩ ?_
 ·simp only[bk,bh,go_sem,simprocAttr]
  repeat' refine ab ?_ ?_
  all_goals first|exact bu|skip
 ·exact .cons rfl (.rowW (by simp only[go_sem,simprocAttr];rfl) (by rfl) (by rfl) (by rfl) (by decide) (by exact Nat.le_refl _) rfl (by decide) (λi j hi=>by omega)) .nil
 ·simp
 ·simp only[go_sem,simprocAttr]
  rw[eJ (by first|rfl|(rw[bP]))]
  exact hNr
 rintro mm e H ⟨i,ob,rfl,hi,hob,rfl,rfl⟩
 repeat first|with_reducible refine aw ?_|simp only[go_sem,simprocAttr]
 refine⟨λh=>?_,λh=>?_⟩
 ·have hil:i<cs.length:=by omega
  have hi0:(0:Int)<=(i:Int):=by omega
  have ha:=hadd i (by omega)
  have hcc0:=ww cs i
  have hcc1:=CB cs i
  have hcc2:=CA cs i
  have hcc3:=Cz cs i
  have hcc4:=Cy cs i
  have hl1:i+1<1099511627776:=by omega
  have hl2:(i+1)*24<=140737488355328:=by omega
  have hl3:i<=9223372036854775806:=by omega
  have hnx:nxt cs pt i=nxt cs pt i:=rfl
  have hpti:=hpt i hil
  conv at hnx=>rhs;unfold nxt bU
  have hopi:bU cs i=(cs.getD i (0,0,0,0,0)).1:=rfl
  generalize hx:cs.getD i (0,0,0,0,0)=x at hcc0 hcc1 hcc2 hcc3 hcc4 hnx hopi
  obtain⟨op,to,a,b,arg⟩:=x
  simp only at hopi hnx
  rw[hopi] at hpti
  have hcase:op=27\/(op=29\/op=30)\/op=28\/op=31\/¬dN op:=by unfold dN;omega
  have hlk:dN op->mx.look false (.n .i64 0) (i:Int)= .n .i64 (pt i:Int):=λhb=>by
   rw[sf hget,(hpti hb).1];rfl
  have hpl:dN op->(pt i:Int)<(cs.length:Int):=λhb=>by have:=(hpti hb).2;omega
  have hp0:(0:Int)<=(pt i:Int):=by omega
  have hap:dN op->IntKind.wrap .i64 ((pt i:Int)+1)=((pt i+1:Nat):Int):=λhb=>by have:=(hpti hb).2;exact hadd _ (by omega)
  have hpc0:=ww cs (pt i)
  have hopp:bU cs (pt i)=(cs.getD (pt i) (0,0,0,0,0)).1:=rfl
  rcases hcase with h1|h1|h1|h1|h1
  ·have hb:dN op:=by unfold dN;omega
   have hlk':=hlk hb
   have hpl':=hpl hb
   have hap':=hap hb
   subst h1
   rw[if_pos rfl] at hnx
   by_cases hp:(cs.getD (pt i) (0,0,0,0,0)).1=31
   ·rw[if_pos hp] at hnx
    repeat first|with_reducible refine aw ?_|simp only[hi0,h,hcc0,hcc1,hcc2,hcc3,hcc4,decide_false,decide_true,ha,hl1,hl2,hl3,hob,hlk',hpl',hp0,hap',hpc0,hp,go_sem,simprocAttr]
    repeat first|with_reducible refine aw ?_|simp only[hi0,decide_false,decide_true,ha,hl1,hl2,hl3,hob,hlk',hpl',hp0,hap',hpc0,hp,go_sem,simprocAttr]
    repeat first|with_reducible refine aw ?_|simp only[hi0,decide_false,decide_true,ha,hl1,hl2,hl3,hob,hlk',hpl',hp0,hap',hpc0,hp,go_sem,simprocAttr]
    refine⟨_,_,_,?_,Wk.mkS [6] [4] ?_ ?_ ?_,i+1,_,rfl,by omega,?_,rfl,rfl⟩
    ·omega
    ·simp only[bk,bh,go_sem,simprocAttr]
     repeat' refine ab ?_ ?_
     all_goals first|exact bu|skip
    ·exact .cons rfl (.rowW (by simp only[go_sem,simprocAttr];rfl) (by rfl) (by rfl) (by rfl) (by rw[app_size];show(i+1)*1<=_;simp only[cg.len,List.length_singleton];omega) (by rw[cz];exact Nat.le_refl _) rfl (by decide) (λq j hq hj=>dQ (by omega) hq hj (mb (b:=4) (by simp only[go_sem,simprocAttr];rfl) (by rfl) (by rfl) hnx (by(try simp only[go_sem,simprocAttr]);exact qE _ _ _) (by first|exact qD _ _ _|simp only[go_sem,simprocAttr])))) .nil
    ·simp
    ·(try simp only[bP,go_sem,simprocAttr]);exact hob
   ·rw[if_neg hp] at hnx
    repeat first|with_reducible refine aw ?_|simp only[hi0,h,hcc0,hcc1,hcc2,hcc3,hcc4,decide_false,decide_true,ha,hl1,hl2,hl3,hob,hlk',hpl',hp0,hap',hpc0,hp,go_sem,simprocAttr]
    repeat first|with_reducible refine aw ?_|simp only[hi0,decide_false,decide_true,ha,hl1,hl2,hl3,hob,hlk',hpl',hp0,hap',hpc0,hp,go_sem,simprocAttr]
    refine⟨_,_,_,?_,Wk.mkS [6] [4] ?_ ?_ ?_,i+1,_,rfl,by omega,?_,rfl,rfl⟩
    ·omega
    ·simp only[bk,bh,go_sem,simprocAttr]
     repeat' refine ab ?_ ?_
     all_goals first|exact bu|skip
    ·exact .cons rfl (.rowW (by simp only[go_sem,simprocAttr];rfl) (by rfl) (by rfl) (by rfl) (by rw[app_size];show(i+1)*1<=_;simp only[cg.len,List.length_singleton];omega) (by rw[cz];exact Nat.le_refl _) rfl (by decide) (λq j hq hj=>dQ (by omega) hq hj (mb (b:=4) (by simp only[go_sem,simprocAttr];rfl) (by rfl) (by rfl) hnx (by(try simp only[go_sem,simprocAttr]);exact qE _ _ _) (by first|exact qD _ _ _|simp only[go_sem,simprocAttr])))) .nil
    ·simp
    ·(try simp only[bP,go_sem,simprocAttr]);exact hob
  ·have hb:dN op:=by unfold dN;omega
   have hlk':=hlk hb
   have hpl':=hpl hb
   have hap':=hap hb
   rw[if_neg (by omega),if_pos h1] at hnx
   rcases h1 with h1|h1
   ·subst h1
    repeat first|with_reducible refine aw ?_|simp only[hi0,h,hcc0,hcc1,hcc2,hcc3,hcc4,decide_false,decide_true,ha,hl1,hl2,hl3,hob,hlk',hpl',hp0,hap',hpc0,go_sem,simprocAttr]
    repeat first|with_reducible refine aw ?_|simp only[hi0,decide_false,decide_true,ha,hl1,hl2,hl3,hob,hlk',hpl',hp0,hap',hpc0,go_sem,simprocAttr]
    refine⟨_,_,_,?_,Wk.mkS [6] [4] ?_ ?_ ?_,i+1,_,rfl,by omega,?_,rfl,rfl⟩
    ·omega
    ·simp only[bk,bh,go_sem,simprocAttr]
     repeat' refine ab ?_ ?_
     all_goals first|exact bu|skip
    ·exact .cons rfl (.rowW (by simp only[go_sem,simprocAttr];rfl) (by rfl) (by rfl) (by rfl) (by rw[app_size];show(i+1)*1<=_;simp only[cg.len,List.length_singleton];omega) (by rw[cz];exact Nat.le_refl _) rfl (by decide) (λq j hq hj=>dQ (by omega) hq hj (mb (b:=4) (by simp only[go_sem,simprocAttr];rfl) (by rfl) (by rfl) hnx (by(try simp only[go_sem,simprocAttr]);exact qE _ _ _) (by first|exact qD _ _ _|simp only[go_sem,simprocAttr])))) .nil
    ·simp
    ·(try simp only[bP,go_sem,simprocAttr]);exact hob
   ·subst h1
    repeat first|with_reducible refine aw ?_|simp only[hi0,h,hcc0,hcc1,hcc2,hcc3,hcc4,decide_false,decide_true,ha,hl1,hl2,hl3,hob,hlk',hpl',hp0,hap',hpc0,go_sem,simprocAttr]
    repeat first|with_reducible refine aw ?_|simp only[hi0,decide_false,decide_true,ha,hl1,hl2,hl3,hob,hlk',hpl',hp0,hap',hpc0,go_sem,simprocAttr]
    refine⟨_,_,_,?_,Wk.mkS [6] [4] ?_ ?_ ?_,i+1,_,rfl,by omega,?_,rfl,rfl⟩
    ·omega
    ·simp only[bk,bh,go_sem,simprocAttr]
     repeat' refine ab ?_ ?_
     all_goals first|exact bu|skip
    ·exact .cons rfl (.rowW (by simp only[go_sem,simprocAttr];rfl) (by rfl) (by rfl) (by rfl) (by rw[app_size];show(i+1)*1<=_;simp only[cg.len,List.length_singleton];omega) (by rw[cz];exact Nat.le_refl _) rfl (by decide) (λq j hq hj=>dQ (by omega) hq hj (mb (b:=4) (by simp only[go_sem,simprocAttr];rfl) (by rfl) (by rfl) hnx (by(try simp only[go_sem,simprocAttr]);exact qE _ _ _) (by first|exact qD _ _ _|simp only[go_sem,simprocAttr])))) .nil
    ·simp
    ·(try simp only[bP,go_sem,simprocAttr]);exact hob
  ·have hb:dN op:=by unfold dN;omega
   have hlk':=hlk hb
   have hpl':=hpl hb
   have hap':=hap hb
   subst h1
   rw[if_neg (by decide),if_neg (by decide),if_pos rfl] at hnx
   repeat first|with_reducible refine aw ?_|simp only[hi0,h,hcc0,hcc1,hcc2,hcc3,hcc4,decide_false,decide_true,ha,hl1,hl2,hl3,hob,hlk',hpl',hp0,hap',hpc0,go_sem,simprocAttr]
   repeat first|with_reducible refine aw ?_|simp only[hi0,decide_false,decide_true,ha,hl1,hl2,hl3,hob,hlk',hpl',hp0,hap',hpc0,go_sem,simprocAttr]
   refine⟨_,_,_,?_,Wk.mkS [4] [2] ?_ ?_ ?_,i+1,_,rfl,by omega,?_,rfl,rfl⟩
   ·omega
   ·simp only[bk,bh,go_sem,simprocAttr]
    repeat' refine ab ?_ ?_
    all_goals first|exact bu|skip
   ·exact .cons rfl (.rowW (by simp only[go_sem,simprocAttr];rfl) (by rfl) (by rfl) (by rfl) (by rw[app_size];show(i+1)*1<=_;simp only[cg.len,List.length_singleton];omega) (by rw[cz];exact Nat.le_refl _) rfl (by decide) (λq j hq hj=>dQ (by omega) hq hj (oO (x:=_) (b:=2) (by simp only[go_sem,simprocAttr];rfl) (by rfl) (by rfl) hnx (by simp only[go_sem,simprocAttr])))) .nil
   ·simp
   ·(try simp only[bP,go_sem,simprocAttr]);exact hob
  ·have hb:dN op:=by unfold dN;omega
   have hlk':=hlk hb
   have hpl':=hpl hb
   have hap':=hap hb
   subst h1
   rw[if_neg (by decide),if_neg (by decide),if_neg (by decide),if_pos rfl] at hnx
   by_cases hp:(cs.getD (pt i) (0,0,0,0,0)).1=29
   ·rw[if_pos hp] at hnx
    repeat first|with_reducible refine aw ?_|simp only[hi0,h,hcc0,hcc1,hcc2,hcc3,hcc4,decide_false,decide_true,ha,hl1,hl2,hl3,hob,hlk',hpl',hp0,hap',hpc0,hp,go_sem,simprocAttr]
    repeat first|with_reducible refine aw ?_|simp only[hi0,decide_false,decide_true,ha,hl1,hl2,hl3,hob,hlk',hpl',hp0,hap',hpc0,hp,go_sem,simprocAttr]
    refine⟨_,_,_,?_,Wk.mkS [6] [4] ?_ ?_ ?_,i+1,_,rfl,by omega,?_,rfl,rfl⟩
    ·omega
    ·simp only[bk,bh,go_sem,simprocAttr]
     repeat' refine ab ?_ ?_
     all_goals first|exact bu|skip
    ·exact .cons rfl (.rowW (by simp only[go_sem,simprocAttr];rfl) (by rfl) (by rfl) (by rfl) (by rw[app_size];show(i+1)*1<=_;simp only[cg.len,List.length_singleton];omega) (by rw[cz];exact Nat.le_refl _) rfl (by decide) (λq j hq hj=>dQ (by omega) hq hj (mb (b:=4) (by simp only[go_sem,simprocAttr];rfl) (by rfl) (by rfl) hnx (by(try simp only[go_sem,simprocAttr]);exact qE _ _ _) (by first|exact qD _ _ _|simp only[go_sem,simprocAttr])))) .nil
    ·simp
    ·(try simp only[bP,go_sem,simprocAttr]);exact hob
   ·rw[if_neg hp] at hnx
    repeat first|with_reducible refine aw ?_|simp only[hi0,h,hcc0,hcc1,hcc2,hcc3,hcc4,decide_false,decide_true,ha,hl1,hl2,hl3,hob,hlk',hpl',hp0,hap',hpc0,hp,go_sem,simprocAttr]
    repeat first|with_reducible refine aw ?_|simp only[hi0,decide_false,decide_true,ha,hl1,hl2,hl3,hob,hlk',hpl',hp0,hap',hpc0,hp,go_sem,simprocAttr]
    refine⟨_,_,_,?_,Wk.mkS [4] [2] ?_ ?_ ?_,i+1,_,rfl,by omega,?_,rfl,rfl⟩
    ·omega
    ·simp only[bk,bh,go_sem,simprocAttr]
     repeat' refine ab ?_ ?_
     all_goals first|exact bu|skip
    ·exact .cons rfl (.rowW (by simp only[go_sem,simprocAttr];rfl) (by rfl) (by rfl) (by rfl) (by rw[app_size];show(i+1)*1<=_;simp only[cg.len,List.length_singleton];omega) (by rw[cz];exact Nat.le_refl _) rfl (by decide) (λq j hq hj=>dQ (by omega) hq hj (oO (x:=_) (b:=2) (by simp only[go_sem,simprocAttr];rfl) (by rfl) (by rfl) hnx (by simp only[go_sem,simprocAttr])))) .nil
    ·simp
    ·(try simp only[bP,go_sem,simprocAttr]);exact hob
  ·have hn27:¬op=27:=λe=>h1 (.inl e)
   have hn28:¬op=28:=λe=>h1 (.inr (.inl e))
   have hn29:¬op=29:=λe=>h1 (.inr (.inr (.inl e)))
   have hn30:¬op=30:=λe=>h1 (.inr (.inr (.inr (.inl e))))
   have hn31:¬op=31:=λe=>h1 (.inr (.inr (.inr (.inr e))))
   rw[if_neg hn27,if_neg (by omega),if_neg hn28,if_neg hn31] at hnx
   repeat first|with_reducible refine aw ?_|simp only[hi0,h,hcc0,hcc1,hcc2,hcc3,hcc4,hn27,hn28,hn29,hn30,hn31,decide_false,ha,hl1,hl2,hl3,go_sem,simprocAttr]
   refine⟨_,_,_,?_,Wk.mkS [4] [2] ?_ ?_ ?_,i+1,_,rfl,by omega,?_,rfl,rfl⟩
   ·omega
   ·simp only[bk,bh,go_sem,simprocAttr]
    repeat' refine ab ?_ ?_
    all_goals first|exact bu|skip
   ·exact .cons rfl (.rowW (by simp only[go_sem,simprocAttr];rfl) (by rfl) (by rfl) (by rfl) (by rw[app_size];show(i+1)*1<=_;simp only[cg.len,List.length_singleton];omega) (by rw[cz];exact Nat.le_refl _) rfl (by decide) (λq j hq hj=>dQ (by omega) hq hj (oO (x:=_) (b:=2) (by simp only[go_sem,simprocAttr];rfl) (by rfl) (by rfl) hnx (by simp only[go_sem,simprocAttr])))) .nil
   ·simp
   ·(try simp only[bP,go_sem,simprocAttr]);exact hob
 ·have hk:i=cs.length:=by omega
  subst hk
  refine GA.wk (Wk.mkS (L:=[(4,.fs 1 cs.length (gC (nxt cs pt)))]) (bl:=[]) [] [0] ?_ ?_ ?_) ?_
  ·refine⟨⟨by decide,.os 0 cs.length,by simp only[go_sem,simprocAttr],.cv (.os (x:=aH 39 1 cs.length 0 (gC (nxt cs pt))) (by simp) (by simp only[go_sem,simprocAttr]) (Nat.le_refl _) (λi j _ hj=>aL i j hj) (λi j _ _=>rfl))⟩,True.intro⟩
  ·exact .nil
  ·simp
  repeat first|with_reducible refine aw ?_|simp only[go_sem,simprocAttr]
  exact⟨[_],rfl,⟨rfl,rfl⟩,True.intro⟩
end Go.Proofs.Yteopfmnnhlhbmaa