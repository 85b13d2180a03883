/- A part of the proof of AllocateSpills: RkC. No condition. -/
import Derived.Test.YteopfmnnhlhbmaaHp35
import Derived.Test.YteopfmnnhlhbmaaHp17
set_option linter.unusedSimpArgs false
set_option linter.unusedVariables false
set_option linter.constructorNameAsVariable false
set_option maxRecDepth 100000
set_option maxHeartbeats 4000000
namespace Go.Proofs.Yteopfmnnhlhbmaa
open Go.RowKit
theorem r7(na:Nat)(ra:Nat->Nat->AV)(regs par er n:Int)(cs:List In)(x:AV)(he:er≠0)(hc:bA Try.prog 39 [ax na ra regs par cs] [.v x,.v (.n .i64 er)]):
  bA Try.prog 18 [ax na ra regs par cs,.n .i64 n] [.v iu,.v (.n .i64 er)]:=by
 refine aB aW tC ⟨by simp,by decide⟩ ?_
 simp only[bt,ax] at hc ⊢
 repeat first|with_reducible refine aw ?_|simp only[go_sem,simprocAttr]
 refine ao [] (.cons (.rfl (by rfl)) .nil) hc (by simp only[AH.mark_next,ae,au,av,am,ah,aj,af,ai,ag,List.length_cons,List.length_nil];decide) ?_
 repeat first|with_reducible refine aw ?_|simp only[he,decide_true,decide_false,go_sem,simprocAttr]
 exact⟨[_,_],rfl,cn.v rfl rfl (cn.v rfl rfl .nil)⟩
theorem oK(na:Nat)(ra:Nat->Nat->AV)(regs par n:Int)(cs:List In)(x:AV)(hn:n<4\/1024<n)(hc:bA Try.prog 39 [ax na ra regs par cs] [.v x,.v (.n .i64 0)]):
  bA Try.prog 18 [ax na ra regs par cs,.n .i64 n] [.v iu,.v (.n .i64 2)]:=by
 refine aB aW tC ⟨by simp,by decide⟩ ?_
 simp only[bt,ax] at hc ⊢
 repeat first|with_reducible refine aw ?_|simp only[go_sem,simprocAttr]
 refine ao [] (.cons (.rfl (by rfl)) .nil) hc (by simp only[AH.mark_next,ae,au,av,am,ah,aj,af,ai,ag,List.length_cons,List.length_nil];decide) ?_
 by_cases h4:n<4
 ·repeat first|with_reducible refine aw ?_|simp only[h4,decide_true,go_sem,simprocAttr]
  exact⟨[_,_],rfl,cn.v rfl rfl (cn.v rfl rfl .nil)⟩
 ·have h5:1024<n:=by omega
  repeat first|with_reducible refine aw ?_|simp only[h4,h5,decide_true,decide_false,go_sem,simprocAttr]
  exact⟨[_,_],rfl,cn.v rfl rfl (cn.v rfl rfl .nil)⟩
def iK(nm:List Int)(kept first:Int)(cs:List In):List In:=(cs.map λx=>rX kept first (dl nm x)).flatten
theorem qh(nm:List Int)(kept first:Int)(cs:List In):(iK nm kept first cs).length<=4*cs.length:=by
 unfold iK
 induction cs with
 |nil=>simp
 |cons x cs ih=>
  have:=oC kept first (dl nm x)
  simp only[List.map_cons,List.flatten_cons,List.length_append,List.length_cons]
  omega
theorem uQ(nm:List Int)(kept first:Int)(cs:List In)(k:Nat)(hk:k<cs.length):iK nm kept first (cs.take (k+1))=iK nm kept first (cs.take k)++rX kept first (dl nm (cs.getD k (0,0,0,0,0))):=by
 unfold iK
 rw[List.take_add_one,List.map_append,List.flatten_append,List.getD_eq_getElem?_getD,List.getElem?_eq_getElem hk]
 simp
theorem Be(la:List (Bool×Int))(regs par:Int)(cs:List In)(r n:Nat)(hr:4<=r/\r<=1024)(hpar:0<=par/\par<=1024)(nm:List Int)(k:Nat)(X:List In)(hX:X.length<=100000)(op to a b arg:Int)
  (hto: -1<=to/\to<100000) (ha: -1<=a/\a<100000) (hb: -1<=b/\b<100000) (Q:AE->Tr AV->AH->Prop)
  (hQ:∀e' H' Y,Y=X++rX (r-3) par (op,to,a,b,arg)->Wk 159 e' H' (az [(2,.p 0 0),(4,.p 1 0),(8,.fs 1 nm.length (iC .i64 nm)),(10,.n .i64 (r-3)),(11,.p 2 0),(12,.n .i64 k)]) (aP [aD 60 5 (Y).length 0 (cC (Y)),aK 0 25 [.fs 2 la.length (aC la),.n .i64 r,.n .i64 (par+n-(r-3)),.os 3 (Y).length],aK 0 25 [.sl0,.n .i64 0,.n .i64 0,.sl0],aK 0 25 [.fs 2 la.length (aC la),.n .i64 regs,.n .i64 par,.fs 5 cs.length (cC cs)]])->Q .normal e' H'):
  GA Try.prog 159 (aE Try.prog 18) (.seq (.seq (.reg xd) (.cond (.t 75) (.seq (.reg xc) (.reg xa)) .skip)) (.seq (.seq (.reg w8) (.cond (.t 96) (.seq (.reg w7) (.reg w6)) .skip)) (.seq (.reg w5) (.seq (.reg wZ) (.seq (.seq (.reg wY) (.cond (.t 127) (.reg wX) .skip)) (.seq (.reg wW) (.seq (.reg wV) (.cond (.t 137) (.reg wU) .skip))))))))
   (az [(2,.p 0 0),(4,.p 1 0),(8,.fs 1 nm.length (iC .i64 nm)),(10,.n .i64 (r-3)),(11,.p 2 0),(12,.n .i64 k),(13,.p 4 0)]) (aP [aK 0 60 [.n .i64 op,.n .i64 to,.n .i64 a,.n .i64 b,.n .u32 arg],aD 60 5 (X).length 0 (cC (X)),aK 0 25 [.fs 2 la.length (aC la),.n .i64 r,.n .i64 (par+n-(r-3)),.os 3 (X).length],aK 0 25 [.sl0,.n .i64 0,.n .i64 0,.sl0],aK 0 25 [.fs 2 la.length (aC la),.n .i64 regs,.n .i64 par,.fs 5 cs.length (cC cs)]]) Q:=by
 have hw1:IntKind.wrap .i64 (par+a)=par+a:=aJ (by omega)
 have hw2:IntKind.wrap .i64 (par+a-((r:Int)-3))=par+a-(r-3):=aJ (by omega)
 have hw3:IntKind.wrap .i64 (par+b)=par+b:=aJ (by omega)
 have hw4:IntKind.wrap .i64 (par+b-((r:Int)-3))=par+b-(r-3):=aJ (by omega)
 have hw5:IntKind.wrap .i64 (par+to)=par+to:=aJ (by omega)
 have hw6:IntKind.wrap .i64 (par+to-((r:Int)-3))=par+to-(r-3):=aJ (by omega)
 have hw7:IntKind.wrap .i64 ((r:Int)-3+1)=(r:Int)-3+1:=aJ (by omega)
 have hw8:IntKind.wrap .i64 ((r:Int)-3+2)=(r:Int)-3+2:=aJ (by omega)
 have hk0:(r:Int)-3+0=(r:Int)-3:=by omega
 have sl:∀Z:List In,Z.length<=100010->(Z.length+1)*5<1099511627776/\(Z.length+1)*40<=140737488355328/\Z.length<=9223372036854775806:=λZ h=>by omega
 have happ1:∀(Z:List In) (y:In),(Z++[y]).length=Z.length+1:=λZ y=>by rw[List.length_append,List.length_singleton]
 have hL:X++rX (r-3) par (op,to,a,b,arg)=((X++gf (r-3) par 0 a++gf (r-3) par 1 b)++[(op,fF (r-3) 2 to,fF (r-3) 0 a,fF (r-3) 1 b,arg)])++xA (r-3) par to:=by
  unfold rX RZ
  simp only[List.append_assoc]
 have hRl:=eX (r-3) par 0 a
 have hRl2:=eX (r-3) par 1 b
 generalize hY1:X++gf (r-3) par 0 a=X1 at*
 generalize hY2:X1++gf (r-3) par 1 b=X2 at*
 have hX1:X1.length<=100001:=by rw[<-hY1,List.length_append];omega
 have hX2:X2.length<=100002:=by rw[<-hY2,List.length_append];omega
 refine GA.seq ?_
 refine GA.cut' (az [(2,.p 0 0),(4,.p 1 0),(8,.fs 1 nm.length (iC .i64 nm)),(10,.n .i64 (r-3)),(11,.p 2 0),(12,.n .i64 k),(13,.p 4 0)]) (aP [aK 0 60 [.n .i64 op,.n .i64 to,.n .i64 (fF (r-3) 0 a),.n .i64 b,.n .u32 arg],aD 60 5 (X1).length 0 (cC (X1)),aK 0 25 [.fs 2 la.length (aC la),.n .i64 r,.n .i64 (par+n-(r-3)),.os 3 (X1).length],aK 0 25 [.sl0,.n .i64 0,.n .i64 0,.sl0],aK 0 25 [.fs 2 la.length (aC la),.n .i64 regs,.n .i64 par,.fs 5 cs.length (cC cs)]]) ?_ ?_
 ·by_cases hc:(r:Int)-3<=a
  ·have hn:fF (r-3) 0 a=r-3:=by unfold fF;rw[if_pos hc];omega
   have hR:gf (r-3) par 0 a=[(38,(r:Int)-3,-1,-1,eK (r-3) par a)]:=by unfold gf;rw[if_pos hc,hk0]
   obtain⟨s1,s2,s3⟩:=sl X (by omega)
   have hXe:X1=X++[(38,(r:Int)-3,-1,-1,eK (r-3) par a)]:=by rw[<-hY1,hR]
   have hXl:X1.length=X.length+1:=by rw[hXe,happ1]
   repeat first|with_reducible refine aw ?_|simp only[hc,hw1,hw2,s1,s2,s3,decide_true,go_sem,simprocAttr]
   rw[hXl]
   refine Wk.mk [4,6,2,1,0] [] ?_ ?_ ?_
   ·simp only[aX,aV,go_sem,simprocAttr]
    repeat' refine aa ?_ ?_
    all_goals first|exact ba|skip
   ·exact .cons rfl (.lsti (x:=_) (by simp only[go_sem,simprocAttr]<;>rfl) (by rfl) (by rfl) (by rfl) (by rfl) (by rfl) (by rfl) (by simp) (λi hi=>by rcases ez hi with rfl|rfl|rfl|rfl|rfl<;>(simp only[hn,go_sem,simprocAttr];first|done|rfl)) (by rfl)) (.cons rfl (.snoc (by simp only[go_sem,simprocAttr]<;>rfl) (by rfl) rfl rfl (by decide) (by omega) (λi j hi hj=>by unfold cC;rw[hXe,List.getD_eq_getElem?_getD,List.getElem?_append_left hi,<-List.getD_eq_getElem?_getD]) (λj hj=>by unfold cC;rw[hXe,List.getD_eq_getElem?_getD,List.getElem?_append_right (Nat.le_refl _),Nat.sub_self];rcases ez hj with rfl|rfl|rfl|rfl|rfl<;>rfl) (λi j _ hj=>by rcases ez hj with rfl|rfl|rfl|rfl|rfl<;>rfl)) (.cons rfl (.lstw (x:=_) (by simp only[go_sem,simprocAttr]<;>rfl) (by rfl) (by rfl) (by rfl) (by rfl) (by rfl) (by rfl) (by simp) (λi hi=>(by rcases dA hi with rfl|rfl|rfl|rfl<;>(simp only[go_sem,simprocAttr];first|exact Wv.same rfl|exact Wv.os rfl|exact Wv.cv (Cv.own (ty:=102) (z:=0) (by simp) (by simp only[go_sem,simprocAttr]) bI)|exact Wv.cv (Cv.own (ty:=60) (z:=0) (by simp) (by simp only[go_sem,simprocAttr]) (λi j _ hj=>bm i hj)))))) (.cons rfl .ls (.cons rfl .ls .nil))))
   ·simp
  ·have hn:fF (r-3) 0 a=a:=if_neg hc
   have hR:gf (r-3) par 0 a=[]:=if_neg hc
   have hXe:X1=X:=by rw[<-hY1,hR,List.append_nil]
   repeat first|with_reducible refine aw ?_|simp only[hc,decide_false,go_sem,simprocAttr]
   rw[hXe]
   refine Wk.mk [4,3,2,1,0] [] ?_ ?_ ?_
   ·simp only[aX,aV,go_sem,simprocAttr]
    repeat' refine aa ?_ ?_
    all_goals first|exact ba|skip
   ·exact .cons rfl (.lsti (x:=_) (by simp only[go_sem,simprocAttr]<;>rfl) (by rfl) (by rfl) (by rfl) (by rfl) (by rfl) (by rfl) (by simp) (λi hi=>by rcases ez hi with rfl|rfl|rfl|rfl|rfl<;>(simp only[hn,go_sem,simprocAttr];first|done|rfl)) (by rfl)) (.cons rfl .k5 (.cons rfl (.lstw (x:=_) (by simp only[go_sem,simprocAttr]<;>rfl) (by rfl) (by rfl) (by rfl) (by rfl) (by rfl) (by rfl) (by simp) (λi hi=>(by rcases dA hi with rfl|rfl|rfl|rfl<;>(simp only[go_sem,simprocAttr];first|exact Wv.same rfl|exact Wv.os rfl|exact Wv.cv (Cv.own (ty:=102) (z:=0) (by simp) (by simp only[go_sem,simprocAttr]) bI)|exact Wv.cv (Cv.own (ty:=60) (z:=0) (by simp) (by simp only[go_sem,simprocAttr]) (λi j _ hj=>bm i hj)))))) (.cons rfl .ls (.cons rfl .ls .nil))))
   ·simp
 generalize fF (r-3) 0 a=a1 at*
 refine GA.seq ?_
 refine GA.cut' (az [(2,.p 0 0),(4,.p 1 0),(8,.fs 1 nm.length (iC .i64 nm)),(10,.n .i64 (r-3)),(11,.p 2 0),(12,.n .i64 k),(13,.p 4 0)]) (aP [aK 0 60 [.n .i64 op,.n .i64 to,.n .i64 a1,.n .i64 (fF (r-3) 1 b),.n .u32 arg],aD 60 5 (X2).length 0 (cC (X2)),aK 0 25 [.fs 2 la.length (aC la),.n .i64 r,.n .i64 (par+n-(r-3)),.os 3 (X2).length],aK 0 25 [.sl0,.n .i64 0,.n .i64 0,.sl0],aK 0 25 [.fs 2 la.length (aC la),.n .i64 regs,.n .i64 par,.fs 5 cs.length (cC cs)]]) ?_ ?_
 ·by_cases hc:(r:Int)-3<=b
  ·have hn:fF (r-3) 1 b=r-3+1:=if_pos hc
   have hR:gf (r-3) par 1 b=[(38,(r:Int)-3+1,-1,-1,eK (r-3) par b)]:=if_pos hc
   obtain⟨s1,s2,s3⟩:=sl X1 (by omega)
   have hXe:X2=X1++[(38,(r:Int)-3+1,-1,-1,eK (r-3) par b)]:=by rw[<-hY2,hR]
   have hXl:X2.length=X1.length+1:=by rw[hXe,happ1]
   repeat first|with_reducible refine aw ?_|simp only[hc,hw3,hw4,hw7,s1,s2,s3,decide_true,go_sem,simprocAttr]
   rw[hXl]
   refine Wk.mk [4,6,2,1,0] [] ?_ ?_ ?_
   ·simp only[aX,aV,go_sem,simprocAttr]
    repeat' refine aa ?_ ?_
    all_goals first|exact ba|skip
   ·exact .cons rfl (.lsti (x:=_) (by simp only[go_sem,simprocAttr]<;>rfl) (by rfl) (by rfl) (by rfl) (by rfl) (by rfl) (by rfl) (by simp) (λi hi=>by rcases ez hi with rfl|rfl|rfl|rfl|rfl<;>(simp only[hn,go_sem,simprocAttr];first|done|rfl)) (by rfl)) (.cons rfl (.snoc (by simp only[go_sem,simprocAttr]<;>rfl) (by rfl) rfl rfl (by decide) (by omega) (λi j hi hj=>by unfold cC;rw[hXe,List.getD_eq_getElem?_getD,List.getElem?_append_left hi,<-List.getD_eq_getElem?_getD]) (λj hj=>by unfold cC;rw[hXe,List.getD_eq_getElem?_getD,List.getElem?_append_right (Nat.le_refl _),Nat.sub_self];rcases ez hj with rfl|rfl|rfl|rfl|rfl<;>rfl) (λi j _ hj=>by rcases ez hj with rfl|rfl|rfl|rfl|rfl<;>rfl)) (.cons rfl (.lstw (x:=_) (by simp only[go_sem,simprocAttr]<;>rfl) (by rfl) (by rfl) (by rfl) (by rfl) (by rfl) (by rfl) (by simp) (λi hi=>(by rcases dA hi with rfl|rfl|rfl|rfl<;>(simp only[go_sem,simprocAttr];first|exact Wv.same rfl|exact Wv.os rfl|exact Wv.cv (Cv.own (ty:=102) (z:=0) (by simp) (by simp only[go_sem,simprocAttr]) bI)|exact Wv.cv (Cv.own (ty:=60) (z:=0) (by simp) (by simp only[go_sem,simprocAttr]) (λi j _ hj=>bm i hj)))))) (.cons rfl .ls (.cons rfl .ls .nil))))
   ·simp
  ·have hn:fF (r-3) 1 b=b:=if_neg hc
   have hR:gf (r-3) par 1 b=[]:=if_neg hc
   have hXe:X2=X1:=by rw[<-hY2,hR,List.append_nil]
   repeat first|with_reducible refine aw ?_|simp only[hc,decide_false,go_sem,simprocAttr]
   rw[hXe]
   refine Wk.mk [4,3,2,1,0] [] ?_ ?_ ?_
   ·simp only[aX,aV,go_sem,simprocAttr]
    repeat' refine aa ?_ ?_
    all_goals first|exact ba|skip
   ·exact .cons rfl (.lsti (x:=_) (by simp only[go_sem,simprocAttr]<;>rfl) (by rfl) (by rfl) (by rfl) (by rfl) (by rfl) (by rfl) (by simp) (λi hi=>by rcases ez hi with rfl|rfl|rfl|rfl|rfl<;>(simp only[hn,go_sem,simprocAttr];first|done|rfl)) (by rfl)) (.cons rfl .k5 (.cons rfl (.lstw (x:=_) (by simp only[go_sem,simprocAttr]<;>rfl) (by rfl) (by rfl) (by rfl) (by rfl) (by rfl) (by rfl) (by simp) (λi hi=>(by rcases dA hi with rfl|rfl|rfl|rfl<;>(simp only[go_sem,simprocAttr];first|exact Wv.same rfl|exact Wv.os rfl|exact Wv.cv (Cv.own (ty:=102) (z:=0) (by simp) (by simp only[go_sem,simprocAttr]) bI)|exact Wv.cv (Cv.own (ty:=60) (z:=0) (by simp) (by simp only[go_sem,simprocAttr]) (λi j _ hj=>bm i hj)))))) (.cons rfl .ls (.cons rfl .ls .nil))))
   ·simp
 generalize fF (r-3) 1 b=b1 at*
 obtain⟨s1,s2,s3⟩:=sl X2 (by omega)
 obtain⟨t1,t2,t3⟩:=sl (X2++[(op,fF (r-3) 2 to,a1,b1,arg)]) (by rw[happ1];omega)
 rw[happ1] at t1 t2 t3
 by_cases hc:(r:Int)-3<=to
 ·have hn:fF (r-3) 2 to=r-3+2:=if_pos hc
  have hS:xA (r-3) par to=[(37,-1,(r:Int)-3+2,-1,eK (r-3) par to)]:=if_pos hc
  rw[hn,hS] at hL
  obtain⟨X3,hXe⟩:∃X3,X3=X2++[(op,(r:Int)-3+2,a1,b1,arg)]:=⟨_,rfl⟩
  have hXl:X3.length=X2.length+1:=by rw[hXe,happ1]
  rw[<-hXe] at hL
  obtain⟨t1,t2,t3⟩:=sl X3 (by omega)
  (try simp only[hc,hw5,hw6,hw8,decide_true,go_sem,simprocAttr])
  iterate 9 (with_reducible refine GA.go aW rfl ?_;try simp only[hc,hw5,hw6,hw8,decide_true,go_sem,simprocAttr])
  refine GA.seq ?_
  refine GA.cut' (az ([(2,.p 0 0),(4,.p 1 0),(8,.fs 1 nm.length (iC .i64 nm)),(10,.n .i64 (r-3)),(11,.p 2 0),(12,.n .i64 k),(14,.n .i64 (par+to-(r-3))),(15,.b true)])) (aP [aD 60 5 (X3).length 0 (cC (X3)),aK 0 25 [.fs 2 la.length (aC la),.n .i64 r,.n .i64 (par+n-(r-3)),.os 3 (X3).length],aK 0 25 [.sl0,.n .i64 0,.n .i64 0,.sl0],aK 0 25 [.fs 2 la.length (aC la),.n .i64 regs,.n .i64 par,.fs 5 cs.length (cC cs)]]) ?_ ?_
  ·repeat first|with_reducible refine aw ?_|simp only[s1,s2,s3,go_sem,simprocAttr]
   rw[hXl]
   refine Wk.mk [6,2,1,0] [] ?_ ?_ ?_
   ·simp only[aX,aV,go_sem,simprocAttr]
    repeat' refine aa ?_ ?_
    all_goals first|exact ba|skip
   ·exact .cons rfl (.snoc (by simp only[go_sem,simprocAttr]<;>rfl) (by rfl) rfl rfl (by decide) (by omega) (λi j hi hj=>by unfold cC;rw[hXe,List.getD_eq_getElem?_getD,List.getElem?_append_left hi,<-List.getD_eq_getElem?_getD]) (λj hj=>by unfold cC;rw[hXe,List.getD_eq_getElem?_getD,List.getElem?_append_right (Nat.le_refl _),Nat.sub_self];rcases ez hj with rfl|rfl|rfl|rfl|rfl<;>rfl) (λi j _ hj=>by rcases ez hj with rfl|rfl|rfl|rfl|rfl<;>rfl)) (.cons rfl (.lstw (x:=_) (by simp only[go_sem,simprocAttr]<;>rfl) (by rfl) (by rfl) (by rfl) (by rfl) (by rfl) (by rfl) (by simp) (λi hi=>(by rcases dA hi with rfl|rfl|rfl|rfl<;>(simp only[go_sem,simprocAttr];first|exact Wv.same rfl|exact Wv.os rfl|exact Wv.cv (Cv.own (ty:=102) (z:=0) (by simp) (by simp only[go_sem,simprocAttr]) bI)|exact Wv.cv (Cv.own (ty:=60) (z:=0) (by simp) (by simp only[go_sem,simprocAttr]) (λi j _ hj=>bm i hj)))))) (.cons rfl .ls (.cons rfl .ls .nil)))
   ·simp
  clear hXe
  obtain⟨Y,hXe⟩:∃Y,Y=X3++[(37,-1,(r:Int)-3+2,-1,eK (r-3) par to)]:=⟨_,rfl⟩
  have hYl:Y.length=X3.length+1:=by rw[hXe,happ1]
  repeat first|with_reducible refine aw ?_|simp only[hw8,t1,t2,t3,go_sem,simprocAttr]
  refine hQ _ _ Y (by rw[hXe,hL]) ?_
  rw[hYl]
  refine Wk.mk [5,2,1,0] [] ?_ ?_ ?_
  ·simp only[aX,aV,go_sem,simprocAttr]
   repeat' refine aa ?_ ?_
   all_goals first|exact ba|skip
  ·exact .cons rfl (.snoc (by simp only[go_sem,simprocAttr]<;>rfl) (by rfl) rfl rfl (by decide) (by omega) (λi j hi hj=>by unfold cC;rw[hXe,List.getD_eq_getElem?_getD,List.getElem?_append_left hi,<-List.getD_eq_getElem?_getD]) (λj hj=>by unfold cC;rw[hXe,List.getD_eq_getElem?_getD,List.getElem?_append_right (Nat.le_refl _),Nat.sub_self];rcases ez hj with rfl|rfl|rfl|rfl|rfl<;>rfl) (λi j _ hj=>by rcases ez hj with rfl|rfl|rfl|rfl|rfl<;>rfl)) (.cons rfl (.lstw (x:=_) (by simp only[go_sem,simprocAttr]<;>rfl) (by rfl) (by rfl) (by rfl) (by rfl) (by rfl) (by rfl) (by simp) (λi hi=>(by rcases dA hi with rfl|rfl|rfl|rfl<;>(simp only[go_sem,simprocAttr];first|exact Wv.same rfl|exact Wv.os rfl|exact Wv.cv (Cv.own (ty:=102) (z:=0) (by simp) (by simp only[go_sem,simprocAttr]) bI)|exact Wv.cv (Cv.own (ty:=60) (z:=0) (by simp) (by simp only[go_sem,simprocAttr]) (λi j _ hj=>bm i hj)))))) (.cons rfl .ls (.cons rfl .ls .nil)))
  ·simp
 ·have hn:fF (r-3) 2 to=to:=if_neg hc
  have hS:xA (r-3) par to=[]:=if_neg hc
  rw[hn,hS,List.append_nil] at hL
  obtain⟨X3,hXe⟩:∃X3,X3=X2++[(op,to,a1,b1,arg)]:=⟨_,rfl⟩
  have hXl:X3.length=X2.length+1:=by rw[hXe,happ1]
  repeat first|with_reducible refine aw ?_|simp only[hc,hw5,hw6,s1,s2,s3,decide_false,go_sem,simprocAttr]
  refine hQ _ _ X3 (by rw[hXe,hL]) ?_
  rw[hXl]
  refine Wk.mk [6,2,1,0] [] ?_ ?_ ?_
  ·simp only[aX,aV,go_sem,simprocAttr]
   repeat' refine aa ?_ ?_
   all_goals first|exact ba|skip
  ·exact .cons rfl (.snoc (by simp only[go_sem,simprocAttr]<;>rfl) (by rfl) rfl rfl (by decide) (by omega) (λi j hi hj=>by unfold cC;rw[hXe,List.getD_eq_getElem?_getD,List.getElem?_append_left hi,<-List.getD_eq_getElem?_getD]) (λj hj=>by unfold cC;rw[hXe,List.getD_eq_getElem?_getD,List.getElem?_append_right (Nat.le_refl _),Nat.sub_self];rcases ez hj with rfl|rfl|rfl|rfl|rfl<;>rfl) (λi j _ hj=>by rcases ez hj with rfl|rfl|rfl|rfl|rfl<;>rfl)) (.cons rfl (.lstw (x:=_) (by simp only[go_sem,simprocAttr]<;>rfl) (by rfl) (by rfl) (by rfl) (by rfl) (by rfl) (by rfl) (by simp) (λi hi=>(by rcases dA hi with rfl|rfl|rfl|rfl<;>(simp only[go_sem,simprocAttr];first|exact Wv.same rfl|exact Wv.os rfl|exact Wv.cv (Cv.own (ty:=102) (z:=0) (by simp) (by simp only[go_sem,simprocAttr]) bI)|exact Wv.cv (Cv.own (ty:=60) (z:=0) (by simp) (by simp only[go_sem,simprocAttr]) (λi j _ hj=>bm i hj)))))) (.cons rfl .ls (.cons rfl .ls .nil)))
  ·simp
section
variable (la:List (Bool×Int)) (regs par:Int) (cs:List In) (x:AV) (hla:la.length<1000000) (hcs:cs.length<=16384) (r n:Nat) (hr:4<=r/\r<=1024) (nm:List Int) (hnm:∀x ∈ cs,x.2.1<(nm.length:Int)/\x.2.2.1<(nm.length:Int)/\x.2.2.2.1<(nm.length:Int))
 (hc:bA Try.prog 39 [ax la.length (aC la) regs par cs] [.v x,.v (.n .i64 0)])
 (hcol:bA Try.prog 47 [ax la.length (aC la) regs par cs] [.v (.fs 1 nm.length (iC .i64 nm)),.v (.n .i64 n)])
include hla hcs hr hc hcol hnm
theorem uY(hn:n<=r):bA Try.prog 18 [ax la.length (aC la) regs par cs,.n .i64 r] [.v (ax la.length (aC la) n par (cs.map (dl nm))),.v (.n .i64 0)]:=by
 have h4:¬(r:Int)<4:=by omega
 have h5:¬1024<(r:Int):=by omega
 have h6:(n:Int)<=(r:Int):=by omega
 have hrp:=oH la regs par n cs nm hla (by omega) hnm
 refine aB aW tC ⟨by simp,by decide⟩ ?_
 simp only[bt,ax] at hc hcol hrp ⊢
 repeat first|with_reducible refine aw ?_|simp only[go_sem,simprocAttr]
 refine ao [] (.cons (.rfl (by rfl)) .nil) hc (by simp only[AH.mark_next,ae,au,av,am,ah,aj,af,ai,ag,List.length_cons,List.length_nil];decide) ?_
 repeat first|with_reducible refine aw ?_|simp only[h4,h5,decide_true,decide_false,go_sem,simprocAttr]
 refine ao [] (.cons (.rfl (by rfl)) .nil) hcol (by simp only[AH.mark_next,ae,au,av,am,ah,aj,af,ai,ag,List.length_cons,List.length_nil];decide) ?_
 repeat first|with_reducible refine aw ?_|simp only[h6,decide_true,go_sem,simprocAttr]
 refine ao [] (.cons (.rfl (by rfl)) (.cons (.rfl (by rfl)) (.cons (.rfl (by rfl)) .nil))) hrp (by simp only[AH.mark_next,ae,au,av,am,ah,aj,af,ai,ag,List.length_cons,List.length_nil];decide) ?_
 repeat first|with_reducible refine aw ?_|simp only[go_sem,simprocAttr]
 exact⟨[_,_],rfl,cn.v rfl rfl (cn.v rfl rfl .nil)⟩
theorem uX(hn:r<n)(hn2:n<=100000)(hpar:0<=par/\par<=1024)(hrg:∀y ∈ cs,(-1<=cY nm y.2.1/\cY nm y.2.1<100000)/\(-1<=cY nm y.2.2.1/\cY nm y.2.2.1<100000)/\(-1<=cY nm y.2.2.2.1/\cY nm y.2.2.2.1<100000)):
  bA Try.prog 18 [ax la.length (aC la) regs par cs,.n .i64 r] (if 1024<par+n-(r-3)\/16384<(iK nm (r-3) par cs).length then[.v iu,.v (.n .i64 6)] else[.v (ax la.length (aC la) r (par+n-(r-3)) (iK nm (r-3) par cs)),.v (.n .i64 0)]):=by
 have h4:¬(r:Int)<4:=by omega
 have h5:¬1024<(r:Int):=by omega
 have h6:¬(n:Int)<=(r:Int):=by omega
 have hw1:IntKind.wrap .i64 ((r:Int)-3)=(r:Int)-3:=aJ (by omega)
 have hw2:IntKind.wrap .i64 (par+(n:Int))=par+n:=aJ (by omega)
 have hw3:IntKind.wrap .i64 (par+(n:Int)-((r:Int)-3))=par+n-(r-3):=aJ (by omega)
 have hadd:∀j:Nat,j<100000->IntKind.wrap .i64 ((j:Int)+1)=((j+1:Nat):Int):=λj hj=>by rw[aJ (by omega)];omega
 have hC:=ny (na:=la.length) (ra:=aC la) (regs:=regs) (par:=par) (cs:=cs) hla bI (by omega)
 refine aB aW tC ⟨by simp,by decide⟩ ?_
 simp only[bt,ax] at hc hC hcol ⊢
 repeat first|with_reducible refine aw ?_|simp only[go_sem,simprocAttr]
 refine ao [] (.cons (.rfl (by rfl)) .nil) hc (by simp only[AH.mark_next,ae,au,av,am,ah,aj,af,ai,ag,List.length_cons,List.length_nil];decide) ?_
 repeat first|with_reducible refine aw ?_|simp only[h4,h5,decide_true,decide_false,go_sem,simprocAttr]
 refine ao [] (.cons (.rfl (by rfl)) .nil) hcol (by simp only[AH.mark_next,ae,au,av,am,ah,aj,af,ai,ag,List.length_cons,List.length_nil];decide) ?_
 repeat first|with_reducible refine aw ?_|simp only[h6,hw1,decide_false,go_sem,simprocAttr]
 refine ao [] (.cons (.rfl (by rfl)) .nil) hC (by simp only[AH.mark_next,ae,au,av,am,ah,aj,af,ai,ag,List.length_cons,List.length_nil];decide) ?_
 (try simp only[go_sem,simprocAttr])
 iterate 1 (with_reducible refine GA.go aW rfl ?_;try simp only[go_sem,simprocAttr])
 refine GA.mixm aW 4 (by simp only[fI,go_sem,simprocAttr]) ?_
 repeat first|with_reducible refine aw ?_|simp only[hw2,hw3,go_sem,simprocAttr]
 refine⟨.inr (by decide),?_⟩
 refine GA.wk (Wk.mk (L:=[(2,.p 0 0),(4,.p 1 0),(8,.fs 1 nm.length (iC .i64 nm)),(10,.n .i64 (r-3)),(11,.p 2 0)]) (bl:=[aK 0 25 [.fs 2 la.length (aC la),.n .i64 r,.n .i64 (par+n-(r-3)),.sl0],aK 0 25 [.sl0,.n .i64 0,.n .i64 0,.sl0],aK 0 25 [.fs 2 la.length (aC la),.n .i64 regs,.n .i64 par,.fs 5 cs.length (cC cs)]]) [4,1,0] [2] ?_ ?_ ?_) ?_
 ·simp only[aX,aV,go_sem,simprocAttr]
  repeat' refine aa ?_ ?_
  all_goals first|exact ba|skip
 ·exact .cons rfl (.lstw (x:=_) (by simp only[go_sem,simprocAttr]<;>rfl) (by rfl) (by rfl) (by rfl) (by rfl) (by rfl) (by rfl) (by simp) (λi hi=>(by rcases dA hi with rfl|rfl|rfl|rfl<;>(simp only[go_sem,simprocAttr];first|exact Wv.same rfl|exact Wv.os rfl|exact Wv.cv (Cv.own (ty:=102) (z:=0) (by simp) (by simp only[go_sem,simprocAttr]) bI)|exact Wv.cv (Cv.own (ty:=60) (z:=0) (by simp) (by simp only[go_sem,simprocAttr]) (λi j _ hj=>bm i hj)))))) (.cons rfl .ls (.cons rfl .ls .nil))
 ·simp
 refine GA.wk (Wk.nilb 2 3 5 60 (x:=aK 0 25 [.fs 2 la.length (aC la),.n .i64 r,.n .i64 (par+n-(r-3)),.sl0]) (by simp only[go_sem,simprocAttr]) (by simp only[go_sem,simprocAttr]) (by decide) (by decide) (by simp only[go_sem,simprocAttr]) rfl (by simp only[go_sem,simprocAttr])) ?_
 repeat first|with_reducible refine aw ?_|simp only[go_sem,simprocAttr]
 refine GA.loop (I:=λmm e H=>∃(k:Nat) (X:List In),mm=cs.length-k/\k<=cs.length/\X=iK nm (r-3) par (cs.take k)/\e=az [(2,.p 0 0),(4,.p 1 0),(8,.fs 1 nm.length (iC .i64 nm)),(10,.n .i64 (r-3)),(11,.p 2 0),(12,.n .i64 k)]/\H=aP [aD 60 5 (X).length 0 (cC (X)),aK 0 25 [.fs 2 la.length (aC la),.n .i64 r,.n .i64 (par+n-(r-3)),.os 3 (X).length],aK 0 25 [.sl0,.n .i64 0,.n .i64 0,.sl0],aK 0 25 [.fs 2 la.length (aC la),.n .i64 regs,.n .i64 par,.fs 5 cs.length (cC cs)]]) (Wk.mk [3,2,1,0] [] ?_ ?_ ?_) ⟨0,[],rfl,Nat.zero_le _,rfl,rfl,rfl⟩ ?_
 ·simp only[aX,aV,go_sem,simprocAttr]
  repeat' refine aa ?_ ?_
  all_goals first|exact ba|skip
 ·exact .cons rfl (.rows (x:=_) (by simp only[go_sem,simprocAttr];rfl) (by rfl) (by rfl) (by rfl) (by show 0*5<=0;decide) (by exact Nat.le_refl _) (by decide) (λi j hi=>absurd (show i<0 from hi) (Nat.not_lt_zero _)) (λi j hi=>absurd (show i<0 from hi) (Nat.not_lt_zero _))) (.cons rfl (.lstw (x:=_) (by simp only[go_sem,simprocAttr]<;>rfl) (by rfl) (by rfl) (by rfl) (by rfl) (by rfl) (by rfl) (by simp) (λi hi=>(by rcases dA hi with rfl|rfl|rfl|rfl<;>(simp only[go_sem,simprocAttr];first|exact Wv.same rfl|exact Wv.os rfl|exact Wv.cv (Cv.own (ty:=102) (z:=0) (by simp) (by simp only[go_sem,simprocAttr]) bI)|exact Wv.cv (Cv.own (ty:=60) (z:=0) (by simp) (by simp only[go_sem,simprocAttr]) (λi j _ hj=>bm i hj)))))) (.cons rfl .ls (.cons rfl .ls .nil)))
 ·simp
 rintro mm e H ⟨k,X,rfl,hk,hX,rfl,rfl⟩
 have htl:=qh nm (r-3) par (cs.take k)
 have htl2:(cs.take k).length<=16384:=by rw[List.length_take];omega
 rw[<-hX] at htl
 repeat first|with_reducible refine aw ?_|simp only[go_sem,simprocAttr]
 refine⟨λh=>?_,λh=>?_⟩
 ·have hkl:k<cs.length:=by omega
  have hk0:(0:Int)<=(k:Int):=by omega
  have ha:=hadd k (by omega)
  have hcc0:=te cs k
  have hcc1:=zP cs k
  have hcc2:=zO cs k
  have hcc3:=zN cs k
  have hcc4:=zM cs k
  have hxm:cs.getD k (0,0,0,0,0) ∈ cs:=by rw[List.getD_eq_getElem?_getD,List.getElem?_eq_getElem hkl];exact List.getElem_mem hkl
  have htk:=uQ nm (r-3) par cs k hkl
  rw[<-hX] at htk
  obtain⟨hg1,hg2,hg3⟩:=hrg _ hxm
  obtain⟨n1,n2,n3⟩:=hnm _ hxm
  have hrn:=je nm (cs.getD k (0,0,0,0,0)) n1 n2 n3
  generalize cs.getD k (0,0,0,0,0)=y at hcc0 hcc1 hcc2 hcc3 hcc4 htk hg1 hg2 hg3 hrn
  obtain⟨op,to,a,b,arg⟩:=y
  simp only at hg1 hg2 hg3
  simp only[fy,dl] at hrn
  have hrx:dl nm (op,to,a,b,arg)=(op,cY nm to,cY nm a,cY nm b,arg):=rfl
  rw[hrx] at htk
  (try simp only[hk0,h,hcc0,hcc1,hcc2,hcc3,hcc4,decide_true,go_sem,simprocAttr])
  iterate 5 (with_reducible refine GA.go aW rfl ?_;try simp only[hk0,h,hcc0,hcc1,hcc2,hcc3,hcc4,decide_true,go_sem,simprocAttr])
  refine ao [] (.cons (.rfl (by rfl)) (.cons (.rfl (by rfl)) .nil)) hrn (by simp only[AH.mark_next,ae,au,av,am,ah,aj,af,ai,ag,List.length_cons,List.length_nil];decide) ?_
  simp only[go_sem,simprocAttr]
  refine GA.wk (Wk.mk (L:=[(2,.p 0 0),(4,.p 1 0),(8,.fs 1 nm.length (iC .i64 nm)),(10,.n .i64 (r-3)),(11,.p 2 0),(12,.n .i64 k),(13,.p 4 0)]) (bl:=[aK 0 60 [.n .i64 op,.n .i64 (cY nm to),.n .i64 (cY nm a),.n .i64 (cY nm b),.n .u32 arg],aD 60 5 (X).length 0 (cC (X)),aK 0 25 [.fs 2 la.length (aC la),.n .i64 r,.n .i64 (par+n-(r-3)),.os 3 (X).length],aK 0 25 [.sl0,.n .i64 0,.n .i64 0,.sl0],aK 0 25 [.fs 2 la.length (aC la),.n .i64 regs,.n .i64 par,.fs 5 cs.length (cC cs)]]) [4,3,2,1,0] [] ?_ ?_ ?_) ?_
  ·simp only[aX,aV,go_sem,simprocAttr]
   repeat' refine aa ?_ ?_
   all_goals first|exact ba|skip
  ·exact .cons rfl (.lsti (x:=_) (by simp only[go_sem,simprocAttr]<;>rfl) (by rfl) (by rfl) (by rfl) (by rfl) (by rfl) (by rfl) (by simp) (λi hi=>by rcases ez hi with rfl|rfl|rfl|rfl|rfl<;>(simp only[go_sem,simprocAttr];first|done|rfl)) (by rfl)) (.cons rfl .k5 (.cons rfl (.lstw (x:=_) (by simp only[go_sem,simprocAttr]<;>rfl) (by rfl) (by rfl) (by rfl) (by rfl) (by rfl) (by rfl) (by simp) (λi hi=>(by rcases dA hi with rfl|rfl|rfl|rfl<;>(simp only[go_sem,simprocAttr];first|exact Wv.same rfl|exact Wv.os rfl|exact Wv.cv (Cv.own (ty:=102) (z:=0) (by simp) (by simp only[go_sem,simprocAttr]) bI)|exact Wv.cv (Cv.own (ty:=60) (z:=0) (by simp) (by simp only[go_sem,simprocAttr]) (λi j _ hj=>bm i hj)))))) (.cons rfl .ls (.cons rfl .ls .nil))))
  ·simp
  refine Be la regs par cs r n hr hpar nm k X (by omega) op (cY nm to) (cY nm a) (cY nm b) arg hg1 hg2 hg3 _ (λe' H' Y hY hwk=>?_)
  simp only[go_sem,simprocAttr]
  refine GA.wk hwk ?_
  repeat first|with_reducible refine aw ?_|simp only[ha,go_sem,simprocAttr]
  refine⟨_,_,_,?_,Wk.mk [3,2,1,0] [] ?_ ?_ ?_,k+1,Y,rfl,by omega,by rw[hY,htk],rfl,rfl⟩
  ·omega
  ·simp only[aX,aV,go_sem,simprocAttr]
   repeat' refine aa ?_ ?_
   all_goals first|exact ba|skip
  ·exact .cons rfl .k5 (.cons rfl (.lstw (x:=_) (by simp only[go_sem,simprocAttr]<;>rfl) (by rfl) (by rfl) (by rfl) (by rfl) (by rfl) (by rfl) (by simp) (λi hi=>(by rcases dA hi with rfl|rfl|rfl|rfl<;>(simp only[go_sem,simprocAttr];first|exact Wv.same rfl|exact Wv.os rfl|exact Wv.cv (Cv.own (ty:=102) (z:=0) (by simp) (by simp only[go_sem,simprocAttr]) bI)|exact Wv.cv (Cv.own (ty:=60) (z:=0) (by simp) (by simp only[go_sem,simprocAttr]) (λi j _ hj=>bm i hj)))))) (.cons rfl .ls (.cons rfl .ls .nil)))
  ·simp
 ·have hkk:k=cs.length:=by omega
  subst hkk
  rw[List.take_length] at hX
  rw[<-hX]
  refine GA.wk (Wk.mk (L:=[(4,.p 1 0),(11,.p 2 0)]) (bl:=[aK 0 25 [.fs 2 la.length (aC la),.n .i64 r,.n .i64 (par+n-(r-3)),.fs 5 X.length (cC X)],aK 0 25 [.sl0,.n .i64 0,.n .i64 0,.sl0],aK 0 25 [.fs 2 la.length (aC la),.n .i64 regs,.n .i64 par,.fs 5 cs.length (cC cs)]]) [2,1,0] [3] ?_ ?_ ?_) ?_
  ·simp only[aX,aV,go_sem,simprocAttr]
   repeat' refine aa ?_ ?_
   all_goals first|exact ba|skip
  ·exact .cons rfl (.lstw (x:=_) (by simp only[go_sem,simprocAttr]<;>rfl) (by rfl) (by rfl) (by rfl) (by rfl) (by rfl) (by rfl) (by simp) (λi hi=>(by rcases dA hi with rfl|rfl|rfl|rfl<;>(simp only[go_sem,simprocAttr];first|exact Wv.same rfl|exact Wv.os rfl|exact Wv.cv (Cv.own (ty:=102) (z:=0) (by simp) (by simp only[go_sem,simprocAttr]) bI)|exact Wv.cv (Cv.own (ty:=60) (z:=0) (by simp) (by simp only[go_sem,simprocAttr]) (λi j _ hj=>bm i hj)))))) (.cons rfl .ls (.cons rfl .ls .nil))
  ·simp
  repeat first|with_reducible refine aw ?_|simp only[go_sem,simprocAttr]
  by_cases hs1:1024<par+n-(r-3)
  ·rw[if_pos (Or.inl hs1)]
   repeat first|with_reducible refine aw ?_|simp only[hs1,decide_true,go_sem,simprocAttr]
   exact⟨[_,_],rfl,cn.v rfl rfl (cn.v rfl rfl .nil)⟩
  by_cases hs2:16384<X.length
  ·rw[if_pos (Or.inr hs2)]
   have hs3:(16384:Int)<(X.length:Int):=by omega
   repeat first|with_reducible refine aw ?_|simp only[hs1,hs3,decide_true,decide_false,go_sem,simprocAttr]
   exact⟨[_,_],rfl,cn.v rfl rfl (cn.v rfl rfl .nil)⟩
  rw[if_neg (by omega)]
  have hs3:¬(16384:Int)<(X.length:Int):=by omega
  repeat first|with_reducible refine aw ?_|simp only[hs1,hs3,decide_true,decide_false,go_sem,simprocAttr]
  exact⟨[_,_],rfl,cn.v rfl rfl (cn.v rfl rfl .nil)⟩
end
end Go.Proofs.Yteopfmnnhlhbmaa