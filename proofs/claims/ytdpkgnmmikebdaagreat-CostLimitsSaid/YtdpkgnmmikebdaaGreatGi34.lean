/- A part of the proof of CostLimits. No condition. -/
import Derived.Test.YtdpkgnmmikebdaaGreatGi31
import Derived.Test.YtdpkgnmmikebdaaGreatGi33
import Derived.Test.YtdpkgnmmikebdaaGreatGi30
import Derived.Test.YtdpkgnmmikebdaaGreatGip
set_option linter.unusedSimpArgs false
set_option linter.unusedVariables false
set_option linter.constructorNameAsVariable false
set_option maxRecDepth 100000
set_option maxHeartbeats 4000000
namespace Go.Proofs.YtdpkgnmmikebdaaGreat
open Go.RowKit
def Gx(la:ao)(loc:Int)(cs:am):AV:= .agg [.f 57 [] [],.f 58 [] [.fp 3 (Gv la loc cs) 0]]
theorem Ey{i:Nat}(h:i<3):i=0\/i=1\/i=2:=aa
theorem qf(la:ao)(loc:Int)(cs:am):gw av 32 [fX la loc cs] [.v (Gx la loc cs)]:=by
 refine sB af (fe fx ajW ⟨ae,ag⟩ ?_);simp only[fy,fX,Gx];refine dp ?_;refine⟨[0],.agg rfl λi v v' h1 h2=>?_⟩;rcases(show i=0\/i=1\/2<=i by omega) with rfl|rfl|h
 ·cases h1;cases h2;exact .rfl rfl
 ·cases h1;cases h2;refine .f rfl rfl (λi v v' h1 h2=>by simp at h1) (λi v v' h1 h2=>?_)
  cases i with
  |succ i=>simp at h1
  |zero=>
   cases h1;cases h2;refine .p (o:=0) (j:=0) (x:=?x) ae ?hx ?hn ?h0 (λq hq=>?_) (λq hq=>?_)
   case hx=>simp only[go_sem,simprocAttr]<;>rfl
   case hn=>show 0+3<=3;decide
   case h0=>show 0<3;decide
   ·rcases Ey hq with rfl|rfl|rfl<;>(simp only[go_sem,simprocAttr];rfl)
   ·rcases Ey hq with rfl|rfl|rfl<;>rfl
 ·obtain⟨i,rfl⟩:∃k,i=k+2:=⟨i-2,aa⟩;simp at h1
theorem lt4q{i:Nat}(h:i<4):i=0\/i=1\/i=2\/i=3:=aa
theorem uS{P:Program}{n:Nat}{kk kk':Nat->Bool}{g:FuncId}{args:List AV}{e:Tr AV}{H:AH}{Q:AV->Tr AV->AH->Prop}{E:List PanicEntry->AH->Prop}(hk:∀b,kk' b=true->kk b=true)(h:jr P n kk g args e H Q E):jr P n kk' g args e H Q E:=
 ⟨h.1,λB σ a w args' hE hH ha=>(h.2 B σ a w args' hE hH ha).mono λen w' hp=>by
  cases en with
  |returned u=>
   obtain⟨v,e',H',σ',r0,r1,r2,r3,r4⟩:=hp;exact⟨v,e',H',σ',r0,r1,r2,r3,r4.sub hk⟩
  |panicked c=>exact hp
  |outgrown=>exact hp.elim⟩
theorem MA{n i j:Nat}(h:i<n)(hj:j<2):zC i j=vC (List.replicate n (0,0)) i j:=by
 simp only[zC,vC,apd,aql,if_pos h];split<;>rfl
def gc(lp:am):Nat->List (Int×Int)
 |0=>[]
 |k+1=>match jg lp k with
  |some mo=>gc lp k++[((k:Int),mo)]
  |none=>gc lp k
theorem tv(lp:am):∀k,(gc lp k).length<=k
 |0=>bL _
 |k+1=>by
  have:=tv lp k;unfold gc;split
  ·rw[ape];simp only[List.length_cons,List.length_nil];omega
  ·omega
def kR(l:am)(i j:Nat):AV:=if j=0 then aq (l.getD i (0,0)).1 else if j=1 then aq (l.getD i (0,0)).2 else .ow
theorem fo(l:am)(i j:Nat):(kR l i j).pu 3=true:=by unfold kR;(repeat' split)<;>rfl
theorem nj(l:am)(i j:Nat):(kR l i j).cell=true:=by unfold kR;(repeat' split)<;>rfl
def S0(n:Nat):WS:=⟨List.replicate n (0,0),[],0,[],[]⟩
def mP(cs:am)(la:ao)(n:Nat)(o:Fo):Option (Except Er (WS×Bd)):=match fO cs la o 0 0 (S0 n) (0,0) with
 |none=>none
 |some (.error e)=>some (.error e)
 |some (.ok (S,b))=>if S.st.length=0 then some (.ok (S,b)) else some (.error ((cs.length:Int),14))
theorem tZ(la:ao)(cs:am)(n:Nat)(hn:n<=16)(hK:si la n cs)(o:Fo)(pt:List Int)(hr:jH cs= .ok (o,pt)):
  PC av (λ_=>false) 31 [fX la n cs,Gx la n cs] (fi []) (λv H'=>∃(S:WS) (b:Bd),mP cs la n o=some (.ok (S,b))/\v= .agg [aq b.1,aq b.2,aq S.ht,.os 0 (gc S.lp cs.length).length]/\H'=fi [fg 48 3 (gc S.lp cs.length).length 0 (kR (gc S.lp cs.length))]) (λc _=>∃e:Er,mP cs la n o=some (.error e)/\c=kY e.1 e.2):=by
 obtain⟨hg,hpt⟩:=o8 hr;have hcs:=hK.len;have hpe:kn cs=(pt,0):=by rw[kn,if_neg aa,hr]
 refine PC.vw (gX aiT ⟨ae,ag⟩ ?_);simp only[fy,fX,Gx];refine a7 ?_;refine iR (D7 cs) ?_;rw[hpe];refine a7 ?_;refine iR (jd 0 0) ?_;refine a7 ?_;refine vL λr hrn=>?_;obtain⟨ob0,hob0⟩:∃ob0:Nat->Option OB,ob0=(uC (λ_=>none) r (.mp ⟨true,λ_=>none,0,none⟩)):=⟨_,rfl⟩
 (try simp only[go_sem,simprocAttr])
 iterate 1 (with_reducible refine GE.go fx rfl ?_;try simp only[go_sem,simprocAttr])
 refine GE.cut (fu [(2,.p 3 0),(4,.p 4 0),(7,.p 0 0)]) (ft ob0 ([eZ 0 38 [aq 0,aq 0,aq 0,.sl0],eZ 0 25 [.fs 2 la.length (pA la),aq n,.fs 2 cs.length (pI cs)]]++wH la n cs pt r (S0 n))) ?_ ?_
 ·refine a7 ?_;refine Dp (F:=[.n .u32 0]) (mA 0 ag) ?_;simp only[iv];refine a7 ?_;refine jN (ob:=ob0) (λ_=>false) [3,2,1,0,4] [] [(2,.p 1 0),(4,.p 3 0),(7,.p 4 0),(29,.p 4 0)] [.sl 0 0 1 1,aq n] [eZ 0 124 [.fs 2 la.length (pA la),aq n,.fs 2 cs.length (pI cs),.fs 1 pt.length (iC pt),.f 57 [] [],.f 58 [] [.fp 3 (Gv la n cs) 0],.sl0,.sl0,aq 0,.sl0,.cv (.map (some r))],eZ 0 38 [aq 0,aq 0,aq 0,.sl0],eZ 0 83 [.f 57 [] [],.f 58 [] [.fp 3 (Gv la n cs) 0]],eZ 0 25 [.fs 2 la.length (pA la),aq n,.fs 2 cs.length (pI cs)]] [eZ 2 127 [aq 0,aq 0]] (K2 ob0 n aa) ?_ ?_ ?_ ?_ ?_ ?_ ?_ ?_ ?_ ?_ ?_ ?_ ?_ ?_
  ·exact fK
  ·exact bb
  ·exact⟨Wv.sl rfl,Wv.n rfl,trivial⟩
  ·intro r x h;refine ba ?_;rw[hob0] at h;exact h
  ·simp
  ·rfl
  ·exact arZ
  ·exact λb x hb=>by cases hb
  ·rfl
  ·rfl
  ·exact .cons .lq .nil
  ·exact .cons .lq (.cons .lq (.cons .lq (.cons .lq .nil)))
  ·rintro v H' ⟨rfl,rfl⟩;refine⟨ob0,ob0,[fg 127 2 n 0 zC],[eZ 0 38 [aq 0,aq 0,aq 0,.sl0],eZ 0 25 [.fs 2 la.length (pA la),aq n,.fs 2 cs.length (pI cs)],eZ 0 124 [.fs 2 la.length (pA la),aq n,.fs 2 cs.length (pI cs),.fs 1 pt.length (iC pt),.f 57 [] [],.f 58 [] [.fp 3 (Gv la n cs) 0],.sl0,.sl0,aq 0,.sl0,.cv (.map (some r))]],[3,1,4],[0],.fs 2 n zC,[(2,.p 1 0),(4,.p 2 0),(7,.p 0 0),(29,.p 0 0)],rfl,rfl,?_,?_,?_,?_,?_,?_,?_⟩
   ·exact fK
   ·exact bb
   ·exact .cv (.ownb (ty:=127) (z:=0) ai (λi j _ _=>rfl) ae)
   ·simp
   ·exact λ_ _ h=>h
   ·exact arZ
   refine a7 ?_;refine(gA.nilc 0 7 3 221 (x:=?x) ?hx ?hi ag ag ?hlv ?hv ?hn).trans ((gA.nilc 0 9 1 46 (x:=?y) ?hx2 ?hi2 ag ag ?hlv2 ?hv2 ?hn2).trans (gA.mkO (ob:=ob0) [2,1,4,3,0] [] ?_ ?_ ?_ ?_ (λb hb=>by cases hb)))
   case hx=>simp only[go_sem,simprocAttr]<;>rfl
   case hi=>show 7<11;decide
   case hlv=>rfl
   case hv=>simp only[go_sem,simprocAttr]
   case hn=>simp only[go_sem,simprocAttr]<;>decide
   case hx2=>simp only[go_sem,simprocAttr]<;>rfl
   case hi2=>show 9<11;decide
   case hlv2=>rfl
   case hv2=>simp only[go_sem,simprocAttr]
   case hn2=>simp only[go_sem,simprocAttr]<;>decide
   ·exact fK
   ·simp only[wH,kv,S0,apK];exact .cr (.j4) (.cr (.j3) (.cr (.rows (x:=_) ai af af af (apf _) (bL _) ag (λi j h=>absurd h (apg _)) (λi j h=>absurd h (apg _))) (.cr (.rows (x:=_) ai af af af (apf _) (bL _) ag (λi j h=>absurd h (apg _)) (λi j h=>absurd h (apg _))) (.cr (.wk (hg:=λi hi=>by rcases xJ hi with rfl|rfl|rfl|rfl|rfl|rfl|rfl|rfl|rfl|rfl|rfl<;>(simp only[go_sem,simprocAttr];first|exact Wv.same rfl|exact Wv.os rfl|exact .cv (.fs λi j h1 h2=>MA h1 h2)))) .nil))))
   ·simp[wH]
   ·exact asC
  ·exact ar2
 have hW0:WF n (S0 n):=⟨⟨apK,λx hx=>by rw[(aqg.1 hx).2];exact rQ⟩,λv hv=>(by cases hv),λl hl=>(by cases hl)⟩
 have hS0:Sm 0 (S0 n):=⟨apf _,⟨(by show(0:Int)<=0;decide),(by show(0:Int)<=32;decide)⟩,apf _⟩
 have hM0:sg r ob0 (S0 n).lp:=⟨⟨true,λ_=>none,0,none⟩,by rw[hob0];exact if_pos rfl,rfl,λk=>rfl⟩
 have hco:=uU la n cs pt r n aa hpt hK (o.size+1) o aa 0 cs.length 0 0 (S0 n) ob0 hg (bL _) ag ag hW0 hS0 hM0;obtain⟨Si,hSi⟩:∃Si,Si=S0 n:=⟨_,rfl⟩;rw[<-hSi] at hco hW0 hS0 hM0 ⊢;simp only[wH,kv,List.cons_append,List.nil_append];refine a7 ?_;refine uS (kk:=fV) (λb hb=>by cases hb) (gB la n cs pt r ob0 (args2:=[.p 0 0,aq ((0:Nat)),aq cs.length,aq ((0:Nat)),aq ((0:Nat))]) (L:=[(2,.p 3 0),(4,.p 4 0),(7,.p 0 0)]) (bl2:=[eZ 0 38 [aq 0,aq 0,aq 0,.sl0],eZ 0 25 [.fs 2 la.length (pA la),aq n,.fs 2 cs.length (pI cs)]]) Si [4,3,2,1,0] [] hco ?_ ?_ ?_ ?_ ae rfl af af (.cons .lq (.cons .lq .nil)) ?_ ?_)
 ·exact fK
 ·exact bb
 ·exact asN
 ·exact asC
 ·rintro v' H' ⟨S1,bx,ob1,hz,rfl,hM1,rfl⟩;refine⟨S1,ob1,rfl,?_⟩;simp only[wH,kv,List.cons_append,List.nil_append,jo];have s1:=iB o 0 cs.length 0 0 hg hz hS0;have hlvl:=oK la n cs pt r ob1 cs.length 0 S1 (by have:=s1.st;omega)
  refine a7 ?_;refine uS (kk:=fV) (λb hb=>by cases hb) (gB la n cs pt r ob1 (args2:=[.p 0 0,aq cs.length,aq ((0:Nat))]) (L:=[(2,.p 3 0),(4,.p 4 0),(7,.p 0 0),(8,.p 5 0)]) (bl2:=[eZ 0 130 [aq bx.1,aq bx.2],eZ 0 38 [aq 0,aq 0,aq 0,.sl0],eZ 0 25 [.fs 2 la.length (pA la),aq n,.fs 2 cs.length (pI cs)]]) S1 [5,4,3,2,1,0] [] hlvl ?_ ?_ ?_ ?_ ae rfl af af (.cons .lq (.cons .lq (.cons .lq .nil))) ?_ ?_)
  ·exact fK
  ·exact bb
  ·exact asM
  ·exact asC
  ·rintro v' H' ⟨hl,rfl,rfl⟩;refine⟨S1,ob1,rfl,?_⟩;simp only[wH,kv,List.cons_append,List.nil_append];refine a7 ?_;refine GE.loop (I:=λm e H=>∃k:Nat,m=cs.length-k/\k<=cs.length/\e=fu [(4,.p 3 0),(7,.p 0 0),(9,.p 4 0),(58,aq cs.length),(59,aq k)]/\H=ft ob1 ([fg 48 3 (gc S1.lp k).length 0 (kR (gc S1.lp k)),eZ 0 38 [aq bx.1,aq bx.2,aq S1.ht,.os 5 (gc S1.lp k).length],eZ 0 38 [aq 0,aq 0,aq 0,.sl0]]++wH la n cs pt r S1)) (m:=cs.length) ((gA.nilc 6 3 3 48 (x:=?x3) ?hx3 ?hi3 ag ag ?hlv3 ?hv3 ?hn3).trans (gA.mkO (ob:=ob1) [7,6,4,2,1,0] [] ?_ ?_ ?_ ?_ (λb hb=>by cases hb))) ⟨0,rfl,apf _,rfl,rfl⟩ ?_
   case hx3=>simp only[go_sem,simprocAttr]<;>rfl
   case hi3=>show 3<4;decide
   case hlv3=>rfl
   case hv3=>simp only[go_sem,simprocAttr]
   case hn3=>simp only[go_sem,simprocAttr]<;>decide
   ·exact fK
   ·exact .cr (.rows (x:=_) ai af af af (apf _) (bL _) ag (λi j h=>absurd h (apg _)) (λi j h=>absurd h (apg _))) (.cr (.j4) (.cr (.j4) (.cr (.k2 (λ_ _ _ _=>rfl)) (.cr (.k2 (λi j _ _=>fk _ i j)) (.cr .wk .nil)))))
   ·simp[wH]
   ·exact asC
   rintro m e H ⟨k,rfl,hk,rfl,rfl⟩;simp only[wH,kv,List.cons_append,List.nil_append];have k0:(0:Int)<=(k:Int):=aa;obtain⟨mx,hmx,hown,hget⟩:=hM1;have hil:=tv S1.lp k;by_cases hkc:k<cs.length
   ·have hki:(k:Int)<(cs.length:Int):=aa;have wk:=au k;cases hlk:jg S1.lp k with
    |none=>
     have hlook:mx.look true (.agg [aq 0,aq 0,.sl0]) k= .tup [.agg [aq 0,aq 0,.sl0],.b false]:=by
      unfold nG.look;rw[hget,hlk];rfl
     have hiv:gc S1.lp (k+1)=gc S1.lp k:=by simp only[gc,hlk]
     refine a8 (aU hki (aU hmx (aU hlook wk))) ?_;refine⟨cs.length-(k+1),_,_,aa,gA.mkO (ob:=ob1) [5,4,3,2,1,0] [] ?_ ?_ ?_ ?_ (λb hb=>by cases hb),k+1,rfl,aa,rfl,rfl⟩
     ·exact fK
     ·rw[hiv];exact bb
     ·simp[wH]
     ·exact asC
    |some mo=>
     have hlook:mx.look true (.agg [aq 0,aq 0,.sl0]) k= .tup [.agg [aq k,aq mo,.ow],.b true]:=by
      unfold nG.look;rw[hget,hlk];rfl
     have hiv:gc S1.lp (k+1)=gc S1.lp k++[((k:Int),mo)]:=by simp only[gc,hlk]
     have hap:(((gc S1.lp k).length+1)*3<1099511627776/\((gc S1.lp k).length+1)*40<=140737488355328)/\(gc S1.lp k).length<=9223372036854775806:=⟨⟨aa,aa⟩,aa⟩;refine a8 (aU hki (aU hmx (aU hlook (aU wk (aU hap (aU @lV @pP)))))) ?_;refine⟨cs.length-(k+1),_,_,aa,gA.mkO (ob:=ob1) [8,4,3,2,1,0] [] ?_ ?_ ?_ ?_ (λb hb=>by cases hb),k+1,rfl,aa,rfl,rfl⟩
     ·exact fK
     ·rw[hiv];simp only[ape,List.length_cons,List.length_nil];exact .cr (.snoc (n:=(gc S1.lp k).length) (row:=kR (gc S1.lp k)) (l:=[aq k,aq mo,.ow]) ai ae rfl rfl ag aa (λi j hi _=>by simp only[kR,apd,apF hi]) (λj hj=>by rcases Ey hj with rfl|rfl|rfl<;>simp[kR,apd]) (λi j _ _=>fo _ i j)) bb
     ·simp[wH]
     ·exact asC
   ·have hki:¬(k:Int)<(cs.length:Int):=aa;obtain rfl:k=cs.length:=aa;refine a8 hki ?_;have hl0:S1.st.length=0:=by
     unfold r8 at hl;split at hl
     ·assumption
     ·cases hl
    refine mj (ob:=λ_=>none) [5] [] (.agg [aq bx.1,aq bx.2,aq S1.ht,.os 0 (gc S1.lp cs.length).length]) [fg 48 3 (gc S1.lp cs.length).length 0 (kR (gc S1.lp cs.length))] bb (.agg rfl λi v v' h1 h2=>?_) ae (λr x h=>by cases h) (λb hb=>by cases hb) ⟨S1,bx,by unfold mP;rw[<-hSi,hz];exact if_pos hl0,rfl,fv _⟩
    rcases(show i=0\/i=1\/i=2\/i=3\/4<=i by omega) with rfl|rfl|rfl|rfl|h
    ·exact asV
    ·exact asV
    ·exact asV
    ·cases h1;cases h2;exact Wv.os rfl
    ·exact absurd (ap4.1 h1).1 (by simp only[List.length_cons,List.length_nil];omega)
  ·rintro c H' ⟨x,hx,rfl⟩;refine⟨x,?_,rfl⟩;unfold mP;rw[<-hSi,hz];unfold r8 at hx;split at hx
   ·cases hx
   ·rename_i hne;cases hx;exact if_neg hne
 ·rintro c H' ⟨e,he,rfl⟩;exact⟨e,by unfold mP;rw[<-hSi,he],rfl⟩
theorem BV{n:Nat}{row:Nat->Nat->AV}(hn:n<1000000)(hc:∀i j,i<n->j<2->(row i j).cell=true):gw av 111 [.fs 2 n row] [.o 127 2 n 0 row]:=by
 refine fe fx T3 ⟨ae,ag⟩ ?_;simp only[fy];have hl1:n*2<1099511627776:=aa;have hl2:n*16<=140737488355328:=aa;have hl3:n<=9223372036854775807:=aa;refine dq (aU hl1 (aU hl2 hl3)) ?_;refine⟨[_],rfl,.o (x:=_) aj af af af ag aq2 (bL _) (λi j hi hj=>?_) hc rfl .nil⟩
 exact vY hi hj aa
theorem jR(l:List Iv)(hn:l.length<1000000):gw av 111 [.fs 2 l.length (vC l)] [.o 127 2 l.length 0 (vC l)]:=BV hn (λi j _ _=>gL l i j)
theorem qZ(x y:List Iv)(hx:∀v ∈ x,iJ v)(hy:∀v ∈ y,iJ v)(hxy:x.length<=y.length)(hn:x.length<100000):gw av 156 [.fs 2 x.length (vC x),.fs 2 y.length (vC y)] [.o 127 2 x.length 0 (vC (gj x y))]:=by
 refine fe fx TD ⟨ae,ag⟩ ?_;simp only[fy];refine dp ?_;refine GA.wk (Wk.nil 5 2 127 ah ag ah) ?_;simp only[jP];refine GA.loop (I:=λm e H=>∃(k:Nat),m=x.length-k/\k<=x.length/\e=fu [(0,.fs 2 x.length (vC x)),(1,.fs 2 y.length (vC y)),(5,.os 0 k),(6,aq k)]/\H=fi [fg 127 2 k 0 (vC (gj x y))]) (Wk.mk [0] [] ?_ ?_ ?_) ⟨0,rfl,aa,rfl,rfl⟩ ?_
 ·exact fK
 ·exact arY
 ·simp
 rintro m e H ⟨k,rfl,hk,rfl,rfl⟩;have h0:(0:Int)<=(k:Int):=aa;by_cases h:(k:Int)<x.length;rotate_left
 ·exact avM
 have hkn:k<x.length:=aa;have hky:(k:Int)<y.length:=aa;have wk:=au k;have hlap:((k+1)*2<1099511627776/\(k+1)*16<=140737488355328)/\k<=9223372036854775806:=⟨⟨aa,aa⟩,aa⟩;refine dD (aU h (aU h0 (aU hky (aU @wt @ws)))) ?_;refine gf (rO (kr hx k) (kr hy k)) ?_;simp only[iv];refine du (aU hlap wk) ?_;refine⟨_,_,_,?_,Wk.mk [2] [] ?_ ?_ ?_,k+1,rfl,aa,rfl,rfl⟩
 ·omega
 ·exact fK
 ·exact .cr (.snoc (row:=vC (gj x y)) (n:=k) (o:=k*2) (l:=[aq (kQ (x.getD k (0,0)) (y.getD k (0,0))).1,aq (kQ (x.getD k (0,0)) (y.getD k (0,0))).2]) ai rfl rfl rfl ag aa (λi j _ _=>rfl) (λj hj=>by rcases uh hj with rfl|rfl<;>(simp only[wt,ws,ni x y k hkn];rfl)) (λi j _ _=>oy _ i j)) .nil
 ·simp
theorem wV(x y:List Iv)(hx:∀v ∈ x,iJ v)(hy:∀v ∈ y,iJ v)(hxy:x.length=y.length)(hn:x.length<100000):gw av 158 [.fs 2 x.length (vC x),.fs 2 y.length (vC y)] [.v (.b (ib x y))]:=by
 refine fe fx Tn ⟨ae,ag⟩ ?_;simp only[fy];refine dp ?_;refine GA.loop (I:=λm e H=>∃k:Nat,m=x.length-k/\k<=x.length/\ib x y=ib (x.drop k) (y.drop k)/\e=fu [(0,.fs 2 x.length (vC x)),(1,.fs 2 y.length (vC y)),(5,aq k)]/\H=fi []) (Wk.mk [] [] ?_ ?_ ?_) ⟨0,rfl,aa,rfl,rfl,rfl⟩ ?_
 ·exact fK
 ·trivial
 ·decide
 rintro m e H ⟨k,rfl,hk,hs,rfl,rfl⟩;have h0:(0:Int)<=(k:Int):=aa;by_cases hkn:k<x.length
 ·have hki:(k:Int)<x.length:=aa;have hkj:(k:Int)<y.length:=aa;have wk:=au k;rw[qe hkn aa] at hs;refine dD (aU h0 (aU hki (aU hkj (aU @wt @ws)))) ?_;refine gf (ug (kr hx k) (kr hy k)) ?_;cases hw:jp (x.getD k (0,0)) (y.getD k (0,0))
  ·refine dF ?_;exact eY (by rw[hs,hw];rfl) rfl
  ·refine dq wk ?_;refine⟨_,_,_,?_,Wk.mk [] [] ?_ ?_ ?_,k+1,rfl,aa,by rw[hs,hw];rfl,rfl,rfl⟩
   ·omega
   ·exact fK
   ·trivial
   ·decide
 ·have hki:¬(k:Int)<x.length:=aa;refine dq hki ?_;exact eY (by rw[hs,aqm aa,aqm aa];rfl) rfl
/-! ### what a loop stores-/
theorem uy(cs:am)(i:Nat):∀(k p:Nat),stoF cs p (k+1) i=(stoF cs p k i||decide (cs.getD (p+k) (0,0)=(2,(i:Int))))
 |0,p=>by simp only[stoF,Bool.or_false,Bool.false_or,Nat.add_zero]
 |k+1,p=>by
  rw[stoF,uy cs i k (p+1),show p+1+k=p+(k+1) by omega,<-Bool.or_assoc]
  rfl
def Gu(cs:am)(p n:Nat)(i _j:Nat):AV:= .b (stoF cs p n i)
theorem xf(cs:am)(p n loc:Nat)(hp:p+n<=cs.length)(hcs:cs.length<=1024)(hl:loc<1000000)(hA:pz cs)(hlo:∀p,p<cs.length->fm cs p=1\/fm cs p=2->(cs.getD p (0,0)).2<loc):gw av 159 [.fs 2 n (λi j=>pI cs (p+i) j),aq loc] [.o 4 1 loc 0 (Gu cs p n)]:=by
 have hl1:loc<1099511627776:=aa;have hl2:loc<=140737488355328:=aa;have hl3:(0:Int)<=(loc:Int):=aa;have hl4:(loc:Int)<=16777216:=aa;have hl5:1*loc<=140737488355328:=aa;refine fe fx Td ⟨ae,ag⟩ ?_;simp only[fy];refine dH (aU hl1 (aU hl2 (aU hl3 (aU hl4 hl5)))) ?_;refine GA.loop (I:=λm e H=>∃k:Nat,m=n-k/\k<=n/\e=fu [(0,.fs 2 n (λi j=>pI cs (p+i) j)),(5,.os 0 loc),(6,aq k)]/\H=fi [fg 4 1 loc 0 (Gu cs p k)]) (Wk.mk [0] [] ?_ ?_ ?_) ⟨0,rfl,aa,rfl,rfl⟩ ?_
 ·exact fK
 ·exact .cr (.same ai rfl ag (λi j h hj=>by cases apE.1 hj;rfl) (λi j h hj=>rfl)) .nil
 ·simp
 rintro m e H ⟨k,rfl,hk,rfl,rfl⟩;have h0:(0:Int)<=(k:Int):=aa;by_cases h:(k:Int)<n;rotate_left
 ·refine dq h ?_;obtain rfl:k=n:=aa;exact⟨[_],rfl,.inr ⟨0,rfl,ae,_,ai,rfl,rfl,ag,rfl,bL _,bL _,λi j hi hj=>fI i j hj,λi j _ _=>rfl⟩,rfl,trivial⟩
 have wk:=au k;have hs:=uy cs;have e0:pI cs (p+k) 0= aq (fm cs (p+k)):=rfl;have e1:pI cs (p+k) 1= .n .u32 (cs.getD (p+k) (0,0)).2:=rfl;by_cases e:fm cs (p+k)=2
 ·have ha:=(hA (p+k)).1;have hb:=hlo (p+k) aa (.inr e);obtain⟨q,hq⟩:∃q:Nat,(cs.getD (p+k) (0,0)).2=q:=⟨(cs.getD (p+k) (0,0)).2.toNat,aa⟩;rw[hq] at e1;have q0:(0:Int)<=(q:Int):=aa;have q1:(q:Int)<loc:=aa;have q2:q+1<=loc:=aa;have q3:q<loc:=aa
  repeat first|with_reducible refine fj ?_|simp only[h,h0,e0,e1,e,q0,q1,q2,q3,wk,apw,apu,aQ,go_sem,simprocAttr]
  refine⟨_,_,_,?_,Wk.mk [0] [] ?_ ?_ ?_,k+1,rfl,aa,rfl,rfl⟩
  ·omega
  ·exact fK
  ·refine .cr (.put (q:=q) ai ae rfl q3 rfl ag aa (λi j h hj=>?_) (λi j _ _=>rfl)) .nil;obtain rfl:j=0:=aa;have hc:cs.getD (p+k) (0,0)=(2,(q:Int)):=Prod.ext e hq;simp only[Gu,hs,hc];by_cases hqi:i=q
   ·subst hqi;simp
   ·have:decide (((2:Int),(q:Int))=(2,(i:Int)))=false:=by simp;omega
    rw[this,Bool.or_false,if_neg hqi]
  ·simp
 ·refine dD (aU h (aU h0 (aU e0 (aU e1 (aU e wk))))) ?_;refine⟨_,_,_,?_,Wk.mk [0] [] ?_ ?_ ?_,k+1,rfl,aa,rfl,rfl⟩
  ·omega
  ·exact fK
  ·refine .cr (.same ai rfl ag (λi j h hj=>?_) (λi j h hj=>rfl)) .nil;have:decide (cs.getD (p+k) (0,0)=(2,(i:Int)))=false:=decide_eq_false λhc=>e (congrArg Prod.fst hc);simp only[Gu,hs,this,Bool.or_false]
  ·simp
theorem BM(x y:List Iv)(sto:Nat->Bool)(p:Int)(hx:∀v ∈ x,iJ v)(hy:∀v ∈ y,iJ v)(hxy:x.length<=y.length)(hn:x.length<100000):gw av 160 [.fs 2 x.length (vC x),.fs 2 y.length (vC y),.fs 1 x.length (λi _=> .b (sto i)),aq p] [.o 127 2 x.length 0 (vC (iL sto p 0 x y))]:=by
 refine fe fx SZ ⟨ae,ag⟩ ?_;simp only[fy];refine dp ?_;refine GA.wk (Wk.nil 9 2 127 ah ag ah) ?_;simp only[jP];refine GA.loop (I:=λm e H=>∃(k:Nat),m=x.length-k/\k<=x.length/\e=fu [(0,.fs 2 x.length (vC x)),(1,.fs 2 y.length (vC y)),(2,.fs 1 x.length (λi _=> .b (sto i))),(3,aq p),(9,.os 0 k),(10,aq k)]/\H=fi [fg 127 2 k 0 (vC (iL sto p 0 x y))]) (Wk.mk [0] [] ?_ ?_ ?_) ⟨0,rfl,aa,rfl,rfl⟩ ?_
 ·exact fK
 ·exact arY
 ·simp
 rintro m e H ⟨k,rfl,hk,rfl,rfl⟩;have h0:(0:Int)<=(k:Int):=aa;by_cases h:(k:Int)<x.length;rotate_left
 ·exact avM
 have hkn:k<x.length:=aa;have hky:(k:Int)<y.length:=aa;have wk:=au k;have hlap:((k+1)*2<1099511627776/\(k+1)*16<=140737488355328)/\k<=9223372036854775806:=⟨⟨aa,aa⟩,aa⟩;have hg:=lX sto p 0 x y k hkn;rw[apz] at hg;by_cases hp:p<3
 ·rw[if_pos hp] at hg;refine dD (aU h (aU h0 (aU hky (aU hp (aU @wt @ws))))) ?_;refine gf (rO (kr hx k) (kr hy k)) ?_;simp only[iv];refine dp ?_;refine gf (vB (kr hx k) xC) ?_;rw[<-hg];simp only[iv];refine du (aU hlap wk) ?_;refine⟨_,_,_,?_,Wk.mk [2] [] ?_ ?_ ?_,k+1,rfl,aa,rfl,rfl⟩
  ·omega
  ·exact fK
  ·exact .cr (.snoc (row:=vC (iL sto p 0 x y)) (n:=k) (o:=k*2) (l:=[aq ((iL sto p 0 x y).getD k (0,0)).1,aq ((iL sto p 0 x y).getD k (0,0)).2]) ai rfl rfl rfl ag aa (λi j _ _=>rfl) (λj hj=>by rcases uh hj with rfl|rfl<;>rfl) (λi j _ _=>oy _ i j)) .nil
  ·simp
 rw[if_neg hp] at hg;cases hs:sto k
 ·rw[hs,if_neg ag] at hg;refine dD (aU h (aU h0 (aU hky (aU hp (aU hs (aU @wt (aU @ws (aU hlap wk)))))))) ?_;refine⟨_,_,_,?_,Wk.mk [2] [] ?_ ?_ ?_,k+1,rfl,aa,rfl,rfl⟩
  ·omega
  ·exact fK
  ·exact .cr (.snoc (row:=vC (iL sto p 0 x y)) (n:=k) (o:=k*2) (l:=[aq (x.getD k (0,0)).1,aq (x.getD k (0,0)).2]) ai rfl rfl rfl ag aa (λi j _ _=>rfl) (λj hj=>by rcases uh hj with rfl|rfl<;>(simp only[wt,ws,hg];rfl)) (λi j _ _=>oy _ i j)) .nil
  ·simp
 ·rw[hs,if_pos rfl] at hg;refine dD (aU h (aU h0 (aU hky (aU hp (aU hs (aU @wt @ws)))))) ?_;refine gf iQ ?_;simp only[iv];refine du (aU hlap wk) ?_;refine⟨_,_,_,?_,Wk.mk [2] [] ?_ ?_ ?_,k+1,rfl,aa,rfl,rfl⟩
  ·omega
  ·exact fK
  ·exact .cr (.snoc (row:=vC (iL sto p 0 x y)) (n:=k) (o:=k*2) (l:=[aq 0,aq 4294967295]) ai rfl rfl rfl ag aa (λi j _ _=>rfl) (λj hj=>by rcases uh hj with rfl|rfl<;>(simp only[wt,ws,hg];rfl)) (λi j _ _=>oy _ i j)) .nil
  ·simp
/-! ### where a loop stands in a report-/
def E8(l:am)(p:Int):Int:=if l.findIdx (λx=>decide (x.1=p))<l.length then(l.findIdx (λx=>decide (x.1=p)):Int) else-1
theorem sY(l:am)(p:Int)(hn:l.length<100000):gw av 80 [.fs 3 l.length (kR l),aq p] [.v (aq (E8 l p))]:=by
 refine fe fx UI ⟨ae,ag⟩ ?_;simp only[fy];obtain⟨q,hq⟩:∃q,q=l.findIdx (λx=>decide (x.1=p)):=⟨_,rfl⟩;have hF:E8 l p=if q<l.length then(q:Int) else-1:=by unfold E8;rw[<-hq]
 have hql:q<=l.length:=by rw[hq];exact List.findIdx_le_length
 refine dp ?_;refine GA.loop (I:=λm e H=>∃k:Nat,m=l.length-k/\k<=q/\e=fu [(0,.fs 3 l.length (kR l)),(1,aq p),(5,aq k)]/\H=fi []) (Wk.mk [] [] ?_ ?_ ?_) ⟨0,rfl,apf _,rfl,rfl⟩ ?_
 ·exact fK
 ·trivial
 ·simp
 rintro m e H ⟨k,rfl,hk,rfl,rfl⟩;have h0:(0:Int)<=(k:Int):=aa;by_cases h:(k:Int)<l.length;rotate_left
 ·refine dq h ?_;exact eY (by rw[hF,if_neg aa]) rfl
 have hkl:k<l.length:=aa;have wk:=au k;have e0:kR l k 0= aq (l.getD k (0,0)).1:=rfl;by_cases e:k=q
 ·have hp:(l.getD k (0,0)).1=p:=by
   have hk2:l.findIdx (λx=>decide (x.1=p))<l.length:=by rw[<-hq];omega
   have:=List.findIdx_getElem (w:=hk2);simp only[<-hq,<-e] at this;rw[apd,apk hkl];exact of_decide_eq_true this
  refine dD (aU h (aU h0 (aU e0 hp))) ?_;exact eY (by rw[hF,if_pos aa,e]) rfl
 ·have hp:¬(l.getD k (0,0)).1=p:=by
   have:=List.not_of_lt_findIdx (p:=λx:Int×Int=>decide (x.1=p)) (xs:=l) (i:=k) (by rw[<-hq];omega)
   rw[apd,apk hkl];simpa using this
  refine dD (aU h (aU h0 (aU e0 (aU hp wk)))) ?_;refine⟨_,_,_,?_,Wk.mk [] [] ?_ ?_ ?_,k+1,rfl,aa,rfl,rfl⟩
  ·omega
  ·exact fK
  ·trivial
  ·simp
/-! ### bounds-/
theorem kB(n:Int):gw av 157 [aq n] [.v (aq (gi n))]:=by
 refine fe fx Tw ⟨ae,ag⟩ ?_;simp only[fy]
 repeat first|with_reducible refine fj ?_|simp only[fL,gV,iW,go_sem,simprocAttr]
 exact dU
theorem tc(b c:Bd)(hb:jY b)(hc:jY c):gw av 113 [jo b,jo c] [.v (jo (gh b c))]:=by
 refine fe fx TM ⟨ae,ag⟩ ?_;simp only[fy,jo];have w1:IntKind.i64.wrap (b.1+c.1)=b.1+c.1:=ff aa;have w2:IntKind.i64.wrap (b.2+c.2)=b.2+c.2:=ff aa;refine du (aU w1 w2) ?_;refine gf (F:=[aq (b.1+c.1)]) (kB _) ?_;refine dp ?_;refine gf (F:=[aq (b.2+c.2)]) (kB _) ?_;refine dp ?_;exact dU
theorem rM(a n:Int)(ha:0<=a/\a<=281474976710657)(hn:0<n/\n<=65537):gw av 183 [aq a,aq n] [.v (aq (fN a n))]:=by
 refine fe fx Se ⟨ae,ag⟩ ?_;simp only[fy];have hd:=nW (a:=281474976710657) (b:=n) ag aa;have w1:IntKind.i64.wrap (Int.tdiv 281474976710657 n)=281474976710657 / n:=by rw[apO ag];exact ff aa
 have hz:n≠0:=aa;have h0:0<n:=hn.1;by_cases hc:281474976710657 / n<a
 ·exact eN
 ·have hle:a*n<=281474976710657:=(Int.le_ediv_iff_mul_le h0).1 (Int.not_lt.1 hc);have hp:0<=a*n:=apY ha.1 aa;have w2:IntKind.i64.wrap (a*n)=a*n:=ff aa;refine dC (aU h0 (aU hz (aU @gp (aU w1 (aU hc w2))))) ?_;refine gf (F:=[aq (a*n)]) (kB _) ?_;refine dp ?_;exact eY (by rw[show fN a n=gi (a*n) from if_neg (λh=>hc h.2)]) rfl
theorem kA(x:Iv):gw av 165 [iv x] [.v (vl (false,x))]:=by
 refine fe fx Ss ⟨ae,ag⟩ ?_;simp only[fy,iv,vl];refine dp ?_;exact dU
theorem GA.cutS{P:Program}{n:Nat}{hints:gN}{e:Tr AV}{H:AH}{Q:AE->Tr AV->AH->Prop}{G:AE->Tr AV->AH->Prop}{x y:AC}(e2:Tr AV)(H2:AH)(h:GA P n hints x e H (mq (λe' H'=>Wk n e' H' e2 H2) (λ_ _ _=>False)))(h':GA P n hints y e2 H2 Q):GA P n hints x e H (mq (λe' H'=>GA P n hints y e' H' Q) G):=
 h.mono λa e' H' hq=>by
  cases a with
  |normal=>exact GA.wk hq h'
  |exit i=>exact hq.elim
  |ret=>exact hq.elim
theorem vA(b:Bd)(n:Int)(hb:jY b)(hn:0<=n/\n<=65537):gw av 162 [jo b,aq n] [.v (jo (jt b n))]:=by
 refine fe fx SG ⟨ae,ag⟩ ?_;simp only[fy,jo];have w1:IntKind.i64.wrap (b.1+1)=b.1+1:=ff aa;have hF:=fH (n:=b.1+1) aa;refine dp ?_;refine GA.cutS (fu [(1,aq n),(4,.p 0 0),(5,.p 2 0),(6,.p 1 0)]) (fi [eZ 0 111 [aq 0,aq 0],eZ 0 111 [aq (gi (b.1+1)),aq b.2],eZ 0 111 [aq 0,aq 0]]) ?_ ?_
 ·refine GA.frkm fx 3 eL ?_
  refine bc w1 ?_
  repeat' with_reducible refine fE ?_ ?_
  all_goals
   refine gf (F:=[aq (b.1+1)]) (kB _) ?_;refine ba ?_
   repeat' with_reducible refine fE ?_ ?_
  any_goals decide
  all_goals
   refine Wk.mk [2,3,1] [] ?_ ?_ ?_
   ·exact fK
   ·exact bb
   ·simp
 by_cases h0:0<n
 ·(try simp only[h0,gt_iff_lt,decide_true,go_sem,simprocAttr])
  iterate 4 (with_reducible refine GA.go fx rfl ?_;try simp only[h0,gt_iff_lt,decide_true,go_sem,simprocAttr])
  refine GA.mixm fx 2 eL ?_
  refine ba ?_;refine gf (F:=[aq (gi (b.1+1)),aq n]) (rM _ n hF ⟨h0,hn.2⟩) ?_;refine ba ?_;refine gf (F:=[aq b.2,aq n]) (rM _ n hb.2 ⟨h0,hn.2⟩) ?_;refine ba ?_;refine dp ?_;exact dU
 ·obtain rfl:n=0:=aa;refine dw h0 ?_;exact eY (by
   have:jt b 0=(0,0):=by unfold jt fN;simp only[Int.mul_zero];rfl
   rw[this]) rfl
def lZ(er:Er)(p e:Int):Er:=if er.2=0/\e≠0 then(p,e) else er
def aL(la:ao)(loc:Int)(cs:am)(pt:List Int)(S:WS)(er:Er):List AV:=
 [.fs 2 la.length (pA la),aq loc,.fs 2 cs.length (pI cs),.fs 1 pt.length (iC pt),.b false,aq 0,aq 0,aq 0,.sl0,.os 2 S.lp.length,.fs 2 S.loc.length (vC S.loc),.os 1 S.st.length,aq S.ht,.os 3 S.lv.length,aq er.1,aq er.2]
def aH(la:ao)(loc:Int)(cs:am)(pt:List Int)(S:WS)(er:Er):List AB:=
 [fg 46 1 S.lv.length 0 (pS S.lv),fg 48 3 S.lp.length 0 (kR S.lp),fg 244 3 S.st.length 0 (sC S.st),eZ 0 109 (aL la loc cs pt S er)]
theorem E5(l:am)(p:Nat->Bool)(i j:Nat):(kR l i j).nm p 3=true:=by unfold kR;(repeat' split)<;>rfl
theorem vM{i:Nat}(h:i<16):i=0\/i=1\/i=2\/i=3\/i=4\/i=5\/i=6\/i=7\/i=8\/i=9\/i=10\/i=11\/i=12\/i=13\/i=14\/i=15:=aa
theorem js.ak{r:Nat->Option Nat}{M:List Nat}{H:AH}{b ty:Nat}{l:List AV}{x:AB}(hx:H.at b=some x:=by simp only[go_sem,simprocAttr]<;>rfl)(h1:x.ty=ty:=by rfl)(h2:x.esz=0:=by rfl)(h3:x.opn=false:=by rfl)(h4:x.size=l.length:=by rfl)(h5:x.fzn=0:=by rfl)(hM:M.contains b=false:=by rfl)(hl:l.length=16:=by rfl)
  (hg:∀i,i<16->Wv r M H (x.get i) (l[i]?.getD .u):=by intro i hi;rcases vM hi with rfl|rfl|rfl|rfl|rfl|rfl|rfl|rfl|rfl|rfl|rfl|rfl|rfl|rfl|rfl|rfl<;>(simp only[go_sem,simprocAttr];first|exact Wv.same rfl|exact Wv.os rfl)):js r M H b (eZ 0 ty l):=
 .lstj hx h1 h2 h3 h4 h5 hM aa (λi hi=>hg i aa)
section
variable (la:ao) (loc:Int) (cs:am) (pt:List Int) (ob:Nat->Option OB)
theorem fU{n:Nat}{g:FuncId}{args args2:List AV}{e:Tr AV}{H:AH}{L:List (Nat×AV)}{bl2:List AB}{Q':AV->AH->Prop}{Q:AV->Tr AV->AH->Prop}{E:List PanicEntry->AH->Prop}(S:WS)(er:Er)(ρ M:List Nat)
  (h:PC av fV g args2 (ft ob (aH la loc cs pt S er)) Q' (λ_ _=>False))
  (he:iT (λb2=>ρ.reverse[b2]?) M H e L) (hh:ig (λb2=>ρ.reverse[b2]?) M H ρ (bl2++aH la loc cs pt S er)) (hv:Gk (λb2=>ρ.reverse[b2]?) M H args args2) (hob:∀r x,ob r=some x->H.ob r=some x)
  (hl:bl2.length<1000) (hρ:ρ.reverse[0]? =some 0) (ha:args2.all (AV.nm (λb=>decide (b<4)) 3)=true) (hL:(L.all λp=>decide (p.1<1000000)&&p.2.nm (λb=>fV b||decide (4<=b)) 3)=true) (h2:BN (λb=>fV b||decide (4<=b)) bl2)
  (hQ:∀v H',Q' v H'->∃(S':WS) (er':Er),H'=ft ob (aH la loc cs pt S' er')/\Q v (fu L) (ft ob (bl2++aH la loc cs pt S' er'))):jr av n fV g args e H Q E:=by
 have hlen:(bl2++aH la loc cs pt S er).length<1000000:=by rw[ape];simp only[aH,List.length_cons,List.length_nil];omega
 refine pX ρ M he hh hv hob hlen (fh hρ) ?_;have hfr:jr av n (λb=>fV b||decide (4<=b)) g args2 (fu L) (ft ob (bl2++aH la loc cs pt S er)) Q E:=
  oQ (bl1:=aH la loc cs pt S er) (e2:=fu L) h hlen (λx hx=>by simp only[aH,apv,aqh,or_false] at hx;rcases hx with rfl|rfl|rfl|rfl<;>rfl) (λb hb=>by have:=of_decide_eq_true hb;show b<4;omega)
   (λb x hb hx=>kP (bl:=aH la loc cs pt S er) (by simp[aH]) af b x hb (by rw[qN] at hx;exact hx)) ha
   (λb x _ hx=>(BN.cons (.row ag (λi j _ _=>rfl)) (.cons (.row ag (λi j _ _=>E5 _ _ i j)) (.cons (.row ag (λi j _ _=>DL _ _ i j)) (.cons (.lst (by simp[aL]) af) .nil))):BN (λb=>decide (b<4)) (aH la loc cs pt S er)) x (nr _ b x (by simp[aH]) hx))
   (λb x hb hx=>h2 x (lF bl2 _ b x hlen hb hx)) ⟨λt v hv=>hv,yQ.nm hL⟩
   (λv H' q=>by
    obtain⟨S',er',rfl,q2⟩:=hQ v H' q;exact⟨ob,_,rfl,rfl,q2⟩) (λc H' hc=>hc.elim)
 refine⟨hfr.1,λB σ a w args' hEn hH ha'=>(hfr.2 B σ a w args' hEn hH ha').mono λen w' hp=>?_⟩;cases en with
 |returned u=>
  obtain⟨v,e',H',σ',r0,r1,r2,r3,r4⟩:=hp;exact asE
 |panicked c=>exact hp
 |outgrown=>exact hp.elim
theorem lL(p e:Int)(S:WS)(er:Er):PC av fV 114 [.p 0 0,aq p,aq e] (ft ob (aH la loc cs pt S er)) (λv H'=>v= .tup []/\H'=ft ob (aH la loc cs pt S (lZ er p e))) (λ_ _=>False):=by
 obtain⟨ea,ee⟩:=er;refine PC.vw (gX TK ⟨ae,ag⟩ ?_);simp only[fy,aH,aL];by_cases h1:ee=0
 ·subst h1;by_cases h2:e=0
  ·rw[show lZ (ea,0) p e=(ea,0) from if_neg (λh=>h.2 h2)];refine bE h2 ?_;exact mj (ob:=ob) [3,2,1,0] [] (.tup []) (aH la loc cs pt S (ea,0)) bb (.cv (.rfl rfl)) (by simp[aH]) (λr x h=>by simp only[go_sem,simprocAttr];exact h) (fh rfl) ⟨rfl,rfl⟩
  ·rw[show lZ (ea,0) p e=(p,e) from if_pos ⟨rfl,h2⟩];refine bE h2 ?_;exact mj (ob:=ob) [3,2,1,0] [] (.tup []) (aH la loc cs pt S (p,e)) bb (.cv (.rfl rfl)) (by simp[aH]) (λr x h=>by simp only[go_sem,simprocAttr];exact h) (fh rfl) ⟨rfl,rfl⟩
 ·rw[show lZ (ea,ee) p e=(ea,ee) from if_neg (λh=>h1 h.1)];refine bE h1 ?_;exact mj (ob:=ob) [3,2,1,0] [] (.tup []) (aH la loc cs pt S (ea,ee)) bb (.cv (.rfl rfl)) (by simp[aH]) (λr x h=>by simp only[go_sem,simprocAttr];exact h) (fh rfl) ⟨rfl,rfl⟩
def kZ(S:WS)(er:Er)(p:Int)(h:Nat):Er:=if S.st.length=h then er else lZ er p 14
theorem lD(p:Int)(h:Nat)(S:WS)(er:Er)(hS:S.st.length<100000):PC av fV 79 [.p 0 0,aq p,aq h] (ft ob (aH la loc cs pt S er)) (λv H'=>v= .tup []/\H'=ft ob (aH la loc cs pt S (kZ S er p h))) (λ_ _=>False):=by
 have hf:=lL la loc cs pt ob p 14 S er;refine PC.vw (gX UO ⟨ae,ag⟩ ?_);simp only[fy,aH,aL];by_cases e:S.st.length=h
 ·have e':(S.st.length:Int)=h:=aa;rw[show kZ S er p h=er from if_pos e];refine bE e' ?_;exact mj (ob:=ob) [3,2,1,0] [] (.tup []) (aH la loc cs pt S er) bb (.cv (.rfl rfl)) (by simp[aH]) (λr x h=>by simp only[go_sem,simprocAttr];exact h) (fh rfl) ⟨rfl,rfl⟩
 ·have e':¬(S.st.length:Int)=h:=aa;rw[show kZ S er p h=lZ er p 14 from if_neg e];refine bE e' ?_;refine fU la loc cs pt ob (args2:=[.p 0 0,aq p,aq 14]) (L:=[]) (bl2:=[]) S er [3,2,1,0] [] hf ?_ ?_ ?_ ?_ ae rfl af af .nil ?_
  ·exact fK
  ·exact(.cr (.k2 (λ_ _ _ _=>rfl)) bb)
  ·exact asM
  ·exact asC
  ·rintro v H' ⟨rfl,rfl⟩;refine⟨_,_,rfl,?_⟩;simp only[aH,aL,List.cons_append,List.nil_append];refine a7 ?_;exact mj (ob:=ob) [3,2,1,0] [] (.tup []) (aH la loc cs pt S (lZ er p 14)) bb (.cv (.rfl rfl)) (by simp[aH]) (λr x h=>by simp only[go_sem,simprocAttr];exact h) (fh rfl) ⟨rfl,rfl⟩
end
def iy(S:WS)(v:Vl):WS:={S with st:=S.st++[v],ht:=fA S.ht ((S.st.length+1:Nat):Int)}
def i6(S:WS)(er:Er)(p:Int):Er:=if S.st.length+1<=32 then er else lZ er p 14
def pE(la:ao)(arg:Int):Iv:=if(la.getD arg.toNat (false,0)).1=true then(0,4294967295) else(0,255)
def oP(la:ao)(arg:Int)(er:Er)(p:Int)(x:Iv):Er:=if x.2<(la.getD arg.toNat (false,0)).2 then er else lZ er p 16
theorem DM(l:List Vl)(v:Vl)(i j:Nat)(h:i<l.length):sC (l++[v]) i j=sC l i j:=by simp only[sC,apd,apF h]
theorem An(l:List Vl)(v:Vl)(j:Nat):sC (l++[v]) l.length j=sC [v] 0 j:=by simp only[sC,apd,apP (bL _),apt]
theorem LC{j:Nat}(h:j<3):j=0\/j=1\/j=2:=aa
theorem rR{H:AH}{b:Nat}{x:AB}(hx:H.at b=some x):∀(m o:Nat),o+m<=x.size->H.loadN b o m=some ((List.range m).map λi=>x.get (o+i))
 |0,o,_=>rfl
 |m+1,o,h=>by
  rw[AH.loadN,AH.load,hx];simp only[show o<x.size by omega,if_true]
  rw[rR hx m (o+1) aa,List.range_succ_eq_map];simp only[List.map_cons,List.map_map,Option.map_some,Nat.add_zero,apn,List.cons.injEq,true_and];refine List.map_congr_left λi _=>?_;simp only[Function.comp_apply];rw[show o+1+i=o+i.succ by omega]
theorem Cv.li{M:List Nat}{H:AH}{b n ty:Nat}{f:Nat->AV}{row:Nat->Nat->AV}(hm:b ∈ M)(hx:H.at b=some ((l8 3 ty).app 0 (.li ((List.range (n*3)).map f))))(hn:n<100000)(hf:∀i j,i<n->j<3->f (i*3+j)=row i j)(hc:∀i j,i<n->j<3->(row i j).cell=true):Cv M H (.os b n) (.fs 3 n row):=
 .os hm hx (by rw[AB.app_size];simp only[ke.len,List.length_map,List.length_range];omega) (λi j hi hj=>by
  have hl:((List.range (n*3)).map f).length=n*3:=by rw[List.length_map,List.length_range]
  rw[z6 _ _ _ _ (by rw[hl];omega) (by rw[hl];omega),if_pos (apf _),Nat.sub_zero,List.getElem?_map,List.getElem?_range aa]
  exact hf i j hi hj) hc
section
variable (la:ao) (loc:Int) (cs:am) (pt:List Int) (ob:Nat->Option OB)
theorem ju(p:Int)(v:Vl)(S:WS)(er:Er)(hS:S.st.length<1000)(hht:0<=S.ht/\S.ht<1000000):PC av fV 164 [.p 0 0,aq p,vl v] (ft ob (aH la loc cs pt S er)) (λu H'=>u= .tup []/\H'=ft ob (aH la loc cs pt (iy S v) (i6 S er p))) (λ_ _=>False):=by
 obtain⟨S1,hS1⟩:∃S1:WS,S1={S with st:=S.st++[v]}:=⟨_,rfl⟩;have hf:=lL la loc cs pt ob p 14 S1 er;have hlen:(S.st++[v]).length=S.st.length+1:=ape;have hP:iy S v={S1 with ht:=fA S.ht ((S.st.length+1:Nat):Int)}:=by rw[hS1];rfl
 have hap:((S.st.length+1)*3<1099511627776/\(S.st.length+1)*24<=140737488355328)/\S.st.length<=9223372036854775806:=⟨⟨aa,aa⟩,aa⟩;rw[hP];refine PC.vw (gX Sy ⟨ae,ag⟩ ?_);simp only[fy,aH,aL,vl];by_cases e:S.st.length+1<=32
 ·have e':¬(32:Int)<((S.st.length+1:Nat):Int):=aa;rw[show i6 S er p=er from if_pos e];subst hS1
  repeat first|with_reducible refine GE.g ?_|simp only[hap,e',gt_iff_lt,gV,iK,aQ,go_sem,simprocAttr]
  refine mj (ob:=ob) [3,2,6,0] [] (.tup []) (aH la loc cs pt {S with st:=S.st++[v],ht:=fA S.ht ((S.st.length+1:Nat):Int)} er) ?_ (.cv (.rfl rfl)) (by simp[aH]) (λr x h=>by simp only[go_sem,simprocAttr];exact h) (fh rfl) ⟨rfl,by simp only[aH,aL,hlen]⟩
  simp only[aH,aL,hlen];exact .cr (.k2 (λ_ _ _ _=>rfl)) (.cr (.k2 (λi j _ _=>fo _ i j)) (.cr (.snoc (row:=sC S.st) (n:=S.st.length) (o:=S.st.length*3) (l:=[.b v.1,aq v.2.1,aq v.2.2]) ai rfl rfl rfl ag aa (λi j hi _=>DM S.st v i j hi) (λj hj=>by rw[An];rcases LC hj with rfl|rfl|rfl<;>rfl) (λi j _ _=>fk _ i j)) bb))
 ·have e':(32:Int)<((S.st.length+1:Nat):Int):=aa;rw[show i6 S er p=lZ er p 14 from if_neg e];refine bi (aU hap e') ?_;refine fU la loc cs pt ob (args2:=[.p 0 0,aq p,aq 14]) (L:=[(0,.p 0 0)]) (bl2:=[]) S1 er [3,2,6,0] [] (hf) ?_ ?_ ?_ ?_ ae rfl af af .nil ?_
  ·exact fK
  ·subst hS1;simp only[aH,aL,hlen,List.nil_append];exact .cr (.k2 (λ_ _ _ _=>rfl)) (.cr (.k2 (λi j _ _=>fo _ i j)) (.cr (.snoc (row:=sC S.st) (n:=S.st.length) (o:=S.st.length*3) (l:=[.b v.1,aq v.2.1,aq v.2.2]) ai rfl rfl rfl ag aa (λi j hi _=>DM S.st v i j hi) (λj hj=>by rw[An];rcases LC hj with rfl|rfl|rfl<;>rfl) (λi j _ _=>fk _ i j)) bb))
  ·exact asM
  ·exact asC
  ·rintro u H' ⟨rfl,rfl⟩;refine⟨_,_,rfl,?_⟩;simp only[aH,aL,List.cons_append,List.nil_append];subst hS1
   repeat first|with_reducible refine GE.g ?_|simp only[gV,iK,go_sem,simprocAttr]
   refine mj (ob:=ob) [3,2,1,0] [] (.tup []) (aH la loc cs pt {S with st:=S.st++[v],ht:=fA S.ht ((S.st.length+1:Nat):Int)} (lZ er p 14)) ?_ (.cv (.rfl rfl)) (by simp[aH]) (λr x h=>by simp only[go_sem,simprocAttr];exact h) (fh rfl) ⟨rfl,by simp only[aH,aL,hlen]⟩
   simp only[aH,aL,hlen];exact bb
theorem rL(p:Int)(arg:Int)(x:Iv)(S:WS)(er:Er)(ha:0<=arg)(hal:arg<la.length):PC av fV 166 [.p 0 0,aq p,.n .u32 arg,iv x] (ft ob (aH la loc cs pt S er)) (λu H'=>u=iv (pE la arg)/\H'=ft ob (aH la loc cs pt S (oP la arg er p x))) (λ_ _=>False):=by
 generalize hx:la.getD arg.toNat (false,0)=y;have e0:pA la arg.toNat 0= .b y.1:=by rw[yN,hx]
 have e1:pA la arg.toNat 1= aq y.2:=by rw[yM,hx]
 have hV:pE la arg=if y.1=true then(0,4294967295) else(0,255):=by unfold pE;rw[hx]
 have hE:oP la arg er p x=if x.2<y.2 then er else lZ er p 16:=by unfold oP;rw[hx]
 rw[hE];have hf:=lL la loc cs pt ob p 16 S er;obtain⟨xb,xn⟩:=y;dsimp only at hV hE e0 e1 ⊢;refine PC.vw (gX Sp ⟨ae,ag⟩ ?_);simp only[fy,aH,aL,iv];by_cases h:x.2<xn
 ·have h':¬xn<=x.2:=aa;rw[if_pos h];refine bF (aU ha (aU hal (aU e0 (aU e1 h')))) ?_;cases xb
  ·refine a7 ?_;show Vw fV _ _ _;exact mj (ob:=ob) [3,2,1,0] [] (iv (0,255)) (aH la loc cs pt S er) bb (.cv (.rfl rfl)) (by simp[aH]) (λr x h=>by simp only[go_sem,simprocAttr];exact h) (fh rfl) ⟨by rw[hV];rfl,rfl⟩
  ·refine a7 ?_;refine iR iQ ?_;simp only[iv];refine a7 ?_;show Vw fV _ _ _;exact mj (ob:=ob) [3,2,1,0] [] (iv (0,4294967295)) (aH la loc cs pt S er) bb (.cv (.rfl rfl)) (by simp[aH]) (λr x h=>by simp only[go_sem,simprocAttr];exact h) (fh rfl) ⟨by rw[hV];rfl,rfl⟩
 ·have h':xn<=x.2:=aa;rw[if_neg h];refine bF (aU ha (aU hal (aU e0 (aU e1 h')))) ?_;refine fU la loc cs pt ob (args2:=[.p 0 0,aq p,aq 16]) (L:=[(9,.p 5 0),(8,.p 4 0)]) (bl2:=[eZ 0 68 [.b xb,aq xn],eZ 0 127 [aq 0,aq 0]]) S er [6,5,3,2,1,0] [] (hf) ?_ ?_ ?_ ?_ ae rfl af af (.cons .lq (.cons .lq .nil)) ?_
  ·exact fK
  ·exact bb
  ·exact asM
  ·exact asC
  ·rintro u H' ⟨rfl,rfl⟩;refine⟨_,_,rfl,?_⟩;simp only[aH,aL,List.cons_append,List.nil_append];cases xb
   ·refine a7 ?_;show Vw fV _ _ _;exact mj (ob:=ob) [3,2,1,0] [] (iv (0,255)) (aH la loc cs pt S (lZ er p 16)) bb (.cv (.rfl rfl)) (by simp[aH]) (λr x h=>by simp only[go_sem,simprocAttr];exact h) (fh rfl) ⟨by rw[hV];rfl,rfl⟩
   ·refine a7 ?_;refine iR iQ ?_;simp only[iv];refine a7 ?_;show Vw fV _ _ _;exact mj (ob:=ob) [3,2,1,0] [] (iv (0,4294967295)) (aH la loc cs pt S (lZ er p 16)) bb (.cv (.rfl rfl)) (by simp[aH]) (λr x h=>by simp only[go_sem,simprocAttr];exact h) (fh rfl) ⟨by rw[hV];rfl,rfl⟩
theorem sk(p:Int)(base:Nat)(ty:List UInt8)(hty:ty.length<100)(hbase:base<100000)(S:WS)(hS:S.st.length<1000):PC av fV 110 [.p 0 0,aq p,aq base,.s ⟨ty.toArray⟩] (ft ob (aH la loc cs pt S (0,0))) (λu H'=>(∃l S',jS p base ty S= .ok (l,S')/\u= .fs 3 l.length (sC l)/\H'=ft ob (aH la loc cs pt S' (0,0)))\/∃e:Er,jS p base ty S= .error e/\u= .sl0/\H'=ft ob (aH la loc cs pt S e)) (λ_ _=>False):=by
 have hf14:=lL la loc cs pt ob p 14 S (0,0);have hf13:=lL la loc cs pt ob p 13 S (0,0);have ea:∀n:Int,n≠0->lZ (0,0) p n=(p,n):=λn hn=>if_pos ⟨rfl,hn⟩;rw[ea 14 ag] at hf14;rw[ea 13 ag] at hf13;refine PC.vw (gX Ue ⟨ae,ag⟩ ?_);simp only[fy,aH,aL];have hts:(ByteArray.mk ty.toArray).size=ty.length:=by simp[ByteArray.size]
 have w:IntKind.i64.wrap ((S.st.length:Int)-ty.length)=(S.st.length:Int)-ty.length:=ff aa;by_cases h1:S.st.length<base+ty.length
 ·have h1':(S.st.length:Int)-ty.length<(base:Int):=aa;have hE:jS p base ty S= .error (p,14):=by unfold jS;rw[if_pos h1]
  refine a8 (aU hts (aU w h1')) ?_;refine fU la loc cs pt ob (args2:=[.p 0 0,aq p,aq 14]) (L:=[]) (bl2:=[]) S (0,0) [3,2,1,0] [] (hf14) ?_ ?_ ?_ ?_ ae rfl af af .nil ?_
  ·exact fK
  ·exact bb
  ·exact asM
  ·exact asC
  ·rintro u H' ⟨rfl,rfl⟩;refine⟨_,_,rfl,?_⟩;simp only[aH,aL,List.cons_append,List.nil_append];refine a7 ?_;exact mj (ob:=ob) [3,2,1,0] [] (.sl0) (aH la loc cs pt S (p,14)) bb (.cv (.rfl rfl)) (by simp[aH]) (λr x h=>by simp only[go_sem,simprocAttr];exact h) (fh rfl) (.inr ⟨(p,14),hE,rfl,rfl⟩)
 obtain⟨q,hq⟩:∃q,q=S.st.length-ty.length:=⟨_,rfl⟩;have hqi:(S.st.length:Int)-ty.length=q:=aa;have h1':¬(q:Int)<(base:Int):=aa;have wq:IntKind.i64.wrap (q:Int)=q:=ff aa;obtain⟨tl,htl⟩:∃tl,tl=S.st.drop q:=⟨_,rfl⟩;have hk:tl.length=ty.length:=by rw[htl,aqa];omega
 have hpop:jS p base ty S=if l7 tl ty=true then .ok (tl,{S with st:=S.st.take q}) else .error (p,13):=by
  unfold jS;rw[if_neg h1,<-hq,<-htl]
 have hrow:∀i j,sC tl i j=sC S.st (q+i) j:=λi j=>by rw[htl,Ao]
 obtain⟨st,hst⟩:∃st:AB,st=fg 244 3 S.st.length 0 (sC S.st):=⟨_,rfl⟩;obtain⟨l3,hl3⟩:∃l3:List AV,l3=(List.range (tl.length*3)).map (λi=>st.get (q*3+i)):=⟨_,rfl⟩;have hl3n:l3.length=tl.length*3:=by rw[hl3,List.length_map,List.length_range]
 have hget:∀i j,i<tl.length->j<3->st.get (q*3+(i*3+j))=sC tl i j:=λi j hi hj=>by
  rw[show q*3+(i*3+j)=(q+i)*3+j by omega,hst,fI _ _ hj,hrow]
 have hone:l3.all AV.one=true:=by
  rw[apr];intro a ha;rw[hl3] at ha;obtain⟨i,hi,rfl⟩:=ap8.1 ha;have hi2:=List.mem_range.1 hi;have:=hget (i / 3) (i%3) aa aa;rw[show i / 3*3+i%3=i by omega] at this
  rw[this];unfold sC
  (repeat' split)<;>rfl
 have hld:(ft ob (aH la loc cs pt S (0,0))).loadN 1 (q*3) (tl.length*3)=some l3:=by
  rw[hl3];exact rR (by simp only[aH,aL,go_sem,simprocAttr,hst]) _ _ (by rw[hst];show q*3+tl.length*3<=S.st.length*3;omega)
 simp only[aH,aL] at hld;have hq0:(0:Int)<=(q:Int):=aa;have hqn:(q:Int)<=(S.st.length:Int):=aa
 (try simp only[hts,hqi,wq,h1',decide_false,go_sem,simprocAttr])
 iterate 10 (with_reducible refine GE.go fx rfl ?_;try simp only[hts,hqi,wq,h1',decide_false,go_sem,simprocAttr])
 refine GE.cut (fu [(0,.p 0 0),(1,aq p),(3,.s ⟨ty.toArray⟩),(9,aq q),(10,.fs 3 tl.length (sC tl))]) (ft ob (aH la loc cs pt S (0,0))) ?_ ?_
 ·rcases(show(q=0/\tl.length=0)\/(q=0/\0<tl.length)\/(0<q/\q<S.st.length)\/(0<q/\q=S.st.length) by omega) with c|c|c|c
  ·have c0:((q:Int)=0)=True:=eq_true aa;have c1:(0:Int)<=(S.st.length:Int):=aa;have hn0:(S.st.length=0)=True:=eq_true aa;refine bG (aU c0 (aU c1 hn0)) ?_;refine gA.mkO (ob:=ob) [3,2,1,0] [4] ?_ ?_ (by simp[aH]) ?_ (fh rfl)
   ·simp only[iT,ig,go_sem,simprocAttr]
    repeat' refine fE ?_ ?_
    all_goals first|exact jQ|skip
    rw[c.2];exact asX
   ·exact bb
   ·exact asC
  ·have c0:((q:Int)=0)=True:=eq_true aa;have c1:(0:Int)<=(S.st.length:Int):=aa;have hn0:¬S.st.length=0:=aa;have hkl:S.st.length=tl.length:=aa;rw[c.1,<-hkl,ap3] at hld;rw[<-hkl] at hl3n;have hap:(S.st.length*3<1099511627776/\S.st.length*24<=140737488355328)/\S.st.length<=9223372036854775807:=⟨⟨aa,aa⟩,aa⟩;refine bG (aU c0 (aU c1 (aU hn0 (aU hld (aU hone (aU hl3n hap)))))) ?_;refine gA.mkO (ob:=ob) [3,2,1,0] [4] ?_ ?_ (by simp[aH]) ?_ (fh rfl)
   ·simp only[iT,ig,go_sem,simprocAttr]
    repeat' refine fE ?_ ?_
    all_goals first|exact jQ|skip
    refine .cv ?_;have hcv:∀{M:List Nat} {H:AH},4 ∈ M->H.at 4=some ((l8 3 244).app 0 (.li l3))->Cv M H (.os 4 S.st.length) (.fs 3 tl.length (sC tl)):=λhm hx=>by
     rw[hkl];rw[hl3] at hx;exact .li hm hx aa hget (λi j _ _=>kH tl i j)
    exact hcv ae ai
   ·exact bb
   ·exact asC
  ·have c0:¬(q:Int)=0:=aa;have c1:(0:Int)<(q:Int):=aa;have c2:(q:Int)<(S.st.length:Int):=aa;have c3:S.st.length-q=tl.length:=aa;have hn0:¬tl.length=0:=aa;have hap:(tl.length*3<1099511627776/\tl.length*24<=140737488355328)/\tl.length<=9223372036854775807:=⟨⟨aa,aa⟩,aa⟩;refine bG (aU c0 (aU c1 (aU c2 (aU c3 (aU hn0 (aU hld (aU hone (aU hl3n (aU hqn hap))))))))) ?_;refine gA.mkO (ob:=ob) [3,2,1,0] [4] ?_ ?_ (by simp[aH]) ?_ (fh rfl)
   ·simp only[iT,ig,go_sem,simprocAttr]
    repeat' refine fE ?_ ?_
    all_goals first|exact jQ|skip
    refine .cv ?_;have hcv:∀{M:List Nat} {H:AH},4 ∈ M->H.at 4=some ((l8 3 244).app 0 (.li l3))->Cv M H (.os 4 tl.length) (.fs 3 tl.length (sC tl)):=λhm hx=>by
     rw[hl3] at hx;exact .li hm hx aa hget (λi j _ _=>kH tl i j)
    exact hcv ae ai
   ·exact bb
   ·exact asC
  ·have c0:¬(q:Int)=0:=aa;have c1:(0:Int)<(q:Int):=aa;have c2:¬(q:Int)<(S.st.length:Int):=aa;have c3:((q:Int)=(S.st.length:Int))=True:=eq_true aa;have c4:tl.length=0:=aa
   repeat first|with_reducible refine GE.g ?_|simp only[c0,c1,c2,c3,hqn,apH,apw,ap3,go_sem,simprocAttr]
   refine gA.mkO (ob:=ob) [3,2,1,0] [4] ?_ ?_ (by simp[aH]) ?_ (fh rfl)
   ·simp only[iT,ig,go_sem,simprocAttr]
    repeat' refine fE ?_ ?_
    all_goals first|exact jQ|skip
    rw[c4];exact asX
   ·exact bb
   ·exact asC
 simp only[aH,aL];refine a7 ?_;refine GE.loop (I:=λm e H=>∃j:Nat,m=ty.length-j/\j<=ty.length/\l7 tl ty=l7 (tl.drop j) (ty.drop j)/\e=fu [(0,.p 0 0),(1,aq p),(3,.s ⟨ty.toArray⟩),(9,aq q),(10,.fs 3 tl.length (sC tl)),(11,aq j)]/\H=ft ob (aH la loc cs pt S (0,0))) (gA.mkO [3,2,1,0] [] ?_ ?_ (by simp[aH]) ?_ (fh rfl)) ⟨0,rfl,apf _,rfl,rfl,rfl⟩ ?_
 ·exact fK
 ·exact bb
 ·exact asC
 rintro m e H ⟨j,rfl,hj,hs,rfl,rfl⟩;simp only[aH,aL];have hj0:(0:Int)<=(j:Int):=aa;have hbk:∀{H:AH} {e:Tr AV} (j':Nat) (a:AV),a= aq (j':Nat)->iT (λb2=>[3,2,1,0].reverse[b2]?) [] H e [(0,.p 0 0),(1,aq p),(3,.s ⟨ty.toArray⟩),(9,aq q),(10,.fs 3 tl.length (sC tl)),(11,a)]->ig (λb2=>[3,2,1,0].reverse[b2]?) [] H [3,2,1,0] (aH la loc cs pt S (0,0))->(∀r x,ob r=some x->H.ob r=some x)->j<ty.length->j'=j+1->l7 tl ty=l7 (tl.drop j') (ty.drop j')->
  ∃m' e2 H2,m'<ty.length-j/\gA 79 fV e H e2 H2/\∃j:Nat,m'=ty.length-j/\j<=ty.length/\l7 tl ty=l7 (tl.drop j) (ty.drop j)/\e2=fu [(0,.p 0 0),(1,aq p),(3,.s ⟨ty.toArray⟩),(9,aq q),(10,.fs 3 tl.length (sC tl)),(11,aq j)]/\H2=ft ob (aH la loc cs pt S (0,0)):=λj' a ha he hh hob hjt hj1 hs'=>by
  subst ha;subst hj1;exact⟨_,_,_,aa,gA.mkO [3,2,1,0] [] he hh (by simp[aH]) hob (fh rfl),j+1,rfl,aa,hs',rfl,rfl⟩
 by_cases hjt:j<ty.length;rotate_left
 ·have hjt':¬(j:Int)<(ty.length:Int):=aa;have hok:l7 tl ty=true:=by
   rw[hs,aqm aa];rfl
  have hmin:min q S.st.length=q:=aa;obtain⟨S2,hS2⟩:∃S2:WS,S2={S with st:=S.st.take q}:=⟨_,rfl⟩;have hl2:(S.st.take q).length=q:=by rw[apL];exact hmin
  (try simp only[hts,hjt',decide_false,go_sem,simprocAttr])
  iterate 6 (with_reducible refine GE.go fx rfl ?_;try simp only[hts,hjt',decide_false,go_sem,simprocAttr])
  refine GE.cut (fu [(10,.fs 3 tl.length (sC tl))]) (ft ob (aH la loc cs pt S2 (0,0))) ?_ ?_
  ·by_cases c:q=0
   ·have c0:((q:Int)=0)=True:=eq_true aa
    repeat first|with_reducible refine GE.g ?_|simp only[c0,cuD,apH,hq0,go_sem,simprocAttr]
    refine(gA.nilc 0 11 3 244 (x:=?x) ?hx ?hi ag ag ?hlv ?hv ?hn).trans (gA.mkO (ob:=ob) [3,2,4,0] [] ?_ ?_ ?_ ?_ (fh rfl))
    case hx=>simp only[go_sem,simprocAttr]<;>rfl
    case hi=>show 11<16;decide
    case hlv=>rfl
    case hv=>simp only[go_sem,simprocAttr]
    case hn=>simp only[go_sem,simprocAttr]<;>decide
    ·exact fK
    ·rw[hS2,c,List.take_zero];simp only[aH,aL,List.length_nil];exact .cr (.k2 (λ_ _ _ _=>rfl)) (.cr (.k2 (λi j _ _=>fo _ i j)) (.cr (.rows (x:=_) ai af af af (apf _) (bL _) ag (λi j h=>absurd h (apg _)) (λi j h=>absurd h (apg _))) (.cr .ak .nil)))
    ·simp[aH]
    ·exact asC
   ·have c0:¬(q:Int)=0:=aa
    repeat first|with_reducible refine GE.g ?_|simp only[c0,cuD,hq0,hqn,apH,apw,go_sem,simprocAttr]
    refine gA.mkO (ob:=ob) [3,2,4,0] [] ?_ ?_ ?_ ?_ (fh rfl)
    ·exact fK
    ·rw[hS2];simp only[aH,aL,hl2];exact .cr (.k2 (λ_ _ _ _=>rfl)) (.cr (.k2 (λi j _ _=>fo _ i j)) (.cr (.same (row:=sC S.st) ai rfl ag (λi j hi hj=>(Am S.st q i j hi).symm) (λi j _ _=>fk _ i j)) bb))
    ·simp[aH]
    ·exact asC
  subst hS2;simp only[aH,aL];refine a7 ?_;exact mj (ob:=ob) [3,2,1,0] [] (.fs 3 tl.length (sC tl)) (aH la loc cs pt {S with st:=S.st.take q} (0,0)) bb (.cv (.rfl rfl)) (by simp[aH]) (λr x h=>by simp only[go_sem,simprocAttr];exact h) (fh rfl) (.inl ⟨tl,_,by rw[hpop,if_pos hok],rfl,rfl⟩)
 have hjt':(j:Int)<(ty.length:Int):=aa;have hjl:(j:Int)<(tl.length:Int):=aa;have wj:=au j;have hby:=Ga (ty:=ty) (j:=j) aa;rw[uG aa aa] at hs;have hE0:MT (ty.getD j 0) (tl.getD j v0)=false->jS p base ty S= .error (p,13):=λh=>by rw[hpop,if_neg (by rw[hs,h];simp)]
 generalize hc:ty.getD j 0=c at*;generalize hv:tl.getD j v0=v at*;have e0:sC tl j 0= .b v.1:=by rw[Ap,hv]
 obtain⟨tr,iv0⟩:=v;by_cases c1:c=110
 ·subst c1;cases tr
  ·refine bA (aU hj0 (aU hts (aU hjt' (aU hjl (aU hby (aU e0 wj)))))) ?_;refine hbk (j+1) _ rfl ?_ ?_ ?_ hjt rfl (by rw[hs];rfl)
   ·exact fK
   ·exact bb
   ·exact asC
  ·refine bA (aU hj0 (aU hts (aU hjt' (aU hjl (aU hby e0))))) ?_;refine fU la loc cs pt ob (args2:=[.p 0 0,aq p,aq 13]) (L:=[]) (bl2:=[]) S (0,0) [3,2,1,0] [] (hf13) ?_ ?_ ?_ ?_ ae rfl af af .nil ?_
   ·exact fK
   ·exact bb
   ·exact asM
   ·exact asC
   ·rintro u H' ⟨rfl,rfl⟩;refine⟨_,_,rfl,?_⟩;simp only[aH,aL,List.cons_append,List.nil_append];refine a7 ?_;exact mj (ob:=ob) [3,2,1,0] [] (.sl0) (aH la loc cs pt S (p,13)) bb (.cv (.rfl rfl)) (by simp[aH]) (λr x h=>by simp only[go_sem,simprocAttr];exact h) (fh rfl) (.inr ⟨(p,13),hE0 rfl,rfl,rfl⟩)
 by_cases c2:c=116
 ·subst c2;cases tr
  ·refine bA (aU hj0 (aU hts (aU hjt' (aU hjl (aU hby e0))))) ?_;refine fU la loc cs pt ob (args2:=[.p 0 0,aq p,aq 13]) (L:=[]) (bl2:=[]) S (0,0) [3,2,1,0] [] (hf13) ?_ ?_ ?_ ?_ ae rfl af af .nil ?_
   ·exact fK
   ·exact bb
   ·exact asM
   ·exact asC
   ·rintro u H' ⟨rfl,rfl⟩;refine⟨_,_,rfl,?_⟩;simp only[aH,aL,List.cons_append,List.nil_append];refine a7 ?_;exact mj (ob:=ob) [3,2,1,0] [] (.sl0) (aH la loc cs pt S (p,13)) bb (.cv (.rfl rfl)) (by simp[aH]) (λr x h=>by simp only[go_sem,simprocAttr];exact h) (fh rfl) (.inr ⟨(p,13),hE0 rfl,rfl,rfl⟩)
  ·refine bA (aU hj0 (aU hts (aU hjt' (aU hjl (aU hby (aU e0 wj)))))) ?_;refine hbk (j+1) _ rfl ?_ ?_ ?_ hjt rfl (by rw[hs];rfl)
   ·exact fK
   ·exact bb
   ·exact asC
 have n1:¬(c.toNat:Int)=110:=λh=>c1 (UInt8.toNat_inj.1 (show c.toNat=110 by omega))
 have n2:¬(c.toNat:Int)=116:=λh=>c2 (UInt8.toNat_inj.1 (show c.toNat=116 by omega))
 have hok:MT c (tr,iv0)=true:=by
  unfold MT;rw[if_neg c1,if_neg c2]
 refine bA (aU hj0 (aU hts (aU hjt' (aU hjl (aU hby (aU e0 (aU n1 (aU n2 wj)))))))) ?_;refine hbk (j+1) _ rfl ?_ ?_ ?_ hjt rfl (by rw[hs,hok];rfl)
 ·exact fK
 ·exact bb
 ·exact asC
end
def PQ{α:Type}(R:Except Er α)(x:α)(er:Er):Prop:=(R= .ok x/\er=(0,0))\/(R= .error er/\er.2≠0)
def Lo(l:am):Prop:=(l.map Prod.fst).Nodup/\∀x ∈ l,0<=x.1/\x.1<1024
theorem rh:∀(N:Nat) (l:List Int),l.Nodup->(∀x ∈ l,0<=x/\x<(N:Int))->l.length<=N
 |0,l,_,h=>by
  cases l with
  |nil=>exact bL _
  |cons x l=>have:=h x (aps ..);omega
 |N+1,l,hn,h=>by
  by_cases hm:(N:Int) ∈ l
  ·have h1:=rh N (l.erase (N:Int)) (hn.erase _) (λx hx=>by
    have h2:=(hn.mem_erase_iff).1 hx;have h3:=h x h2.2;have h4:=h2.1;omega)
   rw[List.length_erase_of_mem hm] at h1;omega
  ·have h1:=rh N l hn (λx hx=>by
    have h3:=h x hx;have h4:x≠(N:Int):=λe=>hm (e ▸ hx);omega)
   omega
theorem Lo.len{l:am}(h:Lo l):l.length<=1024:=by
 have:=rh 1024 (l.map Prod.fst) h.1 (λx hx=>by
  obtain⟨y,hy,rfl⟩:=ap8.1 hx;exact h.2 y hy)
 rwa [List.length_map] at this
theorem uJ:∀(l:am) (p n:Int),(iI l p n).map Prod.fst=if p ∈ l.map Prod.fst then l.map Prod.fst else l.map Prod.fst++[p]
 |[],p,n=>rfl
 |x::l,p,n=>by
  rw[iI];by_cases e:x.1=p
  ·rw[if_pos e,List.map_cons,List.map_cons,if_pos (by rw[e];exact aps ..),e]
  ·rw[if_neg e,List.map_cons,List.map_cons,uJ l p n];have:(p ∈ x.1::l.map Prod.fst)↔p ∈ l.map Prod.fst:=by
    rw[apv];exact⟨λh=>h.resolve_left (λh=>e h.symm),.inr⟩
   by_cases h:p ∈ l.map Prod.fst
   ·rw[if_pos h,if_pos (this.2 h)]
   ·rw[if_neg h,if_neg (λk=>h (this.1 k))];rfl
theorem uI:∀(l:am) (p n:Int) (x:Int×Int),x ∈ iI l p n->x=(p,n)\/x ∈ l
 |[],p,n,x,h=>by rcases apv.1 h with h|h;exact .inl h;cases h
 |y::l,p,n,x,h=>by
  rw[iI] at h;split at h
  ·rcases apv.1 h with h|h
   ·exact .inl h
   ·exact .inr (apx _ h)
  ·rcases apv.1 h with h|h
   ·exact .inr (h ▸ aps ..)
   ·rcases uI l p n x h with h|h
    ·exact .inl h
    ·exact .inr (apx _ h)
theorem Lo.note{l:am}(h:Lo l){p:Int}(n:Int)(hp:0<=p/\p<1024):Lo (iI l p n):=by
 refine⟨?_,λx hx=>?_⟩
 ·rw[uJ];by_cases k:p ∈ l.map Prod.fst
  ·rw[if_pos k];exact h.1
  ·rw[if_neg k,List.nodup_append];exact⟨h.1,ae,λa ha b hb e=>k (by rw[apy.1 hb] at e;exact e ▸ ha)⟩
 ·rcases uI l p n x hx with rfl|h1
  ·exact hp
  ·exact h.2 x h1
def Jk(S:WS):Prop:=S.st.length<=40/\S.lv.length<=2000/\S.loc.length<2000/\Lo S.lp
theorem xu(S:WS)(p:Int):i6 S (0,0) p=if S.st.length+1<=32 then(0,0) else(p,14):=by
 unfold i6 lZ;split<;>rfl
theorem l4(b:Bd)(p:Int)(v:Vl)(S:WS):PQ (hD b (gH p [v] S)) (iy S v,b) (i6 S (0,0) p):=by
 rw[xu];unfold gH;have:(S.st++[v]).length=S.st.length+1:=ape;rw[this];by_cases h:S.st.length+1<=32
 ·rw[if_pos h,if_pos h];exact .inl ⟨rfl,rfl⟩
 ·rw[if_neg h,if_neg h];exact .inr ⟨rfl,by show(14:Int)≠0;decide⟩
theorem yD(b:Bd)(p:Int)(v w:Vl)(S:WS):PQ (hD b (gH p [v,w] S)) (iy (iy S v) w,b) (i6 (iy S v) (i6 S (0,0) p) p):=by
 have hl:(S.st++[v,w]).length=S.st.length+2:=ape;have hl2:(iy S v).st.length=S.st.length+1:=ape;have hS:iy (iy S v) w={S with st:=S.st++[v,w],ht:=fA S.ht ((S.st++[v,w]).length:Nat)}:=by
  rw[hl];unfold iy;simp only[List.append_assoc,ape,List.length_cons,List.length_nil,WS.mk.injEq,true_and,and_true];refine⟨rfl,?_⟩;unfold fA
  (repeat' split)<;>omega
 rw[xu];unfold i6 lZ gH;rw[hl2,hS,hl];by_cases h:S.st.length+2<=32
 ·rw[if_pos h,if_pos aa,if_pos aa];exact .inl ⟨rfl,rfl⟩
 ·rw[if_neg h,if_neg aa];by_cases h1:S.st.length+1<=32
  ·rw[if_pos h1];exact .inr ⟨rfl,by show(14:Int)≠0;decide⟩
  ·rw[if_neg h1];exact .inr ⟨rfl,by show(14:Int)≠0;decide⟩
theorem yi(la:ao)(arg p:Int)(v:Vl):jA la arg p v=if v.2.2<(la.getD arg.toNat (false,0)).2 then .ok (pE la arg) else .error (p,16):=rfl
theorem yj(la:ao)(arg p:Int)(x:Iv):oP la arg (0,0) p x=if x.2<(la.getD arg.toNat (false,0)).2 then(0,0) else(p,16):=by
 unfold oP lZ;split<;>rfl
theorem abc(la:ao)(arg p:Int)(v:Vl)(S:WS):PQ (match jA la arg p v with| .error e=> .error e| .ok x=>hD (1,0) (gH p [(false,x)] S)) (iy S (false,pE la arg),(1,0)) (i6 S (oP la arg (0,0) p v.2) p):=by
 rw[yi,yj];by_cases h:v.2.2<(la.getD arg.toNat (false,0)).2
 ·rw[if_pos h,if_pos h];exact l4 (1,0) p (false,pE la arg) S
 ·rw[if_neg h,if_neg h];have:i6 S (p,16) p=(p,16):=by
   unfold i6 lZ;split
   ·rfl
   ·rw[if_neg (λh=>absurd h.1 (by show ¬(16:Int)=0;decide))]
  rw[this];exact .inr ⟨rfl,by show(16:Int)≠0;decide⟩
theorem abb(la:ao)(arg p:Int)(v:Vl)(S:WS):PQ (match jA la arg p v with| .error e=> .error e| .ok x=> .ok (S,((1,0):Bd))) (S,(1,0)) (oP la arg (0,0) p v.2):=by
 rw[yi,yj];by_cases h:v.2.2<(la.getD arg.toNat (false,0)).2
 ·rw[if_pos h,if_pos h];exact .inl ⟨rfl,rfl⟩
 ·rw[if_neg h,if_neg h];exact .inr ⟨rfl,by show(16:Int)≠0;decide⟩
theorem z5(op:Int)(x y:Iv):(fZ op x y).2=0\/(fZ op x y).2=17:=by
 unfold fZ;split
 ·exact .inr rfl
 ·split<;>exact .inl rfl
theorem qk{p:Int}{base:Nat}{ty:List UInt8}{S:WS}{e:Er}(h:jS p base ty S= .error e):e.2≠0:=by
 unfold jS at h
 (repeat' split at h)<;>cases h<;>first|(show(14:Int)≠0;decide)|(show(13:Int)≠0;decide)
theorem mL:jY ((0,0):Bd):=⟨⟨ag,ag⟩,ag,ag⟩
theorem jl:jY ((1,0):Bd):=⟨⟨ag,ag⟩,ag,ag⟩
theorem ZS:jY ((1,1):Bd):=⟨⟨ag,ag⟩,ag,ag⟩
section
variable (la:ao) (loc:Int) (cs:am) (pt:List Int) (ob:Nat->Option OB)
theorem BI(hcs:cs.length<=1024)(p:Nat)(hp:p<cs.length)(base:Nat)(hbase:base<100000)(S:WS)(hS:Sm p S)(hst:∀v ∈ S.st,iJ v.2)(hop:Gw (fm cs p))(ha:0<=(cs.getD p (0,0)).2/\(cs.getD p (0,0)).2<=4294967295)
  (hal:fm cs p=3\/fm cs p=4->(cs.getD p (0,0)).2<la.length) (hloc:fm cs p=1\/fm cs p=2->(cs.getD p (0,0)).2<S.loc.length) (hll:S.loc.length<1000) (hlo:Lo S.lp):PC av fV 112 [.p 0 0,aq p,aq base] (ft ob (aH la loc cs pt S (0,0))) (λv H'=>(∃S' b,jm la (fm cs p) (cs.getD p (0,0)).2 p base S= .ok (S',b)/\v=jo b/\H'=ft ob (aH la loc cs pt S' (0,0)))\/∃(e:Er) (S':WS) (b:Bd),jm la (fm cs p) (cs.getD p (0,0)).2 p base S= .error e/\e.2≠0/\jY b/\Jk S'/\v=jo b/\H'=ft ob (aH la loc cs pt S' e)) (λ_ _=>False):=by
 refine PC.vw (gX TZ ⟨ae,ag⟩ ?_);simp only[fy,aH,aL];have p0:(0:Int)<=(p:Int):=aa;have p1:(p:Int)<(cs.length:Int):=aa;have e0:pI cs p 0= aq (fm cs p):=rfl;have e1:pI cs p 1= .n .u32 (cs.getD p (0,0)).2:=rfl;have hst32:=hS.st;have hslv:=hS.lv;obtain⟨k,hk36,hk⟩:∃k:Nat,k<36/\fm cs p=k:=⟨(fm cs p).toNat,by unfold Gw at hop;omega,by unfold Gw at hop;omega⟩
 rw[hk] at e0;have hE1:=zj (k:Int) aa aa;rw[<-hk] at hE1;simp only[yk] at hE1;generalize hopv:fm cs p=op at*;generalize harg:(cs.getD p (0,0)).2=arg at*;refine bB (aU p0 (aU p1 (aU e0 e1))) ?_;refine pj [] (fargs:=[aq op]) (by rw[hk];exact ja.same rfl) hE1 ?_ ?_
 ·exact arT
 refine a7 ?_;have hpop:=sk la loc cs pt ob p base (kc op).1 (by rw[hk];have:=yl k hk36;omega) hbase S aa
 refine fU la loc cs pt ob (args2:=[.p 0 0,aq p,aq base,.s ⟨(kc op).1.toArray⟩]) (L:=[(0,.p 0 0),(1,aq p),(6,.p 4 0),(7,.p 5 0),(9,.s ⟨(kc op).2.toArray⟩)]) (bl2:=[eZ 0 54 [aq op,.n .u32 arg],eZ 0 111 [aq 0,aq 0]]) S (0,0) [5,4,3,2,1,0] [] (hpop) ?_ ?_ ?_ ?_ ae rfl af af (.cons .lq (.cons .lq .nil)) ?_
 ·exact fK
 ·exact eT
 ·exact asH
 ·exact asC
 rintro v H' (⟨l,S1,hpf,rfl,rfl⟩|⟨e,he,rfl,rfl⟩);rotate_left
 ·refine⟨S,e,rfl,?_⟩;simp only[aH,aL,List.cons_append,List.nil_append];have hne:=qk he;refine bE hne ?_;exact mj (ob:=ob) [3,2,1,0] [] (jo (0,0)) (aH la loc cs pt S e) bb (.cv (.rfl rfl)) (by simp[aH]) (λr x h=>by simp only[go_sem,simprocAttr];exact h) (fh rfl) (.inr ⟨e,S,(0,0),by unfold jm;rw[he],hne,mL,⟨aa,aa,aa,hlo⟩,rfl,rfl⟩)
 refine⟨S1,(0,0),rfl,?_⟩;simp only[aH,aL,List.cons_append,List.nil_append]
 (try simp only[ne_eq,not_true_eq_false,decide_false,go_sem,simprocAttr])
 iterate 8 (with_reducible refine GE.go fx rfl ?_;try simp only[ne_eq,not_true_eq_false,decide_false,go_sem,simprocAttr])
 obtain⟨g1,g2,g3⟩:=oD hpf;have h1st:S1.st.length<=32:=by rw[g3];simp only[apL];omega
 have h1ht:0<=S1.ht/\S1.ht<=32:=by rw[g3];exact hS.ht
 have h1loc:S1.loc=S.loc:=by rw[g3]
 have h1lv:S1.lv=S.lv:=by rw[g3]
 have hln:l.length=(kc op).1.length:=by rw[g2,aqa];omega
 have hlok:∀v ∈ l,iJ v.2:=λv hv=>hst v (List.mem_of_mem_drop (g2 ▸ hv));have hj0:Jk S1:=⟨aa,by rw[h1lv];omega,by rw[h1loc];omega,by rw[g3];exact hlo⟩
 have hj1:∀v,Jk (iy S1 v):=λv=>⟨by show(S1.st++[v]).length<=40;rw[ape];simp only[List.length_cons,List.length_nil];omega,hj0.2⟩
 have hj2:∀v w,Jk (iy (iy S1 v) w):=λv w=>⟨by show((S1.st++[v])++[w]).length<=40;rw[ape,ape];simp only[List.length_cons,List.length_nil];omega,hj0.2⟩
 clear g2 g3 hE1 hpop;have fin:∀{e:Tr AV} {H:AH} (ρ M:List Nat) (S2:WS) (b:Bd) (er2:Er) (hact:PQ (gU la op arg p l S1) (S2,b) er2) (hj:Jk S2) (hb:jY b) (he:iT (λb2=>ρ.reverse[b2]?) M H e [(6,.p 4 0),(12,.p 5 0)]) (hh:ig (λb2=>ρ.reverse[b2]?) M H ρ ([eZ 0 111 [aq b.1,aq b.2],eZ 0 111 [aq 0,aq 0]]++aH la loc cs pt S2 er2)) (hob:∀r x,ob r=some x->H.ob r=some x) (hρ:ρ.reverse[0]? =some 0),
   ∃e2 H2,gA 193 fV e H e2 H2/\∃S' b er',PQ (gU la op arg p l S1) (S',b) er'/\Jk S'/\jY b/\e2=fu [(6,.p 4 0),(12,.p 5 0)]/\H2=ft ob ([eZ 0 111 [aq b.1,aq b.2],eZ 0 111 [aq 0,aq 0]]++aH la loc cs pt S' er'):=λρ M S2 b er2 hact hj hb he hh hob hρ=>
  ⟨_,_,gA.mkO ρ M he hh (by simp[aH]) hob (fh hρ),S2,b,er2,hact,hj,hb,rfl,rfl⟩
 refine GE.cutP (λe2 H2=>∃S' b er',PQ (gU la op arg p l S1) (S',b) er'/\Jk S'/\jY b/\e2=fu [(6,.p 4 0),(12,.p 5 0)]/\H2=ft ob ([eZ 0 111 [aq b.1,aq b.2],eZ 0 111 [aq 0,aq 0]]++aH la loc cs pt S' er')) ?_ ?_;rotate_left
 ·rintro e2 H2 ⟨S2,b,er2,hact,hj,hb,rfl,rfl⟩;simp only[aH,aL,List.cons_append,List.nil_append];refine a7 ?_;refine mj (ob:=ob) [3,2,1,0] [] (jo b) (aH la loc cs pt S2 er2) bb (.cv (.rfl rfl)) (by simp[aH]) (λr x h=>by simp only[go_sem,simprocAttr];exact h) (fh rfl) ?_
  rcases hact with⟨h1,rfl⟩|⟨h1,h2⟩
  ·exact .inl ⟨S2,b,by unfold jm;rw[hpf];exact h1,rfl,rfl⟩
  ·exact .inr ⟨er2,S2,b,by unfold jm;rw[hpf];exact h1,h2,hb,hj,rfl,rfl⟩
 rcases(show op=0\/op=1\/op=32\/op=26\/op=5\/op=7\/op=6\/op=35\/op=34\/op=3\/op=4\/op=2\/(21<=op/\op<=25\/op=33)\/(8<=op/\op<=20) by unfold Gw at hop;omega) with h|h|h|h|h|h|h|h|h|h|h|h|h|h
 ·subst h;have hA:gU la 0 arg p l S1=hD (1,0) (gH p [(false,arg,arg)] S1):=rfl;refine bf ?_;refine iR (ki arg ha) ?_;simp only[iv];refine a7 ?_;refine iR (kA (arg,arg)) ?_;simp only[vl];refine a7 ?_;refine fU la loc cs pt ob (args2:=[.p 0 0,aq p,vl (false,arg,arg)]) (L:=[(6,.p 4 0),(12,.p 5 0)]) (bl2:=[eZ 0 111 [aq 1,aq 0],eZ 0 111 [aq 0,aq 0]]) S1 (0,0) [6,4,3,2,1,0] [] (ju la loc cs pt ob p (false,arg,arg) S1 (0,0) asY avN) ?_ ?_ ?_ ?_ ae rfl af af (.cons .lq (.cons .lq .nil)) ?_
  ·exact fK
  ·exact bb
  ·exact arz
  ·exact asC
  ·rintro u H' ⟨rfl,rfl⟩;refine⟨_,_,rfl,?_⟩;simp only[aH,aL,List.cons_append,List.nil_append];refine a7 ?_;refine fin [5,4,3,2,1,0] [] (iy S1 (false,arg,arg)) (1,0) (i6 S1 (0,0) p) (by rw[hA];exact l4 (1,0) p (false,arg,arg) S1) (hj1 (false,arg,arg)) jl ?_ ?_ ?_ rfl
   ·exact fK
   ·exact bb
   ·exact asC
 ·subst h;have hA:gU la 1 arg p l S1=hD (1,0) (gH p [(false,S1.loc.getD arg.toNat (0,0))] S1):=rfl;have hll2:arg<(S1.loc.length:Int):=by rw[h1loc];exact hloc (.inl rfl)
  repeat first|with_reducible refine GE.g ?_|simp only[ha.1,hll2,wt,ws,aQ,go_sem,simprocAttr]
  refine iR (kA (S1.loc.getD arg.toNat (0,0))) ?_;simp only[vl];refine a7 ?_;refine fU la loc cs pt ob (args2:=[.p 0 0,aq p,vl (false,S1.loc.getD arg.toNat (0,0))]) (L:=[(6,.p 4 0),(12,.p 5 0)]) (bl2:=[eZ 0 111 [aq 1,aq 0],eZ 0 111 [aq 0,aq 0]]) S1 (0,0) [6,4,3,2,1,0] [] (ju la loc cs pt ob p (false,S1.loc.getD arg.toNat (0,0)) S1 (0,0) asY avN) ?_ ?_ ?_ ?_ ae rfl af af (.cons .lq (.cons .lq .nil)) ?_
  ·exact fK
  ·exact bb
  ·exact arz
  ·exact asC
  ·rintro u H' ⟨rfl,rfl⟩;refine⟨_,_,rfl,?_⟩;simp only[aH,aL,List.cons_append,List.nil_append];refine a7 ?_;refine fin [5,4,3,2,1,0] [] (iy S1 (false,S1.loc.getD arg.toNat (0,0))) (1,0) (i6 S1 (0,0) p) (by rw[hA];exact l4 (1,0) p (false,S1.loc.getD arg.toNat (0,0)) S1) (hj1 (false,S1.loc.getD arg.toNat (0,0))) jl ?_ ?_ ?_ rfl
   ·exact fK
   ·exact bb
   ·exact asC
 ·subst h;have hA:gU la 32 arg p l S1=hD (1,0) (gH p [(false,0,4294967295)] S1):=rfl;refine bf ?_;refine iR (iQ) ?_;simp only[iv];refine a7 ?_;refine iR (kA (0,4294967295)) ?_;simp only[vl];refine a7 ?_;refine fU la loc cs pt ob (args2:=[.p 0 0,aq p,vl (false,0,4294967295)]) (L:=[(6,.p 4 0),(12,.p 5 0)]) (bl2:=[eZ 0 111 [aq 1,aq 0],eZ 0 111 [aq 0,aq 0]]) S1 (0,0) [6,4,3,2,1,0] [] (ju la loc cs pt ob p (false,0,4294967295) S1 (0,0) asY avN) ?_ ?_ ?_ ?_ ae rfl af af (.cons .lq (.cons .lq .nil)) ?_
  ·exact fK
  ·exact bb
  ·exact arz
  ·exact asC
  ·rintro u H' ⟨rfl,rfl⟩;refine⟨_,_,rfl,?_⟩;simp only[aH,aL,List.cons_append,List.nil_append];refine a7 ?_;refine fin [5,4,3,2,1,0] [] (iy S1 (false,0,4294967295)) (1,0) (i6 S1 (0,0) p) (by rw[hA];exact l4 (1,0) p (false,0,4294967295) S1) (hj1 (false,0,4294967295)) jl ?_ ?_ ?_ rfl
   ·exact fK
   ·exact bb
   ·exact asC
 ·subst h;have hA:gU la 26 arg p l S1=hD (1,0) (gH p [(false,0,1)] S1):=rfl;refine bf ?_;refine iR (kA (0,1)) ?_;simp only[vl];refine a7 ?_;refine fU la loc cs pt ob (args2:=[.p 0 0,aq p,vl (false,0,1)]) (L:=[(6,.p 4 0),(12,.p 5 0)]) (bl2:=[eZ 0 111 [aq 1,aq 0],eZ 0 111 [aq 0,aq 0]]) S1 (0,0) [6,4,3,2,1,0] [] (ju la loc cs pt ob p (false,0,1) S1 (0,0) asY avN) ?_ ?_ ?_ ?_ ae rfl af af (.cons .lq (.cons .lq .nil)) ?_
  ·exact fK
  ·exact bb
  ·exact arz
  ·exact asC
  ·rintro u H' ⟨rfl,rfl⟩;refine⟨_,_,rfl,?_⟩;simp only[aH,aL,List.cons_append,List.nil_append];refine a7 ?_;refine fin [5,4,3,2,1,0] [] (iy S1 (false,0,1)) (1,0) (i6 S1 (0,0) p) (by rw[hA];exact l4 (1,0) p (false,0,1) S1) (hj1 (false,0,1)) jl ?_ ?_ ?_ rfl
   ·exact fK
   ·exact bb
   ·exact asC
 ·subst h;have hA:gU la 5 arg p l S1=hD (1,0) (gH p [(l.getD 0 v0),(l.getD 0 v0)] S1):=rfl;have hl1:l.length=1:=by rw[hln];rfl
  refine a8 (aU hl1 (aU @Ap (aU @za @wU))) ?_;refine fU la loc cs pt ob (args2:=[.p 0 0,aq p,vl (l.getD 0 v0)]) (L:=[(6,.p 4 0),(12,.p 5 0),(0,.p 0 0),(1,aq p),(11,.fs 3 1 (sC l))]) (bl2:=[eZ 0 111 [aq 1,aq 0],eZ 0 111 [aq 0,aq 0]]) S1 (0,0) [6,4,3,2,1,0] [] (ju la loc cs pt ob p (l.getD 0 v0) S1 (0,0) asY avN) ?_ ?_ ?_ ?_ ae rfl af af (.cons .lq (.cons .lq .nil)) ?_
  ·exact fK
  ·exact bb
  ·exact arz
  ·exact asC
  ·rintro u H' ⟨rfl,rfl⟩;refine⟨_,_,rfl,?_⟩;simp only[aH,aL,List.cons_append,List.nil_append];refine a9 (aU hl1 (aU @Ap (aU @za @wU))) ?_;refine fU la loc cs pt ob (args2:=[.p 0 0,aq p,vl (l.getD 0 v0)]) (L:=[(6,.p 4 0),(12,.p 5 0)]) (bl2:=[eZ 0 111 [aq 1,aq 0],eZ 0 111 [aq 0,aq 0]]) (iy S1 (l.getD 0 v0)) (i6 S1 (0,0) p) [5,4,3,2,1,0] [] (ju la loc cs pt ob p (l.getD 0 v0) (iy S1 (l.getD 0 v0)) (i6 S1 (0,0) p) asY avN) ?_ ?_ ?_ ?_ ae rfl af af (.cons .lq (.cons .lq .nil)) ?_
   ·exact fK
   ·exact bb
   ·exact arz
   ·exact asC
   ·rintro u H' ⟨rfl,rfl⟩;refine⟨_,_,rfl,?_⟩;simp only[aH,aL,List.cons_append,List.nil_append];refine a7 ?_;refine fin [5,4,3,2,1,0] [] (iy (iy S1 (l.getD 0 v0)) (l.getD 0 v0)) (1,0) (i6 (iy S1 (l.getD 0 v0)) (i6 S1 (0,0) p) p) (by rw[hA];exact yD (1,0) p (l.getD 0 v0) (l.getD 0 v0) S1) (hj2 (l.getD 0 v0) (l.getD 0 v0)) jl ?_ ?_ ?_ rfl
    ·exact fK
    ·exact bb
    ·exact asC
 ·subst h;have hA:gU la 7 arg p l S1=hD (1,0) (gH p [(l.getD 1 v0),(l.getD 0 v0)] S1):=rfl;have hl1:l.length=2:=by rw[hln];rfl
  refine a8 (aU hl1 (aU @Ap (aU @za @wU))) ?_;refine fU la loc cs pt ob (args2:=[.p 0 0,aq p,vl (l.getD 1 v0)]) (L:=[(6,.p 4 0),(12,.p 5 0),(0,.p 0 0),(1,aq p),(11,.fs 3 2 (sC l))]) (bl2:=[eZ 0 111 [aq 1,aq 0],eZ 0 111 [aq 0,aq 0]]) S1 (0,0) [6,4,3,2,1,0] [] (ju la loc cs pt ob p (l.getD 1 v0) S1 (0,0) asY avN) ?_ ?_ ?_ ?_ ae rfl af af (.cons .lq (.cons .lq .nil)) ?_
  ·exact fK
  ·exact bb
  ·exact arz
  ·exact asC
  ·rintro u H' ⟨rfl,rfl⟩;refine⟨_,_,rfl,?_⟩;simp only[aH,aL,List.cons_append,List.nil_append];refine a9 (aU hl1 (aU @Ap (aU @za @wU))) ?_;refine fU la loc cs pt ob (args2:=[.p 0 0,aq p,vl (l.getD 0 v0)]) (L:=[(6,.p 4 0),(12,.p 5 0)]) (bl2:=[eZ 0 111 [aq 1,aq 0],eZ 0 111 [aq 0,aq 0]]) (iy S1 (l.getD 1 v0)) (i6 S1 (0,0) p) [5,4,3,2,1,0] [] (ju la loc cs pt ob p (l.getD 0 v0) (iy S1 (l.getD 1 v0)) (i6 S1 (0,0) p) asY avN) ?_ ?_ ?_ ?_ ae rfl af af (.cons .lq (.cons .lq .nil)) ?_
   ·exact fK
   ·exact bb
   ·exact arz
   ·exact asC
   ·rintro u H' ⟨rfl,rfl⟩;refine⟨_,_,rfl,?_⟩;simp only[aH,aL,List.cons_append,List.nil_append];refine a7 ?_;refine fin [5,4,3,2,1,0] [] (iy (iy S1 (l.getD 1 v0)) (l.getD 0 v0)) (1,0) (i6 (iy S1 (l.getD 1 v0)) (i6 S1 (0,0) p) p) (by rw[hA];exact yD (1,0) p (l.getD 1 v0) (l.getD 0 v0) S1) (hj2 (l.getD 1 v0) (l.getD 0 v0)) jl ?_ ?_ ?_ rfl
    ·exact fK
    ·exact bb
    ·exact asC
 ·subst h;have hA:gU la 6 arg p l S1= .ok (S1,(1,0)):=rfl;refine bf ?_;refine fin [6,4,3,2,1,0] [] (S1) (1,0) ((0,0)) (.inl ⟨by rw[hA],rfl⟩) (hj0) jl ?_ ?_ ?_ rfl
  ·exact fK
  ·exact bb
  ·exact asC
 ·subst h;have hA:gU la 35 arg p l S1= .ok (S1,(1,0)):=rfl;refine bf ?_;refine fin [6,4,3,2,1,0] [] (S1) (1,0) ((0,0)) (.inl ⟨by rw[hA],rfl⟩) (hj0) jl ?_ ?_ ?_ rfl
  ·exact fK
  ·exact bb
  ·exact asC
 ·subst h;have hA:gU la 34 arg p l S1= .ok (S1,(1,1)):=rfl;refine bf ?_;refine fin [6,4,3,2,1,0] [] (S1) (1,1) ((0,0)) (.inl ⟨by rw[hA],rfl⟩) (hj0) ZS ?_ ?_ ?_ rfl
  ·exact fK
  ·exact bb
  ·exact asC
 ·subst h;have hA:gU la 3 arg p l S1=(match jA la arg p (l.getD 0 v0) with| .error e=> .error e| .ok x=>hD (1,0) (gH p [(false,x)] S1)):=rfl
  have hl1:l.length=1:=by rw[hln];rfl
  refine a8 (aU hl1 (aU @Ap (aU @za @wU))) ?_;refine fU la loc cs pt ob (args2:=[.p 0 0,aq p,.n .u32 arg,iv (l.getD 0 v0).2]) (L:=[(6,.p 4 0),(12,.p 5 0),(120,.p 0 0),(121,aq p)]) (bl2:=[eZ 0 111 [aq 1,aq 0],eZ 0 111 [aq 0,aq 0]]) S1 (0,0) [6,4,3,2,1,0] [] (rL la loc cs pt ob p arg (l.getD 0 v0).2 S1 (0,0) ha.1 (hal (.inl rfl))) ?_ ?_ ?_ ?_ ae rfl af af (.cons .lq (.cons .lq .nil)) ?_
  ·exact fK
  ·exact bb
  ·exact asH
  ·exact asC
  ·rintro u H' ⟨rfl,rfl⟩;refine⟨_,_,rfl,?_⟩;simp only[aH,aL,List.cons_append,List.nil_append,iv];refine a7 ?_;refine iR (kA (pE la arg)) ?_;simp only[vl];refine a7 ?_;refine fU la loc cs pt ob (args2:=[.p 0 0,aq p,vl (false,pE la arg)]) (L:=[(6,.p 4 0),(12,.p 5 0)]) (bl2:=[eZ 0 111 [aq 1,aq 0],eZ 0 111 [aq 0,aq 0]]) S1 (oP la arg (0,0) p (l.getD 0 v0).2) [5,4,3,2,1,0] [] (ju la loc cs pt ob p (false,pE la arg) S1 (oP la arg (0,0) p (l.getD 0 v0).2) asY avN) ?_ ?_ ?_ ?_ ae rfl af af (.cons .lq (.cons .lq .nil)) ?_
   ·exact fK
   ·exact bb
   ·exact arz
   ·exact asC
   ·rintro u H' ⟨rfl,rfl⟩;refine⟨_,_,rfl,?_⟩;simp only[aH,aL,List.cons_append,List.nil_append];refine a7 ?_;refine fin [5,4,3,2,1,0] [] (iy S1 (false,pE la arg)) (1,0) (i6 S1 (oP la arg (0,0) p (l.getD 0 v0).2) p) (by rw[hA];exact abc la arg p (l.getD 0 v0) S1) (hj1 _) jl ?_ ?_ ?_ rfl
    ·exact fK
    ·exact bb
    ·exact asC
 ·subst h;have hA:gU la 4 arg p l S1=(match jA la arg p (l.getD 0 v0) with| .error e=> .error e| .ok x=> .ok (S1,(1,0))):=rfl
  have hl1:l.length=2:=by rw[hln];rfl
  refine a8 (aU hl1 (aU @Ap (aU @za @wU))) ?_;refine fU la loc cs pt ob (args2:=[.p 0 0,aq p,.n .u32 arg,iv (l.getD 0 v0).2]) (L:=[(6,.p 4 0),(12,.p 5 0)]) (bl2:=[eZ 0 111 [aq 1,aq 0],eZ 0 111 [aq 0,aq 0]]) S1 (0,0) [6,4,3,2,1,0] [] (rL la loc cs pt ob p arg (l.getD 0 v0).2 S1 (0,0) ha.1 (hal (.inr rfl))) ?_ ?_ ?_ ?_ ae rfl af af (.cons .lq (.cons .lq .nil)) ?_
  ·exact fK
  ·exact bb
  ·exact asH
  ·exact asC
  ·rintro u H' ⟨rfl,rfl⟩;refine⟨_,_,rfl,?_⟩;simp only[aH,aL,List.cons_append,List.nil_append,iv];refine a7 ?_;refine fin [5,4,3,2,1,0] [] (S1) (1,0) (oP la arg (0,0) p (l.getD 0 v0).2) (by rw[hA];exact abb la arg p (l.getD 0 v0) S1) (hj0) jl ?_ ?_ ?_ rfl
   ·exact fK
   ·exact bb
   ·exact asC
 ·subst h;have hl1:l.length=1:=by rw[hln];rfl
  have hl2:=hloc (.inr rfl);rw[<-h1loc] at hl2;obtain⟨q,hq⟩:∃q:Nat,arg=q:=⟨arg.toNat,aa⟩;subst hq;have hll3:S1.loc.length<1000:=by rw[h1loc];exact hll
  have hq0:(0:Int)<=(q:Int):=aa;have hqn:q<S1.loc.length:=aa;have hq2:q*2+2<=S1.loc.length*2:=aa;have hact:gU la 2 q p l S1= .ok ({S1 with loc:=S1.loc.set q (l.getD 0 v0).2},(1,0)):=rfl;refine bf ?_;refine iR (F:=[.fs 2 S1.loc.length (vC S1.loc)]) (jR S1.loc aa) ?_;refine bA (aU hl1 (aU @za (aU @wU (aU hq0 (aU hl2 (aU hqn hq2)))))) ?_;refine fin [6,4,3,2,1,0] [7] _ _ (0,0) (.inl ⟨hact,rfl⟩) ⟨hj0.1,hj0.2.1,by show(S1.loc.set q _).length<2000;rw[aph];omega,hj0.2.2.2⟩ jl ?_ ?_ ?_ rfl
  ·exact fK
  ·simp only[aH,aL,aph];exact .cr (.j2) (.cr (.j2) (.cr (.k2 (λ_ _ _ _=>rfl)) (.cr (.k2 (λi j _ _=>fo _ i j)) (.cr (.k2 (λi j _ _=>fk _ i j)) (.cr (.ak (hg:=λi hi=>by rcases vM hi with rfl|rfl|rfl|rfl|rfl|rfl|rfl|rfl|rfl|rfl|rfl|rfl|rfl|rfl|rfl|rfl<;>(simp only[go_sem,simprocAttr];first|exact Wv.same rfl|exact Wv.os rfl|exact .cv (.os (x:=(fg 127 2 S1.loc.length 0 (vC S1.loc)).putN (q*2) [aq (l.getD 0 v0).2.1,aq (l.getD 0 v0).2.2]) ae ai (bL _) (λi j hi hj=>DG hqn aa hi hj) (λi j _ _=>gL _ i j))))) .nil)))))
  ·exact asC
 ·have hs2:(kc op).2=[116]:=by rcases(show op=21\/op=22\/op=23\/op=24\/op=25\/op=33 by omega) with rfl|rfl|rfl|rfl|rfl|rfl<;>rfl
  have n0:¬op=0:=aa;have n1:¬op=1:=aa;have n2:¬op=2:=aa;have n3:¬op=3:=aa;have n4:¬op=4:=aa;have n5:¬op=5:=aa;have n6:¬op=6:=aa;have n35:¬op=35:=aa;have n34:¬op=34:=aa;have n7:¬op=7:=aa;have n32:¬op=32:=aa;have n26:¬op=26:=aa;have hA:gU la op arg p l S1=hD (1,0) (gH p [(true,0,0)] S1):=by unfold gU;rw[if_neg n0,if_neg n1,if_neg n2,if_neg n3,if_neg n4,if_neg n5,if_neg n7,if_neg aa,if_neg n34,if_neg n32,if_neg n26,if_pos hs2]
  refine a8 (aU n0 (aU n1 (aU n2 (aU n3 (aU n4 (aU n5 (aU n6 (aU n35 (aU n34 (aU n7 (aU n32 (aU n26 hs2)))))))))))) ?_;refine fU la loc cs pt ob (args2:=[.p 0 0,aq p,vl (true,0,0)]) (L:=[(6,.p 4 0),(12,.p 5 0)]) (bl2:=[eZ 0 111 [aq 1,aq 0],eZ 0 111 [aq 0,aq 0]]) S1 (0,0) [6,4,3,2,1,0] [] (ju la loc cs pt ob p (true,0,0) S1 (0,0) asY avN) ?_ ?_ ?_ ?_ ae rfl af af (.cons .lq (.cons .lq .nil)) ?_
  ·exact fK
  ·exact bb
  ·exact arz
  ·exact asC
  ·rintro u H' ⟨rfl,rfl⟩;refine⟨_,_,rfl,?_⟩;simp only[aH,aL,List.cons_append,List.nil_append];refine a7 ?_;refine fin [5,4,3,2,1,0] [] (iy S1 (true,0,0)) (1,0) (i6 S1 (0,0) p) (by rw[hA];exact l4 (1,0) p (true,0,0) S1) (hj1 (true,0,0)) jl ?_ ?_ ?_ rfl
   ·exact fK
   ·exact bb
   ·exact asC
 ·have n0:¬op=0:=aa;have n1:¬op=1:=aa;have n2:¬op=2:=aa;have n3:¬op=3:=aa;have n4:¬op=4:=aa;have n5:¬op=5:=aa;have n6:¬op=6:=aa;have n35:¬op=35:=aa;have n34:¬op=34:=aa;have n7:¬op=7:=aa;have n32:¬op=32:=aa;have n26:¬op=26:=aa;have hs2:(kc op).2=[110]:=by rcases(show op=8\/op=9\/op=10\/op=11\/op=12\/op=13\/op=14\/op=15\/op=16\/op=17\/op=18\/op=19\/op=20 by omega) with rfl|rfl|rfl|rfl|rfl|rfl|rfl|rfl|rfl|rfl|rfl|rfl|rfl<;>rfl
  have hl1:l.length=2:=by rw[hln];rcases(show op=8\/op=9\/op=10\/op=11\/op=12\/op=13\/op=14\/op=15\/op=16\/op=17\/op=18\/op=19\/op=20 by omega) with rfl|rfl|rfl|rfl|rfl|rfl|rfl|rfl|rfl|rfl|rfl|rfl|rfl<;>rfl
  have hA:gU la op arg p l S1=if(fZ op (l.getD 0 v0).2 (l.getD 1 v0).2).2=0 then hD (1,0) (gH p [(false,(fZ op (l.getD 0 v0).2 (l.getD 1 v0).2).1)] S1) else .error (p,(fZ op (l.getD 0 v0).2 (l.getD 1 v0).2).2):=by unfold gU;rw[if_neg n0,if_neg n1,if_neg n2,if_neg n3,if_neg n4,if_neg n5,if_neg n7,if_neg aa,if_neg n34,if_neg n32,if_neg n26,if_neg (by rw[hs2];decide)]
  have hap:=vE (op:=op) (jh hlok 0) (jh hlok 1) h.1 h.2;have hz17:=z5 op (l.getD 0 v0).2 (l.getD 1 v0).2;generalize hz:fZ op (l.getD 0 v0).2 (l.getD 1 v0).2=z at*;refine a8 (aU n0 (aU n1 (aU n2 (aU n3 (aU n4 (aU n5 (aU n6 (aU n35 (aU n34 (aU n7 (aU n32 (aU n26 (aU hs2 @anx))))))))))))) ?_;refine GE.cut (fu [(0,.p 0 0),(1,aq p),(6,.p 4 0),(12,.p 5 0),(13,.p 6 0),(14,aq z.2)]) (ft ob ([eZ 0 127 [aq z.1.1,aq z.1.2],eZ 0 111 [aq 1,aq 0],eZ 0 111 [aq 0,aq 0]]++aH la loc cs pt S1 (0,0))) ?_ ?_
  ·refine GE.frkm fx 7 eL ?_
   refine bc (aU hl1 (aU @Ap (aU @za @wU))) ?_
   repeat' with_reducible refine fE ?_ ?_
   all_goals
    refine Dp hap ?_;refine bc @iv.eq_1 ?_
    repeat' with_reducible refine fE ?_ ?_
   any_goals decide
   all_goals
    refine gA.mkO (ob:=ob) [7,6,4,3,2,1,0] [] ?_ ?_ ?_ ?_ (fh rfl)
    ·exact fK
    ·exact bb
    ·simp[aH]
    ·exact asC
  ·simp only[aH,aL,List.cons_append,List.nil_append];by_cases hz0:z.2=0
   ·rw[if_pos hz0] at hA;have hz1:=eq_true hz0;refine bE hz1 ?_;refine iR (kA z.1) ?_;simp only[vl];refine a7 ?_;refine fU la loc cs pt ob (args2:=[.p 0 0,aq p,vl (false,z.1)]) (L:=[(6,.p 4 0),(12,.p 5 0)]) (bl2:=[eZ 0 111 [aq 1,aq 0],eZ 0 111 [aq 0,aq 0]]) S1 (0,0) [5,4,3,2,1,0] [] (ju la loc cs pt ob p (false,z.1) S1 (0,0) asY avN) ?_ ?_ ?_ ?_ ae rfl af af (.cons .lq (.cons .lq .nil)) ?_
    ·exact fK
    ·exact bb
    ·exact arz
    ·exact asC
    ·rintro u H' ⟨rfl,rfl⟩;refine⟨_,_,rfl,?_⟩;simp only[aH,aL,List.cons_append,List.nil_append];refine a7 ?_;refine fin [5,4,3,2,1,0] [] (iy S1 (false,z.1)) (1,0) (i6 S1 (0,0) p) (by rw[hA];exact l4 (1,0) p (false,z.1) S1) (hj1 (false,z.1)) jl ?_ ?_ ?_ rfl
     ·exact fK
     ·exact bb
     ·exact asC
   ·rw[if_neg hz0] at hA;have hz2:z.2=17:=by rcases hz17 with h|h;exact absurd h hz0;exact h
    refine bE hz0 ?_;refine fU la loc cs pt ob (args2:=[.p 0 0,aq p,aq 17]) (L:=[(6,.p 4 0),(12,.p 5 0)]) (bl2:=[eZ 0 111 [aq 1,aq 0],eZ 0 111 [aq 0,aq 0]]) S1 (0,0) [5,4,3,2,1,0] [] (lL la loc cs pt ob p 17 S1 (0,0)) ?_ ?_ ?_ ?_ ae rfl af af (.cons .lq (.cons .lq .nil)) ?_
    ·exact fK
    ·exact bb
    ·exact asM
    ·exact asC
    ·rintro u H' ⟨rfl,rfl⟩;refine⟨_,_,rfl,?_⟩;simp only[aH,aL,List.cons_append,List.nil_append];refine a7 ?_;refine fin [5,4,3,2,1,0] [] (S1) (1,0) (lZ (0,0) p 17) (by rw[hA,hz2];exact .inr ⟨rfl,by show(17:Int)≠0;decide⟩) (hj0) jl ?_ ?_ ?_ rfl
     ·exact fK
     ·exact bb
     ·exact asC
end
def PO{α:Type}(R:Option (Except Er α))(x:α)(er:Er):Prop:=(R=some (.ok x)/\er=(0,0))\/(R=some (.error er)/\er.2≠0)
theorem AR{S:WS}{er:Er}{p:Int}{h:Nat}(he:er.2≠0):kZ S er p h=er:=by
 unfold kZ lZ;split
 ·rfl
 ·rw[if_neg (λk=>he k.1)]
theorem AU(S:WS)(p:Int)(h:Nat):kZ S (0,0) p h=if S.st.length=h then(0,0) else(p,14):=by
 unfold kZ lZ;split<;>rfl
theorem PO.lvl{x:Option (Except Er (WS×Bd))}{S:WS}{z:Bd}{er:Er}(h:PO x (S,z) er)(p:Int)(k:Nat):
  ((kZ S er p k).2=0/\kZ S er p k=(0,0)/\x=some (.ok (S,z))/\S.st.length=k)\/((kZ S er p k).2≠0/\((x=some (.error er)/\kZ S er p k=er)\/(x=some (.ok (S,z))/\S.st.length≠k/\kZ S er p k=(p,14)))):=by
 rcases h with⟨h1,rfl⟩|⟨h1,h2⟩
 ·rw[AU];by_cases e:S.st.length=k
  ·rw[if_pos e];exact .inl ⟨rfl,rfl,h1,e⟩
  ·rw[if_neg e];exact .inr ⟨by show(14:Int)≠0;decide,.inr ⟨h1,e,rfl⟩⟩
 ·rw[AR h2];exact .inr ⟨h2,.inl ⟨h1,rfl⟩⟩
theorem Az{a b:Bd}(ha:jY a)(hb:jY b):gh (fA a.1 b.1,fA a.2 b.2) (1,0)=(gi (1+fA a.1 b.1),fA a.2 b.2):=by
 unfold gh;refine Prod.ext (by show gi (_+1)=_;rw[Int.add_comm]) ?_
 show gi (fA a.2 b.2+0)=_;rw[Int.add_zero];unfold gi fA
 (repeat' split)<;>omega
section
variable (la:ao) (loc:Int) (cs:am) (pt:List Int) (ob:Nat->Option OB)
def ZO(x:Option (Except Er (WS×Bd)))(v:AV)(H':AH):Prop:=∃S' z er,v=jo z/\H'=ft ob (aH la loc cs pt S' er)/\jY z/\Jk S'/\PO x (S',z) er
def vd(n:Nat)(o:Fo):Prop:=∀(a b base lp:Nat) (S:WS),fM cs pt o a b->b<=cs.length->base<=32->lp<=32->WF n S->Sm a S->Lo S.lp->
 PC av fV 78 [.p 0 0,aq a,aq b,aq base,aq lp] (ft ob (aH la loc cs pt S (0,0))) (ZO la loc cs pt ob (fO cs la o base lp S (0,0))) (λ_ _=>False)
theorem ta(n:Nat)(hn:n<1000)(hcs:cs.length<=1024)(hA:pz cs)(x e m:Nat)(u v:Fo)(base lp:Nat)(S:WS)(hU:vd la loc cs pt ob n u)(hV:vd la loc cs pt ob n v)(hg:fM cs pt (.br 27 x (e+1) u v .nil) x (e+1))(hm:pt.getD x 0=m)(hy:e+1<=cs.length)(hb:base<=32)(hlp:lp<=32)(hW:WF n S)(hS:Sm x S)(hlo:Lo S.lp):PC av fV 108 [.p 0 0,aq x,aq e,aq m,aq base,aq lp] (ft ob (aH la loc cs pt S (0,0))) (ZO la loc cs pt ob (jF cs la x u v base lp S)) (λ_ _=>False):=by
 obtain⟨_,hop,_,⟨m2,g1,g2,g3,g4,g5⟩,_⟩:=hg;have hmm:m2=m:=by have:=g1.symm.trans hm;omega
 rw[hmm] at g1 g2 g3 g4 g5;have hst32:=hS.st;have hslv:=hS.lv;have hsht:=hS.ht;have hloc:=hW.loc.1;have hjk:Jk S:=⟨aa,aa,aa,hlo⟩;refine PC.vw (gX UA ⟨ae,ag⟩ ?_);simp only[fy,aH,aL];have wx:=au x;refine a7 ?_;refine fU la loc cs pt ob (args2:=[.p 0 0,aq x,aq base,.s ⟨#[116]⟩]) (L:=[(0,.p 0 0),(1,aq x),(2,aq e),(3,aq m),(5,aq lp),(12,.p 4 0)]) (bl2:=[eZ 0 111 [aq 0,aq 0]]) S (0,0) [4,3,2,1,0] [] (sk la loc cs pt ob x base [116] ae aa S aa) ?_ ?_ ?_ ?_ ae rfl af af (.cons .lq .nil) ?_
 ·exact fK
 ·exact bb
 ·exact asH
 ·exact asC
 rintro v' H' (⟨l,S1,hp,rfl,rfl⟩|⟨er,he,rfl,rfl⟩);rotate_left
 ·refine⟨S,er,rfl,?_⟩;simp only[aH,aL,List.cons_append,List.nil_append];have hne:=qk he;refine bE hne ?_;exact mj (ob:=ob) [3,2,1,0] [] (jo (0,0)) (aH la loc cs pt S er) bb (.cv (.rfl rfl)) (by simp[aH]) (λr x h=>by simp only[go_sem,simprocAttr];exact h) (fh rfl) ⟨_,_,_,rfl,rfl,mL,hjk,.inr ⟨by unfold jF;rw[he],hne⟩⟩
 refine⟨S1,(0,0),rfl,?_⟩;simp only[aH,aL,List.cons_append,List.nil_append];obtain⟨w1,w2,w3,w4,w5⟩:=iq hp hW;have s1:=kI hp hS;have hl1:=w1.loc.1;obtain⟨h,hh⟩:∃h,h=S1.st.length:=⟨_,rfl⟩;have hh32:=s1.st;rw[<-hh] at hh32;have hu:=hU (x+1) m h lp S1 g4 aa aa aa w1 (s1.le aa) (by rw[w5];exact hlo)
 have hC1:jF cs la x u v base lp S=(match fO cs la u h lp S1 (0,0) with
  |none=>none
  |some (.error e)=>some (.error e)
  |some (.ok (S2,bx))=>
   if S2.st.length=h then
    if fm cs m=28 then match fO cs la v h lp {S2 with loc:=S1.loc} (0,0) with
     |none=>none
     |some (.error e)=>some (.error e)
     |some (.ok (S4,by_))=>
      if S4.st.length=h then some (.ok ({S4 with loc:=gj S2.loc S4.loc},gh (fA bx.1 by_.1,fA bx.2 by_.2) (1,0)))
      else some (.error ((v.lastB (m+1):Nat),14))
    else some (.ok ({S2 with loc:=gj S2.loc S1.loc},gh (fA bx.1 0,fA bx.2 0) (1,0)))
   else some (.error ((m:Nat),14))):=by
  unfold jF;rw[hp,g4.lastB,hh];rfl
 refine bH ?_;refine iR (F:=[.fs 2 S1.loc.length (vC S1.loc)]) (jR S1.loc aa) ?_;refine a9 wx ?_;refine fU la loc cs pt ob (args2:=[.p 0 0,aq ((x+1:Nat)),aq m,aq h,aq lp]) (L:=[(0,.p 0 0),(2,aq e),(3,aq m),(5,aq lp),(12,.p 4 0),(13,.fs 2 S1.loc.length (vC S1.loc)),(14,aq h)]) (bl2:=[eZ 0 111 [aq 0,aq 0]]) S1 (0,0) [4,3,2,1,0] [5] (hu) ?_ ?_ ?_ ?_ ae rfl af af (.cons .lq .nil) ?_
 ·simp only[iT,ig,hh,go_sem,simprocAttr]
  repeat' refine fE ?_ ?_
  all_goals first|exact jQ|skip
  exact eX
 ·exact bb
 ·exact asL
 ·exact asC
 rintro v' H' ⟨S2,bx,er2,rfl,rfl,hbx,hj2,hx⟩;refine⟨S2,er2,rfl,?_⟩;simp only[aH,aL,List.cons_append,List.nil_append,jo];have hlvl:=lD la loc cs pt ob m h S2 er2 (by have:=hj2.1;omega)
 refine a7 ?_;refine fU la loc cs pt ob (args2:=[.p 0 0,aq m,aq h]) (L:=[(0,.p 0 0),(2,aq e),(3,aq m),(5,aq lp),(12,.p 4 0),(13,.fs 2 S1.loc.length (vC S1.loc)),(14,aq h),(15,.p 5 0)]) (bl2:=[eZ 0 111 [aq bx.1,aq bx.2],eZ 0 111 [aq 0,aq 0]]) S2 er2 [5,4,3,2,1,0] [] (hlvl) ?_ ?_ ?_ ?_ ae rfl af af (.cons .lq (.cons .lq .nil)) ?_
 ·exact fK
 ·exact bb
 ·exact asM
 ·exact asC
 rintro v' H' ⟨rfl,rfl⟩;refine⟨S2,kZ S2 er2 m h,rfl,?_⟩;simp only[aH,aL,List.cons_append,List.nil_append];have hd:=hx.lvl m h;generalize kZ S2 er2 m h=er3 at*;rcases hd with⟨k1,rfl,k3,hl2⟩|⟨k1,k2⟩;rotate_left
 ·refine bE k1 ?_;refine mj (ob:=ob) [3,2,1,0] [] (jo (0,0)) (aH la loc cs pt S2 er3) bb (.cv (.rfl rfl)) (by simp[aH]) (λr x h=>by simp only[go_sem,simprocAttr];exact h) (fh rfl) ⟨_,_,_,rfl,rfl,mL,hj2,.inr ⟨?_,k1⟩⟩
  rcases k2 with⟨k2,rfl⟩|⟨k2,k3,rfl⟩
  ·rw[hC1,k2]
  ·rw[hC1,k2];dsimp only;rw[if_neg k3]
 rw[k3] at hC1;dsimp only at hC1;rw[if_pos hl2] at hC1;have w6:=fR hA u (x+1) m h lp g4 k3 w1 oU;have s2:=iB u (x+1) m h lp g4 k3 (s1.le aa);have hll:S2.loc.length=n:=w6.1.wf.loc.1;by_cases h28:fm cs m=28
 ·rw[if_pos h28] at hC1;rcases g5 with⟨_,e',q1,q2,q3,q4,q5⟩|⟨q0,_⟩;rotate_left
  ·exact asi
  obtain rfl:e'=e:=aa;have w3':WF n {S2 with loc:=S1.loc}:=⟨w1.loc,w6.1.wf.st,w6.1.wf.lv⟩;have s3:Sm (m+1) {S2 with loc:=S1.loc}:=⟨s2.st,s2.ht,apj s2.lv aa⟩;have hv:=hV (m+1) e' h lp {S2 with loc:=S1.loc} q4 aa aa aa w3' s3 hj2.2.2.2;have wm:=au m;have me:(m:Int)<(e':Int):=aa;refine bE (aU me wm) ?_;refine fU la loc cs pt ob (args2:=[.p 0 0,aq ((m+1:Nat)),aq e',aq h,aq lp]) (L:=[(0,.p 0 0),(2,aq e'),(12,.p 4 0),(14,aq h),(15,.p 5 0),(16,.fs 2 S2.loc.length (vC S2.loc)),(17,.p 6 0)]) (bl2:=[eZ 0 111 [aq 0,aq 0],eZ 0 111 [aq bx.1,aq bx.2],eZ 0 111 [aq 0,aq 0]]) {S2 with loc:=S1.loc} (0,0) [6,5,4,3,2,1,0] [] (hv) ?_ ?_ ?_ ?_ ae rfl af af (.cons .lq (.cons .lq (.cons .lq .nil))) ?_
  ·exact fK
  ·exact bb
  ·exact asN
  ·exact asC
  rintro v' H' ⟨S4,bv,er4,rfl,rfl,hbv,hj4,hx4⟩;refine⟨S4,er4,rfl,?_⟩;simp only[aH,aL,List.cons_append,List.nil_append,jo];have hlve:=lD la loc cs pt ob e' h S4 er4 (by have:=hj4.1;omega)
  refine a7 ?_;refine fU la loc cs pt ob (args2:=[.p 0 0,aq e',aq h]) (L:=[(0,.p 0 0),(2,aq e'),(12,.p 4 0),(14,aq h),(15,.p 5 0),(16,.fs 2 S2.loc.length (vC S2.loc)),(17,.p 6 0)]) (bl2:=[eZ 0 111 [aq bv.1,aq bv.2],eZ 0 111 [aq bx.1,aq bx.2],eZ 0 111 [aq 0,aq 0]]) S4 er4 [6,5,4,3,2,1,0] [] (hlve) ?_ ?_ ?_ ?_ ae rfl af af (.cons .lq (.cons .lq (.cons .lq .nil))) ?_
  ·exact fK
  ·exact bb
  ·exact asM
  ·exact asC
  rintro v' H' ⟨rfl,rfl⟩;refine⟨S4,kZ S4 er4 e' h,rfl,?_⟩;simp only[aH,aL,List.cons_append,List.nil_append];have hd4:=hx4.lvl e' h;generalize kZ S4 er4 e' h=er5 at*;rcases hd4 with⟨k1,rfl,k4,hl4⟩|⟨k1,k2⟩;rotate_left
  ·refine bE k1 ?_;refine mj (ob:=ob) [3,2,1,0] [] (jo (0,0)) (aH la loc cs pt S4 er5) bb (.cv (.rfl rfl)) (by simp[aH]) (λr x h=>by simp only[go_sem,simprocAttr];exact h) (fh rfl) ⟨_,_,_,rfl,rfl,mL,hj4,.inr ⟨?_,k1⟩⟩
   rcases k2 with⟨k2,rfl⟩|⟨k2,k4,rfl⟩
   ·rw[hC1,k2]
   ·rw[hC1,k2];dsimp only;rw[if_neg k4,q4.lastB]
  rw[k4] at hC1;dsimp only at hC1;rw[if_pos hl4] at hC1;have w7:=fR hA v (m+1) e' h lp q4 k4 w3' oU
  (try simp only[ne_eq,not_true_eq_false,decide_false,go_sem,simprocAttr])
  iterate 5 (with_reducible refine GE.go fx rfl ?_;try simp only[ne_eq,not_true_eq_false,decide_false,go_sem,simprocAttr])
  have hb4:jY (bv.1,bv.2):=hbv;have hjk5:Jk {S4 with loc:=gj S2.loc S4.loc}:=⟨hj4.1,hj4.2.1,by show(gj _ _).length<2000;rw[i7];omega,hj4.2.2.2⟩
  have wmx:IntKind.i64.wrap (1+(if bx.1<bv.1 then bv.1 else bx.1))=1+fA bx.1 bv.1:=by unfold fA;exact ff (by split<;>omega)
  refine GE.cut (fu [(12,.p 6 0),(15,.p 4 0),(17,.p 5 0)]) (ft ob ([eZ 0 111 [aq 0,aq 0],eZ 0 111 [aq bv.1,aq bv.2],eZ 0 111 [aq bx.1,aq bx.2]]++aH la loc cs pt {S4 with loc:=gj S2.loc S4.loc} (0,0))) ?_ ?_
  ·refine a7 ?_;refine iR (F:=[.fs 2 S2.loc.length (vC S2.loc),.fs 2 S4.loc.length (vC S4.loc)]) (qZ S2.loc S4.loc w6.1.wf.loc.2 w7.1.wf.loc.2 (by have:=w7.1.wf.loc.1;omega) aa) ?_
   refine a7 ?_;refine gA.mkO (ob:=ob) [4,6,5,3,2,1,0] [7] ?_ ?_ (by simp[aH]) ?_ (fh rfl)
   ·exact fK
   ·exact avO
   ·exact asC
  simp only[aH,aL,List.cons_append,List.nil_append]
  (try simp only[go_sem,simprocAttr])
  iterate 1 (with_reducible refine GE.go fx rfl ?_;try simp only[go_sem,simprocAttr])
  refine GE.cut (fu [(12,.p 4 0)]) (ft ob ([eZ 0 111 [aq (gi (1+fA bx.1 bv.1)),aq (fA bx.2 bv.2)]]++aH la loc cs pt {S4 with loc:=gj S2.loc S4.loc} (0,0))) ?_ ?_
  ·refine GE.frkm fx 6 eL ?_
   simp only[gV,iK,wmx,go_sem,simprocAttr]
   repeat' with_reducible refine fE ?_ ?_
   all_goals
    refine Dp (F:=[aq (1+fA bx.1 bv.1)]) (kB _) ?_;simp only[gV,iK,wmx,go_sem,simprocAttr]
    repeat' with_reducible refine fE ?_ ?_
   any_goals decide
   all_goals
    refine gA.mkO (ob:=ob) [6,3,2,1,0] [] ?_ ?_ ?_ ?_ (fh rfl)
    ·exact fK
    ·exact bb
    ·simp[aH]
    ·exact asC
  simp only[aH,aL,List.cons_append,List.nil_append];refine a7 ?_;exact mj (ob:=ob) [3,2,1,0] [] (jo (gi (1+fA bx.1 bv.1),fA bx.2 bv.2)) (aH la loc cs pt {S4 with loc:=gj S2.loc S4.loc} (0,0)) bb (.cv (.rfl rfl)) (by simp[aH]) (λr x h=>by simp only[go_sem,simprocAttr];exact h) (fh rfl) ⟨_,_,_,rfl,rfl,⟨fH (by unfold fA;split<;>omega),by show 0<=fA _ _/\fA _ _<=_;unfold fA;split<;>omega⟩,hjk5,.inl ⟨by rw[hC1,Az hbx hbv],rfl⟩⟩
 ·rw[if_neg h28] at hC1;rcases g5 with⟨q0,_⟩|⟨_,_,q5⟩
  ·exact absurd q0 h28
  obtain rfl:m=e:=aa
  (try simp only[ne_eq,not_true_eq_false,decide_false,Int.lt_irrefl,decide_true,decide_false,go_sem,simprocAttr])
  iterate 17 (with_reducible refine GE.go fx rfl ?_;try simp only[ne_eq,not_true_eq_false,decide_false,Int.lt_irrefl,decide_true,decide_false,go_sem,simprocAttr])
  have hb4:jY (0,0):=mL;have hjk5:Jk {S2 with loc:=gj S2.loc S1.loc}:=⟨hj2.1,hj2.2.1,by show(gj _ _).length<2000;rw[i7];omega,hj2.2.2.2⟩
  have wmx:IntKind.i64.wrap (1+(if bx.1<0 then 0 else bx.1))=1+fA bx.1 0:=by unfold fA;exact ff (by split<;>omega)
  refine GE.cut (fu [(12,.p 6 0),(15,.p 4 0),(17,.p 5 0)]) (ft ob ([eZ 0 111 [aq 0,aq 0],eZ 0 111 [aq 0,aq 0],eZ 0 111 [aq bx.1,aq bx.2]]++aH la loc cs pt {S2 with loc:=gj S2.loc S1.loc} (0,0))) ?_ ?_
  ·refine a7 ?_;refine iR (F:=[.fs 2 S2.loc.length (vC S2.loc),.fs 2 S1.loc.length (vC S1.loc)]) (qZ S2.loc S1.loc w6.1.wf.loc.2 w1.loc.2 (by have:=w1.loc.1;omega) aa) ?_
   refine a7 ?_;refine gA.mkO (ob:=ob) [4,6,5,3,2,1,0] [7] ?_ ?_ (by simp[aH]) ?_ (fh rfl)
   ·exact fK
   ·exact avO
   ·exact asC
  simp only[aH,aL,List.cons_append,List.nil_append]
  (try simp only[go_sem,simprocAttr])
  iterate 1 (with_reducible refine GE.go fx rfl ?_;try simp only[go_sem,simprocAttr])
  refine GE.cut (fu [(12,.p 4 0)]) (ft ob ([eZ 0 111 [aq (gi (1+fA bx.1 0)),aq (fA bx.2 0)]]++aH la loc cs pt {S2 with loc:=gj S2.loc S1.loc} (0,0))) ?_ ?_
  ·refine GE.frkm fx 6 eL ?_
   simp only[gV,iK,wmx,go_sem,simprocAttr]
   repeat' with_reducible refine fE ?_ ?_
   all_goals
    refine Dp (F:=[aq (1+fA bx.1 0)]) (kB _) ?_;simp only[gV,iK,wmx,go_sem,simprocAttr]
    repeat' with_reducible refine fE ?_ ?_
   any_goals decide
   all_goals
    refine gA.mkO (ob:=ob) [6,3,2,1,0] [] ?_ ?_ ?_ ?_ (fh rfl)
    ·exact fK
    ·exact bb
    ·simp[aH]
    ·exact asC
  simp only[aH,aL,List.cons_append,List.nil_append];refine a7 ?_;exact mj (ob:=ob) [3,2,1,0] [] (jo (gi (1+fA bx.1 0),fA bx.2 0)) (aH la loc cs pt {S2 with loc:=gj S2.loc S1.loc} (0,0)) bb (.cv (.rfl rfl)) (by simp[aH]) (λr x h=>by simp only[go_sem,simprocAttr];exact h) (fh rfl) ⟨_,_,_,rfl,rfl,⟨fH (by unfold fA;split<;>omega),by show 0<=fA _ _/\fA _ _<=_;unfold fA;split<;>omega⟩,hjk5,.inl ⟨by rw[hC1,Az hbx mL],rfl⟩⟩
end
theorem uH:∀(l:am) (p n:Int) (q:Nat),l.findIdx (λx=>decide (x.1=p))=q->q<l.length->iI l p n=l.set q (p,n)
 |[],p,n,q,_,h=>absurd h (apg _)
 |x::l,p,n,q,h1,h2=>by
  rw[iI];rw[List.findIdx_cons] at h1;by_cases e:x.1=p
  ·rw[if_pos e];simp only[e,decide_true,cond_true] at h1;subst h1;rfl
  ·rw[if_neg e];simp only[e,decide_false,cond_false] at h1;subst h1;rw[uH l p n _ rfl (by simpa using h2)]
   rfl
theorem uK:∀(l:am) (p n:Int),l.findIdx (λx=>decide (x.1=p))=l.length->iI l p n=l++[(p,n)]
 |[],p,n,_=>rfl
 |x::l,p,n,h=>by
  rw[iI];rw[List.findIdx_cons] at h;by_cases e:x.1=p
  ·simp only[e,decide_true,cond_true,List.length_cons] at h;omega
  ·rw[if_neg e];simp only[e,decide_false,cond_false,List.length_cons] at h;rw[uK l p n aa];rfl
theorem LX{l:am}{q i j:Nat}{p n:Int}(hq:q<l.length)(hj:j<3):(if i=q then([AV.n .i64 p,aq n,.ow])[j]?.getD .u else kR l i j)=kR (l.set q (p,n)) i j:=by
 by_cases e:i=q
 ·subst e;rw[if_pos rfl];simp only[kR,apd,List.getElem?_set_self hq];rcases LC hj with rfl|rfl|rfl<;>rfl
 ·rw[if_neg e];simp only[kR,apd,List.getElem?_set_ne (Ne.symm e)]
theorem A7{l:am}{i j:Nat}{x:Int×Int}(h:i<l.length):kR (l++[x]) i j=kR l i j:=by simp only[kR,apd,apF h]
theorem xW{l:am}{j:Nat}{p n:Int}(hj:j<3):kR (l++[(p,n)]) l.length j=([AV.n .i64 p,aq n,.ow])[j]?.getD .u:=by
 simp only[kR,apd,apP (bL _),apt];rcases LC hj with rfl|rfl|rfl<;>rfl
theorem xr(l:List Iv)(hn:l.length<1000000):gw av 111 [.fs 2 l.length (vC l)] [.v .ow]:=by
 have h:=jR l hn;refine sB rfl ⟨h.1,λφ w args' hφ ha=>(h.2 φ w args' hφ ha).mono λe w' hq=>?_⟩;cases e with
 |panicked c=>exact hq.elim
 |outgrown=>exact hq.elim
 |returned u=>
  obtain⟨v,Hc,σ',⟨l1,rfl,hr⟩,q⟩:=hq;refine⟨_,Hc,σ',⟨[],?_⟩,q⟩
  match l1,hr with
  |[v],hr=>
   rcases hr.1 with⟨rfl,_⟩|⟨b,rfl,_⟩<;>exact .ow rfl
section
variable (la:ao) (loc:Int) (cs:am) (pt:List Int) (ob:Nat->Option OB)
theorem DV(p mo:Int)(S:WS)(hlo:Lo S.lp):PC av fV 161 [.p 0 0,.agg [aq p,aq mo,.ow]] (ft ob (aH la loc cs pt S (0,0))) (λv H'=>v= .tup []/\H'=ft ob (aH la loc cs pt {S with lp:=iI S.lp p mo} (0,0))) (λ_ _=>False):=by
 have hlen:=hlo.len;have hix:=sY S.lp p aa;obtain⟨q,hq⟩:∃q,q=S.lp.findIdx (λx=>decide (x.1=p)):=⟨_,rfl⟩;have hqi:E8 S.lp p=if q<S.lp.length then(q:Int) else-1:=by rw[hq];rfl
 have hql:q<=S.lp.length:=by rw[hq];exact List.findIdx_le_length
 refine PC.vw (gX SM ⟨ae,ag⟩ ?_);simp only[fy,aH,aL];refine a9 (aU @lV @pP) ?_;refine nA [2] (fargs:=[.fs 3 S.lp.length (kR S.lp),aq p]) ⟨.os (x:=fg 48 3 S.lp.length 0 (kR S.lp)) ae ai (bL _) (λi j hi hj=>fI i j hj) (λi j _ _=>nj _ i j),.rfl rfl,trivial⟩ hix ?_ (λr hr=>by cases apy.1 hr;rfl) ?_
 ·exact arT
 by_cases h:q<S.lp.length
 ·rw[hqi,if_pos h];have h0:(0:Int)<=(q:Int):=aa;have h1:(q:Int)<(S.lp.length:Int):=aa;have h2:q*3+3<=S.lp.length*3:=aa;refine bF (aU @lV (aU @pP (aU h0 (aU h1 (aU h h2))))) ?_;have hn:iI S.lp p mo=S.lp.set q (p,mo):=uH S.lp p mo q hq.symm h;rw[hn];refine mj (ob:=ob) [3,2,1,0] [] (.tup []) (aH la loc cs pt {S with lp:=S.lp.set q (p,mo)} (0,0)) ?_ (.cv (.rfl rfl)) (by simp[aH]) (λr x h=>by simp only[go_sem,simprocAttr];exact h) (fh rfl) ⟨rfl,by simp only[aH,aL,aph]⟩
  simp only[aH,aL,aph];exact .cr (.k2 (λ_ _ _ _=>rfl)) (.cr (.put (q:=q) (row:=kR S.lp) ai rfl rfl h rfl ag aa (λi j _ hj=>LX h hj) (λi j _ _=>fo _ i j)) bb)
 ·rw[hqi,if_neg h];have h0:¬(0:Int)<= -1:=ag;have hap:((S.lp.length+1)*3<1099511627776/\(S.lp.length+1)*40<=140737488355328)/\S.lp.length<=9223372036854775806:=⟨⟨aa,aa⟩,aa⟩;refine bF (aU @lV (aU @pP (aU h0 hap))) ?_;have hn:iI S.lp p mo=S.lp++[(p,mo)]:=uK S.lp p mo aa;have hl1:(S.lp++[(p,mo)]).length=S.lp.length+1:=ape;rw[hn];refine mj (ob:=ob) [3,6,1,0] [] (.tup []) (aH la loc cs pt {S with lp:=S.lp++[(p,mo)]} (0,0)) ?_ (.cv (.rfl rfl)) (by simp[aH]) (λr x h=>by simp only[go_sem,simprocAttr];exact h) (fh rfl) ⟨rfl,by simp only[aH,aL,hl1]⟩
  simp only[aH,aL,hl1];exact .cr (.k2 (λ_ _ _ _=>rfl)) (.cr (.snoc (row:=kR S.lp) (n:=S.lp.length) (o:=S.lp.length*3) (l:=[aq p,aq mo,.ow]) ai rfl rfl rfl ag aa (λi j hi _=>A7 hi) (λj hj=>xW hj) (λi j _ _=>fo _ i j)) bb)
end
theorem ze(x y:List Iv)(cs:am)(q k n:Nat)(p:Int)(hx:∀v ∈ x,iJ v)(hy:∀v ∈ y,iJ v)(hxn:x.length=n)(hyn:y.length=n)(hn:n<100000):gw av 160 [.fs 2 x.length (vC x),.fs 2 y.length (vC y),.fs 1 n (Gu cs q k),aq p] [.o 127 2 x.length 0 (vC (iL (stoF cs q k) p 0 x y))]:=by
 subst hxn;exact BM x y (stoF cs q k) p hx hy aa hn
theorem zn(a b:Bd):gh a b=gh b a:=by unfold gh;rw[Int.add_comm a.1,Int.add_comm a.2]
section
variable (la:ao) (loc:Int) (cs:am) (pt:List Int) (ob:Nat->Option OB)
def aLO(S:WS):List AV:=
 [.fs 2 la.length (pA la),aq loc,.fs 2 cs.length (pI cs),.fs 1 pt.length (iC pt),.b false,aq 0,aq 0,aq 0,.sl0,.os 2 S.lp.length,.fs 2 S.loc.length (vC S.loc),.os 1 S.st.length,aq S.ht,.ow,aq 0,aq 0]
theorem zc(n:Nat)(hn:n<1000)(hln:loc=(n:Int))(hK:si la n cs)(hpt:pt.length=cs.length)(x m:Nat)(u v:Fo)(base:Nat)(S:WS)(hU:vd la loc cs pt ob n u)(hg:fM cs pt (.br 29 x (m+1) u v .nil) x (m+1))(hm:pt.getD x 0=m)(hy:m+1<=cs.length)(hb:base<=32)(hW:WF n S)(hS:Sm x S)(hlo:Lo S.lp):PC av fV 109 [.p 0 0,aq x,aq m,aq base] (ft ob (aH la loc cs pt S (0,0))) (ZO la loc cs pt ob (ng cs la x u base S)) (λ_ _=>False):=by
 subst hln;obtain⟨_,hop,_,⟨m2,g1,⟨g2,g31⟩,g3,g4,g5⟩,_⟩:=hg;have h31:=g31 rfl;rcases g5 with⟨q0,_⟩|⟨_,rfl,_⟩
 ·rw[h31] at q0;cases q0
 have hmm:m2=m:=by have:=g1.symm.trans hm;omega
 rw[hmm] at g1 g2 g3 g4 h31;have hcs:=hK.len;have hA:=hK.arg;have hst32:=hS.st;have hslv:=hS.lv;have hsht:=hS.ht;have hloc:=hW.loc.1;have hjk:Jk S:=⟨aa,aa,aa,hlo⟩;refine PC.vw (gX Up ⟨ae,ag⟩ ?_);simp only[fy,aH,aL];have x0:(0:Int)<=(x:Int):=aa;have xm:(x:Int)<=(m:Int):=aa;have mc:(m:Int)<=(cs.length:Int):=aa;have wx:=au x;refine a7 ?_;refine fU la (n:Int) cs pt ob (args2:=[.p 0 0,aq x,aq base,.s ⟨#[110]⟩]) (L:=[(0,.p 0 0),(1,aq x),(2,aq m),(8,.p 4 0)]) (bl2:=[eZ 0 111 [aq 0,aq 0]]) S (0,0) [4,3,2,1,0] [] (sk la (n:Int) cs pt ob x base [110] ae aa S aa) ?_ ?_ ?_ ?_ ae rfl af af (.cons .lq .nil) ?_
 ·exact fK
 ·exact bb
 ·exact asH
 ·exact asC
 rintro v' H' (⟨l,S1,hp,rfl,rfl⟩|⟨er,he,rfl,rfl⟩);rotate_left
 ·refine⟨S,er,rfl,?_⟩;simp only[aH,aL,List.cons_append,List.nil_append];have hne:=qk he;refine bE hne ?_;exact mj (ob:=ob) [3,2,1,0] [] (jo (0,0)) (aH la (n:Int) cs pt S er) bb (.cv (.rfl rfl)) (by simp[aH]) (λr x h=>by simp only[go_sem,simprocAttr];exact h) (fh rfl) ⟨_,_,_,rfl,rfl,mL,hjk,.inr ⟨by unfold ng;rw[he],hne⟩⟩
 refine⟨S1,(0,0),rfl,?_⟩;simp only[aH,aL,List.cons_append,List.nil_append];obtain⟨w1,w2,w3,w4,w5⟩:=iq hp hW;have s1:=kI hp hS;have hlo1:Lo S1.lp:=by rw[w5];exact hlo
 obtain⟨h,hh⟩:∃h,h=S1.st.length:=⟨_,rfl⟩;have hh32:=s1.st;have hl1:l.length=1:=by
  obtain⟨q1,q2,_⟩:=oD hp;rw[q2,aqa];simp only[List.length_cons,List.length_nil] at q1 ⊢;omega
 have hmo2:iJ (l.getD 0 v0).2:=jh w2 0;obtain⟨mo,hmo⟩:∃mo,mo=(l.getD 0 v0).2.2:=⟨_,rfl⟩;rw[<-hh] at hh32;have e2:sC l 0 2= aq mo:=by rw[wU,hmo]
 have hC1:ng cs la x u base S=(if mo<=65536 then(match l6 (λS'=>fO cs la u h h S' (0,0)) m h (stoF cs x (m-x)) 6 1 S1.loc S1 with
   |none=>none
   |some (.error e)=>some (.error e)
   |some (.ok (head,S2,bx))=>some (.ok ({S2 with loc:=S2.lv.foldl gj head,lv:=S1.lv,lp:=iI S2.lp x mo},gh (jt bx mo) (1,0))))
  else some (.error (x,18))):=by
  unfold ng;rw[hp,g4.lastB,hh,hmo];rfl
 have hjk1:Jk S1:=⟨by have:=s1.st;omega,by have:=s1.lv;omega,by have:=w1.loc.1;omega,hlo1⟩
 by_cases hle:mo<=65536;rotate_left
 ·rw[if_neg hle] at hC1;have hle':(65536:Int)<mo:=aa;refine bI (aU hl1 (aU e2 hle')) ?_;refine fU la (n:Int) cs pt ob (args2:=[.p 0 0,aq x,aq 18]) (L:=[(0,.p 0 0),(8,.p 4 0)]) (bl2:=[eZ 0 111 [aq 0,aq 0]]) S1 (0,0) [4,3,2,1,0] [] (lL la (n:Int) cs pt ob x 18 S1 (0,0)) ?_ ?_ ?_ ?_ ae rfl af af (.cons .lq .nil) ?_
  ·exact fK
  ·exact bb
  ·exact asM
  ·exact asC
  rintro v' H' ⟨rfl,rfl⟩;refine⟨S1,_,rfl,?_⟩;simp only[aH,aL,List.cons_append,List.nil_append];refine a7 ?_;exact mj (ob:=ob) [3,2,1,0] [] (jo (0,0)) (aH la (n:Int) cs pt S1 (lZ (0,0) x 18)) bb (.cv (.rfl rfl)) (by simp[aH]) (λr x h=>by simp only[go_sem,simprocAttr];exact h) (fh rfl) ⟨_,_,_,rfl,rfl,mL,hjk1,.inr ⟨hC1,by show(18:Int)≠0;decide⟩⟩
 rw[if_pos hle] at hC1;have hle':¬(65536:Int)<mo:=aa;have hB:n8 cs n (x+1) m (λS'=>fO cs la u h h S' (0,0)):=λS3 S4 b4 h3 h5=>fR hA u (x+1) m _ _ g4 h3 h5 oU;obtain⟨R,hR⟩:∃R,l6 (λS'=>fO cs la u h h S' (0,0)) m h (stoF cs x (m-x)) 6 1 S1.loc S1=some R:=
  o7 hB (λS' hS'=>ik hA u (x+1) m h h S' (0,0) g4 hS' oU) aa g4.le (bL _) 6 1 S1.loc S1 w1 w1.loc (λh4=>aa) aa aa
 rw[hR] at hC1;have hl1n:S1.loc.length=n:=w1.loc.1;refine bI (aU hl1 (aU e2 hle')) ?_;refine iR (F:=[.fs 2 S1.loc.length (vC S1.loc)]) (jR S1.loc aa) ?_;refine bB (aU x0 (aU xm mc)) ?_;refine iR (F:=[.fs 2 (m-x) (λi j=>pI cs (x+i) j),aq (n:Int)]) (xf cs x (m-x) n aa hcs aa hA hK.lo) ?_;refine a7 ?_;refine GE.loop (I:=λf e H=>∃(pass:Int) (head:List Iv) (Sx:WS) (b0:Bd),(f:Int)+pass=7/\1<=pass/\wl n head/\WF n Sx/\(Sx.st.length<=32/\0<=Sx.ht/\Sx.ht<=32)/\Lo Sx.lp/\l6 (λS'=>fO cs la u h h S' (0,0)) m h (stoF cs x (m-x)) f pass head Sx=some R/\e=fu [(0,.p 0 0),(1,aq x),(2,aq m),(8,.p 4 0),(10,aq mo),(11,.fs 2 head.length (vC head)),(13,.fs 1 n (Gu cs x (m-x))),(14,aq h),(15,.os 3 S1.lv.length),(16,.p 5 0),(17,aq pass)]/\H=ft ob [eZ 0 111 [aq b0.1,aq b0.2],eZ 0 111 [aq 0,aq 0],fg 46 1 S1.lv.length 0 (pS S1.lv),fg 48 3 Sx.lp.length 0 (kR Sx.lp),fg 244 3 Sx.st.length 0 (sC Sx.st),eZ 0 109 (aLO la (n:Int) cs pt Sx)]) (m:=6) (gA.mkO (ob:=ob) [7,4,3,2,1,0] [5,6] ?_ ?_ ?_ ?_ (fh rfl)) ⟨1,S1.loc,S1,(0,0),rfl,ag,w1.loc,w1,⟨s1.st,s1.ht⟩,hlo1,hR,rfl,rfl⟩ ?_
 ·simp only[iT,ig,hh,go_sem,simprocAttr]
  repeat' refine fE ?_ ?_
  all_goals first|exact jQ|skip
  ·exact eX
  ·exact .cv (.ownb (ty:=4) (z:=0) ai (λi j _ _=>rfl) ae)
 ·exact avP
 ·simp
 ·exact asC
 rintro f e H ⟨pass,head,Sx,b0,hfp,hp1,hhd,hWx,hSx,hlx,hs,rfl,rfl⟩;cases f with
 |zero=>cases hs
 |succ f=>
  rw[l6] at hs;have hhn:head.length=n:=hhd.1;have wb:WF n {Sx with loc:=head,lv:=[]}:=⟨hhd,hWx.st,λl hl=>by cases hl⟩
  have sb:Sm (x+1) {Sx with loc:=head,lv:=[]}:=⟨hSx.1,hSx.2,apf _⟩;have hu:=hU (x+1) m h h {Sx with loc:=head,lv:=[]} g4 aa aa aa wb sb hlx;simp only[aLO]
  (try simp only[go_sem,simprocAttr])
  iterate 3 (with_reducible refine GE.go fx rfl ?_;try simp only[go_sem,simprocAttr])
  refine GE.cut (fu [(0,.p 0 0),(1,aq x),(2,aq m),(8,.p 5 0),(10,aq mo),(11,.fs 2 head.length (vC head)),(13,.fs 1 n (Gu cs x (m-x))),(14,aq h),(15,.os 4 S1.lv.length),(16,.p 6 0),(17,aq pass)]) (ft ob ([eZ 0 111 [aq b0.1,aq b0.2],eZ 0 111 [aq 0,aq 0],fg 46 1 S1.lv.length 0 (pS S1.lv)]++aH la (n:Int) cs pt {Sx with loc:=head,lv:=[]} (0,0))) ?_ ?_
  ·refine a7 ?_;refine iR (F:=[.fs 2 head.length (vC head)]) (jR head aa) ?_;refine a7 ?_;refine(gA.nilc 0 13 1 46 (x:=?x) ?hx ?hi ag ag ?hlv ?hv ?hn).trans (gA.mkO (ob:=ob) [5,4,3,7,2,1,0] [6] ?_ ?_ ?_ ?_ (fh rfl))
   case hx=>simp only[go_sem,simprocAttr]<;>rfl
   case hi=>show 13<16;decide
   case hlv=>rfl
   case hv=>simp only[go_sem,simprocAttr]
   case hn=>simp only[go_sem,simprocAttr]<;>decide
   ·exact fK
   ·exact .cr (.j2) (.cr (.j2) (.cr (.k2 (λ_ _ _ _=>rfl)) (.cr (.rows (x:=_) ai af af af (apf _) (bL _) ag (λi j h=>absurd h (apg _)) (λi j h=>absurd h (apg _))) (.cr (.k2 (λi j _ _=>fo _ i j)) (.cr (.k2 (λi j _ _=>fk _ i j)) (.cr (.ak (hg:=λi hi=>by rcases vM hi with rfl|rfl|rfl|rfl|rfl|rfl|rfl|rfl|rfl|rfl|rfl|rfl|rfl|rfl|rfl|rfl<;>(simp only[go_sem,simprocAttr];first|exact Wv.same rfl|exact Wv.os rfl|exact .cv (.ownb (ty:=127) (z:=0) ai (λi j _ _=>gL _ i j) ae)))) .nil))))))
   ·simp[aH]
   ·exact asC
  simp only[aH,aL,List.cons_append,List.nil_append];refine a9 wx ?_;refine fU la (n:Int) cs pt ob (args2:=[.p 0 0,aq ((x+1:Nat)),aq m,aq h,aq h]) (L:=[(0,.p 0 0),(1,aq x),(2,aq m),(8,.p 5 0),(10,aq mo),(11,.fs 2 head.length (vC head)),(13,.fs 1 n (Gu cs x (m-x))),(14,aq h),(15,.os 4 S1.lv.length),(16,.p 6 0),(17,aq pass)]) (bl2:=[eZ 0 111 [aq b0.1,aq b0.2],eZ 0 111 [aq 0,aq 0],fg 46 1 S1.lv.length 0 (pS S1.lv)]) {Sx with loc:=head,lv:=[]} (0,0) [6,5,4,3,2,1,0] [] (hu) ?_ ?_ ?_ ?_ ae rfl af af (.cons .lq (.cons .lq (.cons (.row ag (λi j _ _=>rfl)) .nil))) ?_
  ·exact fK
  ·exact bb
  ·exact asN
  ·exact asC
  rintro v' H' ⟨S2,bx,er2,rfl,rfl,hbx,hj2,hx⟩;refine⟨S2,er2,rfl,?_⟩;simp only[aH,aL,List.cons_append,List.nil_append,jo];have hlvl:=lD la (n:Int) cs pt ob m h S2 er2 (by have:=hj2.1;omega)
  refine a7 ?_;refine fU la (n:Int) cs pt ob (args2:=[.p 0 0,aq m,aq h]) (L:=[(0,.p 0 0),(1,aq x),(2,aq m),(8,.p 5 0),(10,aq mo),(11,.fs 2 head.length (vC head)),(13,.fs 1 n (Gu cs x (m-x))),(14,aq h),(15,.os 4 S1.lv.length),(16,.p 6 0),(17,aq pass)]) (bl2:=[eZ 0 111 [aq bx.1,aq bx.2],eZ 0 111 [aq 0,aq 0],fg 46 1 S1.lv.length 0 (pS S1.lv)]) S2 er2 [6,5,4,3,2,1,0] [] (hlvl) ?_ ?_ ?_ ?_ ae rfl af af (.cons .lq (.cons .lq (.cons (.row ag (λi j _ _=>rfl)) .nil))) ?_
  ·exact fK
  ·exact bb
  ·exact asM
  ·exact asC
  rintro v' H' ⟨rfl,rfl⟩;refine⟨S2,kZ S2 er2 m h,rfl,?_⟩;simp only[aH,aL,List.cons_append,List.nil_append];have hd:=hx.lvl m h;generalize kZ S2 er2 m h=er3 at*;rcases hd with⟨k1,rfl,k3,hl2⟩|⟨k1,k2⟩;rotate_left
  ·refine bE k1 ?_;refine mj (ob:=ob) [3,2,1,0] [] (jo (0,0)) (aH la (n:Int) cs pt S2 er3) bb (.cv (.rfl rfl)) (by simp[aH]) (λr x h=>by simp only[go_sem,simprocAttr];exact h) (fh rfl) ⟨_,_,_,rfl,rfl,mL,hj2,.inr ⟨?_,k1⟩⟩
   rcases k2 with⟨k2,rfl⟩|⟨k2,k3,rfl⟩
   ·rw[k2] at hs;obtain rfl:=apl hs;exact hC1
   ·rw[k2] at hs;dsimp only at hs;rw[if_neg k3] at hs;obtain rfl:=apl hs;exact hC1
  rw[k3] at hs;dsimp only at hs;rw[if_pos hl2] at hs;have w6:=hB _ _ _ k3 wb;have s2:=iB u (x+1) m h h g4 k3 sb;have hS2n:S2.loc.length=n:=w6.1.wf.loc.1;refine bH ?_;refine iR (F:=[.fs 2 S2.loc.length (vC S2.loc),.fs 2 head.length (vC head)]) (wV S2.loc head w6.1.wf.loc.2 hhd.2 aa aa) ?_;by_cases hw:ib S2.loc head=true
  ·rw[if_pos hw] at hs;obtain rfl:=apl hs;dsimp only at hC1;refine a9 hw ?_;refine iR (F:=[.fs 2 head.length (vC head)]) (xr head aa) ?_;refine a9 (aU @lV @pP) ?_;refine fU la (n:Int) cs pt ob (args2:=[.p 0 0,.agg [aq x,aq mo,.ow]]) (L:=[(0,.p 0 0),(8,.p 5 0),(10,aq mo),(11,.fs 2 head.length (vC head)),(15,.os 4 S1.lv.length),(16,.p 6 0)]) (bl2:=[eZ 0 111 [aq bx.1,aq bx.2],eZ 0 111 [aq 0,aq 0],fg 46 1 S1.lv.length 0 (pS S1.lv)]) S2 (0,0) [6,5,4,3,2,1,0] [] (DV la (n:Int) cs pt ob x mo S2 hj2.2.2.2) ?_ ?_ ?_ ?_ ae rfl af af (.cons .lq (.cons .lq (.cons (.row ag (λi j _ _=>rfl)) .nil))) ?_
   ·exact fK
   ·exact bb
   ·exact⟨Wv.p rfl,Wv.same rfl,trivial⟩
   ·exact asC
   rintro v' H' ⟨rfl,rfl⟩;refine⟨_,_,rfl,?_⟩;simp only[aH,aL,List.cons_append,List.nil_append];refine a7 ?_;refine GE.loop (I:=λmm e H=>∃(k:Nat) (acc:List Iv),mm=S2.lv.length-k/\k<=S2.lv.length/\acc=(S2.lv.take k).foldl gj head/\e=fu [(0,.p 0 0),(8,.p 5 0),(10,aq mo),(15,.os 4 S1.lv.length),(16,.p 6 0),(18,aq k)]/\H=ft ob ([eZ 0 111 [aq bx.1,aq bx.2],eZ 0 111 [aq 0,aq 0],fg 46 1 S1.lv.length 0 (pS S1.lv)]++aH la (n:Int) cs pt {S2 with loc:=acc,lp:=iI S2.lp x mo} (0,0))) (m:=S2.lv.length) (gA.mkO (ob:=ob) [6,5,4,3,2,1,0] [] ?_ ?_ ?_ ?_ (fh rfl)) ⟨0,head,rfl,apf _,rfl,rfl,rfl⟩ ?_
   ·exact fK
   ·exact bb
   ·simp[aH]
   ·exact asC
   rintro mm e H ⟨k,acc,rfl,hk,hacc,rfl,rfl⟩;simp only[aH,aL,List.cons_append,List.nil_append];have k0:(0:Int)<=(k:Int):=aa;have hlv:=s2.lv;have haccL:wl n acc:=by rw[hacc];exact ns _ _ hhd
   have haccn:acc.length=n:=haccL.1;by_cases hkn:k<S2.lv.length
   ·have hki:(k:Int)<S2.lv.length:=aa;have hk1:k+1<=S2.lv.length:=hkn;have wk:=au k;have hgk:(fg 46 1 S2.lv.length 0 (pS S2.lv)).get k= .fs 2 (S2.lv.getD k []).length (vC (S2.lv.getD k [])):=by
     have:=fI (ty:=46) (esz:=1) (n:=S2.lv.length) (z:=0) (row:=pS S2.lv) k 0 ag;rw[apu,Nat.add_zero] at this;exact this
    have hlk:wl n (S2.lv.getD k []):=by
     rw[apd,apk hkn];exact w6.1.wf.lv _ (ap2 hkn)
    repeat first|with_reducible refine GE.g ?_|simp only[k0,hki,hkn,hk1,hgk,apu,apw,aQ,go_sem,simprocAttr]
    refine iR (F:=[.fs 2 acc.length (vC acc),.fs 2 (S2.lv.getD k []).length (vC (S2.lv.getD k []))]) (qZ acc (S2.lv.getD k []) haccL.2 hlk.2 (by have:=hlk.1;omega) aa) ?_
    refine a9 wk ?_;refine⟨_,_,_,?_,gA.mkO (ob:=ob) (bl:=[eZ 0 111 [aq bx.1,aq bx.2],eZ 0 111 [aq 0,aq 0],fg 46 1 S1.lv.length 0 (pS S1.lv)]++aH la (n:Int) cs pt {S2 with loc:=gj acc (S2.lv.getD k []),lp:=iI S2.lp x mo} (0,0)) [6,5,4,3,2,1,0] [7] ?_ ?_ ?_ ?_ (fh rfl),k+1,_,rfl,aa,?_,rfl,rfl⟩
    ·omega
    ·exact fK
    ·simp only[aH,aL,i7];exact .cr (.j2) (.cr (.j2) (.cr (.k2 (λ_ _ _ _=>rfl)) (.cr (.k2 (λ_ _ _ _=>rfl)) (.cr (.k2 (λi j _ _=>fo _ i j)) (.cr (.k2 (λi j _ _=>fk _ i j)) (.cr (.ak (hg:=λi hi=>by rcases vM hi with rfl|rfl|rfl|rfl|rfl|rfl|rfl|rfl|rfl|rfl|rfl|rfl|rfl|rfl|rfl|rfl<;>(simp only[go_sem,simprocAttr];first|exact Wv.same rfl|exact Wv.os rfl|exact .cv (.ownb (ty:=127) (z:=0) ai (λi j _ _=>gL _ i j) ae)))) .nil))))))
    ·simp[aH]
    ·exact asC
    ·exact asR
   ·have hki:¬(k:Int)<S2.lv.length:=aa;have hall:acc=S2.lv.foldl gj head:=by rw[hacc,List.take_of_length_le aa]
    have hmo0:0<=mo:=by rw[hmo];have:=hmo2.1;have:=hmo2.2.1;omega
    have hbt:jY (jt bx mo):=yx hbx hmo0;have hadd:=tc (1,0) (jt bx mo) jl hbt;rw[zn (1,0)] at hadd;refine a8 hki ?_;refine iR (F:=[jo bx,aq mo]) (vA bx mo hbx ⟨hmo0,aa⟩) ?_;simp only[jo];refine a7 ?_;refine iR hadd ?_;simp only[jo];refine a7 ?_;rw[<-hall] at hC1;have hjF:Jk {S2 with loc:=acc,lv:=S1.lv,lp:=iI S2.lp x mo}:=⟨hj2.1,by have:=s1.lv;show S1.lv.length<=2000;omega,by show acc.length<2000;omega,hj2.2.2.2.note mo ⟨aa,aa⟩⟩
    exact mj (ob:=ob) [4,2,1,0] [] (jo (gh (jt bx mo) (1,0))) (aH la (n:Int) cs pt {S2 with loc:=acc,lv:=S1.lv,lp:=iI S2.lp x mo} (0,0)) bb (.cv (.rfl rfl)) (by simp[aH]) (λr x h=>by simp only[go_sem,simprocAttr];exact h) (fh rfl) ⟨_,_,_,rfl,rfl,v7 hbt jl,hjF,.inl ⟨hC1,rfl⟩⟩
  ·rw[if_neg hw] at hs;have hw':ib S2.loc head=false:=by simpa using hw
   refine a9 hw' ?_;refine iR (F:=[.fs 2 head.length (vC head),.fs 2 S2.loc.length (vC S2.loc),.fs 1 n (Gu cs x (m-x)),aq pass]) (ze head S2.loc cs x (m-x) n pass hhd.2 w6.1.wf.loc.2 hhn hS2n aa) ?_;have wp:IntKind.i64.wrap (pass+1)=pass+1:=ff aa;refine a9 wp ?_;refine⟨f,_,_,apG f,gA.mkO (ob:=ob) (bl:=[eZ 0 111 [aq bx.1,aq bx.2],eZ 0 111 [aq 0,aq 0],fg 46 1 S1.lv.length 0 (pS S1.lv),fg 48 3 S2.lp.length 0 (kR S2.lp),fg 244 3 S2.st.length 0 (sC S2.st),eZ 0 109 (aLO la (n:Int) cs pt S2)]) [6,5,4,2,1,0] [7] ?_ ?_ ?_ ?_ (fh rfl),pass+1,iL (stoF cs x (m-x)) pass 0 head S2.loc,S2,bx,aa,aa,lY hhd _ _ _ _,w6.1.wf,⟨s2.st,s2.ht⟩,hj2.2.2.2,hs,rfl,rfl⟩
   ·simp only[iT,ig,nZ,go_sem,simprocAttr]
    repeat' refine fE ?_ ?_
    all_goals first|exact jQ|skip
    exact eX
   ·exact avP
   ·simp
   ·exact asC
end
end Go.Proofs.YtdpkgnmmikebdaaGreat