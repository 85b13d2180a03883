/- A part of the proof of OptimizerOptimizes: LaA LaC LaF LaH LaL. No condition. -/
import Derived.Test.YtidhfimbnjaceaaGreatGq36
import Derived.Test.YtidhfimbnjaceaaGreatGq33
import Derived.Test.YtidhfimbnjaceaaGreatGq10
import Derived.Test.YtidhfimbnjaceaaGreatGq17
import Derived.Test.YtidhfimbnjaceaaGreatGq34
set_option linter.unusedSimpArgs false
set_option linter.unusedVariables false
set_option linter.constructorNameAsVariable false
set_option maxRecDepth 100000
set_option maxHeartbeats 4000000
namespace Go.Proofs.YtidhfimbnjaceaaGreat
open Go.ChangeShapes Go.WideShapes Go.ChangeAt Go.RowKit Go.Deep Go.Joins
def cG:Value->Int
 |.int _ n=>n
 |_=>0
def lU:Value->Bool
 |.bool b=>b
 |_=>false
theorem ze{n:Int}(h:(Lit.int .u32 n).wf=true):0<=n/\n<4294967296:=by
 have h2:IntKind.u32.min<=n/\n<=IntKind.u32.max:=by simpa [Lit.wf] using h
 have e1:IntKind.u32.min=0:=by decide
 have e2:IntKind.u32.max=4294967295:=by decide
 omega
theorem nN{H:Type}{enc:TypeId×Value->H}{P:Program}{w:World}{base:Nat}{spare:Nat->Bool}{held:Bool}{t e:TypeId}{fuel:Nat}{cs:List Value}{x:DataW H×List MemPlace}(ht:P.underlying t=some (.slice e))(h:DataW.trod enc P w base spare held fuel t cs=some x)
  {a:Option Addr} {len cap:Nat} (hcs:cs=[.slice a len cap]):len<=cap:=by
 rcases open_slice ht h with⟨rfl,_⟩|⟨a',len',cap',m,n,D,Pl,rfl,hb,hl,_⟩
 ·cases hcs;exact Nat.le_refl _
 ·cases hcs;exact hl
def lx(w:World):Fz:=λc=>match w.heap[c]? with
 |some (.cells cs _ _)=>some cs
 |_=>none
theorem Ak(w:World):xe (lx w) w:=λc fs hf=>by
 unfold lx at hf
 split at hf
 ·rename_i cs t fr h
  cases hf
  exact⟨_,_,_,h,kJ.refl _⟩
 ·cases hf
theorem qg{w:World}{a:Option Addr}{n cap esz:Nat}{V:Nat->Nat->Value}{row:Nat->Nat->AV}(h:eR w.heap.size w esz a n V)(h0:0<esz)(hcap:n<=cap)(hc:∀i j,i<n->j<esz->(row i j).cell=true)(hv:∀(σ:Sg) i j,i<n->j<esz->VR σ (row i j) (V i j)):
  VR (Sg.data (lx w)) (.fs esz n row) (.slice a n cap):=by
 cases n with
 |zero=>exact .fs0 _ _ _ _
 |succ n=>
  obtain⟨b,off,rfl,hb,hcell⟩:=h 0 (by omega)
  have hall:∀i j,i<n+1->j<esz->w.cell? ⟨b,off+i*esz+j,none⟩=some (V i j):=λi j hi hj=>by
   obtain⟨b',off',e,_,hcell'⟩:=h i hi
   cases e
   exact hcell' j hj
  cases hh:w.heap[b]? with
  |none=>
   have:=hall 0 0 (by omega) h0
   simp only[World.cell?,hh] at this
   cases this
  |some o=>
   cases o with
   |cells cs t fr=>
    have hget:∀i j,i<n+1->j<esz->cs[off+i*esz+j]? =some (V i j):=λi j hi hj=>by
     have:=hall i j hi hj
     simpa [World.cell?,hh] using this
    have hlast:=hget n (esz-1) (by omega) (by omega)
    have hsz:=(Array.getElem?_eq_some_iff.1 hlast).1
    refine .fs (σ:=Sg.data (lx w)) (c:=b) (off:=off) (cs:=cs) ?_ ?_ hc (λi j hi hj=>?_) _ hcap
    ·show lx w b=some cs
     unfold lx
     rw[hh]
    ·rw[Nat.succ_mul];omega
    ·rw[Array.getD_eq_getD_getElem?,hget i j hi hj]
     exact hv _ i j hi hj
   |_=>
    have:=hall 0 0 (by omega) h0
    simp only[World.cell?,hh] at this
    cases this
theorem ii{α:Type}(d:α)(n i:Nat)(f:Nat->α)(h:i<n):((List.range n).map f).getD i d=f i:=by
 rw[List.getD_eq_getElem?_getD,List.getElem?_map,List.getElem?_range h];rfl
theorem sw{H:Type}{enc:TypeId×Value->H}{w:World}{base:Nat}{spare:Nat->Bool}{held:Bool}{r:Reach}{b0:Nat}{v:Value}{d:DataW H}{p:List MemPlace}
  (hv:Value.okWide Tryz.prog w r b0 25 v) (h:DataW.Trod enc Tryz.prog w base spare held 25 v d p):
  ∃(la:List (Bool×Int)) (regs par:Int) (cs:List In),cr (Sg.data (lx w)) [ae la.length (aC la) regs par cs] [v]/\et cs:=by
 obtain⟨v0,v1,v2,v3,y0,y1,y2,y3,n,rfl,_,_,h0,h1,h2,h3⟩:=open_agg4 (P:=Tryz.prog) Tryz.underlying25 (by kernel_rfl) (by kernel_rfl) hv h
 obtain⟨m1,e1,_,w1⟩:=DataW.trod_int (k:= .i64) (by kernel_rfl) h1
 obtain⟨m2,e2,_,w2⟩:=DataW.trod_int (k:= .i64) (by kernel_rfl) h2
 obtain⟨a,len,cap,n0,V,e0,hl,hV,ht⟩:=nV (P:=Tryz.prog) Tryz.underlying22 Tryz.underlying93 (by kernel_rfl) (by kernel_rfl) (by decide) h0
 obtain⟨a',len',cap',n1,V',e3,hl',hV',ht'⟩:=nV (P:=Tryz.prog) Tryz.underlying23 Tryz.underlying37 (by kernel_rfl) (by kernel_rfl) (by decide) h3
 have hc0:=nN Tryz.underlying22 h0 e0
 have hc3:=nN Tryz.underlying23 h3 e3
 simp only[List.cons.injEq,and_true] at e0 e1 e2 e3
 subst e0 e1 e2 e3
 replace hV:eR w.heap.size w 2 a len V:=hV
 replace hV':eR w.heap.size w 5 a' len' V':=hV'
 have key0:∀i,i<len->∃b n,V i 0= .bool b/\V i 1= .int .i64 n:=λi hi=>by
  obtain⟨z0,g0⟩:=ht i hi 0 _ rfl
  obtain⟨z1,g1⟩:=ht i hi 1 _ rfl
  obtain⟨b,q0,_⟩:=DataW.trod_bool (by kernel_rfl) g0
  obtain⟨m,q1,_,_⟩:=DataW.trod_int (k:= .i64) (by kernel_rfl) g1
  simp only[List.cons.injEq,and_true] at q0 q1
  exact⟨b,m,q0,q1⟩
 have key3:∀i,i<len'->∃op to x y arg,V' i 0= .int .i64 op/\V' i 1= .int .i64 to/\V' i 2= .int .i64 x/\V' i 3= .int .i64 y/\V' i 4= .int .u32 arg/\0<=arg/\arg<4294967296:=λi hi=>by
  obtain⟨z0,g0⟩:=ht' i hi 0 _ rfl
  obtain⟨z1,g1⟩:=ht' i hi 1 _ rfl
  obtain⟨z2,g2⟩:=ht' i hi 2 _ rfl
  obtain⟨z3,g3⟩:=ht' i hi 3 _ rfl
  obtain⟨z4,g4⟩:=ht' i hi 4 _ rfl
  obtain⟨k0,q0,_,_⟩:=DataW.trod_int (k:= .i64) (by kernel_rfl) g0
  obtain⟨k1,q1,_,_⟩:=DataW.trod_int (k:= .i64) (by kernel_rfl) g1
  obtain⟨k2,q2,_,_⟩:=DataW.trod_int (k:= .i64) (by kernel_rfl) g2
  obtain⟨k3,q3,_,_⟩:=DataW.trod_int (k:= .i64) (by kernel_rfl) g3
  obtain⟨k4,q4,_,w4⟩:=DataW.trod_int (k:= .u32) (by kernel_rfl) g4
  simp only[List.cons.injEq,and_true] at q0 q1 q2 q3 q4
  exact⟨k0,k1,k2,k3,k4,q0,q1,q2,q3,q4,ze w4⟩
 refine⟨(List.range len).map λi=>(lU (V i 0),cG (V i 1)),m1,m2,(List.range len').map λi=>(cG (V' i 0),cG (V' i 1),cG (V' i 2),cG (V' i 3),cG (V' i 4)),?_,?_⟩
 ·refine .cons ?_ .nil
  unfold ae
  have v0:VR (Sg.data (lx w)) (.fs 2 ((List.range len).map λi=>(lU (V i 0),cG (V i 1))).length (aC ((List.range len).map λi=>(lU (V i 0),cG (V i 1))))) (.slice a len cap):=by
   have hlen:((List.range len).map λi=>(lU (V i 0),cG (V i 1))).length=len:=by simp
   have:=qg (row:=aC ((List.range len).map λi=>(lU (V i 0),cG (V i 1)))) hV (by decide) hc0 (λi j hi hj=>kZ i j (by rw[hlen];exact hi) hj) (λσ i j hi hj=>by
    obtain⟨b,n,q0,q1⟩:=key0 i hi
    unfold aC
    rw[ii _ _ _ _ hi]
    have hj2:j=0\/j=1:=by omega
    rcases hj2 with rfl|rfl
    ·rw[q0];exact .b _
    ·rw[q1];exact .n _ _)
   rw[hlen]
   exact this
  have v3:VR (Sg.data (lx w)) (.fs 5 ((List.range len').map λi=>(cG (V' i 0),cG (V' i 1),cG (V' i 2),cG (V' i 3),cG (V' i 4))).length (cC ((List.range len').map λi=>(cG (V' i 0),cG (V' i 1),cG (V' i 2),cG (V' i 3),cG (V' i 4))))) (.slice a' len' cap'):=by
   have hlen:((List.range len').map λi=>(cG (V' i 0),cG (V' i 1),cG (V' i 2),cG (V' i 3),cG (V' i 4))).length=len':=by simp
   have:=qg (row:=cC ((List.range len').map λi=>(cG (V' i 0),cG (V' i 1),cG (V' i 2),cG (V' i 3),cG (V' i 4)))) hV' (by decide) hc3 (λi j hi hj=>bh i hj) (λσ i j hi hj=>by
    obtain⟨op,to,x,y,arg,q0,q1,q2,q3,q4,_⟩:=key3 i hi
    unfold cC
    rw[ii _ _ _ _ hi]
    rcases cJ hj with rfl|rfl|rfl|rfl|rfl
    ·rw[q0];exact .n _ _
    ·rw[q1];exact .n _ _
    ·rw[q2];exact .n _ _
    ·rw[q3];exact .n _ _
    ·rw[q4];exact .n _ _)
   rw[hlen]
   exact this
  have hh:=(cr.nil (σ:=Sg.data (lx w))).cons v3 |>.cons (VR.n .i64 m2) |>.cons (VR.n .i64 m1) |>.cons v0
  exact hh.agg
 ·intro x hx
  simp only[List.mem_map,List.mem_range] at hx
  obtain⟨i,hi,rfl⟩:=hx
  obtain⟨op,to,x,y,arg,q0,q1,q2,q3,q4,hr⟩:=key3 i hi
  simp only[q4,cG]
  exact hr
theorem sD{k:FuncId}{w:World}{v:Value}{args:List AV}(h:a7 Tryz.prog k args [.v (.b true)])(hv:cr (Sg.data (lx w)) args [v]):Calls Tryz.prog k #[v] w λe w'=>e= .returned (.bool true)/\Below w.heap.size w w':=
 (h.2 (lx w) w #[v] (Ak w) hv).mono λe w' hq=>by
  cases e with
  |panicked c=>exact hq.elim
  |outgrown=>exact hq.elim
  |returned u=>
   obtain⟨x,Hc,σ',⟨l,rfl,hr⟩,hx,_,hbel,_⟩:=hq
   match l,hr with
   |[y],hr=>
    have:y= .b true:=hr.1.1
    subst this
    cases hx
    exact⟨rfl,hbel⟩
end Go.Proofs.YtidhfimbnjaceaaGreat
namespace Go.Proofs.YtidhfimbnjaceaaGreat
open Go.RowKit
theorem kf{H:AH}{r1 r2:Nat->Nat->AV}:Cv [] H eP (.agg [.fs 2 0 r1,.n .i64 0,.n .i64 0,.fs 5 0 r2]):=by
 refine .agg rfl λi v v' h1 h2=>?_
 match i,h1,h2 with
 |0,h1,h2=>cases h1;cases h2;exact .sl0 _ _
 |1,h1,h2=>cases h1;cases h2;exact .rfl rfl
 |2,h1,h2=>cases h1;cases h2;exact .rfl rfl
 |3,h1,h2=>cases h1;cases h2;exact .sl0 _ _
 |i+4,h1,h2=>cases h1
theorem AG:a7 Tryz.prog 12 [.agg [.fs 2 0 (aC []),.n .i64 0,.n .i64 0,.fs 5 0 (cC [])],.agg [.fs 2 0 (aC []),.n .i64 0,.n .i64 0,.fs 5 0 (cC [])]] [.v (.b true)]:=by
 have:=jH [] (by decide) 0 0 [] [] (by decide)
 rw[decide_eq_true rfl] at this
 exact this
theorem uH{na:Nat}{ra:Nat->Nat->AV}{regs par er:Int}{cs:List In}{x:AV}(he:¬er=0)(hc:a7 Tryz.prog 26 [ae na ra regs par cs] [.v x,.v (.n .i64 er)]):
  a7 Tryz.prog 11 [ae na ra regs par cs] [.v eP,.v (.n .i64 er)]:=by
 refine af ay Aw ⟨by simp,by decide⟩ ?_
 simp only[aZ,ae] at hc ⊢
 repeat first|with_reducible refine ab ?_|simp only[go_sem,simprocAttr]
 refine cV hc ?_
 repeat first|with_reducible refine ab ?_|simp only[he,decide_false,go_sem,simprocAttr]
 exact bB (.v rfl rfl (.v rfl rfl .nil))
theorem yi{na:Nat}{ra:Nat->Nat->AV}{regs par er:Int}{cs:List In}(hf:gy na regs cs=true)(hA:a7 Tryz.prog 10 [ae na ra regs par cs] [.v eP,.v (.n .i64 er)])
  (hB:a7 Tryz.prog 11 [ae na ra regs par cs] [.v eP,.v (.n .i64 er)]):
  a7 Tryz.prog 3 [ae na ra regs par cs] [.v (.b true)]:=by
 have hw:=gx na ra regs par cs
 rw[hf] at hw
 refine af ay Au ⟨by simp,by decide⟩ ?_
 simp only[aZ,ae,eP] at hw hA hB ⊢
 repeat first|with_reducible refine ab ?_|simp only[go_sem,simprocAttr]
 refine cV hw ?_
 repeat first|with_reducible refine ab ?_|simp only[go_sem,simprocAttr]
 refine cV hA ?_
 repeat first|with_reducible refine ab ?_|simp only[go_sem,simprocAttr]
 refine cV hB ?_
 repeat first|with_reducible refine ab ?_|simp only[go_sem,simprocAttr]
 refine ai [] .nil gB (by simp only[go_sem,simprocAttr]) ?_
 repeat first|with_reducible refine ab ?_|simp only[go_sem,simprocAttr]
 refine ai [] (.cons kf (.cons kf .nil)) AG (by simp only[go_sem,simprocAttr]) ?_
 repeat first|with_reducible refine ab ?_|simp only[decide_true,go_sem,simprocAttr]
 exact ah rfl rfl
theorem AU{la:List (Bool×Int)}{regs par:Int}{cs:List In}(ha:et cs)
  (hgood:gy la.length regs cs=true->(eX la regs par cs).2=0->a7 Tryz.prog 3 [ae la.length (aC la) regs par cs] [.v (.b true)]):a7 Tryz.prog 3 [ae la.length (aC la) regs par cs] [.v (.b true)]:=by
 cases hf:gy la.length regs cs
 ·exact xy hf
 have hfew:la.length<=20/\cs.length<=300:=by
  unfold gy og at hf
  by_cases h1:(la.length:Int)<=20
  ·by_cases h2:(cs.length:Int)<=300
   ·exact⟨by omega,by omega⟩
   ·simp[h1,h2] at hf
  ·simp[h1] at hf
 by_cases hz:(eX la regs par cs).2=0
 ·exact hgood hf hz
 exact yi hf (y6 (xD (by omega) (by omega) hz ha)) (uH hz (dQ la regs par cs (by omega) (by omega) ha))
theorem ng{na:Nat}{ra:Nat->Nat->AV}{regs par er:Int}{cs:List In}{x:AV}(he:¬er=0)(hc:a7 Tryz.prog 26 [ae na ra regs par cs] [.v x,.v (.n .i64 er)]):
  a7 Tryz.prog 20 [ae na ra regs par cs] [.v eP,.v (.n .i64 er)]:=by
 refine af ay Ap ⟨by simp,by decide⟩ ?_
 simp only[aZ,ae] at hc ⊢
 repeat first|with_reducible refine ab ?_|simp only[go_sem,simprocAttr]
 refine cV hc ?_
 repeat first|with_reducible refine ab ?_|simp only[he,decide_false,go_sem,simprocAttr]
 exact bB (.v rfl rfl (.v rfl rfl .nil))
theorem pA{na:Nat}{ra:Nat->Nat->AV}{regs par er:Int}{cs:List In}(hf:gy na regs cs=true)(hA:a7 Tryz.prog 19 [ae na ra regs par cs] [.v eP,.v (.n .i64 er)])
  (hB:a7 Tryz.prog 20 [ae na ra regs par cs] [.v eP,.v (.n .i64 er)]):
  a7 Tryz.prog 7 [ae na ra regs par cs] [.v (.b true)]:=by
 have hw:=gx na ra regs par cs
 rw[hf] at hw
 refine af ay vZ ⟨by simp,by decide⟩ ?_
 simp only[aZ,ae,eP] at hw hA hB ⊢
 repeat first|with_reducible refine ab ?_|simp only[go_sem,simprocAttr]
 refine cV hw ?_
 repeat first|with_reducible refine ab ?_|simp only[go_sem,simprocAttr]
 refine cV hA ?_
 repeat first|with_reducible refine ab ?_|simp only[go_sem,simprocAttr]
 refine cV hB ?_
 repeat first|with_reducible refine ab ?_|simp only[go_sem,simprocAttr]
 refine ai [] .nil gB (by simp only[go_sem,simprocAttr]) ?_
 repeat first|with_reducible refine ab ?_|simp only[go_sem,simprocAttr]
 refine ai [] (.cons kf (.cons kf .nil)) AG (by simp only[go_sem,simprocAttr]) ?_
 repeat first|with_reducible refine ab ?_|simp only[decide_true,go_sem,simprocAttr]
 exact ah rfl rfl
theorem ll{la:List (Bool×Int)}{regs par:Int}{cs:List In}(ha:et cs)
  (hgood:gy la.length regs cs=true->(eX la regs par cs).2=0->a7 Tryz.prog 7 [ae la.length (aC la) regs par cs] [.v (.b true)]):a7 Tryz.prog 7 [ae la.length (aC la) regs par cs] [.v (.b true)]:=by
 cases hf:gy la.length regs cs
 ·exact pe hf
 have hfew:la.length<=20/\cs.length<=300:=by
  unfold gy og at hf
  by_cases h1:(la.length:Int)<=20
  ·by_cases h2:(cs.length:Int)<=300
   ·exact⟨by omega,by omega⟩
   ·simp[h1,h2] at hf
  ·simp[h1] at hf
 by_cases hz:(eX la regs par cs).2=0
 ·exact hgood hf hz
 exact pA hf (pM (xD (by omega) (by omega) hz ha)) (ng hz (dQ la regs par cs (by omega) (by omega) ha))
theorem so{la:List (Bool×Int)}{regs:Nat}{par:Int}{cs:List In}(hz:(eX la regs par cs).2=0)(ha:et cs):a7 Tryz.prog 11 [ae la.length (aC la) regs par cs] [.v (ae la.length (aC la) regs par (dE regs cs)),.v (.n .i64 0)]:=by
 have h:=cq hz
 have hn:=h.ncs
 have hA:=h.nA
 have hr:=h.nregs
 obtain⟨hp,hpl,hsh,t,ht,hw,he⟩:=h.pt
 obtain⟨a,b,e1,e2,e3,e4⟩:=vm (regs:=regs) (h.inOk ha) h.to pD hsh
 have hf:dE regs cs=b.out:=by unfold dE;rw[e1];exact e3
 have hck:=dQ la regs par cs (by omega) (by omega) ha
 rw[hz] at hck
 have hpt:=i4 cs t ht hw hn
 rw[<-he] at hpt
 have:=fY (uG (par:=par) (by omega) kZ (by omega) (by omega) hck hpt hpl pD (h.inOk ha) e2) rfl
 rw[hf]
 rw[<-e4] at this
 exact this
theorem mY.bnd{regs:Nat}{par nA:Int}{x:In}(h:mY regs par nA x):(0<=x.1/\x.1<39)/\ar x.1 x.2.1<regs/\x.2.2.1<regs/\x.2.2.2.1<regs:=by
 refine⟨h.op,?_,?_,?_⟩
 ·have:=h.to
  unfold ar
  split
  ·rename_i hu;rw[if_pos hu] at this;exact this.2
  ·omega
 ·have:=h.a
  split at this<;>omega
 ·have:=h.b
  split at this<;>omega
theorem oP{la:List (Bool×Int)}{regs:Nat}{par:Int}{cs:List In}(hz:(eX la regs par cs).2=0)(ha:et cs):a7 Tryz.prog 14 [ae la.length (aC la) regs par cs] [.v (ae la.length (aC la) regs par (fT cs)),.v (.n .i64 0)]:=by
 have h:=cq hz
 have hn:=h.ncs
 have hA:=h.nA
 have hr:=h.nregs
 obtain⟨hp,hpl,hsh,t,ht,hw,he⟩:=h.pt
 obtain⟨a,b,e1,e2,e3⟩:=qR (regs:=regs) h.inC hsh
 have hf:fT cs=b.out:=by unfold fT;rw[show(λf g:Int×Int=>decide (f.1=g.1)&&decide (f.2=g.2))=EK from rfl,e1];exact e3
 have hck:=dQ la regs par cs (by omega) (by omega) ha
 rw[hz] at hck
 have hpt:=i4 cs t ht hw hn
 rw[<-he] at hpt
 have:=fY (qk (par:=par) (by omega) kZ (by omega) (by omega) hck hpt hpl (λx hx=>(h.inC x hx).bnd) e2) rfl
 rw[hf]
 exact this
theorem mY.bndS{regs:Nat}{par nA:Int}{x:In}(h:mY regs par nA x):(0<=x.1/\x.1<39)/\ar x.1 x.2.1<regs:=by
 refine⟨h.op,?_⟩
 have:=h.to
 unfold ar
 split
 ·rename_i hu;rw[if_pos hu] at this;exact this.2
 ·omega
theorem mY.arr{regs:Nat}{par:Int}{na:Nat}{x:In}(h:mY regs par na x)(ha:0<=x.2.2.2.2)(hx:x.1=3\/x.1=4):0<=x.2.2.2.2/\x.2.2.2.2<na:=by
 have:=h.arg
 have hm:bZ na par x.1=na-1:=by unfold bZ;rw[if_neg (by omega),if_pos hx]
 rw[hm] at this
 omega
theorem mY.fact{regs:Nat}{par:Int}{na:Nat}{x:In}(h:mY regs par na x)(ha:0<=x.2.2.2.2)(he:di x.1=true):A3 regs na x:=by
 refine⟨?_,?_,?_,λh3=>h.arr ha (.inl h3)⟩
 ·have:=h.to
  obtain⟨k,hk⟩:∃k:Nat,x.1=(k:Int):=⟨x.1.toNat,by have:=h.op;omega⟩
  rw[hk] at he
  rw[hk,Int.toNat_natCast,if_pos (ph k (by have:=h.op;omega) he)] at this
  exact this
 ·have:=h.a
  split at this<;>omega
 ·have:=h.b
  split at this<;>omega
theorem qi{la:List (Bool×Int)}{regs:Nat}{par:Int}{cs:List In}(hz:(eX la regs par cs).2=0)(ha:et cs):a7 Tryz.prog 16 [ae la.length (aC la) regs par cs] [.v (ae la.length (aC la) regs par (fR cs)),.v (.n .i64 0)]:=by
 have h:=cq hz
 have hn:=h.ncs
 have hA:=h.nA
 have hr:=h.nregs
 obtain⟨hp,hpl,hsh,t,ht,hw,he⟩:=h.pt
 obtain⟨a,b,e1,e2,e3⟩:=r6 (regs:=regs) (nA:=la.length) h.inC (λx hx=>(ha x hx).1) hsh
 have hf:fR cs=b.out:=by unfold fR;rw[e1];exact e3
 have hck:=dQ la regs par cs (by omega) (by omega) ha
 rw[hz] at hck
 have hpt:=i4 cs t ht hw hn
 rw[<-he] at hpt
 have:=fY (sj (par:=par) (by omega) kZ (by omega) (by omega) hck hpt hpl (λx hx=>(h.inC x hx).bndS) (λx hx h4=>(h.inC x hx).arr (ha x hx).1 (.inr h4)) (λx hx hx'=>(h.inC x hx).fact (ha x hx).1 hx') e2) rfl
 rw[hf]
 exact this
end Go.Proofs.YtidhfimbnjaceaaGreat