/- A part of the proof of CostLimits. No condition. -/
import Derived.Great.BuildSlice
import Derived.Test.YtdpkgnmmikebdaaGreatGi07
set_option linter.unusedSimpArgs false
set_option linter.unusedVariables false
set_option linter.constructorNameAsVariable false
set_option maxRecDepth 100000
set_option maxHeartbeats 4000000
namespace Go.Proofs.YtdpkgnmmikebdaaGreat
open Go.RowKit
section
variable {x':AX}{l:List AV}{x:Operand}{t:TypeId}{i:TypeInfo}{u:Value}
section
variable {P:Program} {B:Nat} {σ:Sg} {e:Tr AV} {a:Act} {H H':AH} {w:World} {o:Oper} {v:AV}
theorem B4(hv:u.oneCell'=true):u.cells= #[u]:=by cases u<;>first|rfl|(simp[Value.oneCell'] at hv)
theorem FU(hv:u.oneCell'=true):gn σ [.cv u] u.cells.toList:=by
 have:u.cells= #[u]:=by cases u<;>first|rfl|(simp[Value.oneCell'] at hv)
 rw[this];exact gn.nil.cons (.cv u hv)
theorem tT(h:VR σ v u)(h1:v.cells.all AV.one=true):gn σ v.cells u.cells.toList:=by
 cases h with
 |agg hl hh=>exact⟨by simpa [AV.cells,Value.cells] using hl,λi x hx=>by simpa [Value.cells,apd,apA] using hh i x hx⟩
 |u x=>simp[AV.cells,AV.one] at h1
 |tup hl hh=>simp[AV.cells,AV.one] at h1
 |cv _ hv=>exact FU hv
 |b x=>exact gn.nil.cons (.b x)
 |n k x=>exact gn.nil.cons (.n k x)
 |s x=>exact gn.nil.cons (.s x)
 |p0=>exact gn.nil.cons .p0
 |p h=>exact gn.nil.cons (.p h)
 |sl0 a=>exact gn.nil.cons (.sl0 a)
 |sl h=>exact gn.nil.cons (.sl h)
 |slo h hc h0=>exact gn.nil.cons (.slo h hc h0)
 |f0=>exact gn.nil.cons .f0
 |f n1 g1 n2 g2=>exact gn.nil.cons (.f n1 g1 n2 g2)
 |fs0 esz row ad cap=>exact gn.nil.cons (.fs0 esz row ad cap)
 |fs hz hb q1 q2 cap hcap=>exact gn.nil.cons (.fs hz hb q1 q2 cap hcap)
 |fp hz hb q1 q2 j=>exact gn.nil.cons (.fp hz hb q1 q2 j)
 |bx hz hb q1 q2=>exact gn.nil.cons (.bx hz hb q1 q2)
 |ow h=>rw[B4 h];exact gn.nil.cons (.ow h)
 |fw0 esz row ad cap=>exact gn.nil.cons (.fw0 esz row ad cap)
 |fw hz hb q1 q2 cap=>exact gn.nil.cons (.fw hz hb q1 q2 cap)
 |mh hh=>exact gn.nil.cons (.mh hh)
 |os0 hh a=>exact gn.nil.cons (.os0 hh a)
 |os hh hl=>exact gn.nil.cons (.os hh hl)
theorem anc{y:Operand}{y':AX}(ho:o.op= .store t x y)(hx:fF x=some x')(hy:fF y=some y')(hi:P.info? t=some i)(hE:ER σ e a)(h:HR B σ H w)(hr:(AP.st i.size x' y').run e H=some (v,H')):oo P B σ a H H' w o v:=by
 simp only[AP.run,fW,aqn] at hr;split at hr;rotate_left
 ·cases hr
 rename_i b off vv hv hvv;split at hr;rotate_left
 ·cases hr
 rename_i hcc;obtain⟨hn,hone⟩:=hcc;simp only[apc] at hr;obtain⟨H1,hs,he⟩:=hr;cases he;obtain⟨c,oc,hc,hev⟩:=FD hx hE hv;have hcs:=tT (gb hy hE hvv) hone;have hall:=hcs.one hone;have hlen:vv.cells.length=(a.eval y).cells.size:=by simpa using hcs.1
 have key:w.there c off (a.eval y).cells.size/\HR B σ H' (w.setCells c off (a.eval y).cells.toList)/\Fr B σ σ H H' w (w.setCells c off (a.eval y).cells.toList):=by
  by_cases h0:vv.cells.length=0
  ·have e1:vv.cells=[]:=aqe h0;rw[e1] at hs;simp only[AH.storeN,apn] at hs;subst hs;have e2:(a.eval y).cells.toList=[]:=aqe (by rw[apX];omega)
   rw[e2];exact⟨λj hj=>aa,h,Fr.refl h⟩
  ·obtain⟨c',oc',k1,k2,k3,k4⟩:=HR.storeN _ h hs hcs aa;rw[hc] at k1;cases k1;exact⟨by simpa using k2,k3,k4⟩
 refine⟨.skip,_,σ,?_,.inr ⟨rfl,rfl⟩,key.2.1,key.2.2,rfl⟩;have hst:=run_storeVar_mid (P:=P) w c off t (a.eval y).cells key.1 (by rw[hi,Option.map_some,<-hlen,hn]) (by rw[<-Array.all_toList];exact apr.2 hall)
 have hsame:storeVar t ⟨c,off,none⟩ (.agg (a.eval y).cells)=storeVar t ⟨c,off,none⟩ (a.eval y):=rfl;rw[hsame] at hst;unfold execOp;rw[ho];simp only[hev,Instr.storeAt,Instr.sureAddr,Sem.run_bind,Sem.run_pure,Result.andThen_ok,hst]
theorem nB{l:List Value}{l':List AV}(hl:l.mapM uT=some l'):gn σ l' l:=by
 induction l generalizing l' with
 |nil=>
  simp only[List.mapM_nil,Option.pure_def,apn] at hl;subst hl;exact gn.nil
 |cons x l ih=>
  simp only[List.mapM_cons,Option.bind_eq_bind,bM,Option.pure_def,apn] at hl;obtain⟨x',hx,l2,hl2,rfl⟩:=hl;exact(ih hl2).cons (v6 hx σ)
theorem ww(n:Nat){α:Type}(z:List α):(List.replicate n z).flatten.length=n*z.length:=by
 induction n with
 |zero=>simp
 |succ n ih=>rw[List.replicate_succ,List.flatten_cons,ape,ih,apM,Nat.add_comm]
theorem wz{α:Type}(z:List α)(h0:0<z.length):∀(n i:Nat),i<n*z.length->(List.replicate n z).flatten[i]? =z[i%z.length]?
 |0,i,h=>by omega
 |n+1,i,h=>by
  rw[apM] at h;rw[List.replicate_succ,List.flatten_cons];by_cases hi:i<z.length
  ·rw[apF hi,Nat.mod_eq_of_lt hi]
  ·rw[apP aa,wz z h0 n (i-z.length) aa,<-Nat.mod_eq_sub_mod aa]
theorem Ab{l:List AV}{cs:List Value}(h:gn σ l cs):∀n,gn σ (yS n l) (List.replicate n cs).flatten
 |0=> .nil
 |n+1=>by
  unfold yS;rw[List.replicate_succ,List.replicate_succ,List.flatten_cons,List.flatten_cons];exact h.app (Ab h n)
theorem vf(z:Array Value)(h0:0<z.size)(n:Nat):(Builtin.zeroCells z n).toList=(List.replicate n z.toList).flatten:=by
 apply List.ext_getElem?;intro i;have hl:=ww n z.toList;simp only[apX] at hl;by_cases hi:i<n*z.size
 ·rw[wz z.toList (by simpa using h0) n i (by simpa using hi)]
  have hm:i%z.size<z.size:=Nat.mod_lt _ h0;simp[Builtin.zeroCells,hi,hm]
 ·rw[apI (by simp[Builtin.zeroCells];omega),apI (by rw[hl];omega)]
theorem Z0{el:TypeId}{z:Value}(ho:o.op= .call {callee:= .builtin .clear,args:= #[x],argTypes:= #[t]})(hx:fF x=some x')(ht:P.underlying t=some (.slice el))(hi:P.info? el=some i)(hz:i.zero=some z)
  (hl:z.cells.toList.mapM uT=some l) (hone:l.all AV.one=true) (hE:ER σ e a) (h:HR B σ H w) (hr:(AP.clr l x').run e H=some (v,H')):oo P B σ a H H' w o v:=by
 have hzl:gn σ l z.cells.toList:=nB hl;have fin:∀(b off n k c:Nat) (oc:Option Nat) (H1:AH),a.eval x= .slice (some ⟨c,off,none⟩) n k->σ b=some (c,oc)->0<n->0<l.length->H.storeN b off (yS n l)=some H1->v= .tup []->H'=H1->oo P B σ a H H' w o v:=by
  rintro b off n k c oc H1 hev hc hn h0 hs rfl rfl;have hv2:=Ab hzl n;have hln:0<(yS n l).length:=by unfold yS;rw[ww];exact Nat.mul_pos hn h0
  obtain⟨c',oc',k1,k2,k3,k4⟩:=HR.storeN _ h hs hv2 hln;rw[hc] at k1;cases k1;have hz0:0<z.cells.size:=by have:=hzl.1;simp only[apX] at this;omega
  have hcl:=vf z.cells hz0 n;have hall:=hv2.one (by
   rw[apr] at hone ⊢;intro y hy;obtain⟨l2,e1,e2⟩:=List.mem_flatten.1 hy;rw[(aqg.1 e1).2] at e2;exact hone y e2)
  have hst:=run_storeCells_cells (P:=P) c off _ 0 w (λj hj=>by rw[Nat.add_zero];exact(k2 j hj).1) (λj hj=>by rw[Nat.add_zero];exact(k2 j hj).2) hall
  rw[Nat.add_zero] at hst;refine⟨.value (.tuple #[]),_,σ,?_,.inl ⟨.tuple #[],rfl,.tup rfl (λi v hv=>by simp at hv)⟩,k3,k4,rfl⟩
  obtain⟨m,rfl⟩:∃m,n=m+1:=⟨n-1,aa⟩;have hb:(Builtin.clear_ #[t] o.type #[Value.slice (some ⟨c,off,none⟩) (m+1) k]).run P w= .ok (.tuple #[]) (w.setCells c off (List.replicate (m+1) z.cells.toList).flatten):=by
   have hzv:(zeroValue el).run P w= .ok z w:=by simp[zeroValue,typeInfo,Sem.run_bind,hi,hz]
   simp[Builtin.clear_,run_underlying ht,hzv,hcl,hst]
  unfold execOp;rw[ho];simp only[resolve,invoke,builtin,Sem.run_bind,Sem.run_pure,Result.andThen_ok,apU,List.map_cons,List.map_nil];rw[hev];simp only[hb,Result.andThen_ok]
 simp only[AP.run,fW,aqn] at hr;split at hr
 ·rename_i b off n cap hv;split at hr;rotate_left
  ·cases hr
  rename_i hc;obtain⟨H1,hs,he⟩:=apc.1 hr;cases he;have h1:=gb hx hE hv;generalize hu:a.eval x=u at h1;cases h1 with
  |sl hh=>exact fin _ _ _ _ _ _ _ hu hh hc.1 hc.2 hs rfl rfl
  |slo hh hcc h0=>exact fin _ _ _ _ _ _ _ hu hh hc.1 hc.2 hs rfl rfl
 ·rename_i b n hv;split at hr;rotate_left
  ·cases hr
  rename_i hc;obtain⟨H1,hs,he⟩:=apc.1 hr;cases he;have h1:=gb hx hE hv;generalize hu:a.eval x=u at h1;cases h1 with
  |os0 hh a0=>omega
  |os hh hl2=>exact fin _ _ _ _ _ _ _ hu hh hc.1 hc.2 hs rfl rfl
 ·cases hr
theorem HR.lay(h:HR B σ H w)(hnx:H.next+1<2^40){cs:Array Value}(hl:gn σ l cs.toList)(hs:l.length<2^40)(esz:Nat)(ty:TypeId):
  HR B (σ.ext H.next (w.heap.size,none)) (H.new ⟨l.length,esz,ty,λ_=> .u,oh l,false,true,0⟩) (w.alloc (.cells cs ty))/\Fr B σ (σ.ext H.next (w.heap.size,none)) H (H.new ⟨l.length,esz,ty,λ_=> .u,oh l,false,true,0⟩) w (w.alloc (.cells cs ty)):=by
 have hn:l.length=cs.size:=by simpa using hl.1
 refine h.alloc hnx rfl rfl hn.symm hs ?_;exact Da hl rfl hs (by rw[List.take_of_length_le (by simp;omega)]) ty esz false true _ 0
theorem anq{z:Value}(ho:o.op= .alloc t)(hi:P.info? t=some i)(hz:i.zero=some z)(hl:z.cells.toList.mapM uT=some l)(h:HR B σ H w)(hr:(AP.al t l).run e H=some (v,H')):oo P B σ a H H' w o v:=by
 simp only[AP.run,fW,aqn] at hr;split at hr;rotate_left
 ·cases hr
 rename_i hc;cases hr;have:=h.lay hc.1 (nB hl) hc.2 0 t;refine⟨_,_,_,?_,.inl ⟨_,rfl,.p (Sg.ext_self _ _ _)⟩,this.1,this.2,rfl⟩;unfold execOp;rw[ho];simp[Instr.alloc,zeroValue,typeInfo,Sem.run_bind,hi,hz,newVar,newRow]
theorem ann{n:Nat}(ho:o.op= .box t x)(hx:fF x=some x')(hE:ER σ e a)(h:HR B σ H w)(hr:(AP.bx t n x').run e H=some (v,H')):oo P B σ a H H' w o v:=by
 simp only[AP.run,fW,aqn] at hr;split at hr;rotate_left
 ·cases hr
 rename_i vv hvv;split at hr;rotate_left
 ·cases hr
 rename_i hc;cases hr;have:=h.lay hc.1 (tT (gb hx hE hvv) hc.2.2) hc.2.1 0 t;refine⟨_,_,_,?_,.inl ⟨_,rfl,.p (Sg.ext_self _ _ _)⟩,this.1,this.2,rfl⟩;unfold execOp;rw[ho];simp[Instr.box,Sem.run_bind,newVar,newRow]
theorem EW{cs:Array Value}(h:gn σ l cs.toList){vs:List AV}{u:Array Value}(hv:gn σ vs u.toList)(off:Nat)(hle:off+vs.length<=l.length):
  gn σ (l.take off++vs++l.drop (off+vs.length)) (u.zipIdx.foldl (λcs (c,j)=>cs.setIfInBounds (off+j) c) cs).toList:=by
 obtain⟨g1,g2⟩:=Great.foldl_set off u.toList 0 cs;have hl:l.length=cs.size:=by simpa using h.1
 have hvl:vs.length=u.size:=by simpa using hv.1
 have he:u.zipIdx.foldl (λcs (c,j)=>cs.setIfInBounds (off+j) c) cs=(u.toList.zipIdx 0).foldl (λcs (x:Value×Nat)=>cs.setIfInBounds (off+x.2) x.1) cs:=by
  rw[<-Array.foldl_toList,Array.toList_zipIdx]
 rw[he];generalize (u.toList.zipIdx 0).foldl (λcs (x:Value×Nat)=>cs.setIfInBounds (off+x.2) x.1) cs=r at g1 g2;refine⟨by simp only[ape,apL,aqa,apX];omega,λi x hx=>?_⟩
 have g3:=g2 i;rw[apd,apC,g3];by_cases h1:i<off
 ·rw[if_neg aa];rw[List.append_assoc,apF (by rw[apL];omega),ap6 h1] at hx
  have:=h.2 i x hx;simpa [apd] using this
 ·by_cases h2:i<off+vs.length
  ·rw[if_pos (by rw[apX];omega)]
   rw[apF (by rw[ape,apL];omega),apP (by rw[apL];omega)] at hx
   rw[apL,Nat.min_eq_left aa] at hx;have:=hv.2 _ x hx;rw[apd] at this;rw[Nat.add_zero];exact this
  ·rw[if_neg (by rw[apX];omega)]
   rw[apP (by rw[ape,apL];omega),ape,apL,Nat.min_eq_left aa,aqf,show off+vs.length+(i-(off+vs.length))=i by omega] at hx
   have:=h.2 i x hx;simpa [apd] using this
def lw(place:Nat->Option (Nat×Nat)):List (Nat×Operand)->Option (List (Nat×Nat×AX))
 |[]=>some []
 |(i,x)::l=>match place i,fF x,lw place l with
  |some (off,n),some y,some r=>some ((off,n,y)::r)
  |_,_,_=>none
theorem vZ(place:Nat->Option (Nat×Nat))(hE:ER σ e a):∀(ps:List (Nat×Operand)) (ps':List (Nat×Nat×AX)) (l r:List AV) (cs:Array Value),lw place ps=some ps'->gn σ l cs.toList->tE e l ps'=some r->
  ∃cells,Instr.fill place cs (ps.map λ(i,x)=>(i,a.eval x))=some cells/\gn σ r cells.toList
 |[],ps',l,r,cs,hp,hl,hf=>by
  simp only[lw,apn] at hp;subst hp;simp only[tE,apn] at hf;subst hf;exact⟨cs,rfl,hl⟩
 |(i,x)::ps,ps',l,r,cs,hp,hl,hf=>by
  simp only[lw] at hp;split at hp;rotate_left
  ·cases hp
  rename_i off n y r' e1 e2 e3;cases hp;simp only[tE] at hf;split at hf;rotate_left
  ·cases hf
  rename_i vv hvv;split at hf;rotate_left
  ·cases hf
  rename_i hc;obtain⟨c1,c2,c3⟩:=hc;have hcs:=tT (gb e2 hE hvv) c3;have hsz:(a.eval x).cells.size=n:=by rw[<-c1,hcs.1,apX]
  have hl0:l.length=cs.size:=by simpa using hl.1
  have hnew:=EW hl hcs off aa;rw[c1] at hnew;obtain⟨cells,k1,k2⟩:=vZ place hE ps r' _ r _ e3 hnew hf;refine⟨cells,?_,k2⟩;rw[List.map_cons,Instr.fill,e1];simp only;rw[if_neg (by simp;omega)]
  exact k1
end
end
end Go.Proofs.YtdpkgnmmikebdaaGreat