/- A part of the proof of CostAdds: EvG. No condition. -/
import Derived.Great.BuildSlice
import Derived.Test.YtdpkgnmmikebdaaGreatGg07
set_option linter.unusedSimpArgs false
set_option linter.unusedVariables false
set_option linter.constructorNameAsVariable false
set_option maxRecDepth 100000
set_option maxHeartbeats 4000000
namespace Go.Proofs.YtdpkgnmmikebdaaGreat
open Go.RowKit
section
variable {P:Program} {B:Nat} {σ:Sg} {e:Tr AV} {a:Act} {H H':AH} {w:World} {o:Oper} {v:AV}
theorem vk{u:Value}(hv:u.oneCell'=true):u.cells= #[u]:=by cases u<;>first|rfl|(simp[Value.oneCell'] at hv)
theorem zW{u:Value}(hv:u.oneCell'=true):a8 σ [.cv u] u.cells.toList:=by
 have:u.cells= #[u]:=by cases u<;>first|rfl|(simp[Value.oneCell'] at hv)
 rw[this]
 exact a8.nil.cons (.cv u hv)
theorem ns{u:Value}(h:VR σ v u)(h1:v.cells.all AV.one=true):a8 σ v.cells u.cells.toList:=by
 cases h with
 |agg hl hh=>exact⟨by simpa [AV.cells,Value.cells] using hl,λi x hx=>by simpa [Value.cells,List.getD_eq_getElem?_getD,Array.getD_eq_getD_getElem?] using hh i x hx⟩
 |u x=>simp[AV.cells,AV.one] at h1
 |tup hl hh=>simp[AV.cells,AV.one] at h1
 |cv _ hv=>exact zW hv
 |b x=>exact a8.nil.cons (.b x)
 |n k x=>exact a8.nil.cons (.n k x)
 |s x=>exact a8.nil.cons (.s x)
 |p0=>exact a8.nil.cons .p0
 |p h=>exact a8.nil.cons (.p h)
 |sl0 a=>exact a8.nil.cons (.sl0 a)
 |sl h=>exact a8.nil.cons (.sl h)
 |slo h hc h0=>exact a8.nil.cons (.slo h hc h0)
 |f0=>exact a8.nil.cons .f0
 |f n1 g1 n2 g2=>exact a8.nil.cons (.f n1 g1 n2 g2)
 |fs0 esz row ad cap=>exact a8.nil.cons (.fs0 esz row ad cap)
 |fs hz hb q1 q2 cap hcap=>exact a8.nil.cons (.fs hz hb q1 q2 cap hcap)
 |fp hz hb q1 q2 j=>exact a8.nil.cons (.fp hz hb q1 q2 j)
 |bx hz hb q1 q2=>exact a8.nil.cons (.bx hz hb q1 q2)
 |ow h=>rw[vk h];exact a8.nil.cons (.ow h)
 |fw0 esz row ad cap=>exact a8.nil.cons (.fw0 esz row ad cap)
 |fw hz hb q1 q2 cap=>exact a8.nil.cons (.fw hz hb q1 q2 cap)
 |mh hh=>exact a8.nil.cons (.mh hh)
 |os0 hh a=>exact a8.nil.cons (.os0 hh a)
 |os hh hl=>exact a8.nil.cons (.os hh hl)
theorem VL{t:TypeId}{x y:Operand}{x' y':AX}{i:TypeInfo}(ho:o.op= .store t x y)(hx:aG x=some x')(hy:aG y=some y')(hi:P.info? t=some i)(hE:ER σ e a)(h:HR B σ H w)(hr:(AP.st i.size x' y').run e H=some (v,H')):gQ P B σ a H H' w o v:=by
 simp only[AP.run,AP.r_mv,AP.r_pick,AP.r_ld,AP.r_st,AP.r_nc,AP.r_bin,AP.r_un,AP.r_cvi,AP.r_fa,AP.r_fd,AP.r_ia,AP.r_iaa,AP.r_ext,AP.r_len,AP.r_cpc,AP.r_clr,AP.r_mf,AP.r_al,AP.r_bx,AP.r_bd,AP.r_bs,AP.r_ms,AP.r_sl,AP.r_se,AP.r_eq,AP.r_lns,AP.r_sx,AP.r_ix,AP.r_app,AP.r_apm,aP] at hr
 split at hr
 rotate_left
 ·cases hr
 rename_i b off vv hv hvv
 split at hr
 rotate_left
 ·cases hr
 rename_i hcc
 obtain⟨hn,hone⟩:=hcc
 simp only[Option.map_eq_some_iff] at hr
 obtain⟨H1,hs,he⟩:=hr
 cases he
 obtain⟨c,oc,hc,hev⟩:=zD hx hE hv
 have hcs:=ns (aV hy hE hvv) hone
 have hall:=hcs.one hone
 have hlen:vv.cells.length=(a.eval y).cells.size:=by simpa using hcs.1
 have key:w.there c off (a.eval y).cells.size/\HR B σ H' (w.setCells c off (a.eval y).cells.toList)/\Fr B σ σ H H' w (w.setCells c off (a.eval y).cells.toList):=by
  by_cases h0:vv.cells.length=0
  ·have e1:vv.cells=[]:=List.eq_nil_of_length_eq_zero h0
   rw[e1] at hs
   simp only[AH.storeN,Option.some.injEq] at hs
   subst hs
   have e2:(a.eval y).cells.toList=[]:=List.eq_nil_of_length_eq_zero (by rw[Array.length_toList];omega)
   rw[e2]
   exact⟨λj hj=>by omega,h,Fr.refl h⟩
  ·obtain⟨c',oc',k1,k2,k3,k4⟩:=HR.storeN _ h hs hcs (by omega)
   rw[hc] at k1
   cases k1
   exact⟨by simpa using k2,k3,k4⟩
 refine⟨.skip,_,σ,?_,.inr ⟨rfl,rfl⟩,key.2.1,key.2.2,rfl⟩
 have hst:=run_storeVar_mid (P:=P) w c off t (a.eval y).cells key.1 (by rw[hi,Option.map_some,<-hlen,hn]) (by rw[<-Array.all_toList];exact List.all_eq_true.2 hall)
 have hsame:storeVar t ⟨c,off,none⟩ (.agg (a.eval y).cells)=storeVar t ⟨c,off,none⟩ (a.eval y):=rfl
 rw[hsame] at hst
 unfold execOp
 rw[ho]
 simp only[hev,Instr.storeAt,Instr.sureAddr,Sem.run_bind,Sem.run_pure,Result.andThen_ok,hst]
theorem fT{l:List Value}{l':List AV}(hl:l.mapM oC=some l'):a8 σ l' l:=by
 induction l generalizing l' with
 |nil=>
  simp only[List.mapM_nil,Option.pure_def,Option.some.injEq] at hl
  subst hl
  exact a8.nil
 |cons x l ih=>
  simp only[List.mapM_cons,Option.bind_eq_bind,Option.bind_eq_some_iff,Option.pure_def,Option.some.injEq] at hl
  obtain⟨x',hx,l2,hl2,rfl⟩:=hl
  exact(ih hl2).cons (pO hx σ)
theorem pZ(n:Nat){α:Type}(z:List α):(List.replicate n z).flatten.length=n*z.length:=by
 induction n with
 |zero=>simp
 |succ n ih=>rw[List.replicate_succ,List.flatten_cons,List.length_append,ih,Nat.succ_mul,Nat.add_comm]
theorem qa{α:Type}(z:List α)(h0:0<z.length):∀(n i:Nat),i<n*z.length->(List.replicate n z).flatten[i]? =z[i%z.length]?
 |0,i,h=>by omega
 |n+1,i,h=>by
  rw[Nat.succ_mul] at h
  rw[List.replicate_succ,List.flatten_cons]
  by_cases hi:i<z.length
  ·rw[List.getElem?_append_left hi,Nat.mod_eq_of_lt hi]
  ·rw[List.getElem?_append_right (by omega),qa z h0 n (i-z.length) (by omega),<-Nat.mod_eq_sub_mod (by omega)]
theorem tJ{l:List AV}{cs:List Value}(h:a8 σ l cs):∀n,a8 σ (sf n l) (List.replicate n cs).flatten
 |0=> .nil
 |n+1=>by
  unfold sf
  rw[List.replicate_succ,List.replicate_succ,List.flatten_cons,List.flatten_cons]
  exact h.app (tJ h n)
theorem oS(z:Array Value)(h0:0<z.size)(n:Nat):(Builtin.zeroCells z n).toList=(List.replicate n z.toList).flatten:=by
 apply List.ext_getElem?
 intro i
 have hl:=pZ n z.toList
 simp only[Array.length_toList] at hl
 by_cases hi:i<n*z.size
 ·rw[qa z.toList (by simpa using h0) n i (by simpa using hi)]
  have hm:i%z.size<z.size:=Nat.mod_lt _ h0
  simp[Builtin.zeroCells,hi,hm]
 ·rw[List.getElem?_eq_none (by simp[Builtin.zeroCells];omega),List.getElem?_eq_none (by rw[hl];omega)]
theorem I7{x:Operand}{t el:TypeId}{x':AX}{i:TypeInfo}{z:Value}{l:List AV}(ho:o.op= .call {callee:= .builtin .clear,args:= #[x],argTypes:= #[t]})(hx:aG x=some x')(ht:P.underlying t=some (.slice el))(hi:P.info? el=some i)(hz:i.zero=some z)
  (hl:z.cells.toList.mapM oC=some l) (hone:l.all AV.one=true) (hE:ER σ e a) (h:HR B σ H w) (hr:(AP.clr l x').run e H=some (v,H')):gQ P B σ a H H' w o v:=by
 have hzl:a8 σ l z.cells.toList:=fT hl
 have fin:∀(b off n k c:Nat) (oc:Option Nat) (H1:AH),a.eval x= .slice (some ⟨c,off,none⟩) n k->σ b=some (c,oc)->0<n->0<l.length->H.storeN b off (sf n l)=some H1->v= .tup []->H'=H1->gQ P B σ a H H' w o v:=by
  rintro b off n k c oc H1 hev hc hn h0 hs rfl rfl
  have hv2:=tJ hzl n
  have hln:0<(sf n l).length:=by unfold sf;rw[pZ];exact Nat.mul_pos hn h0
  obtain⟨c',oc',k1,k2,k3,k4⟩:=HR.storeN _ h hs hv2 hln
  rw[hc] at k1
  cases k1
  have hz0:0<z.cells.size:=by have:=hzl.1;simp only[Array.length_toList] at this;omega
  have hcl:=oS z.cells hz0 n
  have hall:=hv2.one (by
   rw[List.all_eq_true] at hone ⊢
   intro y hy
   obtain⟨l2,e1,e2⟩:=List.mem_flatten.1 hy
   rw[(List.mem_replicate.1 e1).2] at e2
   exact hone y e2)
  have hst:=run_storeCells_cells (P:=P) c off _ 0 w (λj hj=>by rw[Nat.add_zero];exact(k2 j hj).1) (λj hj=>by rw[Nat.add_zero];exact(k2 j hj).2) hall
  rw[Nat.add_zero] at hst
  refine⟨.value (.tuple #[]),_,σ,?_,.inl ⟨.tuple #[],rfl,.tup rfl (λi v hv=>by simp at hv)⟩,k3,k4,rfl⟩
  obtain⟨m,rfl⟩:∃m,n=m+1:=⟨n-1,by omega⟩
  have hb:(Builtin.clear_ #[t] o.type #[Value.slice (some ⟨c,off,none⟩) (m+1) k]).run P w= .ok (.tuple #[]) (w.setCells c off (List.replicate (m+1) z.cells.toList).flatten):=by
   have hzv:(zeroValue el).run P w= .ok z w:=by simp[zeroValue,typeInfo,Sem.run_bind,hi,hz]
   simp[Builtin.clear_,run_underlying ht,hzv,hcl,hst]
  unfold execOp
  rw[ho]
  simp only[resolve,invoke,builtin,Sem.run_bind,Sem.run_pure,Result.andThen_ok,List.map_toArray,List.map_cons,List.map_nil]
  rw[hev]
  simp only[hb,Result.andThen_ok]
 simp only[AP.run,AP.r_mv,AP.r_pick,AP.r_ld,AP.r_st,AP.r_nc,AP.r_bin,AP.r_un,AP.r_cvi,AP.r_fa,AP.r_fd,AP.r_ia,AP.r_iaa,AP.r_ext,AP.r_len,AP.r_cpc,AP.r_clr,AP.r_mf,AP.r_al,AP.r_bx,AP.r_bd,AP.r_bs,AP.r_ms,AP.r_sl,AP.r_se,AP.r_eq,AP.r_lns,AP.r_sx,AP.r_ix,AP.r_app,AP.r_apm,aP] at hr
 split at hr
 ·rename_i b off n cap hv
  split at hr
  rotate_left
  ·cases hr
  rename_i hc
  obtain⟨H1,hs,he⟩:=Option.map_eq_some_iff.1 hr
  cases he
  have h1:=aV hx hE hv
  generalize hu:a.eval x=u at h1
  cases h1 with
  |sl hh=>exact fin _ _ _ _ _ _ _ hu hh hc.1 hc.2 hs rfl rfl
  |slo hh hcc h0=>exact fin _ _ _ _ _ _ _ hu hh hc.1 hc.2 hs rfl rfl
 ·rename_i b n hv
  split at hr
  rotate_left
  ·cases hr
  rename_i hc
  obtain⟨H1,hs,he⟩:=Option.map_eq_some_iff.1 hr
  cases he
  have h1:=aV hx hE hv
  generalize hu:a.eval x=u at h1
  cases h1 with
  |os0 hh a0=>omega
  |os hh hl2=>exact fin _ _ _ _ _ _ _ hu hh hc.1 hc.2 hs rfl rfl
 ·cases hr
theorem HR.lay(h:HR B σ H w)(hnx:H.next+1<2^40){l:List AV}{cs:Array Value}(hl:a8 σ l cs.toList)(hs:l.length<2^40)(esz:Nat)(ty:TypeId):
  HR B (σ.ext H.next (w.heap.size,none)) (H.new ⟨l.length,esz,ty,λ_=> .u,gH l,false,true,0⟩) (w.alloc (.cells cs ty))/\Fr B σ (σ.ext H.next (w.heap.size,none)) H (H.new ⟨l.length,esz,ty,λ_=> .u,gH l,false,true,0⟩) w (w.alloc (.cells cs ty)):=by
 have hn:l.length=cs.size:=by simpa using hl.1
 refine h.alloc hnx rfl rfl hn.symm hs ?_
 exact wT hl rfl hs (by rw[List.take_of_length_le (by simp;omega)]) ty esz false true _ 0
theorem VZ{t:TypeId}{i:TypeInfo}{z:Value}{l:List AV}(ho:o.op= .alloc t)(hi:P.info? t=some i)(hz:i.zero=some z)(hl:z.cells.toList.mapM oC=some l)(h:HR B σ H w)(hr:(AP.al t l).run e H=some (v,H')):gQ P B σ a H H' w o v:=by
 simp only[AP.run,AP.r_mv,AP.r_pick,AP.r_ld,AP.r_st,AP.r_nc,AP.r_bin,AP.r_un,AP.r_cvi,AP.r_fa,AP.r_fd,AP.r_ia,AP.r_iaa,AP.r_ext,AP.r_len,AP.r_cpc,AP.r_clr,AP.r_mf,AP.r_al,AP.r_bx,AP.r_bd,AP.r_bs,AP.r_ms,AP.r_sl,AP.r_se,AP.r_eq,AP.r_lns,AP.r_sx,AP.r_ix,AP.r_app,AP.r_apm,aP] at hr
 split at hr
 rotate_left
 ·cases hr
 rename_i hc
 cases hr
 have:=h.lay hc.1 (fT hl) hc.2 0 t
 refine⟨_,_,_,?_,.inl ⟨_,rfl,.p (Sg.ext_self _ _ _)⟩,this.1,this.2,rfl⟩
 unfold execOp
 rw[ho]
 simp[Instr.alloc,zeroValue,typeInfo,Sem.run_bind,hi,hz,newVar,newRow]
theorem VW{t:TypeId}{n:Nat}{x:Operand}{x':AX}(ho:o.op= .box t x)(hx:aG x=some x')(hE:ER σ e a)(h:HR B σ H w)(hr:(AP.bx t n x').run e H=some (v,H')):gQ P B σ a H H' w o v:=by
 simp only[AP.run,AP.r_mv,AP.r_pick,AP.r_ld,AP.r_st,AP.r_nc,AP.r_bin,AP.r_un,AP.r_cvi,AP.r_fa,AP.r_fd,AP.r_ia,AP.r_iaa,AP.r_ext,AP.r_len,AP.r_cpc,AP.r_clr,AP.r_mf,AP.r_al,AP.r_bx,AP.r_bd,AP.r_bs,AP.r_ms,AP.r_sl,AP.r_se,AP.r_eq,AP.r_lns,AP.r_sx,AP.r_ix,AP.r_app,AP.r_apm,aP] at hr
 split at hr
 rotate_left
 ·cases hr
 rename_i vv hvv
 split at hr
 rotate_left
 ·cases hr
 rename_i hc
 cases hr
 have:=h.lay hc.1 (ns (aV hx hE hvv) hc.2.2) hc.2.1 0 t
 refine⟨_,_,_,?_,.inl ⟨_,rfl,.p (Sg.ext_self _ _ _)⟩,this.1,this.2,rfl⟩
 unfold execOp
 rw[ho]
 simp[Instr.box,Sem.run_bind,newVar,newRow]
theorem yT{l:List AV}{cs:Array Value}(h:a8 σ l cs.toList){vs:List AV}{u:Array Value}(hv:a8 σ vs u.toList)(off:Nat)(hle:off+vs.length<=l.length):
  a8 σ (l.take off++vs++l.drop (off+vs.length)) (u.zipIdx.foldl (λcs (c,j)=>cs.setIfInBounds (off+j) c) cs).toList:=by
 obtain⟨g1,g2⟩:=Great.foldl_set off u.toList 0 cs
 have hl:l.length=cs.size:=by simpa using h.1
 have hvl:vs.length=u.size:=by simpa using hv.1
 have he:u.zipIdx.foldl (λcs (c,j)=>cs.setIfInBounds (off+j) c) cs=(u.toList.zipIdx 0).foldl (λcs (x:Value×Nat)=>cs.setIfInBounds (off+x.2) x.1) cs:=by
  rw[<-Array.foldl_toList,Array.toList_zipIdx]
 rw[he]
 generalize (u.toList.zipIdx 0).foldl (λcs (x:Value×Nat)=>cs.setIfInBounds (off+x.2) x.1) cs=r at g1 g2
 refine⟨by simp only[List.length_append,List.length_take,List.length_drop,Array.length_toList];omega,λi x hx=>?_⟩
 have g3:=g2 i
 rw[List.getD_eq_getElem?_getD,Array.getElem?_toList,g3]
 by_cases h1:i<off
 ·rw[if_neg (by omega)]
  rw[List.append_assoc,List.getElem?_append_left (by rw[List.length_take];omega),List.getElem?_take_of_lt h1] at hx
  have:=h.2 i x hx
  simpa [List.getD_eq_getElem?_getD] using this
 ·by_cases h2:i<off+vs.length
  ·rw[if_pos (by rw[Array.length_toList];omega)]
   rw[List.getElem?_append_left (by rw[List.length_append,List.length_take];omega),List.getElem?_append_right (by rw[List.length_take];omega)] at hx
   rw[List.length_take,Nat.min_eq_left (by omega)] at hx
   have:=hv.2 _ x hx
   rw[List.getD_eq_getElem?_getD] at this
   rw[Nat.add_zero]
   exact this
  ·rw[if_neg (by rw[Array.length_toList];omega)]
   rw[List.getElem?_append_right (by rw[List.length_append,List.length_take];omega),List.length_append,List.length_take,Nat.min_eq_left (by omega),List.getElem?_drop,show off+vs.length+(i-(off+vs.length))=i by omega] at hx
   have:=h.2 i x hx
   simpa [List.getD_eq_getElem?_getD] using this
def et(place:Nat->Option (Nat×Nat)):List (Nat×Operand)->Option (List (Nat×Nat×AX))
 |[]=>some []
 |(i,x)::l=>match place i,aG x,et place l with
  |some (off,n),some y,some r=>some ((off,n,y)::r)
  |_,_,_=>none
theorem pK(place:Nat->Option (Nat×Nat))(hE:ER σ e a):∀(ps:List (Nat×Operand)) (ps':List (Nat×Nat×AX)) (l r:List AV) (cs:Array Value),et place ps=some ps'->a8 σ l cs.toList->mW e l ps'=some r->
  ∃cells,Instr.fill place cs (ps.map λ(i,x)=>(i,a.eval x))=some cells/\a8 σ r cells.toList
 |[],ps',l,r,cs,hp,hl,hf=>by
  simp only[et,Option.some.injEq] at hp
  subst hp
  simp only[mW,Option.some.injEq] at hf
  subst hf
  exact⟨cs,rfl,hl⟩
 |(i,x)::ps,ps',l,r,cs,hp,hl,hf=>by
  simp only[et] at hp
  split at hp
  rotate_left
  ·cases hp
  rename_i off n y r' e1 e2 e3
  cases hp
  simp only[mW] at hf
  split at hf
  rotate_left
  ·cases hf
  rename_i vv hvv
  split at hf
  rotate_left
  ·cases hf
  rename_i hc
  obtain⟨c1,c2,c3⟩:=hc
  have hcs:=ns (aV e2 hE hvv) c3
  have hsz:(a.eval x).cells.size=n:=by rw[<-c1,hcs.1,Array.length_toList]
  have hl0:l.length=cs.size:=by simpa using hl.1
  have hnew:=yT hl hcs off (by omega)
  rw[c1] at hnew
  obtain⟨cells,k1,k2⟩:=pK place hE ps r' _ r _ e3 hnew hf
  refine⟨cells,?_,k2⟩
  rw[List.map_cons,Instr.fill,e1]
  simp only
  rw[if_neg (by simp;omega)]
  exact k1
end
end Go.Proofs.YtdpkgnmmikebdaaGreat