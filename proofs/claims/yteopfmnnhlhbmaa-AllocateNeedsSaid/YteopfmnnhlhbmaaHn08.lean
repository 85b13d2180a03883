/- A part of the proof of AllocateNeeds: EvH EvI EvJ EvK. No condition. -/
import Derived.Deep.Upon
import Derived.Laws.MakeOwn
import Derived.Test.YteopfmnnhlhbmaaHn07
import Derived.Test.YteopfmnnhlhbmaaHn02
set_option linter.unusedSimpArgs false
set_option linter.unusedVariables false
set_option linter.constructorNameAsVariable false
set_option maxRecDepth 100000
set_option maxHeartbeats 4000000
namespace Go.Proofs.Yteopfmnnhlhbmaa
open Go.RowKit
section
variable {P:Program} {B:Nat} {σ:Sg} {e:Tr AV} {a:Act} {H H':AH} {w:World} {o:Oper} {v:AV}
theorem OL{t:TypeId}{parts:Array (Nat×Operand)}{place:Nat->Option (Nat×Nat)}{z:Value}{l:List AV}{ps:List (Nat×Nat×AX)}(ho:o.op= .build t parts)(hb:∀q,P.built t q=Instr.fill place z.cells q)
  (hp:ej place parts.toList=some ps) (hl:z.cells.toList.mapM pG=some l) (hE:ER σ e a) (hr:(AP.bd l ps).run e H=some (v,H')):kf P σ a H H' o v:=by
 simp only[AP.run,Option.map_eq_some_iff] at hr
 obtain⟨r,hf,he⟩:=hr
 cases he
 obtain⟨cells,k1,k2⟩:=oT place hE _ _ _ _ _ hp (fx hl) hf
 have:=λw=>run_build (P:=P) w t (parts.map λ(i,x)=>(i,a.eval x)) cells (by rw[hb,Array.toList_map];exact k1)
 refine aI (u:= .agg cells) (λw=>?_) (by simpa using k2.agg)
 unfold execOp
 rw[ho]
 simp only[Sem.run_bind,Sem.run_pure,Result.andThen_ok,this]
theorem HR.junk(h:HR B σ H w)(o:Obj):HR B σ H (w.alloc o)/\Fr B σ σ H H w (w.alloc o):=by
 have old:∀c,c<w.heap.size->(w.alloc o).heap[c]? =w.heap[c]? :=λc hc=>Below.heap_alloc _ _ _ hc
 refine⟨⟨h.new,h.newl,h.old,h.small,by simp;have:=h.hB;omega,h.nil,h.nilp,λb x c oc hx hs=>?_,h.szs,h.inj,λc fs hf=>?_,h.ob.keep λr hr _=>old r hr⟩,λ_ _=>rfl,σ.le_refl,Nat.le_refl _,Nat.le_refl _,(Below.refl _ _).alloc h.hB _,λc hc=> .inl (old c hc),λb c oc hb hs=>by rw[h.new b hb] at hs;cases hs⟩
 ·obtain⟨cs,e1,e2,e3⟩:=h.blk b x c oc hx hs
  exact⟨cs,e1,by rw[old c (Array.getElem?_eq_some_iff.1 e2).1];exact e2,e3⟩
 ·obtain⟨cs,t,fr,e1,e2,e3⟩:=h.frz c fs hf
  exact⟨cs,t,fr,by rw[old c (h.fzlt hf)];exact e1,e2,e3⟩
theorem OK{t el:TypeId}{n:Nat}{parts:Array (Nat×Operand)}{i:TypeInfo}{z:Value}{l:List AV}{ps:List (Nat×Nat×AX)}(ho:o.op= .buildSlice t n parts)(ht:P.underlying t=some (.slice el))(hi:P.info? el=some i)(hz:i.zero=some z)
  (hp:ej (λj=>some (j*i.size,i.size)) parts.toList=some ps) (hl:(madeCells z.cells (n*i.size)).toList.mapM pG=some l) (hE:ER σ e a) (h:HR B σ H w) (hr:(AP.bs el i.size n l ps).run e H=some (v,H')):Same P B σ a H H' w o v:=by
 simp only[AP.run] at hr
 split at hr
 ·rename_i h0
  obtain⟨rfl,h1⟩:=h0
  cases hr
  have hps:ps=[]:=List.isEmpty_iff.1 h1
  have hpar:parts.toList=[]:=by
   cases hq:parts.toList with
   |nil=>rfl
   |cons p q=>
    rw[hq] at hp
    obtain⟨j,x⟩:=p
    simp only[ej] at hp
    split at hp
    ·cases hp;cases hps
    ·cases hp
  have hpa:parts= #[]:=Array.ext' hpar
  subst hpa
  obtain⟨k1,k2⟩:=h.junk (.cells #[] el)
  refine⟨_,_,σ,?_,.inl ⟨_,rfl,.sl0 (some ⟨w.heap.size,0,none⟩)⟩,k1,k2,rfl⟩
  unfold execOp
  rw[ho]
  simp[Instr.buildSlice,run_underlying ht,sizeOf,typeInfo,hi,Instr.fill,newRow]
  have hz0:∀f:Nat->Value,Array.map f (Array.range 0)= #[]:=λf=>Array.ext' (by simp)
  rw[hz0]
 split at hr
 rotate_left
 ·cases hr
 rename_i r hf
 split at hr
 rotate_left
 ·cases hr
 rename_i hc
 obtain⟨c1,c2,c3,c4⟩:=hc
 cases hr
 obtain⟨cells,k1,k2⟩:=oT _ hE _ _ _ _ _ hp (fx hl) hf
 have hrun:=run_buildSlice (P:=P) w t el n (parts.map λ(i,x)=>(i,a.eval x)) cells i z ht hi hz (by omega) (by omega) (by rw[Array.toList_map];exact k1)
 have:=h.lay c1 k2 (by omega) i.size el
 refine⟨_,_,_,?_,.inl ⟨_,rfl,.sl (Sg.ext_self _ _ _)⟩,this.1,this.2,rfl⟩
 unfold execOp
 rw[ho]
 simp only[Sem.run_bind,Sem.run_pure,Result.andThen_ok,hrun]
theorem OC{t el:TypeId}{x y:Operand}{x' y':AX}{i:TypeInfo}{z:Value}{l:List AV}(ho:o.op= .makeSlice t x y)(hx:aO x=some x')(hy:aO y=some y')(ht:P.underlying t=some (.slice el))(hi:P.info? el=some i)(hz:i.zero=some z)
  (hl:z.cells.toList.mapM pG=some l) (hE:ER σ e a) (h:HR B σ H w) (hr:(AP.ms el i.size i.bytes l x' y').run e H=some (v,H')):Same P B σ a H H' w o v:=by
 simp only[AP.run] at hr
 split at hr
 rotate_left
 ·cases hr
 rename_i m c hm hcv
 split at hr
 rotate_left
 ·cases hr
 rename_i hc
 obtain⟨c1,c2,c3,c4,c5,c6,c7,c8⟩:=hc
 have hzl:bw σ l z.cells.toList:=fx hl
 have hzs:z.cells.size=i.size:=by exact(by simpa using hzl.1:l.length=z.cells.size).symm.trans c6
 have hb:(i.bytes:Int)*c<=281474976710656:=by
  have e1:(c.toNat:Int)=c:=Int.toNat_of_nonneg (by omega)
  have e2:=Int.ofNat_le.2 c5
  rw[Int.natCast_mul,e1] at e2
  omega
 have hrun:=run_make (P:=P) w t el i z ht hi hz .i64 .i64 m c c2 c3 hb (by omega)
 have cell:∀j,j<c.toNat*i.size->VR σ (l[j%i.size]?.getD .u) ((madeCells z.cells (c.toNat*i.size)).getD j undef):=λj hj'=>by
  have hmod:j%i.size<i.size:=Nat.mod_lt _ c7
  have e1:(madeCells z.cells (c.toNat*i.size)).getD j undef=z.cells[j%i.size]'(by rw[hzs];exact hmod):=by
   simp[madeCells,Array.getD,hj',hzs,hmod]
  rw[e1]
  have hml:j%i.size<l.length:=by rw[c6];exact hmod
  rw[List.getElem?_eq_getElem hml,Option.getD_some]
  have:=hzl.2 (j%i.size) _ (List.getElem?_eq_getElem hml)
  rw[List.getD_eq_getElem?_getD,Array.getElem?_toList,Array.getElem?_eq_getElem (by rw[hzs];exact hmod)] at this
  exact this
 split at hr
 ·rename_i hmc
  subst hmc
  cases hr
  have:=h.allocO (x:=aH el i.size m.toNat 0 (λ_ j=>l[j]?.getD .u)) (cs:=madeCells z.cells (m.toNat*i.size)) (k:=m.toNat) c1 rfl rfl (size_madeCells _ _) c8 (size_madeCells _ _) (by unfold maxLen;omega) (λj hj=>cell j hj)
  refine⟨_,_,_,?_,.inl ⟨_,rfl,.os (Sg.ext_self _ _ _) (Nat.le_refl _)⟩,this.1,this.2,rfl⟩
  unfold execOp
  rw[ho]
  simp only[Sem.run_bind,Sem.run_pure,Result.andThen_ok,gi hx hE hm,gi hy hE hcv,hrun]
  rfl
 cases hr
 have:=h.alloc (x:=⟨c.toNat*i.size,i.size,el,λj=>l[j%i.size]?.getD .u,.nil,false,true,0⟩) (cs:=madeCells z.cells (c.toNat*i.size)) c1 rfl rfl (size_madeCells _ _) c8 (λj hj=>cell j hj)
 refine⟨_,_,_,?_,.inl ⟨_,rfl,.sl (Sg.ext_self _ _ _)⟩,this.1,this.2,rfl⟩
 unfold execOp
 rw[ho]
 simp only[Sem.run_bind,Sem.run_pure,Result.andThen_ok,gi hx hE hm,gi hy hE hcv,hrun]
def gx:Option Operand->Option (Option AX)
 |none=>some none
 |some x=>(aO x).map some
theorem Oy{t el:TypeId}{x:Operand}{x':AX}{lo hi:Option Operand}{lo' hi':Option AX}{i:TypeInfo}(ho:o.op= .slice t x lo hi none)(hx:aO x=some x')(hlo:gx lo=some lo')(hhi:gx hi=some hi')(ht:P.underlying t=some (.slice el))(hin:P.info? el=some i)(h0:0<i.size)
  (hE:ER σ e a) (hr:(AP.sl i.size x' lo' hi').run e H=some (v,H')):kf P σ a H H' o v:=by
 have bnds:∀(m:Nat) (k1 k2:IntKind) (l r:Int),gQ e (.n .i64 0) lo'=some (.n k1 l)->gQ e (.n .i64 m) hi'=some (.n k2 r)->
   ((lo=none/\l=0)\/∃y k,lo=some y/\a.eval y= .int k l)/\((hi=none/\r=m)\/∃y k,hi=some y/\a.eval y= .int k r):=by
  intro m k1 k2 l r e1 e2
  refine⟨?_,?_⟩
  ·cases lo with
   |none=>
    simp only[gx,Option.some.injEq] at hlo
    subst hlo
    simp only[gQ,Option.some.injEq,AV.n.injEq] at e1
    exact .inl ⟨rfl,e1.2.symm⟩
   |some y=>
    simp only[gx,Option.map_eq_some_iff] at hlo
    obtain⟨y',hy,rfl⟩:=hlo
    exact .inr ⟨y,_,rfl,gi hy hE e1⟩
  ·cases hi with
   |none=>
    simp only[gx,Option.some.injEq] at hhi
    subst hhi
    simp only[gQ,Option.some.injEq,AV.n.injEq] at e2
    exact .inl ⟨rfl,e2.2.symm⟩
   |some y=>
    simp only[gx,Option.map_eq_some_iff] at hhi
    obtain⟨y',hy,rfl⟩:=hhi
    exact .inr ⟨y,_,rfl,gi hy hE e2⟩
 have fin:∀(ad:Option Addr) (m cap':Nat) (k1 k2:IntKind) (l r:Int),gQ e (.n .i64 0) lo'=some (.n k1 l)->gQ e (.n .i64 m) hi'=some (.n k2 r)->0<=l->l<=r->r<=(cap':Int)->a.eval x= .slice ad m cap'->
   ∀w,(execOp a.eval o).run P w= .ok (.value (.slice (if cap'=l.toNat then ad else ad.map λb=>b.add (l.toNat*i.size)) (r.toNat-l.toNat) (cap'-l.toNat))) w:=by
  intro ad m cap' k1 k2 l r e1 e2 c1 c2 rc hev w
  obtain⟨hlow,hhigh⟩:=bnds m k1 k2 l r e1 e2
  have r0:0<=r:=by omega
  have rt:(r.toNat:Int)=r:=Int.toNat_of_nonneg r0
  have hbd:∀w,(Instr.sliceBounds true m cap' (lo.map a.eval) (hi.map a.eval) none).run P w= .ok (l.toNat,r.toNat,cap') w:=λw=>by
   rcases hlow with⟨rfl,q1⟩|⟨y1,k1,rfl,q1⟩<;>rcases hhigh with⟨rfl,q2⟩|⟨y2,k2,rfl,q2⟩
   ·subst q1;subst q2
    simp[Instr.sliceBounds]
   ·subst q1
    simp[Instr.sliceBounds,Instr.sliceBound,asIntOf,q2,r0,rc]
   ·subst q2
    have:l<=(m:Int):=c2
    simp[Instr.sliceBounds,Instr.sliceBound,asIntOf,q1,c1,this]
   ·simp[Instr.sliceBounds,Instr.sliceBound,asIntOf,q1,q2,r0,rc,c1,c2,rt]
  unfold execOp
  rw[ho]
  simp only[Sem.run_bind,Sem.run_pure,Result.andThen_ok,Option.map_none,hev,Instr.sliceAt,Instr.slice,run_underlying ht w,hbd,sizeOf,typeInfo]
  by_cases e3:cap'=l.toNat
  ·simp[hin,e3]
  ·simp[hin,e3]
 simp only[AP.run] at hr
 split at hr
 ·rename_i b off m cap hv
  split at hr
  rotate_left
  ·cases hr
  rename_i k1 l k2 r e1 e2
  split at hr
  rotate_left
  ·cases hr
  rename_i hc
  obtain⟨c1,c2,c3,c4⟩:=hc
  cases hr
  have h1:=bv hx hE hv
  have form:∃c oc cap',σ b=some (c,oc)/\a.eval x= .slice (some ⟨c,off,none⟩) m cap'/\cap<=cap'/\(∀off' m',(off'=0->off=0/\l=0)->VR σ (.sl b off' m' (cap-l.toNat)) (.slice (some ⟨c,off',none⟩) m' (cap'-l.toNat))):=by
   generalize a.eval x=u at h1
   cases h1 with
   |sl hh=>exact⟨_,_,_,hh,rfl,Nat.le_refl _,λ_ _ _=> .sl hh⟩
   |slo hh hc h0=>exact⟨_,_,_,hh,rfl,hc,λoff' m' hz=> .slo hh (by omega) (λe=>by obtain⟨q1,q2⟩:=hz e;subst q2;simpa using h0 q1)⟩
  obtain⟨c,oc,cap',hc,hev,hcap,hvr⟩:=form
  have hrun:=fin (some ⟨c,off,none⟩) m cap' k1 k2 l r e1 e2 c1 c2 (by omega) hev
  have hval:(if cap'=l.toNat then some (⟨c,off,none⟩:Addr) else(some (⟨c,off,none⟩:Addr)).map λb=>b.add (l.toNat*i.size))=some ⟨c,off+l.toNat*i.size,none⟩:=by
   by_cases e3:cap'=l.toNat
   ·have h0':l.toNat=0:=by omega
    rw[if_pos e3,h0',Nat.zero_mul,Nat.add_zero]
   ·rw[if_neg e3]
    simp[Addr.add_mid]
  rw[hval] at hrun
  refine aI hrun (hvr _ _ λe3=>?_)
  have e4:l.toNat*i.size=0:=by omega
  rcases Nat.mul_eq_zero.1 e4 with e5|e5<;>omega
 ·rename_i b m hv
  split at hr
  rotate_left
  ·cases hr
  rename_i k1 l k2 r e1 e2
  split at hr
  rotate_left
  ·split at hr
   rotate_left
   ·cases hr
   rename_i hc
   obtain⟨c1,c2,c3,c4⟩:=hc
   cases hr
   have h1:=bv hx hE hv
   generalize hu:a.eval x=u at h1
   cases h1 with
   |os0 hh a0=>omega
   |os hh hl=>
    rename_i c k
    have hrun:=fin (some ⟨c,0,none⟩) m k k1 k2 l r e1 e2 (by omega) c2 (by omega) hu
    have hval:(if k=l.toNat then some (⟨c,0,none⟩:Addr) else(some (⟨c,0,none⟩:Addr)).map λb=>b.add (l.toNat*i.size))=some ⟨c,l.toNat*i.size,none⟩:=by
     rw[if_neg (by omega)]
     simp[Addr.add_mid]
    rw[hval] at hrun
    refine aI hrun (.slo hh (by omega) (λe3=>?_))
    rcases Nat.mul_eq_zero.1 e3 with e5|e5<;>omega
  rename_i hc
  obtain⟨rfl,c2,c3⟩:=hc
  cases hr
  have h1:=bv hx hE hv
  generalize hu:a.eval x=u at h1
  cases h1 with
  |os0 hh a0=>
   have r0:r=0:=by omega
   subst r0
   have hrun:=fin a0 0 0 k1 k2 0 0 e1 e2 (by omega) (by omega) (by omega) hu
   exact aI hrun (.os0 hh _)
  |os hh hl=>
   rename_i c k
   have hrun:=fin (some ⟨c,0,none⟩) m k k1 k2 0 r e1 e2 (by omega) (by omega) (by omega) hu
   have hval:(if k=(0:Int).toNat then some (⟨c,0,none⟩:Addr) else(some (⟨c,0,none⟩:Addr)).map λb=>b.add ((0:Int).toNat*i.size))=some ⟨c,0,none⟩:=by
    by_cases e3:k=(0:Int).toNat
    ·rw[if_pos e3]
    ·rw[if_neg e3];simp[Addr.add_mid]
   rw[hval] at hrun
   exact aI hrun (.os hh (by omega))
 ·rename_i hv
  split at hr
  rotate_left
  ·cases hr
  rename_i k1 l k2 r e1 e2
  split at hr
  rotate_left
  ·cases hr
  rename_i hc
  obtain⟨rfl,rfl⟩:=hc
  cases hr
  have h1:=bv hx hE hv
  generalize hu:a.eval x=u at h1
  cases h1 with
  |sl0 a0=>
   exact aI (fin a0 0 0 k1 k2 0 0 e1 e2 (by omega) (by omega) (by omega) hu) (.sl0 _)
 ·rename_i esz' m row hv
  split at hr
  rotate_left
  ·cases hr
  rename_i k1 l k2 r e1 e2
  split at hr
  rotate_left
  ·cases hr
  rename_i hc
  obtain⟨rfl,c1,c2,c3⟩:=hc
  cases hr
  have h1:=bv hx hE hv
  generalize hu:a.eval x=u at h1
  cases h1 with
  |fs0 _ _ a0 cap=>
   have hl0:l=0:=by omega
   have hr0:r=0:=by omega
   subst hl0;subst hr0
   exact aI (fin a0 0 cap k1 k2 0 0 e1 e2 (by omega) (by omega) (by omega) hu) (.fs0 _ _ _ _)
  |fs hz hb hc1 hvr cap hcap=>
   rename_i c off cs
   have hrun:=fin (some ⟨c,off,none⟩) m cap k1 k2 l r e1 e2 c1 c2 (by omega) hu
   by_cases hn:r.toNat-l.toNat=0
   ·rw[hn] at hrun ⊢
    exact aI hrun (.fs0 _ _ _ _)
   ·have e3:¬cap=l.toNat:=by omega
    rw[if_neg e3] at hrun
    simp only[Option.map_some,Addr.add_mid] at hrun
    refine aI hrun (.fs (off:=off+l.toNat*i.size) hz ?_ (λp q hp hq=>hc1 _ _ (by omega) hq) (λp q hp hq=>?_) _ (by omega))
    ·have:(l.toNat+(r.toNat-l.toNat))*i.size<=m*i.size:=Nat.mul_le_mul_right _ (by omega)
     rw[Nat.add_mul] at this
     omega
    ·have:=hvr (l.toNat+p) q (by omega) hq
     rw[Nat.add_mul,<-Nat.add_assoc off] at this
     exact this
 ·cases hr
theorem Oz{t el:TypeId}{x hi mx:Operand}{x' hi' mx':AX}{lo:Option Operand}{lo':Option AX}{i:TypeInfo}(ho:o.op= .slice t x lo (some hi) (some mx))(hx:aO x=some x')(hlo:gx lo=some lo')(hhi:aO hi=some hi')(hmx:aO mx=some mx')(ht:P.underlying t=some (.slice el))(hin:P.info? el=some i)
  (hE:ER σ e a) (hr:(AP.se x' lo' hi' mx').run e H=some (v,H')):kf P σ a H H' o v:=by
 have fin:∀(ad:Option Addr) (m cap':Nat) (k1 k2 k3:IntKind),gQ e (.n .i64 0) lo'=some (.n k1 0)->hi'.ev e=some (.n k2 0)->mx'.ev e=some (.n k3 0)->a.eval x= .slice ad m cap'->v= .sl0->H'=H->kf P σ a H H' o v:=by
  rintro ad m cap' k1 k2 k3 e1 e2 e3 hev rfl rfl
  have hh:=gi hhi hE e2
  have hm:=gi hmx hE e3
  have hlow:lo=none\/∃y k,lo=some y/\a.eval y= .int k 0:=by
   cases lo with
   |none=>exact .inl rfl
   |some y=>
    simp only[gx,Option.map_eq_some_iff] at hlo
    obtain⟨y',hy,rfl⟩:=hlo
    exact .inr ⟨y,_,rfl,gi hy hE e1⟩
  refine aI (u:= .slice ad 0 0) (λw=>?_) (.sl0 _)
  unfold execOp
  rw[ho]
  rcases hlow with rfl|⟨y,k,rfl,hy⟩
  ·simp[Instr.sliceAt,Instr.slice,run_underlying ht w,hev,hh,hm,Instr.sliceBounds,Instr.sliceBound,asIntOf,sizeOf,typeInfo,hin]
  ·simp[Instr.sliceAt,Instr.slice,run_underlying ht w,hev,hh,hm,hy,Instr.sliceBounds,Instr.sliceBound,asIntOf,sizeOf,typeInfo,hin]
 have form:∀{s:AV},x'.ev e=some s->(s= .sl0\/(∃b o l c,s= .sl b o l c)\/(∃b n,s= .os b n)\/∃z n r,s= .fs z n r)->∃ad m c,a.eval x= .slice ad m c:=by
  intro s hs hc
  have h1:=bv hx hE hs
  generalize a.eval x=u at h1
  rcases hc with rfl|⟨_,_,_,_,rfl⟩|⟨_,_,rfl⟩|⟨_,_,_,rfl⟩<;>cases h1<;>exact⟨_,_,_,rfl⟩
 simp only[AP.run] at hr
 split at hr
 ·rename_i hv e1 e2 e3
  split at hr
  rotate_left
  ·cases hr
  rename_i hc
  obtain⟨rfl,rfl,rfl⟩:=hc
  cases hr
  obtain⟨ad,m,c,hev⟩:=form hv (.inr (.inl ⟨_,_,_,_,rfl⟩))
  exact fin ad m c _ _ _ e1 e2 e3 hev rfl rfl
 ·rename_i hv e1 e2 e3
  split at hr
  rotate_left
  ·cases hr
  rename_i hc
  obtain⟨rfl,rfl,rfl⟩:=hc
  cases hr
  obtain⟨ad,m,c,hev⟩:=form hv (.inr (.inr (.inl ⟨_,_,rfl⟩)))
  exact fin ad m c _ _ _ e1 e2 e3 hev rfl rfl
 ·rename_i hv e1 e2 e3
  split at hr
  rotate_left
  ·cases hr
  rename_i hc
  obtain⟨rfl,rfl,rfl⟩:=hc
  cases hr
  obtain⟨ad,m,c,hev⟩:=form hv (.inr (.inr (.inr ⟨_,_,_,rfl⟩)))
  exact fin ad m c _ _ _ e1 e2 e3 hev rfl rfl
 ·rename_i hv e1 e2 e3
  split at hr
  rotate_left
  ·cases hr
  rename_i hc
  obtain⟨rfl,rfl,rfl⟩:=hc
  cases hr
  obtain⟨ad,m,c,hev⟩:=form hv (.inl rfl)
  exact fin ad m c _ _ _ e1 e2 e3 hev rfl rfl
 ·cases hr
theorem Gz{t tx el el':TypeId}{x y:Operand}{x' y':AX}{i:TypeInfo}{z:Value}(ho:o.op= .call {callee:= .builtin .append,args:= #[x,y],argTypes:= #[t,tx]})(hx:aO x=some x')(hy:aO y=some y')(ht:P.underlying t=some (.slice el))(htx:P.underlying tx=some (.slice el'))(hi:P.info? el=some i)(hz:i.zero=some z)(hzs:z.cells.size=i.size)
  (hE:ER σ e a) (h:HR B σ H w) (hr:(AP.app el i.size i.bytes x' y').run e H=some (v,H')):Same P B σ a H H' w o v:=by
 have fin:∀{u:Value} {w':World} {σ':Sg},(Builtin.append_ #[t,tx] o.type #[a.eval x,a.eval y]).run P w= .ok u w'->VR σ' v u->HR B σ' H' w'->Fr B σ σ' H H' w w'->σ'.fz=σ.fz->Same P B σ a H H' w o v:=by
  intro u w' σ' hrun h1 h2 h3 h4
  refine⟨.value u,w',σ',?_,.inl ⟨u,rfl,h1⟩,h2,h3,h4⟩
  unfold execOp
  rw[ho]
  simp only[resolve,invoke,builtin,Sem.run_bind,Sem.run_pure,Result.andThen_ok,List.map_toArray,List.map_cons,List.map_nil]
  rw[hrun]
  rfl
 have main:∀{s:AV} {src:cg} {n:Nat} {news:List Value},x'.ev e=some s->H.append el i.size i.bytes s src n=some (v,H')->Src P i.size tx (a.eval y) n news w->(∀j,j<n*i.size->VR σ (src.at j) (news.getD j undef))->Same P B σ a H H' w o v:=by
  intro s src n news hs ha hsrc hl
  obtain⟨u,w',σ',g1,g2,g3,g4,g5⟩:=HR.append (P:=P) h ha (bv hx hE hs) hl (tx:=tx) (tyR:=o.type) ht hi hz rfl rfl hzs hsrc
  exact fin g1 g2 g3 g4 g5
 have none':∀{s:AV},x'.ev e=some s->Src P i.size tx (a.eval y) 0 [] w->im H el i.size i.bytes s=some (v,H')->Same P B σ a H H' w o v:=by
  intro s hs hsrc hr
  unfold im at hr
  split at hr
  ·rename_i b o' l c
   split at hr
   rotate_left
   ·cases hr
   rename_i hle
   cases hr
   have h1:=bv hx hE hs
   have form:∃ad c',a.eval x= .slice (some ad) l c'/\l<=c':=by
    generalize a.eval x=u at h1
    cases h1 with
    |sl hh=>exact⟨_,_,rfl,hle⟩
    |slo hh hc h0=>exact⟨_,_,rfl,Nat.le_trans hle hc⟩
   obtain⟨ad,c',e1,e2⟩:=form
   rw[e1] at h1
   refine fin (u:= .slice (some ad) l c') (w':=w) (σ':=σ) ?_ h1 h (Fr.refl h) rfl
   rw[e1]
   exact run_append_nothing w t tx _ el i ht hi (some ad) l c' e2 _ hsrc
  ·exact main hs hr hsrc (λj hj=>by rw[Nat.zero_mul] at hj;omega)
 have own:∀{s:AV} {b off n:Nat} {l:List AV},x'.ev e=some s->(0<n->∃c oc c',σ b=some (c,oc)/\a.eval y= .slice (some ⟨c,off,none⟩) n c')->0<n->H.loadN b off (n*i.size)=some l->l.all AV.one=true->H.append el i.size i.bytes s (.li l) n=some (v,H')->Same P B σ a H H' w o v:=by
  intro s b off n l hs hform hn hl hone ha
  obtain⟨c,oc,c',hc,hev⟩:=hform hn
  have hpos:0<n*i.size:=by
   unfold AH.append at ha
   split at ha
   ·rename_i hq
    exact Nat.mul_pos hn hq.2.1
   ·cases ha
  obtain⟨c2,o2,cs,k1,k2,k3,k4,k5⟩:=h.loadN _ _ _ hl hpos
  rw[hc] at k1
  cases k1
  have hcl:cs.length=n*i.size:=by rw[<-k3.1];exact k4
  have hsrc:Src P i.size tx (a.eval y) n cs w:=by
   rw[hev]
   refine Src.ofSlice w htx ⟨c,off,none⟩ n c' cs hcl (λj u hj=>?_) (k3.one hone)
   have hjl:j<cs.length:=by
    by_cases hh:j<cs.length
    ·exact hh
    ·rw[List.getElem?_eq_none (by omega)] at hj;cases hj
   rw[Addr.add_lit,k5 j (by omega)]
   exact hj
  refine main hs ha hsrc (λj hj=>?_)
  show VR σ (l[j]?.getD .u) _
  rw[List.getElem?_eq_getElem (by omega),Option.getD_some]
  exact k3.2 j _ (List.getElem?_eq_getElem (by omega))
 simp only[AP.run] at hr
 split at hr
 ·rename_i s b off n cap hs hyv
  have h2:=bv hy hE hyv
  have form:∃c oc c',σ b=some (c,oc)/\a.eval y= .slice (some ⟨c,off,none⟩) n c':=by
   generalize a.eval y=u at h2
   cases h2 with
   |sl hh=>exact⟨_,_,_,hh,rfl⟩
   |slo hh hc h0=>exact⟨_,_,_,hh,rfl⟩
  split at hr
  ·rename_i hn
   subst hn
   obtain⟨c,oc,c',hc,hev⟩:=form
   refine none' hs ?_ hr
   rw[hev]
   exact Src.ofSlice w htx _ 0 c' [] (by simp) (λj u hj=>by simp at hj) (λu hu=>by cases hu)
  ·rename_i hn
   split at hr
   rotate_left
   ·cases hr
   rename_i l hl
   split at hr
   rotate_left
   ·cases hr
   rename_i hone
   exact own hs (λ_=>form) (by omega) hl hone hr
 ·rename_i s b n hs hyv
  have h2:=bv hy hE hyv
  generalize hu:a.eval y=u at h2
  split at hr
  ·rename_i hn
   subst hn
   refine none' hs ?_ hr
   rw[hu]
   cases h2 with
   |os0 hh a0=>
    cases a0 with
    |none=>exact Src.ofNil w htx 0
    |some a0=>exact Src.ofSlice w htx _ 0 _ [] (by simp) (λj u hj=>by simp at hj) (λu hu=>by cases hu)
   |os hh hl=>exact Src.ofSlice w htx _ 0 _ [] (by simp) (λj u hj=>by simp at hj) (λu hu=>by cases hu)
  ·rename_i hn
   split at hr
   rotate_left
   ·cases hr
   rename_i l hl
   split at hr
   rotate_left
   ·cases hr
   rename_i hone
   refine own hs (λ_=>?_) (by omega) hl hone hr
   cases h2 with
   |os0 hh a0=>omega
   |os hh hl=>exact⟨_,_,_,hh,hu⟩
 ·rename_i s hs hyv
  have h2:=bv hy hE hyv
  generalize hu:a.eval y=u at h2
  refine none' hs ?_ hr
  rw[hu]
  cases h2 with
  |sl0 a0=>
   cases a0 with
   |none=>exact Src.ofNil w htx 0
   |some a0=>exact Src.ofSlice w htx _ 0 _ [] (by simp) (λj u hj=>by simp at hj) (λu hu=>by cases hu)
 ·rename_i s esz' n row hs hyv
  split at hr
  rotate_left
  ·cases hr
  rename_i hez
  subst hez
  have h2:=bv hy hE hyv
  generalize hu:a.eval y=u at h2
  cases h2 with
  |fs0 _ _ a0 cap=>
   refine main (news:=[]) hs hr ?_ (λj hj=>by rw[Nat.zero_mul] at hj;omega)
   rw[hu]
   cases a0 with
   |none=>exact Src.ofNil w htx _
   |some a0=>exact Src.ofSlice w htx _ 0 _ [] (by simp) (λj u hj=>by simp at hj) (λu hu=>by cases hu)
  |fs hz hb hc1 hvr cap hcap=>
   rename_i c off cs
   obtain⟨cs',t',fr',m1,m2,_⟩:=h.frz c cs hz
   have hpos:0<i.size:=by
    unfold AH.append at hr
    split at hr
    ·rename_i hq
     exact hq.2.1
    ·cases hr
   have hlen:((cs.toList.drop off).take (n*i.size)).length=n*i.size:=by rw[List.length_take,List.length_drop,Array.length_toList];omega
   have hat:∀j,j<n*i.size->((cs.toList.drop off).take (n*i.size))[j]? =some (cs.getD (off+j) undef):=λj hj=>by
    rw[List.getElem?_take_of_lt hj,List.getElem?_drop,Array.getElem?_toList,Array.getD_eq_getD_getElem?,Array.getElem?_eq_getElem (by omega)]
    rfl
   have hdm:∀j,j<n*i.size->j / i.size<n/\j%i.size<i.size/\off+j / i.size*i.size+j%i.size=off+j:=λj hj=>by
    refine⟨Nat.div_lt_of_lt_mul (by rw[Nat.mul_comm];exact hj),Nat.mod_lt _ hpos,?_⟩
    have:=Nat.div_add_mod j i.size
    rw[Nat.mul_comm] at this
    omega
   refine main hs hr (news:=(cs.toList.drop off).take (n*i.size)) ?_ (λj hj=>?_)
   ·rw[hu]
    refine Src.ofSlice w htx _ n cap _ hlen (λj u hj=>?_) (λu hm=>?_)
    ·have hjl:j<n*i.size:=by
      by_cases hh:j<n*i.size
      ·exact hh
      ·rw[List.getElem?_eq_none (by omega)] at hj;cases hj
     rw[Addr.add_lit]
     simp only[World.cell?,m1]
     show cs'[off+j]? =some u
     rw[m2.2 _ (by omega),<-hj,List.getElem?_take_of_lt hjl,List.getElem?_drop,Array.getElem?_toList]
    ·obtain⟨j,hj,rfl⟩:=List.getElem_of_mem hm
     rw[hlen] at hj
     obtain⟨q1,q2,q3⟩:=hdm j hj
     have e1:=hat j hj
     rw[List.getElem?_eq_getElem (by omega),Option.some.injEq] at e1
     rw[e1,<-q3]
     have hc2:=hc1 _ _ q1 q2
     simp only[AV.cell,Bool.and_eq_true] at hc2
     exact AV.one_cell (hvr _ _ q1 q2) hc2.2
   ·obtain⟨q1,q2,q3⟩:=hdm j hj
    show VR σ (row (j / i.size) (j%i.size)) _
    rw[List.getD_eq_getElem?_getD,hat j hj,Option.getD_some,<-q3]
    exact(hvr _ _ q1 q2).mono σ.bare_le
 ·cases hr
theorem OE{t el:TypeId}{m:Nat}{x y:Operand}{x' y':AX}{i:TypeInfo}{d:TypeDesc}(ho:o.op= .index t x y)(hx:aO x=some x')(hy:aO y=some y')(ht:P.underlying t=some (.array m el))(hi:P.info? el=some i)(hd:P.underlying el=some d)
  (hE:ER σ e a) (hr:(AP.ix m i.size d.isRow x' y').run e H=some (v,H')):kf P σ a H H' o v:=by
 simp only[AP.run] at hr
 split at hr
 rotate_left
 ·cases hr
 rename_i l k j hv hj
 split at hr
 rotate_left
 ·cases hr
 rename_i hc
 obtain⟨c1,c2,c3⟩:=hc
 have h1:=bv hx hE hv
 obtain⟨cs,hev,hsz,hvr⟩:∃cs,a.eval x= .agg cs/\l.length=cs.size/\bw σ l cs.toList:=by
  generalize a.eval x=u at h1
  exact fD h1
 have hag:∀w,(isAgg el).run P w= .ok d.isRow w:=λw=>by
  unfold isAgg
  rw[Sem.run_bind,run_underlying hd w]
  cases d<;>rfl
 have hle:j.toNat*i.size+i.size<=m*i.size:=by
  have:=Nat.mul_le_mul_right i.size (show j.toNat+1<=m by omega)
  rwa [Nat.succ_mul] at this
 split at hr
 ·rename_i hrow
  cases hr
  have hv2:VR σ (.agg ((l.drop (j.toNat*i.size)).take i.size)) (.agg (cs.extract (j.toNat*i.size) (j.toNat*i.size+i.size))):=by
   refine .agg (by simp;omega) (λq u hq=>?_)
   have hqs:q<i.size:=by
    by_cases hh:q<i.size
    ·exact hh
    ·rw[List.getElem?_eq_none (by simp;omega)] at hq;cases hq
   rw[List.getElem?_take_of_lt hqs,List.getElem?_drop] at hq
   have:=hvr.2 _ u hq
   rw[List.getD_eq_getElem?_getD] at this
   rw[Array.getD_eq_getD_getElem?,Array.getElem?_extract]
   rw[if_pos (by omega)]
   simpa using this
  refine aI (λw=>?_) hv2
  unfold execOp
  rw[ho]
  simp only[hev,gi hy hE hj,Sem.run_bind,Instr.index,asIntOf,run_underlying ht w,Result.andThen_ok,Sem.run_pure]
  simp[sizeOf,typeInfo,hi,c1,c2,part,hag,hrow]
 ·rename_i hrow
  simp only[Option.map_eq_some_iff] at hr
  obtain⟨v',hl,he⟩:=hr
  cases he
  have:=hvr.2 _ _ hl
  rw[List.getD_eq_getElem?_getD] at this
  have hlt:j.toNat*i.size<cs.size:=by
   by_cases hh:j.toNat*i.size<l.length
   ·omega
   ·rw[List.getElem?_eq_none (by omega)] at hl;cases hl
  have hg:cs[j.toNat*i.size]? =some (cs.toList[j.toNat*i.size]?.getD undef):=by simp[hlt]
  generalize cs.toList[j.toNat*i.size]?.getD undef=u0 at this hg
  refine aI (λw=>?_) this
  unfold execOp
  rw[ho]
  simp only[hev,gi hy hE hj,Sem.run_bind,Instr.index,asIntOf,run_underlying ht w,Result.andThen_ok,Sem.run_pure]
  simp[sizeOf,typeInfo,hi,c1,c2,part,hag,hrow,hg]
theorem vX{P:Program}(w:World){t tx tyR e:TypeId}{i:TypeInfo}{z:Value}{k kk:IntKind}(ht:P.underlying t=some (.slice e))(htx:P.underlying tx=some (.int k))(hi:P.info? e=some i)(hz:i.zero=some z)(a0:Option Addr)(n:Nat)(h0:0<n)(h1:n<=16777216)(hb:n*i.bytes<=140737488355328)(hs:0<i.size):
  (Builtin.append_ #[t,tx] tyR #[.slice a0 0 0,.int kk (n:Int)]).run P w= .ok (.slice (some ⟨w.heap.size,0,none⟩) n (grownCap w n 0 e)) (w.drew.alloc (.cells (Builtin.zeroCells z.cells n++Builtin.zeroCells z.cells (grownCap w n 0 e-n)) e)):=by
 have hw:IntKind.i64.wrap (n:Int)=n:=by
  have:∀x:Int,-9223372036854775808<=x/\x<=9223372036854775807->IntKind.wrap .i64 x=x:=λx h=>by
   unfold IntKind.wrap
   simp[IntKind.signed,IntKind.bits]
   omega
  exact this _ (by omega)
 have hneg:¬((n:Int)<0):=by omega
 have hneg':¬(n<0):=by omega
 have hbi:¬((281474976710656:Int)<(n:Int)*(i.bytes:Int)):=by
  have:=Int.ofNat_le.2 hb
  rw[Int.natCast_mul] at this
  omega
 have hns:¬(n*i.size=0):=by
  have:=Nat.mul_pos h0 hs
  omega
 have hmax:¬(9223372036854775807<(n:Int)):=by omega
 have hcap:Builtin.nextslicecap n 0=n:=by
  unfold Builtin.nextslicecap
  rw[if_pos (by omega)]
 have hbn:¬(281474976710656<n*i.bytes):=by omega
 have hfc:∀w',(Builtin.firstCells i.size 0 (.slice a0 0 0)).run P w'= .ok #[] w':=λw'=>by
  cases a0 with
  |none=>exact run_firstCells_none _ _ _ _ _
  |some ad=>exact run_firstCells_some _ _ _ _ _ _ [] (by simp) (λj v hj=>by simp at hj)
 have hne:n≠0:=by omega
 have hai:∀w',(asIntOf (.int kk (n:Int)):Sem (IntKind×Int)).run P w'= .ok (kk,(n:Int)) w':=λw'=>rfl
 simp[Builtin.append_,hai,Result.andThen,run_underlying ht,run_underlying htx,sizeOf,typeInfo,zeroValue,hi,hz,asInt,hw,hneg,hbi,hns,hmax,hcap,hbn,Question.forced,hfc,newRow,grownCap,hne]
theorem GB{t tx el:TypeId}{k':IntKind}{x y:Operand}{x' y':AX}{i:TypeInfo}{z:Value}{l:List AV}(ho:o.op= .call {callee:= .builtin .append,args:= #[x,y],argTypes:= #[t,tx]})(hx:aO x=some x')(hy:aO y=some y')(ht:P.underlying t=some (.slice el))(htx:P.underlying tx=some (.int k'))(hi:P.info? el=some i)(hz:i.zero=some z)
  (hl:z.cells.toList.mapM pG=some l) (hE:ER σ e a) (h:HR B σ H w) (hr:(AP.apm el i.size i.bytes l x' y').run e H=some (v,H')):Same P B σ a H H' w o v:=by
 simp only[AP.run] at hr
 split at hr
 rotate_left
 ·cases hr
 rename_i m hm hcv
 split at hr
 rotate_left
 ·cases hr
 rename_i hc
 obtain⟨c1,c2,c4,c5,c6,c7,c8⟩:=hc
 cases hr
 have hzl:bw σ l z.cells.toList:=fx hl
 have hzs:z.cells.size=i.size:=by exact(by simpa using hzl.1:l.length=z.cells.size).symm.trans c6
 have h1:=bv hx hE hm
 generalize hu:a.eval x=u at h1
 obtain⟨a0,rfl⟩:∃a0,u= .slice a0 0 0:=by cases h1;exact⟨_,rfl⟩
 obtain⟨n,rfl⟩:∃n:Nat,m=n:=⟨m.toNat,by omega⟩
 rw[Int.toNat_natCast] at*
 have hrun:=vX (P:=P) w (t:=t) (tx:=tx) (tyR:=o.type) (e:=el) (i:=i) (z:=z) (kk:= .i64) ht htx hi hz a0 n (by omega) (by omega) (by rw[Nat.mul_comm];exact c5) c7
 have hge:=grownCap_ge w n 0 el
 have hcm:=grownCap_le_maxLen w n 0 el (by unfold maxLen;omega)
 have hle:σ.le (σ.ext H.next (w.heap.size,some (grownCap w n 0 el))):=Sg.le_ext (h.new _ (Nat.le_refl _))
 have hsz:(Builtin.zeroCells z.cells n++Builtin.zeroCells z.cells (grownCap w n 0 el-n)).size=grownCap w n 0 el*i.size:=by
  rw[Array.size_append,size_zeroCells,size_zeroCells,hzs,<-Nat.add_mul]
  congr 1;omega
 have hcell:∀j,j<n*i.size->VR σ (l[j%i.size]?.getD .u) ((Builtin.zeroCells z.cells n++Builtin.zeroCells z.cells (grownCap w n 0 el-n)).getD j undef):=λj hj=>by
  have hmod:j%i.size<i.size:=Nat.mod_lt _ c7
  have hjs:j<(Builtin.zeroCells z.cells n).size:=by rw[size_zeroCells,hzs];exact hj
  have e1:(Builtin.zeroCells z.cells n++Builtin.zeroCells z.cells (grownCap w n 0 el-n)).getD j undef=z.cells[j%i.size]'(by rw[hzs];exact hmod):=by
   rw[Array.getD_eq_getD_getElem?,Array.getElem?_append_left hjs,Array.getElem?_eq_getElem hjs,Option.getD_some]
   simp[Builtin.zeroCells,hzs,hmod]
  rw[e1]
  have hml:j%i.size<l.length:=by rw[c6];exact hmod
  rw[List.getElem?_eq_getElem hml,Option.getD_some]
  have:=hzl.2 (j%i.size) _ (List.getElem?_eq_getElem hml)
  rw[List.getD_eq_getElem?_getD,Array.getElem?_toList,Array.getElem?_eq_getElem (by rw[hzs];exact hmod)] at this
  exact this
 have hd:∀c,c<w.heap.size->(w.drew.alloc (.cells (Builtin.zeroCells z.cells n++Builtin.zeroCells z.cells (grownCap w n 0 el-n)) el)).heap[c]? =w.heap[c]? :=λc hc=>Below.heap_alloc w.drew _ c hc
 refine⟨.value (.slice (some ⟨w.heap.size,0,none⟩) n (grownCap w n 0 el)),w.drew.alloc (.cells (Builtin.zeroCells z.cells n++Builtin.zeroCells z.cells (grownCap w n 0 el-n)) el),σ.ext H.next (w.heap.size,some (grownCap w n 0 el)),?_,.inl ⟨_,rfl,.os (Sg.ext_self _ _ _) hge⟩,?_,?_,rfl⟩
 ·unfold execOp
  rw[ho]
  simp only[resolve,invoke,builtin,Sem.run_bind,Sem.run_pure,Result.andThen_ok,List.map_toArray,List.map_cons,List.map_nil]
  rw[hu,gi hy hE hcv,hrun]
  rfl
 ·refine h.place rfl (λb y hy=>⟨hy,λc' o' hs=>?_⟩) c1 rfl h.hB (heap_alloc_new w.drew _) (by simp;have:=h.hB;omega) ⟨?_,λe=>(by cases e),λk' hk'=>?_,rfl,λj hj=>(hcell j hj).mono hle⟩ c8
   (λc' fs hf=>⟨λ_=>hd _ (h.fzlt hf),λe=>by have:=h.fzlt hf;omega⟩) (h.ob.keep λr hr _=>hd r hr)
  ·obtain⟨cs1,g2,g3,_⟩:=h.blk b y c' o' hy hs
   have hlt:c'<w.heap.size:=(Array.getElem?_eq_some_iff.1 g3).1
   exact⟨by omega,hd _ hlt⟩
  ·rw[hsz];exact Nat.mul_le_mul_right _ hge
  ·cases hk';exact⟨hsz,hcm⟩
 ·refine⟨λb hb=>Sg.ext_ne _ _ (by omega),hle,Nat.le_succ _,Nat.le_refl _,⟨rfl,rfl,rfl,by simp,λk hk=>hd k (by have:=h.hB;omega)⟩,λc hc=> .inl (hd c hc),λb c o hb hs hc=>?_⟩
  by_cases e:b=H.next
  ·subst e;rw[Sg.ext_self] at hs;cases hs;omega
  ·rw[Sg.ext_ne _ _ e,h.new b hb] at hs;cases hs
end
end Go.Proofs.Yteopfmnnhlhbmaa
namespace Go.Proofs.Yteopfmnnhlhbmaa
open Go.RowKit
def oB(P:Program)(t:TypeId):Option ((Nat->Option (Nat×Nat))×Value):=
 match P.info? t,P.underlying t with
 |some it,some (.array _ el)=>match it.zero,P.info? el with
  |some z,some ie=>some (λi=>some (i*ie.size,ie.size),z)
  |_,_=>none
 |some it,some (.struct fields)=>match it.zero,fields.toList.mapM (λf=>(P.info? f.type).map λi=>(f.offset,i.size)) with
  |some z,some places=>some ((places.toArray[·]?),z)
  |_,_=>none
 |_,_=>none
theorem rP{P:Program}{t:TypeId}{place:Nat->Option (Nat×Nat)}{z:Value}(h:oB P t=some (place,z))(q:List (Nat×Value)):P.built t q=Instr.fill place z.cells q:=by
 unfold oB at h
 unfold Program.built
 split at h
 ·rename_i it n el e1 e2
  split at h
  ·rename_i z' ie e3 e4
   cases h
   simp only[e1,e2,e3,e4]
  ·cases h
 ·rename_i it fs e1 e2
  split at h
  ·rename_i z' places e3 e4
   cases h
   simp only[e1,e2,e3,e4]
  ·cases h
 ·cases h
def AP.kind:AP->Nat
 |.ld .. =>1
 |.st .. | .clr .. | .al .. | .bx .. | .bs .. | .ms .. | .app .. | .apm .. =>0
 |_=>2
def yY(op:BinOp)(s:Option SH)(x y:AX):AP:=match op,s with
 |.eql,some .b=> .eq false .b x y
 |.neq,some .b=> .eq true .b x y
 |.eql,some (.st l)=> .eq false (.st l) x y
 |.neq,some (.st l)=> .eq true (.st l) x y
 |op,_=> .bin op x y
def kb(P:Program):Op->Option AP
 |.move x=>(aO x).map .mv
 |.assign x=>(aO x).map .mv
 |.pick c x y=>(aO c).bind λc=>(aO x).bind λx=>(aO y).map λy=> .pick c x y
 |.load t x=>(aO x).bind λx=>(P.info? t).bind λi=>(P.underlying t).map λd=> .ld i.size d.isRow x
 |.store t x y=>(aO x).bind λx=>(aO y).bind λy=>(P.info? t).map λi=> .st i.size x y
 |.nilCheck x=>(aO x).map .nc
 |.binOp op t x y _=>(aO x).bind λx=>(aO y).map λy=>yY op (lA P 9 t) x y
 |.unOp op _ x=>(aO x).map (.un op ·)
 |.convert s d x=>match P.underlying s,P.underlying d with
  |some _,some (.int k)=>(aO x).map (.cvi k ·)
  |_,_=>none
 |.fieldAddr s x f=>match P.underlying s with
  |some (.struct fs)=>(fs[f]?).bind λfl=>(P.info? fl.type).bind λi=>if i.size≠0 then(aO x).map (.fa fl.offset ·) else none
  |_=>none
 |.field s x f=>match P.underlying s with
  |some (.struct fs)=>(fs[f]?).bind λfl=>(P.info? fl.type).bind λi=>(P.underlying fl.type).bind λd=>(aO x).map (.fd fl.offset i.size d.isRow ·)
  |_=>none
 |.indexAddr t x y=>match P.underlying t with
  |some (.slice el)=>(P.info? el).bind λi=>(aO x).bind λx=>(aO y).map λy=> .ia i.size x y
  |some (.array m el)=>(P.info? el).bind λi=>(aO x).bind λx=>(aO y).map λy=> .iaa m i.size x y
  |_=>none
 |.extract x i=>(aO x).map (.ext i ·)
 |.makeFunc (.func g) l1 l2=>(l1.toList.mapM aO).bind λa=>(l2.toList.mapM aO).map λb=> .mf g a b
 |.alloc t=>(P.info? t).bind λi=>i.zero.bind λz=>(z.cells.toList.mapM pG).map λl=> .al t l
 |.box t x=>(aO x).map (.bx t 0 ·)
 |.build t parts=>(oB P t).bind λ(place,z)=>(ej place parts.toList).bind λps=>(z.cells.toList.mapM pG).map λl=> .bd l ps
 |.buildSlice t n parts=>match P.underlying t with
  |some (.slice el)=>(P.info? el).bind λi=>i.zero.bind λz=>(ej (λj=>some (j*i.size,i.size)) parts.toList).bind λps=>((madeCells z.cells (n*i.size)).toList.mapM pG).map λl=> .bs el i.size n l ps
  |_=>none
 |.makeSlice t x y=>match P.underlying t with
  |some (.slice el)=>(aO x).bind λx=>(aO y).bind λy=>(P.info? el).bind λi=>i.zero.bind λz=>(z.cells.toList.mapM pG).map λl=> .ms el i.size i.bytes l x y
  |_=>none
 |.slice t x lo hi none=>match P.underlying t with
  |some (.slice el)=>(aO x).bind λx=>(gx lo).bind λlo=>(gx hi).bind λhi=>(P.info? el).bind λi=>if 0<i.size then some (.sl i.size x lo hi) else none
  |_=>none
 |.slice t x lo (some hi) (some mx)=>match P.underlying t with
  |some (.slice el)=>(P.info? el).bind λ_=>(aO x).bind λx=>(gx lo).bind λlo=>(aO hi).bind λhi=>(aO mx).map λmx=> .se x lo hi mx
  |_=>none
 |.index t x y=>match P.underlying t with
  |some (.array m el)=>(P.info? el).bind λi=>(P.underlying el).bind λd=>(aO x).bind λx=>(aO y).map λy=> .ix m i.size d.isRow x y
  |_=>none
 |.call c=>match c.callee,c.args.toList,c.argTypes.toList with
  |.builtin .cap,[x],[t]=>match P.underlying t with
   |some (.slice _)=>(aO x).map .cpc
   |_=>none
  |.builtin .clear,[x],[t]=>match P.underlying t with
   |some (.slice el)=>(aO x).bind λx=>(P.info? el).bind λi=>i.zero.bind λz=>(z.cells.toList.mapM pG).bind λl=>if l.all AV.one=true then some (.clr l x) else none
   |_=>none
  |.builtin .len,[x],[t]=>match P.underlying t with
   |some (.slice _)=>(aO x).map .len
   |_=>none
  |.builtin .append,[x,y],[t,t']=>match P.underlying t,P.underlying t' with
   |some (.slice el),some (.slice _)=>(aO x).bind λx=>(aO y).bind λy=>(P.info? el).bind λi=>i.zero.bind λz=>if z.cells.size=i.size then some (.app el i.size i.bytes x y) else none
   |some (.slice el),some (.int _)=>(aO x).bind λx=>(aO y).bind λy=>(P.info? el).bind λi=>i.zero.bind λz=>(z.cells.toList.mapM pG).map λl=> .apm el i.size i.bytes l x y
   |_,_=>none
  |_,_,_=>none
 |_=>none
section
variable {P:Program} {B:Nat} {σ:Sg} {e:Tr AV} {a:Act} {H H':AH} {w:World} {o:Oper} {v:AV}
theorem s7{ap:AP}(hc:kb P o.op=some ap)(hE:ER σ e a)(h:HR B σ H w)(hr:ap.run e H=some (v,H')):(ap.kind=2/\kf P σ a H H' o v)\/(ap.kind=1/\Pk P σ e a ap H H' w o v)\/(ap.kind=0/\Same P B σ a H H' w o v):=by
 unfold kb at hc
 split at hc
 ·rename_i x ho
  obtain⟨x',hx,rfl⟩:=Option.map_eq_some_iff.1 hc
  exact .inl ⟨rfl,Cn (.inl ho) hx hE hr⟩
 ·rename_i x ho
  obtain⟨x',hx,rfl⟩:=Option.map_eq_some_iff.1 hc
  exact .inl ⟨rfl,Cn (.inr ho) hx hE hr⟩
 ·rename_i c x y ho
  obtain⟨c',h1,hc⟩:=Option.bind_eq_some_iff.1 hc
  obtain⟨x',h2,hc⟩:=Option.bind_eq_some_iff.1 hc
  obtain⟨y',h3,rfl⟩:=Option.map_eq_some_iff.1 hc
  exact .inl ⟨rfl,AM ho h1 h2 h3 hE hr⟩
 ·rename_i t x ho
  obtain⟨x',h1,hc⟩:=Option.bind_eq_some_iff.1 hc
  obtain⟨i,h2,hc⟩:=Option.bind_eq_some_iff.1 hc
  obtain⟨d,h3,rfl⟩:=Option.map_eq_some_iff.1 hc
  exact .inr (.inl ⟨rfl,Co ho h1 h2 h3 hE h hr⟩)
 ·rename_i t x y ho
  obtain⟨x',h1,hc⟩:=Option.bind_eq_some_iff.1 hc
  obtain⟨y',h2,hc⟩:=Option.bind_eq_some_iff.1 hc
  obtain⟨i,h3,rfl⟩:=Option.map_eq_some_iff.1 hc
  exact .inr (.inr ⟨rfl,Ox ho h1 h2 h3 hE h hr⟩)
 ·rename_i x ho
  obtain⟨x',hx,rfl⟩:=Option.map_eq_some_iff.1 hc
  exact .inl ⟨rfl,OA ho hx hE hr⟩
 ·rename_i op t x y t' ho
  obtain⟨x',h1,hc⟩:=Option.bind_eq_some_iff.1 hc
  obtain⟨y',h2,rfl⟩:=Option.map_eq_some_iff.1 hc
  refine .inl ⟨by unfold yY;split<;>rfl,?_⟩
  generalize hs:lA P 9 t=s at hr
  unfold yY at hr
  split at hr
  ·exact tE (neg:=false) ho rfl h1 h2 hs (by simp) hE hr
  ·exact tE (neg:=true) ho rfl h1 h2 hs (by simp) hE hr
  ·exact tE (neg:=false) ho rfl h1 h2 hs (by simp) hE hr
  ·exact tE (neg:=true) ho rfl h1 h2 hs (by simp) hE hr
  ·exact Gy ho h1 h2 hE hr
 ·rename_i op t x ho
  obtain⟨x',hx,rfl⟩:=Option.map_eq_some_iff.1 hc
  exact .inl ⟨rfl,Ow ho hx hE hr⟩
 ·rename_i s d x ho
  split at hc
  ·rename_i ds k e1 e2
   obtain⟨x',hx,rfl⟩:=Option.map_eq_some_iff.1 hc
   exact .inl ⟨rfl,Gv ho hx e1 e2 hE hr⟩
  ·cases hc
 ·rename_i s x f ho
  split at hc
  ·rename_i fs e1
   obtain⟨fl,e2,hc⟩:=Option.bind_eq_some_iff.1 hc
   obtain⟨i,e3,hc⟩:=Option.bind_eq_some_iff.1 hc
   split at hc
   ·rename_i h0
    obtain⟨x',hx,rfl⟩:=Option.map_eq_some_iff.1 hc
    exact .inl ⟨rfl,OI ho hx e1 e2 e3 h0 hE hr⟩
   ·cases hc
  ·cases hc
 ·rename_i s x f ho
  split at hc
  ·rename_i fs e1
   obtain⟨fl,e2,hc⟩:=Option.bind_eq_some_iff.1 hc
   obtain⟨i,e3,hc⟩:=Option.bind_eq_some_iff.1 hc
   obtain⟨d,e4,hc⟩:=Option.bind_eq_some_iff.1 hc
   obtain⟨x',hx,rfl⟩:=Option.map_eq_some_iff.1 hc
   exact .inl ⟨rfl,OH ho hx e1 e2 e3 e4 hE hr⟩
  ·cases hc
 ·rename_i t x y ho
  split at hc
  ·rename_i el e1
   obtain⟨i,e2,hc⟩:=Option.bind_eq_some_iff.1 hc
   obtain⟨x',hx,hc⟩:=Option.bind_eq_some_iff.1 hc
   obtain⟨y',hy,rfl⟩:=Option.map_eq_some_iff.1 hc
   exact .inl ⟨rfl,OG ho hx hy e1 e2 hE hr⟩
  ·rename_i m el e1
   obtain⟨i,e2,hc⟩:=Option.bind_eq_some_iff.1 hc
   obtain⟨x',hx,hc⟩:=Option.bind_eq_some_iff.1 hc
   obtain⟨y',hy,rfl⟩:=Option.map_eq_some_iff.1 hc
   exact .inl ⟨rfl,Gs ho hx hy e1 e2 hE hr⟩
  ·cases hc
 ·rename_i x i ho
  obtain⟨x',hx,rfl⟩:=Option.map_eq_some_iff.1 hc
  exact .inl ⟨rfl,Gu ho hx hE hr⟩
 ·rename_i g l1 l2 ho
  obtain⟨a1,h1,hc⟩:=Option.bind_eq_some_iff.1 hc
  obtain⟨a2,h2,rfl⟩:=Option.map_eq_some_iff.1 hc
  exact .inl ⟨rfl,OD ho h1 h2 hE hr⟩
 ·rename_i t ho
  obtain⟨i,e1,hc⟩:=Option.bind_eq_some_iff.1 hc
  obtain⟨z,e2,hc⟩:=Option.bind_eq_some_iff.1 hc
  obtain⟨l,e3,rfl⟩:=Option.map_eq_some_iff.1 hc
  exact .inr (.inr ⟨rfl,OM ho e1 e2 e3 h hr⟩)
 ·rename_i t x ho
  obtain⟨x',hx,rfl⟩:=Option.map_eq_some_iff.1 hc
  exact .inr (.inr ⟨rfl,OJ ho hx hE h hr⟩)
 ·rename_i t parts ho
  obtain⟨⟨place,z⟩,e1,hc⟩:=Option.bind_eq_some_iff.1 hc
  obtain⟨ps,e2,hc⟩:=Option.bind_eq_some_iff.1 hc
  obtain⟨l,e3,rfl⟩:=Option.map_eq_some_iff.1 hc
  exact .inl ⟨rfl,OL ho (rP e1) e2 e3 hE hr⟩
 ·rename_i t n parts ho
  split at hc
  ·rename_i el e1
   obtain⟨i,e2,hc⟩:=Option.bind_eq_some_iff.1 hc
   obtain⟨z,e3,hc⟩:=Option.bind_eq_some_iff.1 hc
   obtain⟨ps,e4,hc⟩:=Option.bind_eq_some_iff.1 hc
   obtain⟨l,e5,rfl⟩:=Option.map_eq_some_iff.1 hc
   exact .inr (.inr ⟨rfl,OK ho e1 e2 e3 e4 e5 hE h hr⟩)
  ·cases hc
 ·rename_i t x y ho
  split at hc
  ·rename_i el e1
   obtain⟨x',hx,hc⟩:=Option.bind_eq_some_iff.1 hc
   obtain⟨y',hy,hc⟩:=Option.bind_eq_some_iff.1 hc
   obtain⟨i,e2,hc⟩:=Option.bind_eq_some_iff.1 hc
   obtain⟨z,e3,hc⟩:=Option.bind_eq_some_iff.1 hc
   obtain⟨l,e5,rfl⟩:=Option.map_eq_some_iff.1 hc
   exact .inr (.inr ⟨rfl,OC ho hx hy e1 e2 e3 e5 hE h hr⟩)
  ·cases hc
 ·rename_i t x lo hi ho
  split at hc
  ·rename_i el e1
   obtain⟨x',hx,hc⟩:=Option.bind_eq_some_iff.1 hc
   obtain⟨lo',e2,hc⟩:=Option.bind_eq_some_iff.1 hc
   obtain⟨hi',e3,hc⟩:=Option.bind_eq_some_iff.1 hc
   obtain⟨i,e4,hc⟩:=Option.bind_eq_some_iff.1 hc
   split at hc
   ·rename_i h0
    cases hc
    exact .inl ⟨rfl,Oy ho hx e2 e3 e1 e4 h0 hE hr⟩
   ·cases hc
  ·cases hc
 ·rename_i t x lo hi mx ho
  split at hc
  ·rename_i el e1
   obtain⟨i,e4,hc⟩:=Option.bind_eq_some_iff.1 hc
   obtain⟨x',hx,hc⟩:=Option.bind_eq_some_iff.1 hc
   obtain⟨lo',e2,hc⟩:=Option.bind_eq_some_iff.1 hc
   obtain⟨hi',e3,hc⟩:=Option.bind_eq_some_iff.1 hc
   obtain⟨mx',e5,rfl⟩:=Option.map_eq_some_iff.1 hc
   exact .inl ⟨rfl,Oz ho hx e2 e3 e5 e1 e4 hE hr⟩
  ·cases hc
 ·rename_i t x y ho
  split at hc
  ·rename_i m el e1
   obtain⟨i,e2,hc⟩:=Option.bind_eq_some_iff.1 hc
   obtain⟨d,e3,hc⟩:=Option.bind_eq_some_iff.1 hc
   obtain⟨x',hx,hc⟩:=Option.bind_eq_some_iff.1 hc
   obtain⟨y',hy,rfl⟩:=Option.map_eq_some_iff.1 hc
   exact .inl ⟨rfl,OE ho hx hy e1 e2 e3 hE hr⟩
  ·cases hc
 ·rename_i c ho
  obtain⟨cal,args,ats⟩:=c
  simp only at hc
  split at hc
  ·rename_i x t e2 e3
   have e2':args= #[x]:=Array.ext' e2
   have e3':ats= #[t]:=Array.ext' e3
   subst e2';subst e3'
   split at hc
   ·rename_i el e4
    obtain⟨x',hx,rfl⟩:=Option.map_eq_some_iff.1 hc
    exact .inl ⟨rfl,Gx ho hx e4 hE hr⟩
   ·cases hc
  ·rename_i x t e2 e3
   have e2':args= #[x]:=Array.ext' e2
   have e3':ats= #[t]:=Array.ext' e3
   subst e2';subst e3'
   split at hc
   ·rename_i el e4
    obtain⟨x',hx,hc⟩:=Option.bind_eq_some_iff.1 hc
    obtain⟨i,e5,hc⟩:=Option.bind_eq_some_iff.1 hc
    obtain⟨z,e6,hc⟩:=Option.bind_eq_some_iff.1 hc
    obtain⟨l,e7,hc⟩:=Option.bind_eq_some_iff.1 hc
    split at hc
    ·rename_i q1
     cases hc
     exact .inr (.inr ⟨rfl,Gw ho hx e4 e5 e6 e7 q1 hE h hr⟩)
    ·cases hc
   ·cases hc
  ·rename_i x t e2 e3
   have e2':args= #[x]:=Array.ext' e2
   have e3':ats= #[t]:=Array.ext' e3
   subst e2';subst e3'
   split at hc
   ·rename_i el e4
    obtain⟨x',hx,rfl⟩:=Option.map_eq_some_iff.1 hc
    exact .inl ⟨rfl,Gr ho hx e4 hE hr⟩
   ·cases hc
  ·rename_i x y t t' e2 e3
   have e2':args= #[x,y]:=Array.ext' e2
   have e3':ats= #[t,t']:=Array.ext' e3
   subst e2';subst e3'
   split at hc
   ·rename_i el el' e4 e4'
    obtain⟨x',hx,hc⟩:=Option.bind_eq_some_iff.1 hc
    obtain⟨y',hy,hc⟩:=Option.bind_eq_some_iff.1 hc
    obtain⟨i,e5,hc⟩:=Option.bind_eq_some_iff.1 hc
    obtain⟨z,e6,hc⟩:=Option.bind_eq_some_iff.1 hc
    split at hc
    ·rename_i q1
     cases hc
     exact .inr (.inr ⟨rfl,Gz ho hx hy e4 e4' e5 e6 q1 hE h hr⟩)
    ·cases hc
   ·rename_i el k' e4 e4'
    obtain⟨x',hx,hc⟩:=Option.bind_eq_some_iff.1 hc
    obtain⟨y',hy,hc⟩:=Option.bind_eq_some_iff.1 hc
    obtain⟨i,e5,hc⟩:=Option.bind_eq_some_iff.1 hc
    obtain⟨z,e6,hc⟩:=Option.bind_eq_some_iff.1 hc
    obtain⟨l,e7,rfl⟩:=Option.map_eq_some_iff.1 hc
    exact .inr (.inr ⟨rfl,GB ho hx hy e4 e4' e5 e6 e7 hE h hr⟩)
   ·cases hc
  ·cases hc
 ·cases hc
theorem CC{ap:AP}(hc:kb P o.op=some ap)(hE:ER σ e a)(h:HR B σ H w)(hr:ap.run e H=some (v,H')):Same P B σ a H H' w o v:=by
 rcases s7 hc hE h hr with⟨_,h1⟩|⟨_,h1⟩|⟨_,h1⟩
 ·exact h1.same h
 ·exact h1.same h
 ·exact h1
theorem zF{ap:AP}(hc:kb P o.op=some ap)(hk:ap.kind=2)(hE:ER σ e a)(h:HR B σ H w)(hr:ap.run e H=some (v,H')):kf P σ a H H' o v:=by
 rcases s7 hc hE h hr with⟨_,h1⟩|⟨hk',h1⟩|⟨hk',h1⟩
 ·exact h1
 ·omega
 ·omega
theorem zG{ap:AP}(hc:kb P o.op=some ap)(hk:ap.kind=1)(hE:ER σ e a)(h:HR B σ H w)(hr:ap.run e H=some (v,H')):Pk P σ e a ap H H' w o v:=by
 rcases s7 hc hE h hr with⟨hk',h1⟩|⟨_,h1⟩|⟨hk',h1⟩
 ·omega
 ·exact h1
 ·omega
end
end Go.Proofs.Yteopfmnnhlhbmaa
namespace Go.Proofs.Yteopfmnnhlhbmaa
open Go.RowKit
inductive MO where
 |mm
 |lk (z:AV) (ok:Bool) (x k:AX)
 |mu (m k v:AX)
 |me (z:AV) (m k:AX)
 |es (m s v:AX)
 |rg (x:AX)
 |nx (x:AX)
 |en (x:AX)
 |ln (x:AX)
 |mn (neg:Bool) (x:AX)
 |mx (x y:AX)
inductive AK where
 |ap (x:AP)
 |cl (f:AX) (args:List AX)
 |sn (neg:Bool) (x:AX)
 |mo (x:MO)
structure AO where
 dst:Option Nat
 gd:Option (Nat×Bool)
 k:AK
abbrev jI:=FuncId->List AV->AH->Option (AV×AH)
def AK.run(call:jI)(e:Tr AV)(H:AH):AK->Option (AV×AH)
 |.ap x=>x.run e H
 |.cl f args=>match f.ev e,yG e args with
  |some (.f g first cap),some vs=>call g (first++vs++cap) H
  |_,_=>none
 |.sn _ _=>none
 |.mo _=>none
def dq(e:Tr AV):Option (Nat×Bool)->Option Bool
 |none=>some true
 |some (d,w)=>match e.get d with
  |some (.b b)=>some (b==w)
  |some (.tup _)=>some false
  |_=>none
def cq(e:Tr AV)(d:Option Nat)(v:AV):Tr AV:=match d with
 |some d=>Tr.set 48 e d v
 |none=>e
def BF(n:Nat):Option Nat->Bool
 |none=>true
 |some d=>decide (d<n)
def Br(ops:Array Oper):Option (Nat×Bool)->Option (Option (Nat×Bool))
 |none=>some none
 |some (j,w)=>match(ops[j]?).bind (·.dst) with
  |some d=>some (some (d,w))
  |none=>none
def F9(P:Program)(op:BinOp)(t:TypeId)(y:Operand):Option Bool:=match P.underlying t,y,op with
 |some (.slice _),.const (.slice none 0 0),.eql=>some false
 |some (.slice _),.const (.slice none 0 0),.neq=>some true
 |_,_,_=>none
def mW(P:Program)(t:TypeId):Option TypeId:=match P.underlying t with
 |some (.map K E)=>match P.underlying K with
  |some (.int .i64)=>some E
  |_=>none
 |_=>none
theorem ib{P:Program}{t E:TypeId}(h:mW P t=some E):∃K,P.underlying t=some (.map K E)/\P.underlying K=some (.int .i64):=by
 unfold mW at h
 split at h
 ·rename_i K E' e1
  split at h
  ·rename_i e2;cases h;exact⟨K,e1,e2⟩
  ·cases h
 ·cases h
def ti(P:Program)(E:TypeId):Option AV:=(P.info? E).bind λi=>i.zero.bind λz=>(pG z).bind λa=>if a.flat=true then some a else none
def A5(P:Program)(o:Op):Option MO:=match o with
 |.makeMap _ none=>some .mm
 |.lookup t x k ok=>(mW P t).bind λE=>(aO x).bind λx=>(aO k).bind λk=>(ti P E).map λz=> .lk z ok x k
 |.mapUpdate t m k v=>(mW P t).bind λ_=>(aO m).bind λm=>(aO k).bind λk=>(aO v).map λv=> .mu m k v
 |.mapEntry t m k=>(mW P t).bind λE=>(aO m).bind λm=>(aO k).bind λk=>(ti P E).map λz=> .me z m k
 |.entryStore _ m s v=>(aO m).bind λm=>(aO s).bind λs=>(aO v).map λv=> .es m s v
 |.range t x=>(mW P t).bind λ_=>(aO x).map .rg
 |.next x false=>(aO x).map .nx
 |.entry x=>(aO x).map .en
 |.call ⟨.builtin .len,⟨[x]⟩,⟨[t]⟩⟩=>(mW P t).bind λ_=>(aO x).map .ln
 |.call ⟨.builtin .max,⟨[x,y]⟩,_⟩=>(aO x).bind λx=>(aO y).map λy=> .mx x y
 |.binOp .eql t x (.const (.map none)) _=>(mW P t).bind λ_=>(aO x).map (.mn false)
 |.binOp .neq t x (.const (.map none)) _=>(mW P t).bind λ_=>(aO x).map (.mn true)
 |_=>none
def oe(P:Program)(o:Op):Option AK:=match o with
 |.binOp op t x y t'=>match F9 P op t y with
  |some neg=>(aO x).map (.sn neg ·)
  |none=>(kb P (.binOp op t x y t')).map .ap
 |.call c=>match c.callee with
  |.value f=>(aO f).bind λf=>(c.args.toList.mapM aO).map λl=> .cl f l
  |_=>(kb P (.call c)).map .ap
 |o=>(kb P o).map .ap
def kN(P:Program)(o:Op):Option AK:=match A5 P o with
 |some m=>some (.mo m)
 |none=>oe P o
def kM(P:Program)(n:Nat)(ops:Array Oper)(o:Oper):Option AO:=
 if BF n o.dst=true then(Br ops o.guard).bind λg=>(kN P o.op).map λk=>⟨o.dst,g,k⟩ else none
def dZ(P:Program)(n:Nat)(ops:Array Oper):List Oper->Option (List AO)
 |[]=>some []
 |o::l=>(kM P n ops o).bind λx=>(dZ P n ops l).map λr=>x::r
def jP(call:jI):List AO->Tr AV->AH->Option (Tr AV×AH)
 |[],e,H=>some (e,H)
 |o::l,e,H=>match dq e o.gd with
  |some true=>match o.k.run call e H with
   |some (v,H')=>jP call l (cq e o.dst v) H'
   |none=>none
  |some false=>jP call l (cq e o.dst (.tup [])) H
  |none=>none
structure EN(n:Nat)(σ:Sg)(e:Tr AV)(a:Act):Prop where
 er:ER σ e a
 sz:a.tmps.size=n
 sm:n<2^40
theorem EN.mono{n:Nat}{σ σ':Sg}{e:Tr AV}{a:Act}(hs:σ.le σ')(h:EN n σ e a):EN n σ' e a:=⟨h.er.mono hs,h.sz,h.sm⟩
def rA(B:Nat)(σ:Sg)(H H':AH)(w:World)(v:AV):Ending->World->Prop
 |.returned u,w'=>∃σ',VR σ' v u/\HR B σ' H' w'/\Fr B σ σ' H H' w w'
 |_,_=>False
structure kg(P:Program)(B:Nat)(call:jI):Prop where
 fn:∀{g:FuncId} {args:List AV} {H H':AH} {v:AV},call g args H=some (v,H')->∃fn,P.funcs[g]? =some fn/\(fn.name== "runtime.NumGoroutine")=false/\fn.body.isNone=false
 run:∀{g:FuncId} {args:List AV} {H H':AH} {v:AV},call g args H=some (v,H')->∀(σ:Sg) (w:World) (args':Array Value),HR B σ H w->bw σ args args'.toList->Calls P g args' w (rA B σ H H' w v)
section
variable {P:Program} {B n:Nat} {σ:Sg} {e e':Tr AV} {a:Act} {H H':AH} {w:World} {o:Oper} {v:AV} {ops:Array Oper} {call:jI} {Q:Exit->Act->World->Prop}
theorem EN.put(h:EN n σ e a){u:Value}(hv:VR σ v u){d:Option Nat}(hd:BF n d=true):EN n σ (cq e d v) (a.put d u):=by
 cases d with
 |none=>exact h
 |some d=>
  have hd':d<n:=of_decide_eq_true hd
  have hs:=h.sm
  refine⟨⟨h.er.df,λt x hx=>?_⟩,by simp[Act.put,h.sz],h.sm⟩
  simp only[cq] at hx
  rw[Tr.get_set 48 e d v t (by omega)] at hx
  simp only[Act.put]
  by_cases e1:t=d
  ·subst e1
   rw[if_pos rfl] at hx
   cases hx
   have hlt:t<a.tmps.size:=by rw[h.sz];exact hd'
   simp[Array.getD,hlt]
   exact hv
  ·rw[if_neg e1] at hx
   have:=h.er.get t x hx
   rw[Array.getD_eq_getD_getElem?] at this ⊢
   rw[Array.getElem?_setIfInBounds_ne (Ne.symm e1)]
   exact this
theorem de(h:ER σ e a){g:Option (Nat×Bool)}(hg:Br ops o.guard=some g){b:Bool}(hw:dq e g=some b):Region.wanted o (yielded ops a.tmps)=b:=by
 unfold Region.wanted
 cases hgd:o.guard with
 |none=>
  rw[hgd] at hg
  simp only[Br,Option.some.injEq] at hg
  subst hg
  simpa [dq] using hw
 |some p=>
  obtain⟨j,wn⟩:=p
  rw[hgd] at hg
  simp only[Br] at hg
  split at hg
  rotate_left
  ·cases hg
  rename_i d hd
  cases hg
  simp only[dq] at hw
  have hy:∀u:Value,a.tmps.getD d undef=u->u≠undef\/True->yielded ops a.tmps j=match u with| .bool b=>some b|_=>none:=by
   intro u hu _
   unfold yielded
   rw[hd]
   simp only[Option.bind_some]
   rw[Array.getD_eq_getD_getElem?] at hu
   cases hq:a.tmps[d]? with
   |none=>rw[hq] at hu;subst hu;rfl
   |some x=>rw[hq] at hu;simp only[Option.getD_some] at hu;subst hu;cases x<;>rfl
  split at hw
  ·rename_i b' hb
   cases hw
   have h1:=h.get d _ hb
   generalize hu:a.tmps.getD d undef=u at h1
   cases h1
   show(yielded ops a.tmps j==some wn)=_
   rw[hy _ hu (.inr trivial)]
   cases b'<;>cases wn<;>rfl
  ·rename_i l hb
   cases hw
   have h1:=h.get d _ hb
   generalize hu:a.tmps.getD d undef=u at h1
   cases h1
   show(yielded ops a.tmps j==some wn)=_
   rw[hy _ hu (.inr trivial)]
   cases wn<;>rfl
  ·cases hw
theorem zK(hC:kg P B call){k:AK}(hc:kN P o.op=some k)(hE:ER σ e a)(h:HR B σ H w)(hr:k.run call e H=some (v,H')){next:Act->World->Prop}
  (hn:∀u w' σ',VR σ' v u->HR B σ' H' w'->Fr B σ σ' H H' w w'->next (a.put o.dst u) w'):o.wp P a w next Q:=by
 have fin:∀ap,kb P o.op=some ap->k= .ap ap->o.wp P a w next Q:=by
  rintro ap hap rfl
  obtain⟨r,w',σ',hrun,hnr,h1,h2,_⟩:=CC hap hE h hr
  unfold Oper.wp
  rw[hrun]
  rcases hnr with⟨u,rfl,hu⟩|⟨rfl,rfl⟩
  ·exact hn u w' σ' hu h1 h2
  ·exact hn undef w' σ' (.u _) h1 h2
 unfold kN at hc
 split at hc
 ·cases hc;cases hr
 unfold oe at hc
 split at hc
 ·rename_i op t x y t' ho
  split at hc
  ·obtain⟨x',hx,rfl⟩:=Option.map_eq_some_iff.1 hc
   cases hr
  ·obtain⟨ap,hap,rfl⟩:=Option.map_eq_some_iff.1 hc
   exact fin ap (by rw[ho];exact hap) rfl
 ·rename_i c ho
  split at hc
  ·rename_i f hf
   obtain⟨f',hf',hc⟩:=Option.bind_eq_some_iff.1 hc
   obtain⟨l',hl,rfl⟩:=Option.map_eq_some_iff.1 hc
   simp only[AK.run] at hr
   split at hr
   rotate_left
   ·cases hr
   rename_i g first cap vs hfe hvs
   obtain⟨c1,c2,hev,g1,g2⟩:=yJ hf' hE hfe
   obtain⟨fn,k1,k2,k3⟩:=hC.fn hr
   have hargs:bw σ (first++vs++cap) (c1++c.args.map a.eval++c2).toList:=by
    have:=(g1.app (gG hl hE hvs)).app g2
    simpa using this
   have hcl:=hC.run hr σ w _ h hargs
   unfold Oper.wp execOp
   rw[ho]
   simp only[Sem.run_bind,resolve,hf,hev,Deferred.ofValue,Sem.run_pure,Result.andThen_ok,invoke,g8 k1 k2 k3,Oper.upon]
   refine Calls.mono hcl (λen w' hp=>?_)
   cases en with
   |returned u=>obtain⟨σ',q1,q2,q3⟩:=hp;exact hn u w' σ' q1 q2 q3
   |panicked c=>exact hp.elim
   |outgrown=>exact hp.elim
  ·obtain⟨ap,hap,rfl⟩:=Option.map_eq_some_iff.1 hc
   exact fin ap (by rw[ho];exact hap) rfl
 ·obtain⟨ap,hap,rfl⟩:=Option.map_eq_some_iff.1 hc
  exact fin ap hap rfl
theorem rS(hC:kg P B call):∀(l:List Oper) (l':List AO) {σ:Sg} {e:Tr AV} {H:AH} {a:Act} {w:World},dZ P n ops l=some l'->jP call l' e H=some (e',H')->EN n σ e a->HR B σ H w->
  (∀a' w' σ',EN n σ' e' a'->HR B σ' H' w'->Fr B σ σ' H H' w w'->Q .normal a' w')->wpList P ops Q l a w
 |[],l',σ,e,H,a,w,hl,hr,hE,h,hQ=>by
  simp only[dZ,Option.some.injEq] at hl
  subst hl
  simp only[jP,Option.some.injEq,Prod.mk.injEq] at hr
  obtain⟨rfl,rfl⟩:=hr
  exact hQ a w σ hE h (Fr.refl h)
 |o::l,l',σ,e,H,a,w,hl,hr,hE,h,hQ=>by
  simp only[dZ] at hl
  obtain⟨x,hx,hl⟩:=Option.bind_eq_some_iff.1 hl
  obtain⟨r,hl2,rfl⟩:=Option.map_eq_some_iff.1 hl
  unfold kM at hx
  split at hx
  rotate_left
  ·cases hx
  rename_i hd
  obtain⟨g,hg,hx⟩:=Option.bind_eq_some_iff.1 hx
  obtain⟨k,hk,rfl⟩:=Option.map_eq_some_iff.1 hx
  simp only[jP] at hr
  unfold wpList
  split at hr
  ·rename_i hw
   rw[de hE.er hg hw,if_pos rfl]
   split at hr
   rotate_left
   ·cases hr
   rename_i v H1 hrun
   refine .inl (zK hC hk hE.er h hrun λu w1 σ1 q1 q2 q3=>?_)
   exact rS hC l r hl2 hr ((hE.mono q3.ext).put q1 hd) q2 (λa' w' σ' p1 p2 p3=>hQ a' w' σ' p1 p2 (q3.trans p3 q2))
  ·rename_i hw
   rw[de hE.er hg hw,if_neg (by simp)]
   exact rS hC l r hl2 hr (hE.put (u:=undef) (.tup rfl (λi v h=>by simp at h)) hd) h hQ
  ·cases hr
end
end Go.Proofs.Yteopfmnnhlhbmaa
namespace Go.Proofs.Yteopfmnnhlhbmaa
open Go.RowKit
def eo:Nat×Nat->Nat×Nat
 |(3,j)=>(0,j)
 |p=>p
def eV(P:Program)(n:Nat)(ops:Array Oper)(fl:List Nat):List (Nat×Nat)->Option (List (Nat×AO))
 |[]=>some []
 |(k,j)::l=>match ops[j]? with
  |some o=>(kM P n ops o).bind λx=>if k<=3/\(k=3->pS .any ops fl j=true/\l.all (·.1 != 1)=true) then(eV P n ops fl l).map λr=>(k,x)::r else none
  |none=>none
inductive AT where
 |fin
 |none
 |alt (o:AO) (r more:AT)
def s6(P:Program)(n:Nat)(ops:Array Oper):PT->Option AT
 |.fin=>some .fin
 |.none=>some .none
 |.alt j r more=>match ops[j]? with
  |some o=>(kM P n ops o).bind λx=>(s6 P n ops r).bind λr'=>(s6 P n ops more).map λm'=> .alt x r' m'
  |none=>none
def fL(call:jI)(H0:AH):List (Nat×AO)->Tr AV->AH->Option (Tr AV×AH)
 |[],e,H=>some (e,H)
 |(k,o)::l,e,H=>match dq e o.gd with
  |some true=>
   if k=1 then match o.k with
    |.ap (.ld n row x)=>match x.ev e with
     |some (.p b off)=>if(H0.at b).isSome=true then match(AP.ld n row x).run e H with
       |some (v,H')=>fL call H0 l (cq e o.dst v) H'
       |none=>none
      else none
     |_=>none
    |_=>none
   else if k=2 then match o.k with
    |.ap x=>if x.kind=2 then match x.run e H with
      |some (v,H')=>fL call H0 l (cq e o.dst v) H'
      |none=>none
     else none
    |_=>none
   else match o.k.run call e H with
    |some (v,H')=>if k=3\/H0.next<=H'.low then fL call H0 l (cq e o.dst v) H' else none
    |none=>none
  |some false=>if k=0->H0.next<=H.low then fL call H0 l (cq e o.dst (.tup [])) H else none
  |none=>none
def rx(w w':World):Prop:=∀(c:Nat) (cs:Array Value) (t:TypeId) (fr:Nat×Nat),w.heap[c]? =some (Obj.cells cs t fr)->w'.heap[c]? =w.heap[c]?
theorem rx.refl(w:World):rx w w:=λ_ _ _ _ _=>rfl
theorem rx.cell{w w':World}(h:rx w w'){c:Nat}{cs:Array Value}{t:TypeId}{fr:Nat×Nat}(hc:w.heap[c]? =some (.cells cs t fr))(i:Nat):w'.cell? ⟨c,i,none⟩=w.cell? ⟨c,i,none⟩:=by
 simp only[World.cell?,h c cs t fr hc]
theorem Fr.grew{B:Nat}{σ σ':Sg}{H H':AH}{w w':World}(h:Fr B σ σ' H H' w w')(hl:H.next<=H'.low):rx w w':=λk cs t fr hk=>by
 rcases h.old k (Array.getElem?_eq_some_iff.1 hk).1 with e|⟨b,o,h1,_,h3⟩|hn
 ·exact e
 ·omega
 ·exact absurd hk (hn _ _ _)
section
variable {P:Program} {B n:Nat} {σ0:Sg} {e':Tr AV} {H0 H':AH} {w0:World} {ops:Array Oper} {fl:List Nat} {call:jI} {Q:Exit->Act->World->Prop}
theorem uo{o:Oper}{x:AP}(h:kN P o.op=some (.ap x)):kb P o.op=some x:=by
 unfold kN at h
 split at h
 ·cases h
 unfold oe at h
 split at h
 ·rename_i op t x y t' ho
  split at h
  ·obtain⟨x',hx,h⟩:=Option.map_eq_some_iff.1 h
   cases h
  ·obtain⟨ap,hap,h⟩:=Option.map_eq_some_iff.1 h
   cases h
   rw[ho];exact hap
 ·rename_i c ho
  split at h
  ·obtain⟨f',hf',h⟩:=Option.bind_eq_some_iff.1 h
   obtain⟨l',hl,h⟩:=Option.map_eq_some_iff.1 h
   cases h
  ·obtain⟨ap,hap,h⟩:=Option.map_eq_some_iff.1 h
   cases h
   rw[ho];exact hap
 ·obtain⟨ap,hap,h⟩:=Option.map_eq_some_iff.1 h
  cases h
  exact hap
theorem ez{o:Oper}{a:Act}{w:World}{R:Exit->Act->World->Prop}(hw:Region.wanted o (yielded ops a.tmps)=true)(h:o.wp P a w (R .normal) R):wpList P ops R [o] a w:=by
 unfold wpList
 rw[if_pos hw]
 exact .inl h
theorem jZ(hC:kg P B call)(h0:HR B σ0 H0 w0)(hp:∀c a w,¬Q (.panic c) a w):∀(pl:List (Nat×Nat)) (l':List (Nat×AO)) {σ:Sg} {e:Tr AV} {H:AH} {a:Act} {w:World},eV P n ops fl pl=some l'->fL call H0 l' e H=some (e',H')->EN n σ e a->HR B σ H w->
  Fr B σ0 σ H0 H w0 w->(rx w0 w\/pl.all (·.1 != 1)=true)->
  (∀a' w' σ',EN n σ' e' a'->HR B σ' H' w'->Fr B σ0 σ' H0 H' w0 w'->Q .normal a' w')->aV P .any ops Q (rx w0) fl (ax ops (pl.map eo)) a w
 |[],l',σ,e,H,a,w,hl,hr,hE,h,hF,hG,hQ=>by
  simp only[eV,Option.some.injEq] at hl
  subst hl
  simp only[fL,Option.some.injEq,Prod.mk.injEq] at hr
  obtain⟨rfl,rfl⟩:=hr
  show aV P .any ops Q (rx w0) fl [] a w
  exact ll (hQ a w σ hE h hF)
 |(k,j)::pl,l',σ,e,H,a,w,hl,hr,hE,h,hF,hG,hQ=>by
  simp only[eV] at hl
  split at hl
  rotate_left
  ·cases hl
  rename_i o ho
  obtain⟨x,hx,hl⟩:=Option.bind_eq_some_iff.1 hl
  split at hl
  rotate_left
  ·cases hl
  rename_i hk3
  obtain⟨hk3,hsee⟩:=hk3
  obtain⟨r,hl2,rfl⟩:=Option.map_eq_some_iff.1 hl
  unfold kM at hx
  split at hx
  rotate_left
  ·cases hx
  rename_i hd
  obtain⟨g,hg,hx⟩:=Option.bind_eq_some_iff.1 hx
  obtain⟨ak,hk,rfl⟩:=Option.map_eq_some_iff.1 hx
  have hgp:ax ops (((k,j)::pl).map eo)=((eo (k,j)).1,j,o)::ax ops (pl.map eo):=by
   have:eo (k,j)=((eo (k,j)).1,j):=by unfold eo;split<;>first|rfl|(rename_i heq;cases heq;rfl)
   rw[List.map_cons,this]
   simp[ax,ho]
  rw[hgp]
  have hG':rx w0 w\/pl.all (·.1 != 1)=true:=hG.imp id (λq=>by simp only[List.all_cons,Bool.and_eq_true] at q;exact q.2)
  simp only[fL] at hr
  split at hr
  ·rename_i hw
   have hwant:=de hE.er hg hw
   split at hr
   ·
    rename_i hk1
    subst hk1
    split at hr
    rotate_left
    ·cases hr
    rename_i nn row xx
    split at hr
    rotate_left
    ·cases hr
    rename_i b off hev
    split at hr
    rotate_left
    ·cases hr
    rename_i hat
    split at hr
    rotate_left
    ·cases hr
    rename_i v H1 hrun
    obtain⟨q1,_,_,_,c,u,q2,q34,q5,q6⟩:=zG (uo hk) rfl hE.er h hrun
    subst q1
    cases q2
    obtain⟨oc,q4⟩:∃oc,σ b=some (c,oc):=by
     rcases q34 with⟨b',off',oc,q3,q4⟩|⟨_,_,_,_,q3,_⟩
     ·rw[hev] at q3
      cases q3
      exact⟨oc,q4⟩
     ·rw[hev] at q3
      cases q3
    have hgw:rx w0 w:=by
     rcases hG with q|q
     ·exact q
     ·simp at q
    obtain⟨xb,hxb⟩:=Option.isSome_iff_exists.1 hat
    obtain⟨c0,o0,cs0,p1,p2,p3,p4,_⟩:=h0.at hxb (.inr (by rw[<-hF.dom b (AH.at_lt h0 hxb),q4];simp))
    have hc0:σ b=σ0 b:=hF.dom b (AH.at_lt h0 hxb)
    rw[hc0,p1] at q4
    cases q4
    have hclt:c<w0.heap.size:=(Array.getElem?_eq_some_iff.1 p3).1
    show aV P .any ops Q (rx w0) fl ((1,j,o)::ax ops (pl.map eo)) a w
    unfold aV
    rw[if_pos hwant]
    refine⟨u,λw' hw'=>q6 w' (λi=>(rx.cell hw' p3 i).trans (rx.cell hgw p3 i).symm),?_⟩
    exact jZ hC h0 hp pl r hl2 hr (hE.put q5 hd) h hF hG' hQ
   ·split at hr
    ·
     rename_i hk1 hk2
     subst hk2
     split at hr
     rotate_left
     ·cases hr
     rename_i xx
     split at hr
     rotate_left
     ·cases hr
     rename_i hkind
     split at hr
     rotate_left
     ·cases hr
     rename_i v H1 hrun
     obtain⟨q1,u,q2,q3⟩:=zF (uo hk) hkind hE.er h hrun
     subst q1
     show aV P .any ops Q (rx w0) fl ((2,j,o)::ax ops (pl.map eo)) a w
     unfold aV
     rw[if_pos hwant]
     exact⟨u,q3,jZ hC h0 hp pl r hl2 hr (hE.put q2 hd) h hF hG' hQ⟩
    ·rename_i hk1 hk2
     split at hr
     rotate_left
     ·cases hr
     rename_i v H1 hrun
     split at hr
     rotate_left
     ·cases hr
     rename_i hlow
     have hu0:(eo (k,j)).1=0:=by
      have:k=0\/k=3:=by omega
      rcases this with rfl|rfl<;>rfl
     rw[hu0]
     by_cases hk0:k=3
     ·subst hk0
      obtain⟨s1,s2⟩:=hsee rfl
      refine kh s1 (ez hwant ?_)
      refine zK hC hk hE.er h hrun λu w1 σ1 q1 q2 q3=>?_
      exact jZ hC h0 hp pl r hl2 hr ((hE.mono q3.ext).put q1 hd) q2 (hF.trans q3 h) (.inr s2) hQ
     ·have hlow':H0.next<=H1.low:=hlow.resolve_left hk0
      refine ki (ez hwant ?_)
      refine zK hC hk hE.er h hrun λu w1 σ1 q1 q2 q3=>?_
      have hF1:=hF.trans q3 h
      have hg1:=hF1.grew hlow'
      exact⟨hg1,jZ hC h0 hp pl r hl2 hr ((hE.mono q3.ext).put q1 hd) q2 hF1 (.inl hg1) hQ⟩
  ·rename_i hw
   split at hr
   rotate_left
   ·cases hr
   rename_i hlow
   have hwant:=de hE.er hg hw
   have hput:=hE.put (u:=undef) (v:= .tup []) (.tup rfl (λi v h=>by simp at h)) hd
   have next:=jZ hC h0 hp pl r hl2 hr hput h hF hG' hQ
   have:(eo (k,j)).1=0\/(eo (k,j)).1=1\/(eo (k,j)).1=2:=by
    have:k=0\/k=1\/k=2\/k=3:=by omega
    rcases this with rfl|rfl|rfl|rfl<;>simp[eo]
   rcases this with q|q|q<;>rw[q]
   ·have hskip:∀R:Exit->Act->World->Prop,R .normal (a.put o.dst undef) w->wpList P ops R [o] a w:=λR hR=>by
     unfold wpList
     rw[hwant,if_neg (by simp)]
     exact hR
    unfold aV
    split
    ·exact hskip _ next
    ·rename_i hs
     refine hskip _ ⟨?_,next⟩
     have:k=0\/k=1\/k=2\/k=3:=by omega
     rcases this with rfl|rfl|rfl|rfl
     ·exact hF.grew (hlow rfl)
     ·simp[eo] at q
     ·simp[eo] at q
     ·exact absurd (hsee rfl).1 hs
   ·unfold aV
    rw[hwant,if_neg (by simp)]
    exact next
   ·unfold aV
    rw[hwant,if_neg (by simp)]
    exact next
  ·cases hr
theorem HR.relow{B:Nat}{σ:Sg}{H:AH}{w:World}(h:HR B σ H w)(l:Nat):HR B σ {H with low:=l} w:=
 ⟨h.new,h.newl,h.old,h.small,h.hB,h.nil,h.nilp,h.blk,h.szs,h.inj,h.frz,h.ob.of_eq rfl⟩
theorem mT(hC:kg P B call){id:Nat}{pu:List Nat}{pl:List (Nat×Nat)}{l':List (Nat×AO)}(hm:P.follows .mixedOrders=true)(hB:u5 .any ops fl pu (pl.map eo)=true)(hl:eV P n ops fl pl=some l')
  {σ:Sg} {e:Tr AV} {H:AH} {a:Act} {w:World} {big:Nat} (hr:fL call {H with low:=big} l' e {H with low:=big}=some (e',H')) (hE:EN n σ e a) (h:HR B σ H w) (hp:∀c a w,¬Q (.panic c) a w)
  (hQ:∀a' w' σ',EN n σ' e' a'->HR B σ' {H' with low:=min H.low H'.low} w'->Fr B σ σ' H {H' with low:=min H.low H'.low} w w'->Q .normal a' w'):(Code.region id ops true).wp P Q a w:=by
 have hops:ops=ops.toList.toArray:=by simp
 rw[hops]
 rw[hops] at hB
 have hd:HR B σ {H with low:=big} w.drew:=⟨h.new,h.newl,h.old,h.small,h.hB,h.nil,h.nilp,h.blk,h.szs,h.inj,h.frz,h.ob.of_eq rfl⟩
 refine eZ (rx w.drew) fl pu (pl.map eo) hm hB (λc a d v w hq=>(hp _ _ _ hq).elim) (rx.refl _) ?_
 rw[<-hops]
 refine jZ hC hd hp pl l' hl hr hE hd (Fr.refl hd) (.inl (rx.refl _)) (λa' w' σ' q1 q2 q3=>?_)
 refine hQ a' w' σ' q1 (q2.relow _) ⟨q3.dom,q3.ext,q3.nxt,Nat.min_le_left _ _,(Below.refl _ _).drew.trans q3.bel,λc hc=>?_,λb c o h1 h2 h3=>by
  obtain⟨b0,o0,g1,g2,g3⟩:=q3.new b c o h1 h2 h3
  exact⟨b0,o0,g1,g2,Nat.le_trans (Nat.min_le_right _ _) g3⟩⟩
 rcases q3.old c hc with e|⟨b,o,h1,h2,h3⟩|hn
 ·exact .inl e
 ·exact .inr (.inl ⟨b,o,h1,h2,Nat.le_trans (Nat.min_le_right _ _) h3⟩)
 ·exact .inr (.inr hn)
end
end Go.Proofs.Yteopfmnnhlhbmaa