/- A part of the proof of CostLimits. No condition. -/
import Derived.Deep.Upon
import Derived.Laws.MakeOwn
import Derived.Test.YtdpkgnmmikebdaaGreatGi08
set_option linter.unusedSimpArgs false
set_option linter.unusedVariables false
set_option linter.constructorNameAsVariable false
set_option maxRecDepth 100000
set_option maxHeartbeats 4000000
namespace Go.Proofs.YtdpkgnmmikebdaaGreat
open Go.RowKit
section
variable {x' y':AX}{l:List AV}{x y:Operand}{el t tx:TypeId}{i:TypeInfo}{z:Value}
section
variable {P:Program} {B:Nat} {σ:Sg} {e:Tr AV} {a:Act} {H H':AH} {w:World} {o:Oper} {v:AV}
theorem anp{parts:Array (Nat×Operand)}{place:Nat->Option (Nat×Nat)}{ps:List (Nat×Nat×AX)}(ho:o.op= .build t parts)(hb:∀q,P.built t q=Instr.fill place z.cells q)
  (hp:lw place parts.toList=some ps) (hl:z.cells.toList.mapM uT=some l) (hE:ER σ e a) (hr:(AP.bd l ps).run e H=some (v,H')):qQ P σ a H H' o v:=by
 simp only[AP.run,fW,apc,aqn] at hr;obtain⟨r,hf,he⟩:=hr;cases he;obtain⟨cells,k1,k2⟩:=vZ place hE _ _ _ _ _ hp (nB hl) hf;have:=λw=>run_build (P:=P) w t (parts.map λ(i,x)=>(i,a.eval x)) cells (by rw[hb,Array.toList_map];exact k1)
 refine fG (u:= .agg cells) (λw=>?_) (by simpa using k2.agg)
 unfold execOp;rw[ho];simp only[Sem.run_bind,Sem.run_pure,Result.andThen_ok,this]
theorem HR.junk(h:HR B σ H w)(o:Obj):HR B σ H (w.alloc o)/\Fr B σ σ H H w (w.alloc o):=by
 have old:∀c,c<w.heap.size->(w.alloc o).heap[c]? =w.heap[c]? :=λc hc=>Below.heap_alloc _ _ _ hc;refine⟨⟨h.new,h.newl,h.old,h.small,by simp;have:=h.hB;omega,h.nil,h.nilp,λb x c oc hx hs=>?_,h.szs,h.inj,λc fs hf=>?_,h.ob.keep λr hr _=>old r hr⟩,λ_ _=>rfl,σ.le_refl,bL _,bL _,(Below.refl _ _).alloc h.hB _,λc hc=> .inl (old c hc),λb c oc hb hs=>by rw[h.new b hb] at hs;cases hs⟩
 ·obtain⟨cs,e1,e2,e3⟩:=h.blk b x c oc hx hs;exact⟨cs,e1,by rw[old c (apo.1 e2).1];exact e2,e3⟩
 ·obtain⟨cs,t,fr,e1,e2,e3⟩:=h.frz c fs hf;exact⟨cs,t,fr,by rw[old c (h.fzlt hf)];exact e1,e2,e3⟩
theorem ano{n:Nat}{parts:Array (Nat×Operand)}{ps:List (Nat×Nat×AX)}(ho:o.op= .buildSlice t n parts)(ht:P.underlying t=some (.slice el))(hi:P.info? el=some i)(hz:i.zero=some z)
  (hp:lw (λj=>some (j*i.size,i.size)) parts.toList=some ps) (hl:(madeCells z.cells (n*i.size)).toList.mapM uT=some l) (hE:ER σ e a) (h:HR B σ H w) (hr:(AP.bs el i.size n l ps).run e H=some (v,H')):oo P B σ a H H' w o v:=by
 simp only[AP.run,fW,aqn] at hr;split at hr
 ·rename_i h0;obtain⟨rfl,h1⟩:=h0;cases hr;have hps:ps=[]:=List.isEmpty_iff.1 h1;have hpar:parts.toList=[]:=by
   cases hq:parts.toList with
   |nil=>rfl
   |cons p q=>
    rw[hq] at hp;obtain⟨j,x⟩:=p;simp only[lw] at hp;split at hp
    ·cases hp;cases hps
    ·cases hp
  have hpa:parts= #[]:=Array.ext' hpar;subst hpa;obtain⟨k1,k2⟩:=h.junk (.cells #[] el);refine⟨_,_,σ,?_,.inl ⟨_,rfl,.sl0 (some ⟨w.heap.size,0,none⟩)⟩,k1,k2,rfl⟩;unfold execOp;rw[ho];simp[Instr.buildSlice,run_underlying ht,sizeOf,typeInfo,hi,Instr.fill,newRow];have hz0:∀f:Nat->Value,Array.map f (Array.range 0)= #[]:=λf=>Array.ext' ae;rw[hz0]
 split at hr;rotate_left
 ·cases hr
 rename_i r hf;split at hr;rotate_left
 ·cases hr
 rename_i hc;obtain⟨c1,c2,c3,c4⟩:=hc;cases hr;obtain⟨cells,k1,k2⟩:=vZ _ hE _ _ _ _ _ hp (nB hl) hf;have hrun:=run_buildSlice (P:=P) w t el n (parts.map λ(i,x)=>(i,a.eval x)) cells i z ht hi hz aa aa (by rw[Array.toList_map];exact k1)
 have:=h.lay c1 k2 aa i.size el;refine⟨_,_,_,?_,.inl ⟨_,rfl,.sl (Sg.ext_self _ _ _)⟩,this.1,this.2,rfl⟩;unfold execOp;rw[ho];simp only[Sem.run_bind,Sem.run_pure,Result.andThen_ok,hrun]
theorem anh(ho:o.op= .makeSlice t x y)(hx:fF x=some x')(hy:fF y=some y')(ht:P.underlying t=some (.slice el))(hi:P.info? el=some i)(hz:i.zero=some z)
  (hl:z.cells.toList.mapM uT=some l) (hE:ER σ e a) (h:HR B σ H w) (hr:(AP.ms el i.size i.bytes l x' y').run e H=some (v,H')):oo P B σ a H H' w o v:=by
 simp only[AP.run,fW,aqn] at hr;split at hr;rotate_left
 ·cases hr
 rename_i m c hm hcv;split at hr;rotate_left
 ·cases hr
 rename_i hc;obtain⟨c1,c2,c3,c4,c5,c6,c7,c8⟩:=hc;have hzl:gn σ l z.cells.toList:=nB hl;have hzs:z.cells.size=i.size:=by exact(by simpa using hzl.1:l.length=z.cells.size).symm.trans c6
 have hb:(i.bytes:Int)*c<=281474976710656:=by
  have e1:(c.toNat:Int)=c:=Int.toNat_of_nonneg aa;have e2:=Int.ofNat_le.2 c5;rw[Int.natCast_mul,e1] at e2;omega
 have hrun:=run_make (P:=P) w t el i z ht hi hz .i64 .i64 m c c2 c3 hb aa;have cell:∀j,j<c.toNat*i.size->VR σ (l[j%i.size]?.getD .u) ((madeCells z.cells (c.toNat*i.size)).getD j undef):=λj hj'=>by
  have hmod:j%i.size<i.size:=Nat.mod_lt _ c7;have e1:(madeCells z.cells (c.toNat*i.size)).getD j undef=z.cells[j%i.size]'(by rw[hzs];exact hmod):=by
   simp[madeCells,Array.getD,hj',hzs,hmod]
  rw[e1];have hml:j%i.size<l.length:=by rw[c6];exact hmod
  rw[apk hml,Option.getD_some];have:=hzl.2 (j%i.size) _ (apk hml);rw[apd,apC,ap7 (by rw[hzs];exact hmod)] at this
  exact this
 split at hr
 ·rename_i hmc;subst hmc;cases hr;have:=h.allocO (x:=fg el i.size m.toNat 0 (λ_ j=>l[j]?.getD .u)) (cs:=madeCells z.cells (m.toNat*i.size)) (k:=m.toNat) c1 rfl rfl (size_madeCells _ _) c8 (size_madeCells _ _) (by unfold maxLen;omega) (λj hj=>cell j hj)
  refine⟨_,_,_,?_,.inl ⟨_,rfl,.os (Sg.ext_self _ _ _) (bL _)⟩,this.1,this.2,rfl⟩;unfold execOp;rw[ho];simp only[Sem.run_bind,Sem.run_pure,Result.andThen_ok,nu hx hE hm,nu hy hE hcv,hrun];rfl
 cases hr;have:=h.alloc (x:=⟨c.toNat*i.size,i.size,el,λj=>l[j%i.size]?.getD .u,.nil,false,true,0⟩) (cs:=madeCells z.cells (c.toNat*i.size)) c1 rfl rfl (size_madeCells _ _) c8 (λj hj=>cell j hj);refine⟨_,_,_,?_,.inl ⟨_,rfl,.sl (Sg.ext_self _ _ _)⟩,this.1,this.2,rfl⟩;unfold execOp;rw[ho];simp only[Sem.run_bind,Sem.run_pure,Result.andThen_ok,nu hx hE hm,nu hy hE hcv,hrun]
def oG:Option Operand->Option (Option AX)
 |none=>some none
 |some x=>(fF x).map some
theorem ane{lo hi:Option Operand}{lo' hi':Option AX}(ho:o.op= .slice t x lo hi none)(hx:fF x=some x')(hlo:oG lo=some lo')(hhi:oG hi=some hi')(ht:P.underlying t=some (.slice el))(hin:P.info? el=some i)(h0:0<i.size)
  (hE:ER σ e a) (hr:(AP.sl i.size x' lo' hi').run e H=some (v,H')):qQ P σ a H H' o v:=by
 have bnds:∀(m:Nat) (k1 k2:IntKind) (l r:Int),oT e (.n .i64 0) lo'=some (.n k1 l)->oT e (.n .i64 m) hi'=some (.n k2 r)->
   ((lo=none/\l=0)\/∃y k,lo=some y/\a.eval y= .int k l)/\((hi=none/\r=m)\/∃y k,hi=some y/\a.eval y= .int k r):=by
  intro m k1 k2 l r e1 e2;refine⟨?_,?_⟩
  ·cases lo with
   |none=>
    simp only[oG,apn] at hlo;subst hlo;simp only[oT,apn,AV.n.injEq] at e1;exact .inl ⟨rfl,e1.2.symm⟩
   |some y=>
    simp only[oG,apc] at hlo;obtain⟨y',hy,rfl⟩:=hlo;exact .inr ⟨y,_,rfl,nu hy hE e1⟩
  ·cases hi with
   |none=>
    simp only[oG,apn] at hhi;subst hhi;simp only[oT,apn,AV.n.injEq] at e2;exact .inl ⟨rfl,e2.2.symm⟩
   |some y=>
    simp only[oG,apc] at hhi;obtain⟨y',hy,rfl⟩:=hhi;exact .inr ⟨y,_,rfl,nu hy hE e2⟩
 have fin:∀(ad:Option Addr) (m cap':Nat) (k1 k2:IntKind) (l r:Int),oT e (.n .i64 0) lo'=some (.n k1 l)->oT e (.n .i64 m) hi'=some (.n k2 r)->0<=l->l<=r->r<=(cap':Int)->a.eval x= .slice ad m cap'->
   ∀w,(execOp a.eval o).run P w= .ok (.value (.slice (if cap'=l.toNat then ad else ad.map λb=>b.add (l.toNat*i.size)) (r.toNat-l.toNat) (cap'-l.toNat))) w:=by
  intro ad m cap' k1 k2 l r e1 e2 c1 c2 rc hev w;obtain⟨hlow,hhigh⟩:=bnds m k1 k2 l r e1 e2;have r0:0<=r:=aa;have rt:(r.toNat:Int)=r:=Int.toNat_of_nonneg r0;have hbd:∀w,(Instr.sliceBounds true m cap' (lo.map a.eval) (hi.map a.eval) none).run P w= .ok (l.toNat,r.toNat,cap') w:=λw=>by
   rcases hlow with⟨rfl,q1⟩|⟨y1,k1,rfl,q1⟩<;>rcases hhigh with⟨rfl,q2⟩|⟨y2,k2,rfl,q2⟩
   ·subst q1;subst q2;simp[Instr.sliceBounds]
   ·subst q1;simp[Instr.sliceBounds,Instr.sliceBound,asIntOf,q2,r0,rc]
   ·subst q2;have:l<=(m:Int):=c2;simp[Instr.sliceBounds,Instr.sliceBound,asIntOf,q1,c1,this]
   ·simp[Instr.sliceBounds,Instr.sliceBound,asIntOf,q1,q2,r0,rc,c1,c2,rt]
  unfold execOp;rw[ho];simp only[Sem.run_bind,Sem.run_pure,Result.andThen_ok,Option.map_none,hev,Instr.sliceAt,Instr.slice,run_underlying ht w,hbd,sizeOf,typeInfo];by_cases e3:cap'=l.toNat
  ·simp[hin,e3]
  ·simp[hin,e3]
 simp only[AP.run,fW,aqn] at hr;split at hr
 ·rename_i b off m cap hv;split at hr;rotate_left
  ·cases hr
  rename_i k1 l k2 r e1 e2;split at hr;rotate_left
  ·cases hr
  rename_i hc;obtain⟨c1,c2,c3,c4⟩:=hc;cases hr;have h1:=gb hx hE hv;have form:∃c oc cap',σ b=some (c,oc)/\a.eval x= .slice (some ⟨c,off,none⟩) m cap'/\cap<=cap'/\(∀off' m',(off'=0->off=0/\l=0)->VR σ (.sl b off' m' (cap-l.toNat)) (.slice (some ⟨c,off',none⟩) m' (cap'-l.toNat))):=by
   generalize a.eval x=u at h1;cases h1 with
   |sl hh=>exact⟨_,_,_,hh,rfl,bL _,λ_ _ _=> .sl hh⟩
   |slo hh hc h0=>exact⟨_,_,_,hh,rfl,hc,λoff' m' hz=> .slo hh aa (λe=>by obtain⟨q1,q2⟩:=hz e;subst q2;simpa using h0 q1)⟩
  obtain⟨c,oc,cap',hc,hev,hcap,hvr⟩:=form;have hrun:=fin (some ⟨c,off,none⟩) m cap' k1 k2 l r e1 e2 c1 c2 aa hev;have hval:(if cap'=l.toNat then some (⟨c,off,none⟩:Addr) else(some (⟨c,off,none⟩:Addr)).map λb=>b.add (l.toNat*i.size))=some ⟨c,off+l.toNat*i.size,none⟩:=by
   by_cases e3:cap'=l.toNat
   ·have h0':l.toNat=0:=aa;rw[if_pos e3,h0',ap3,Nat.add_zero]
   ·rw[if_neg e3];simp[Addr.add_mid]
  rw[hval] at hrun;refine fG hrun (hvr _ _ λe3=>?_);have e4:l.toNat*i.size=0:=aa;rcases Nat.mul_eq_zero.1 e4 with e5|e5<;>omega
 ·rename_i b m hv;split at hr;rotate_left
  ·cases hr
  rename_i k1 l k2 r e1 e2;split at hr;rotate_left
  ·split at hr;rotate_left
   ·split at hr;rotate_left
    ·cases hr
    rename_i hc;obtain⟨c1,c2,c3⟩:=hc;cases hr;have h1:=gb hx hE hv;generalize hu:a.eval x=u at h1;cases h1 with
    |os0 hh a0=>omega
    |os hh hl=>
     rename_i c k;have hrun:=fin (some ⟨c,0,none⟩) m k k1 k2 l r e1 e2 aa aa aa hu;rw[show r.toNat-l.toNat=0 by omega] at hrun
     exact fG hrun (.fs0 _ _ _ _)
   rename_i hc;obtain⟨c1,c2,c3,c4⟩:=hc;cases hr;have h1:=gb hx hE hv;generalize hu:a.eval x=u at h1;cases h1 with
   |os0 hh a0=>omega
   |os hh hl=>
    rename_i c k;have hrun:=fin (some ⟨c,0,none⟩) m k k1 k2 l r e1 e2 aa c2 aa hu;have hval:(if k=l.toNat then some (⟨c,0,none⟩:Addr) else(some (⟨c,0,none⟩:Addr)).map λb=>b.add (l.toNat*i.size))=some ⟨c,l.toNat*i.size,none⟩:=by
     rw[if_neg aa];simp[Addr.add_mid]
    rw[hval] at hrun;refine fG hrun (.slo hh aa (λe3=>?_));rcases Nat.mul_eq_zero.1 e3 with e5|e5<;>omega
  rename_i hc;obtain⟨rfl,c2,c3⟩:=hc;cases hr;have h1:=gb hx hE hv;generalize hu:a.eval x=u at h1;cases h1 with
  |os0 hh a0=>
   have r0:r=0:=aa;subst r0;have hrun:=fin a0 0 0 k1 k2 0 0 e1 e2 aa aa aa hu;exact fG hrun (.os0 hh _)
  |os hh hl=>
   rename_i c k;have hrun:=fin (some ⟨c,0,none⟩) m k k1 k2 0 r e1 e2 aa aa aa hu;have hval:(if k=(0:Int).toNat then some (⟨c,0,none⟩:Addr) else(some (⟨c,0,none⟩:Addr)).map λb=>b.add ((0:Int).toNat*i.size))=some ⟨c,0,none⟩:=by
    by_cases e3:k=(0:Int).toNat
    ·rw[if_pos e3]
    ·rw[if_neg e3];simp[Addr.add_mid]
   rw[hval] at hrun;exact fG hrun (.os hh aa)
 ·rename_i hv;split at hr;rotate_left
  ·cases hr
  rename_i k1 l k2 r e1 e2;split at hr;rotate_left
  ·cases hr
  rename_i hc;obtain⟨rfl,rfl⟩:=hc;cases hr;have h1:=gb hx hE hv;generalize hu:a.eval x=u at h1;cases h1 with
  |sl0 a0=>
   exact fG (fin a0 0 0 k1 k2 0 0 e1 e2 aa aa aa hu) (.sl0 _)
 ·rename_i esz' m row hv;split at hr;rotate_left
  ·cases hr
  rename_i k1 l k2 r e1 e2;split at hr;rotate_left
  ·cases hr
  rename_i hc;obtain⟨rfl,c1,c2,c3⟩:=hc;cases hr;have h1:=gb hx hE hv;generalize hu:a.eval x=u at h1;cases h1 with
  |fs0 _ _ a0 cap=>
   have hl0:l=0:=aa;have hr0:r=0:=aa;subst hl0;subst hr0;exact fG (fin a0 0 cap k1 k2 0 0 e1 e2 aa aa aa hu) (.fs0 _ _ _ _)
  |fs hz hb hc1 hvr cap hcap=>
   rename_i c off cs;have hrun:=fin (some ⟨c,off,none⟩) m cap k1 k2 l r e1 e2 c1 c2 aa hu;by_cases hn:r.toNat-l.toNat=0
   ·rw[hn] at hrun ⊢;exact fG hrun (.fs0 _ _ _ _)
   ·have e3:¬cap=l.toNat:=aa;rw[if_neg e3] at hrun;simp only[Option.map_some,Addr.add_mid] at hrun;refine fG hrun (.fs (off:=off+l.toNat*i.size) hz ?_ (λp q hp hq=>hc1 _ _ aa hq) (λp q hp hq=>?_) _ aa)
    ·have:(l.toNat+(r.toNat-l.toNat))*i.size<=m*i.size:=apD _ aa;rw[Nat.add_mul] at this;omega
    ·have:=hvr (l.toNat+p) q aa hq;rw[Nat.add_mul,<-Nat.add_assoc off] at this;exact this
 ·cases hr
theorem anf{hi mx:Operand}{hi' mx':AX}{lo:Option Operand}{lo':Option AX}(ho:o.op= .slice t x lo (some hi) (some mx))(hx:fF x=some x')(hlo:oG lo=some lo')(hhi:fF hi=some hi')(hmx:fF mx=some mx')(ht:P.underlying t=some (.slice el))(hin:P.info? el=some i)
  (hE:ER σ e a) (hr:(AP.se x' lo' hi' mx').run e H=some (v,H')):qQ P σ a H H' o v:=by
 have fin:∀(ad:Option Addr) (m cap':Nat) (k1 k2 k3:IntKind),oT e (.n .i64 0) lo'=some (.n k1 0)->hi'.ev e=some (.n k2 0)->mx'.ev e=some (.n k3 0)->a.eval x= .slice ad m cap'->v= .sl0->H'=H->qQ P σ a H H' o v:=by
  rintro ad m cap' k1 k2 k3 e1 e2 e3 hev rfl rfl;have hh:=nu hhi hE e2;have hm:=nu hmx hE e3;have hlow:lo=none\/∃y k,lo=some y/\a.eval y= .int k 0:=by
   cases lo with
   |none=>exact .inl rfl
   |some y=>
    simp only[oG,apc] at hlo;obtain⟨y',hy,rfl⟩:=hlo;exact .inr ⟨y,_,rfl,nu hy hE e1⟩
  refine fG (u:= .slice ad 0 0) (λw=>?_) (.sl0 _);unfold execOp;rw[ho];rcases hlow with rfl|⟨y,k,rfl,hy⟩
  ·simp[Instr.sliceAt,Instr.slice,run_underlying ht w,hev,hh,hm,Instr.sliceBounds,Instr.sliceBound,asIntOf,sizeOf,typeInfo,hin]
  ·simp[Instr.sliceAt,Instr.slice,run_underlying ht w,hev,hh,hm,hy,Instr.sliceBounds,Instr.sliceBound,asIntOf,sizeOf,typeInfo,hin]
 have form:∀{s:AV},x'.ev e=some s->(s= .sl0\/(∃b o l c,s= .sl b o l c)\/(∃b n,s= .os b n)\/∃z n r,s= .fs z n r)->∃ad m c,a.eval x= .slice ad m c:=by
  intro s hs hc;have h1:=gb hx hE hs;generalize a.eval x=u at h1;rcases hc with rfl|⟨_,_,_,_,rfl⟩|⟨_,_,rfl⟩|⟨_,_,_,rfl⟩<;>cases h1<;>exact⟨_,_,_,rfl⟩
 simp only[AP.run,fW,aqn] at hr;split at hr
 ·rename_i hv e1 e2 e3;split at hr;rotate_left
  ·cases hr
  rename_i hc;obtain⟨rfl,rfl,rfl⟩:=hc;cases hr;obtain⟨ad,m,c,hev⟩:=form hv (.inr (.inl ⟨_,_,_,_,rfl⟩));exact aqA
 ·rename_i hv e1 e2 e3;split at hr;rotate_left
  ·cases hr
  rename_i hc;obtain⟨rfl,rfl,rfl⟩:=hc;cases hr;obtain⟨ad,m,c,hev⟩:=form hv (.inr (.inr (.inl ⟨_,_,rfl⟩)));exact aqA
 ·rename_i hv e1 e2 e3;split at hr;rotate_left
  ·cases hr
  rename_i hc;obtain⟨rfl,rfl,rfl⟩:=hc;cases hr;obtain⟨ad,m,c,hev⟩:=form hv (.inr (.inr (.inr ⟨_,_,_,rfl⟩)));exact aqA
 ·rename_i hv e1 e2 e3;split at hr;rotate_left
  ·cases hr
  rename_i hc;obtain⟨rfl,rfl,rfl⟩:=hc;cases hr;obtain⟨ad,m,c,hev⟩:=form hv (.inl rfl);exact aqA
 ·cases hr
theorem Z3{el':TypeId}(ho:o.op= .call {callee:= .builtin .append,args:= #[x,y],argTypes:= #[t,tx]})(hx:fF x=some x')(hy:fF y=some y')(ht:P.underlying t=some (.slice el))(htx:P.underlying tx=some (.slice el'))(hi:P.info? el=some i)(hz:i.zero=some z)(hzs:z.cells.size=i.size)
  (hE:ER σ e a) (h:HR B σ H w) (hr:(AP.app el i.size i.bytes x' y').run e H=some (v,H')):oo P B σ a H H' w o v:=by
 have fin:∀{u:Value} {w':World} {σ':Sg},(Builtin.append_ #[t,tx] o.type #[a.eval x,a.eval y]).run P w= .ok u w'->VR σ' v u->HR B σ' H' w'->Fr B σ σ' H H' w w'->σ'.fz=σ.fz->oo P B σ a H H' w o v:=by
  intro u w' σ' hrun h1 h2 h3 h4;refine⟨.value u,w',σ',?_,.inl ⟨u,rfl,h1⟩,h2,h3,h4⟩;unfold execOp;rw[ho];simp only[resolve,invoke,builtin,Sem.run_bind,Sem.run_pure,Result.andThen_ok,apU,List.map_cons,List.map_nil];rw[hrun];rfl
 have main:∀{s:AV} {src:ke} {n:Nat} {news:List Value},x'.ev e=some s->H.append el i.size i.bytes s src n=some (v,H')->Src P i.size tx (a.eval y) n news w->(∀j,j<n*i.size->VR σ (src.at j) (news.getD j undef))->oo P B σ a H H' w o v:=by
  intro s src n news hs ha hsrc hl;obtain⟨u,w',σ',g1,g2,g3,g4,g5⟩:=HR.append (P:=P) h ha (gb hx hE hs) hl (tx:=tx) (tyR:=o.type) ht hi hz rfl rfl hzs hsrc;exact fin g1 g2 g3 g4 g5
 have none':∀{s:AV},x'.ev e=some s->Src P i.size tx (a.eval y) 0 [] w->pm H el i.size i.bytes s=some (v,H')->oo P B σ a H H' w o v:=by
  intro s hs hsrc hr;unfold pm at hr;split at hr
  ·rename_i b o' l c;split at hr;rotate_left
   ·cases hr
   rename_i hle;cases hr;have h1:=gb hx hE hs;have form:∃ad c',a.eval x= .slice (some ad) l c'/\l<=c':=by
    generalize a.eval x=u at h1;cases h1 with
    |sl hh=>exact⟨_,_,rfl,hle⟩
    |slo hh hc h0=>exact⟨_,_,rfl,apj hle hc⟩
   obtain⟨ad,c',e1,e2⟩:=form;rw[e1] at h1;refine fin (u:= .slice (some ad) l c') (w':=w) (σ':=σ) ?_ h1 h (Fr.refl h) rfl;rw[e1];exact run_append_nothing w t tx _ el i ht hi (some ad) l c' e2 _ hsrc
  ·exact main hs hr hsrc (λj hj=>by rw[ap3] at hj;omega)
 have own:∀{s:AV} {b off n:Nat} {l:List AV},x'.ev e=some s->(0<n->∃c oc c',σ b=some (c,oc)/\a.eval y= .slice (some ⟨c,off,none⟩) n c')->0<n->H.loadN b off (n*i.size)=some l->l.all AV.one=true->H.append el i.size i.bytes s (.li l) n=some (v,H')->oo P B σ a H H' w o v:=by
  intro s b off n l hs hform hn hl hone ha;obtain⟨c,oc,c',hc,hev⟩:=hform hn;have hpos:0<n*i.size:=by
   unfold AH.append at ha;split at ha
   ·rename_i hq;exact Nat.mul_pos hn hq.2.1
   ·cases ha
  obtain⟨c2,o2,cs,k1,k2,k3,k4,k5⟩:=h.loadN _ _ _ hl hpos;rw[hc] at k1;cases k1;have hcl:cs.length=n*i.size:=by rw[<-k3.1];exact k4
  have hsrc:Src P i.size tx (a.eval y) n cs w:=by
   rw[hev];refine Src.ofSlice w htx ⟨c,off,none⟩ n c' cs hcl (λj u hj=>?_) (k3.one hone);have hjl:j<cs.length:=by
    by_cases hh:j<cs.length
    ·exact hh
    ·rw[apI aa] at hj;cases hj
   rw[Addr.add_lit,k5 j aa];exact hj
  refine main hs ha hsrc (λj hj=>?_);show VR σ (l[j]?.getD .u) _;rw[apk aa,Option.getD_some];exact k3.2 j _ (apk aa)
 simp only[AP.run,fW,aqn] at hr;split at hr
 ·rename_i s b off n cap hs hyv;have h2:=gb hy hE hyv;have form:∃c oc c',σ b=some (c,oc)/\a.eval y= .slice (some ⟨c,off,none⟩) n c':=by
   generalize a.eval y=u at h2;cases h2 with
   |sl hh=>exact⟨_,_,_,hh,rfl⟩
   |slo hh hc h0=>exact⟨_,_,_,hh,rfl⟩
  split at hr
  ·rename_i hn;subst hn;obtain⟨c,oc,c',hc,hev⟩:=form;refine none' hs ?_ hr;rw[hev];exact Src.ofSlice w htx _ 0 c' [] ae (λj u hj=>by simp at hj) (λu hu=>by cases hu)
  ·rename_i hn;split at hr;rotate_left
   ·cases hr
   rename_i l hl;split at hr;rotate_left
   ·cases hr
   rename_i hone;exact own hs (λ_=>form) aa hl hone hr
 ·rename_i s b n hs hyv;have h2:=gb hy hE hyv;generalize hu:a.eval y=u at h2;split at hr
  ·rename_i hn;subst hn;refine none' hs ?_ hr;rw[hu];cases h2 with
   |os0 hh a0=>
    cases a0 with
    |none=>exact Src.ofNil w htx 0
    |some a0=>exact Src.ofSlice w htx _ 0 _ [] ae (λj u hj=>by simp at hj) (λu hu=>by cases hu)
   |os hh hl=>exact Src.ofSlice w htx _ 0 _ [] ae (λj u hj=>by simp at hj) (λu hu=>by cases hu)
  ·rename_i hn;split at hr;rotate_left
   ·cases hr
   rename_i l hl;split at hr;rotate_left
   ·cases hr
   rename_i hone;refine own hs (λ_=>?_) aa hl hone hr;cases h2 with
   |os0 hh a0=>omega
   |os hh hl=>exact⟨_,_,_,hh,hu⟩
 ·rename_i s hs hyv;have h2:=gb hy hE hyv;generalize hu:a.eval y=u at h2;refine none' hs ?_ hr;rw[hu];cases h2 with
  |sl0 a0=>
   cases a0 with
   |none=>exact Src.ofNil w htx 0
   |some a0=>exact Src.ofSlice w htx _ 0 _ [] ae (λj u hj=>by simp at hj) (λu hu=>by cases hu)
 ·rename_i s esz' n row hs hyv;split at hr;rotate_left
  ·cases hr
  rename_i hez;subst hez;have h2:=gb hy hE hyv;generalize hu:a.eval y=u at h2;cases h2 with
  |fs0 _ _ a0 cap=>
   refine main (news:=[]) hs hr ?_ (λj hj=>by rw[ap3] at hj;omega)
   rw[hu];cases a0 with
   |none=>exact Src.ofNil w htx _
   |some a0=>exact Src.ofSlice w htx _ 0 _ [] ae (λj u hj=>by simp at hj) (λu hu=>by cases hu)
  |fs hz hb hc1 hvr cap hcap=>
   rename_i c off cs;obtain⟨cs',t',fr',m1,m2,_⟩:=h.frz c cs hz;have hpos:0<i.size:=by
    unfold AH.append at hr;split at hr
    ·rename_i hq;exact hq.2.1
    ·cases hr
   have hlen:((cs.toList.drop off).take (n*i.size)).length=n*i.size:=by rw[apL,aqa,apX];omega
   have hat:∀j,j<n*i.size->((cs.toList.drop off).take (n*i.size))[j]? =some (cs.getD (off+j) undef):=λj hj=>by
    rw[ap6 hj,aqf,apC,apA,ap7 aa];rfl
   have hdm:∀j,j<n*i.size->j / i.size<n/\j%i.size<i.size/\off+j / i.size*i.size+j%i.size=off+j:=λj hj=>by
    refine⟨Nat.div_lt_of_lt_mul (by rw[apT];exact hj),Nat.mod_lt _ hpos,?_⟩
    have:=Nat.div_add_mod j i.size;rw[apT] at this;omega
   refine main hs hr (news:=(cs.toList.drop off).take (n*i.size)) ?_ (λj hj=>?_)
   ·rw[hu];refine Src.ofSlice w htx _ n cap _ hlen (λj u hj=>?_) (λu hm=>?_)
    ·have hjl:j<n*i.size:=by
      by_cases hh:j<n*i.size
      ·exact hh
      ·rw[apI aa] at hj;cases hj
     rw[Addr.add_lit];simp only[World.cell?,m1];show cs'[off+j]? =some u;rw[m2.2 _ aa,<-hj,ap6 hjl,aqf,apC]
    ·obtain⟨j,hj,rfl⟩:=List.getElem_of_mem hm;rw[hlen] at hj;obtain⟨q1,q2,q3⟩:=hdm j hj;have e1:=hat j hj;rw[apk aa,apn] at e1;rw[e1,<-q3];have hc2:=hc1 _ _ q1 q2;simp only[AV.cell,apq] at hc2;exact AV.one_cell (hvr _ _ q1 q2) hc2.2
   ·obtain⟨q1,q2,q3⟩:=hdm j hj;show VR σ (row (j / i.size) (j%i.size)) _;rw[apd,hat j hj,Option.getD_some,<-q3];exact(hvr _ _ q1 q2).mono σ.bare_le
 ·cases hr
theorem anj{m:Nat}{d:TypeDesc}(ho:o.op= .index t x y)(hx:fF x=some x')(hy:fF y=some y')(ht:P.underlying t=some (.array m el))(hi:P.info? el=some i)(hd:P.underlying el=some d)
  (hE:ER σ e a) (hr:(AP.ix m i.size d.isRow x' y').run e H=some (v,H')):qQ P σ a H H' o v:=by
 simp only[AP.run,fW,aqn] at hr;split at hr;rotate_left
 ·cases hr
 rename_i l k j hv hj;split at hr;rotate_left
 ·cases hr
 rename_i hc;obtain⟨c1,c2,c3⟩:=hc;have h1:=gb hx hE hv;obtain⟨cs,hev,hsz,hvr⟩:∃cs,a.eval x= .agg cs/\l.length=cs.size/\gn σ l cs.toList:=by
  generalize a.eval x=u at h1;exact nF h1
 have hag:∀w,(isAgg el).run P w= .ok d.isRow w:=λw=>by
  unfold isAgg;rw[Sem.run_bind,run_underlying hd w];cases d<;>rfl
 have hle:j.toNat*i.size+i.size<=m*i.size:=by
  have:=apD i.size (show j.toNat+1<=m by omega)
  rwa [apM] at this
 split at hr
 ·rename_i hrow;cases hr;have hv2:VR σ (.agg ((l.drop (j.toNat*i.size)).take i.size)) (.agg (cs.extract (j.toNat*i.size) (j.toNat*i.size+i.size))):=by
   refine .agg (by simp;omega) (λq u hq=>?_)
   have hqs:q<i.size:=by
    by_cases hh:q<i.size
    ·exact hh
    ·rw[apI (by simp;omega)] at hq;cases hq
   rw[ap6 hqs,aqf] at hq;have:=hvr.2 _ u hq;rw[apd] at this;rw[apA,Array.getElem?_extract];rw[if_pos aa];simpa using this
  refine fG (λw=>?_) hv2;unfold execOp;rw[ho];simp only[hev,nu hy hE hj,Sem.run_bind,Instr.index,asIntOf,run_underlying ht w,Result.andThen_ok,Sem.run_pure];simp[sizeOf,typeInfo,hi,c1,c2,part,hag,hrow]
 ·rename_i hrow;simp only[apc] at hr;obtain⟨v',hl,he⟩:=hr;cases he;have:=hvr.2 _ _ hl;rw[apd] at this;have hlt:j.toNat*i.size<cs.size:=by
   by_cases hh:j.toNat*i.size<l.length
   ·omega
   ·rw[apI aa] at hl;cases hl
  have hg:cs[j.toNat*i.size]? =some (cs.toList[j.toNat*i.size]?.getD undef):=by simp[hlt]
  generalize cs.toList[j.toNat*i.size]?.getD undef=u0 at this hg;refine fG (λw=>?_) this;unfold execOp;rw[ho];simp only[hev,nu hy hE hj,Sem.run_bind,Instr.index,asIntOf,run_underlying ht w,Result.andThen_ok,Sem.run_pure];simp[sizeOf,typeInfo,hi,c1,c2,part,hag,hrow,hg]
theorem Db{P:Program}(w:World){tyR e:TypeId}{k kk:IntKind}(ht:P.underlying t=some (.slice e))(htx:P.underlying tx=some (.int k))(hi:P.info? e=some i)(hz:i.zero=some z)(a0:Option Addr)(n:Nat)(h0:0<n)(h1:n<=16777216)(hb:n*i.bytes<=140737488355328)(hs:0<i.size):
  (Builtin.append_ #[t,tx] tyR #[.slice a0 0 0,.int kk (n:Int)]).run P w= .ok (.slice (some ⟨w.heap.size,0,none⟩) n (grownCap w n 0 e)) (w.drew.alloc (.cells (Builtin.zeroCells z.cells n++Builtin.zeroCells z.cells (grownCap w n 0 e-n)) e)):=by
 have hw:IntKind.i64.wrap (n:Int)=n:=by
  have:∀x:Int,-9223372036854775808<=x/\x<=9223372036854775807->IntKind.wrap .i64 x=x:=λx h=>by
   unfold IntKind.wrap;simp[IntKind.signed,IntKind.bits];omega
  exact this _ aa
 have hneg:¬((n:Int)<0):=aa;have hneg':¬(n<0):=aa;have hbi:¬((281474976710656:Int)<(n:Int)*(i.bytes:Int)):=by
  have:=Int.ofNat_le.2 hb;rw[Int.natCast_mul] at this;omega
 have hns:¬(n*i.size=0):=by
  have:=Nat.mul_pos h0 hs;omega
 have hmax:¬(9223372036854775807<(n:Int)):=aa;have hcap:Builtin.nextslicecap n 0=n:=by
  unfold Builtin.nextslicecap;rw[if_pos aa]
 have hbn:¬(281474976710656<n*i.bytes):=aa;have hfc:∀w',(Builtin.firstCells i.size 0 (.slice a0 0 0)).run P w'= .ok #[] w':=λw'=>by
  cases a0 with
  |none=>exact run_firstCells_none _ _ _ _ _
  |some ad=>exact run_firstCells_some _ _ _ _ _ _ [] ae (λj v hj=>by simp at hj)
 have hne:n≠0:=aa;have hai:∀w',(asIntOf (.int kk (n:Int)):Sem (IntKind×Int)).run P w'= .ok (kk,(n:Int)) w':=λw'=>rfl;simp[Builtin.append_,hai,Result.andThen,run_underlying ht,run_underlying htx,sizeOf,typeInfo,zeroValue,hi,hz,asInt,hw,hneg,hbi,hns,hmax,hcap,hbn,Question.forced,hfc,newRow,grownCap,hne]
theorem Z4{k':IntKind}(ho:o.op= .call {callee:= .builtin .append,args:= #[x,y],argTypes:= #[t,tx]})(hx:fF x=some x')(hy:fF y=some y')(ht:P.underlying t=some (.slice el))(htx:P.underlying tx=some (.int k'))(hi:P.info? el=some i)(hz:i.zero=some z)
  (hl:z.cells.toList.mapM uT=some l) (hE:ER σ e a) (h:HR B σ H w) (hr:(AP.apm el i.size i.bytes l x' y').run e H=some (v,H')):oo P B σ a H H' w o v:=by
 simp only[AP.run,fW,aqn] at hr;split at hr;rotate_left
 ·cases hr
 rename_i m hm hcv;split at hr;rotate_left
 ·cases hr
 rename_i hc;obtain⟨c1,c2,c4,c5,c6,c7,c8⟩:=hc;cases hr;have hzl:gn σ l z.cells.toList:=nB hl;have hzs:z.cells.size=i.size:=by exact(by simpa using hzl.1:l.length=z.cells.size).symm.trans c6
 have h1:=gb hx hE hm;generalize hu:a.eval x=u at h1;obtain⟨a0,rfl⟩:∃a0,u= .slice a0 0 0:=by cases h1;exact⟨_,rfl⟩
 obtain⟨n,rfl⟩:∃n:Nat,m=n:=⟨m.toNat,aa⟩;rw[apw] at*;have hrun:=Db (P:=P) w (t:=t) (tx:=tx) (tyR:=o.type) (e:=el) (i:=i) (z:=z) (kk:= .i64) ht htx hi hz a0 n aa aa (by rw[apT];exact c5) c7
 have hge:=grownCap_ge w n 0 el;have hcm:=grownCap_le_maxLen w n 0 el (by unfold maxLen;omega)
 have hle:σ.le (σ.ext H.next (w.heap.size,some (grownCap w n 0 el))):=Sg.le_ext (h.new _ (bL _))
 have hsz:(Builtin.zeroCells z.cells n++Builtin.zeroCells z.cells (grownCap w n 0 el-n)).size=grownCap w n 0 el*i.size:=by
  rw[Array.size_append,size_zeroCells,size_zeroCells,hzs,<-Nat.add_mul];congr 1;omega
 have hcell:∀j,j<n*i.size->VR σ (l[j%i.size]?.getD .u) ((Builtin.zeroCells z.cells n++Builtin.zeroCells z.cells (grownCap w n 0 el-n)).getD j undef):=λj hj=>by
  have hmod:j%i.size<i.size:=Nat.mod_lt _ c7;have hjs:j<(Builtin.zeroCells z.cells n).size:=by rw[size_zeroCells,hzs];exact hj
  have e1:(Builtin.zeroCells z.cells n++Builtin.zeroCells z.cells (grownCap w n 0 el-n)).getD j undef=z.cells[j%i.size]'(by rw[hzs];exact hmod):=by
   rw[apA,Array.getElem?_append_left hjs,ap7 hjs,Option.getD_some];simp[Builtin.zeroCells,hzs,hmod]
  rw[e1];have hml:j%i.size<l.length:=by rw[c6];exact hmod
  rw[apk hml,Option.getD_some];have:=hzl.2 (j%i.size) _ (apk hml);rw[apd,apC,ap7 (by rw[hzs];exact hmod)] at this
  exact this
 have hd:∀c,c<w.heap.size->(w.drew.alloc (.cells (Builtin.zeroCells z.cells n++Builtin.zeroCells z.cells (grownCap w n 0 el-n)) el)).heap[c]? =w.heap[c]? :=λc hc=>Below.heap_alloc w.drew _ c hc;refine⟨.value (.slice (some ⟨w.heap.size,0,none⟩) n (grownCap w n 0 el)),w.drew.alloc (.cells (Builtin.zeroCells z.cells n++Builtin.zeroCells z.cells (grownCap w n 0 el-n)) el),σ.ext H.next (w.heap.size,some (grownCap w n 0 el)),?_,.inl ⟨_,rfl,.os (Sg.ext_self _ _ _) hge⟩,?_,?_,rfl⟩
 ·unfold execOp;rw[ho];simp only[resolve,invoke,builtin,Sem.run_bind,Sem.run_pure,Result.andThen_ok,apU,List.map_cons,List.map_nil];rw[hu,nu hy hE hcv,hrun];rfl
 ·refine h.place rfl (λb y hy=>⟨hy,λc' o' hs=>?_⟩) c1 rfl h.hB (heap_alloc_new w.drew _) (by simp;have:=h.hB;omega) ⟨?_,λe=>(by cases e),λk' hk'=>?_,rfl,λj hj=>(hcell j hj).mono hle⟩ c8
   (λc' fs hf=>⟨λ_=>hd _ (h.fzlt hf),λe=>by have:=h.fzlt hf;omega⟩) (h.ob.keep λr hr _=>hd r hr)
  ·obtain⟨cs1,g2,g3,_⟩:=h.blk b y c' o' hy hs;have hlt:c'<w.heap.size:=(apo.1 g3).1;exact⟨aa,hd _ hlt⟩
  ·rw[hsz];exact apD _ hge
  ·cases hk';exact⟨Nat.le_of_eq hsz.symm,hcm⟩
 ·refine⟨λb hb=>Sg.ext_ne _ _ aa,hle,Nat.le_succ _,bL _,⟨rfl,rfl,rfl,ae,λk hk=>hd k (by have:=h.hB;omega)⟩,λc hc=> .inl (hd c hc),λb c o hb hs hc=>?_⟩
  by_cases e:b=H.next
  ·exact aqw
  ·exact aqx
end
end
def vG(P:Program)(t:TypeId):Option ((Nat->Option (Nat×Nat))×Value):=
 match P.info? t,P.underlying t with
 |some it,some (.array _ el)=>match it.zero,P.info? el with
  |some z,some ie=>some (λi=>some (i*ie.size,ie.size),z)
  |_,_=>none
 |some it,some (.struct fields)=>match it.zero,fields.toList.mapM (λf=>(P.info? f.type).map λi=>(f.offset,i.size)) with
  |some z,some places=>some ((places.toArray[·]?),z)
  |_,_=>none
 |_,_=>none
theorem zo{P:Program}{t:TypeId}{place:Nat->Option (Nat×Nat)}{z:Value}(h:vG P t=some (place,z))(q:List (Nat×Value)):P.built t q=Instr.fill place z.cells q:=by
 unfold vG at h;unfold Program.built;split at h
 ·rename_i it n el e1 e2;split at h
  ·rename_i z' ie e3 e4;cases h;simp only[e1,e2,e3,e4]
  ·cases h
 ·rename_i it fs e1 e2;split at h
  ·rename_i z' places e3 e4;cases h;simp only[e1,e2,e3,e4]
  ·cases h
 ·cases h
def AP.kind:AP->Nat
 |.ld .. =>1
 |.st .. | .clr .. | .al .. | .bx .. | .bs .. | .ms .. | .app .. | .apm .. =>0
 |_=>2
def F0(op:BinOp)(s:Option SH)(x y:AX):AP:=match op,s with
 |.eql,some .b=> .eq false .b x y
 |.neq,some .b=> .eq true .b x y
 |.eql,some .p=> .eq false .p x y
 |.neq,some .p=> .eq true .p x y
 |.eql,some (.st l)=> .eq false (.st l) x y
 |.neq,some (.st l)=> .eq true (.st l) x y
 |op,_=> .bin op x y
def rB(P:Program):Op->Option AP
 |.move x=>(fF x).map .mv
 |.assign x=>(fF x).map .mv
 |.pick c x y=>(fF c).bind λc=>(fF x).bind λx=>(fF y).map λy=> .pick c x y
 |.load t x=>(fF x).bind λx=>(P.info? t).bind λi=>(P.underlying t).map λd=> .ld i.size d.isRow x
 |.store t x y=>(fF x).bind λx=>(fF y).bind λy=>(P.info? t).map λi=> .st i.size x y
 |.nilCheck x=>(fF x).map .nc
 |.binOp op t x y _=>(fF x).bind λx=>(fF y).map λy=>F0 op (sR P 9 t) x y
 |.unOp op _ x=>(fF x).map (.un op ·)
 |.convert s d x=>match P.underlying s,P.underlying d with
  |some _,some (.int k)=>(fF x).map (.cvi k ·)
  |_,_=>none
 |.fieldAddr s x f=>match P.underlying s with
  |some (.struct fs)=>(fs[f]?).bind λfl=>(P.info? fl.type).bind λi=>if i.size≠0 then(fF x).map (.fa fl.offset ·) else none
  |_=>none
 |.field s x f=>match P.underlying s with
  |some (.struct fs)=>(fs[f]?).bind λfl=>(P.info? fl.type).bind λi=>(P.underlying fl.type).bind λd=>(fF x).map (.fd fl.offset i.size d.isRow ·)
  |_=>none
 |.indexAddr t x y=>match P.underlying t with
  |some (.slice el)=>(P.info? el).bind λi=>(fF x).bind λx=>(fF y).map λy=> .ia i.size x y
  |some (.array m el)=>(P.info? el).bind λi=>(fF x).bind λx=>(fF y).map λy=> .iaa m i.size x y
  |_=>none
 |.extract x i=>(fF x).map (.ext i ·)
 |.makeFunc (.func g) l1 l2=>(l1.toList.mapM fF).bind λa=>(l2.toList.mapM fF).map λb=> .mf g a b
 |.alloc t=>(P.info? t).bind λi=>i.zero.bind λz=>(z.cells.toList.mapM uT).map λl=> .al t l
 |.box t x=>(fF x).map (.bx t 0 ·)
 |.build t parts=>(vG P t).bind λ(place,z)=>(lw place parts.toList).bind λps=>(z.cells.toList.mapM uT).map λl=> .bd l ps
 |.buildSlice t n parts=>match P.underlying t with
  |some (.slice el)=>(P.info? el).bind λi=>i.zero.bind λz=>(lw (λj=>some (j*i.size,i.size)) parts.toList).bind λps=>((madeCells z.cells (n*i.size)).toList.mapM uT).map λl=> .bs el i.size n l ps
  |_=>none
 |.makeSlice t x y=>match P.underlying t with
  |some (.slice el)=>(fF x).bind λx=>(fF y).bind λy=>(P.info? el).bind λi=>i.zero.bind λz=>(z.cells.toList.mapM uT).map λl=> .ms el i.size i.bytes l x y
  |_=>none
 |.slice t x lo hi none=>match P.underlying t with
  |some (.slice el)=>(fF x).bind λx=>(oG lo).bind λlo=>(oG hi).bind λhi=>(P.info? el).bind λi=>if 0<i.size then some (.sl i.size x lo hi) else none
  |_=>none
 |.slice t x lo (some hi) (some mx)=>match P.underlying t with
  |some (.slice el)=>(P.info? el).bind λ_=>(fF x).bind λx=>(oG lo).bind λlo=>(fF hi).bind λhi=>(fF mx).map λmx=> .se x lo hi mx
  |_=>none
 |.index t x y=>match P.underlying t with
  |some (.array m el)=>(P.info? el).bind λi=>(P.underlying el).bind λd=>(fF x).bind λx=>(fF y).map λy=> .ix m i.size d.isRow x y
  |some .string=>(fF x).bind λx=>(fF y).map λy=> .sx x y
  |_=>none
 |.call c=>match c.callee,c.args.toList,c.argTypes.toList with
  |.builtin .cap,[x],[t]=>match P.underlying t with
   |some (.slice _)=>(fF x).map .cpc
   |_=>none
  |.builtin .clear,[x],[t]=>match P.underlying t with
   |some (.slice el)=>(fF x).bind λx=>(P.info? el).bind λi=>i.zero.bind λz=>(z.cells.toList.mapM uT).bind λl=>if l.all AV.one=true then some (.clr l x) else none
   |_=>none
  |.builtin .len,[x],[t]=>match P.underlying t with
   |some (.slice _)=>(fF x).map .len
   |some .string=>(fF x).map .lns
   |_=>none
  |.builtin .append,[x,y],[t,t']=>match P.underlying t,P.underlying t' with
   |some (.slice el),some (.slice _)=>(fF x).bind λx=>(fF y).bind λy=>(P.info? el).bind λi=>i.zero.bind λz=>if z.cells.size=i.size then some (.app el i.size i.bytes x y) else none
   |some (.slice el),some (.int _)=>(fF x).bind λx=>(fF y).bind λy=>(P.info? el).bind λi=>i.zero.bind λz=>(z.cells.toList.mapM uT).map λl=> .apm el i.size i.bytes l x y
   |_,_=>none
  |_,_,_=>none
 |_=>none
section
variable {P:Program} {B:Nat} {σ:Sg} {e:Tr AV} {a:Act} {H H':AH} {w:World} {o:Oper} {v:AV}
theorem ZV{x:Operand}{t:TypeId}{x':AX}(ho:o.op= .call {callee:= .builtin .len,args:= #[x],argTypes:= #[t]})(hx:fF x=some x')(ht:P.underlying t=some .string)(hE:ER σ e a)(hr:(AP.lns x').run e H=some (v,H')):qQ P σ a H H' o v:=by
 simp only[AP.run,fW,aqn] at hr;split at hr;rotate_left
 ·cases hr
 rename_i b hv;cases hr;have h1:=gb hx hE hv;generalize hu:a.eval x=u at h1;cases h1;refine fG (λw=>?_) (.n .i64 b.size);have hb:(Builtin.len_ #[t] o.type #[Value.string b]).run P w= .ok (.int .i64 b.size) w:=by
  simp[Builtin.len_,run_underlying ht,goInt,Result.andThen]
 unfold execOp;rw[ho];simp only[resolve,invoke,builtin,Sem.run_bind,Sem.run_pure,Result.andThen_ok,apU,List.map_cons,List.map_nil];rw[hu];simp only[hb,Result.andThen_ok]
theorem anb{x y:Operand}{t:TypeId}{x' y':AX}(ho:o.op= .index t x y)(hx:fF x=some x')(hy:fF y=some y')(ht:P.underlying t=some .string)(hE:ER σ e a)(hr:(AP.sx x' y').run e H=some (v,H')):qQ P σ a H H' o v:=by
 simp only[AP.run,fW,aqn] at hr;split at hr;rotate_left
 ·cases hr
 rename_i b k j hv hj;split at hr;rotate_left
 ·cases hr
 rename_i h0;obtain⟨c,hc,he⟩:=apc.1 hr;cases he;have h1:=gb hx hE hv;generalize hu:a.eval x=u at h1;cases h1;have h2:=gb hy hE hj;generalize hw:a.eval y=u2 at h2;cases h2;refine fG (λw=>?_) (.n .u8 c.toNat);have hb:(Instr.index t (.string b) (.int k j)).run P w= .ok (.int .u8 c.toNat) w:=by
  simp[Instr.index,run_underlying ht,asIntOf,Result.andThen,if_pos h0,hc]
 unfold execOp;rw[ho];simp only[Sem.run_bind,Sem.run_pure,hu,hw,hb,Result.andThen_ok]
theorem z7{ap:AP}(hc:rB P o.op=some ap)(hE:ER σ e a)(h:HR B σ H w)(hr:ap.run e H=some (v,H')):(ap.kind=2/\qQ P σ a H H' o v)\/(ap.kind=1/\Lod P σ e a ap H H' w o v)\/(ap.kind=0/\oo P B σ a H H' w o v):=by
 unfold rB at hc;split at hc
 ·rename_i x ho;obtain⟨x',hx,rfl⟩:=apc.1 hc;exact .inl ⟨rfl,MR (.inl ho) hx hE hr⟩
 ·rename_i x ho;obtain⟨x',hx,rfl⟩:=apc.1 hc;exact .inl ⟨rfl,MR (.inr ho) hx hE hr⟩
 ·rename_i c x y ho;obtain⟨c',h1,hc⟩:=bM.1 hc;obtain⟨x',h2,hc⟩:=bM.1 hc;obtain⟨y',h3,rfl⟩:=apc.1 hc;exact .inl ⟨rfl,Lr ho h1 h2 h3 hE hr⟩
 ·rename_i t x ho;obtain⟨x',h1,hc⟩:=bM.1 hc;obtain⟨i,h2,hc⟩:=bM.1 hc;obtain⟨d,h3,rfl⟩:=apc.1 hc;exact .inr (.inl ⟨rfl,MS ho h1 h2 h3 hE h hr⟩)
 ·rename_i t x y ho;obtain⟨x',h1,hc⟩:=bM.1 hc;obtain⟨y',h2,hc⟩:=bM.1 hc;obtain⟨i,h3,rfl⟩:=apc.1 hc;exact .inr (.inr ⟨rfl,anc ho h1 h2 h3 hE h hr⟩)
 ·rename_i x ho;obtain⟨x',hx,rfl⟩:=apc.1 hc;exact .inl ⟨rfl,ang ho hx hE hr⟩
 ·rename_i op t x y t' ho;obtain⟨x',h1,hc⟩:=bM.1 hc;obtain⟨y',h2,rfl⟩:=apc.1 hc;refine .inl ⟨by unfold F0;split<;>rfl,?_⟩
  generalize hs:sR P 9 t=s at hr;unfold F0 at hr;split at hr
  ·exact dM
  ·exact dN
  ·exact dM
  ·exact dN
  ·exact dM
  ·exact dN
  ·exact Z2 ho h1 h2 hE hr
 ·rename_i op t x ho;obtain⟨x',hx,rfl⟩:=apc.1 hc;exact .inl ⟨rfl,ana ho hx hE hr⟩
 ·rename_i s d x ho;split at hc
  ·rename_i ds k e1 e2;obtain⟨x',hx,rfl⟩:=apc.1 hc;exact .inl ⟨rfl,ZZ ho hx e1 e2 hE hr⟩
  ·cases hc
 ·rename_i s x f ho;split at hc
  ·rename_i fs e1;obtain⟨fl,e2,hc⟩:=bM.1 hc;obtain⟨i,e3,hc⟩:=bM.1 hc;split at hc
   ·rename_i h0;obtain⟨x',hx,rfl⟩:=apc.1 hc;exact .inl ⟨rfl,anm ho hx e1 e2 e3 h0 hE hr⟩
   ·cases hc
  ·cases hc
 ·rename_i s x f ho;split at hc
  ·rename_i fs e1;obtain⟨fl,e2,hc⟩:=bM.1 hc;obtain⟨i,e3,hc⟩:=bM.1 hc;obtain⟨d,e4,hc⟩:=bM.1 hc;obtain⟨x',hx,rfl⟩:=apc.1 hc;exact .inl ⟨rfl,anl ho hx e1 e2 e3 e4 hE hr⟩
  ·cases hc
 ·rename_i t x y ho;split at hc
  ·rename_i el e1;obtain⟨i,e2,hc⟩:=bM.1 hc;obtain⟨x',hx,hc⟩:=bM.1 hc;obtain⟨y',hy,rfl⟩:=apc.1 hc;exact .inl ⟨rfl,ank ho hx hy e1 e2 hE hr⟩
  ·rename_i m el e1;obtain⟨i,e2,hc⟩:=bM.1 hc;obtain⟨x',hx,hc⟩:=bM.1 hc;obtain⟨y',hy,rfl⟩:=apc.1 hc;exact .inl ⟨rfl,ZX ho hx hy e1 e2 hE hr⟩
  ·cases hc
 ·rename_i x i ho;obtain⟨x',hx,rfl⟩:=apc.1 hc;exact .inl ⟨rfl,ZY ho hx hE hr⟩
 ·rename_i g l1 l2 ho;obtain⟨a1,h1,hc⟩:=bM.1 hc;obtain⟨a2,h2,rfl⟩:=apc.1 hc;exact .inl ⟨rfl,ani ho h1 h2 hE hr⟩
 ·rename_i t ho;obtain⟨i,e1,hc⟩:=bM.1 hc;obtain⟨z,e2,hc⟩:=bM.1 hc;obtain⟨l,e3,rfl⟩:=apc.1 hc;exact .inr (.inr ⟨rfl,anq ho e1 e2 e3 h hr⟩)
 ·rename_i t x ho;obtain⟨x',hx,rfl⟩:=apc.1 hc;exact .inr (.inr ⟨rfl,ann ho hx hE h hr⟩)
 ·rename_i t parts ho;obtain⟨⟨place,z⟩,e1,hc⟩:=bM.1 hc;obtain⟨ps,e2,hc⟩:=bM.1 hc;obtain⟨l,e3,rfl⟩:=apc.1 hc;exact .inl ⟨rfl,anp ho (zo e1) e2 e3 hE hr⟩
 ·rename_i t n parts ho;split at hc
  ·rename_i el e1;obtain⟨i,e2,hc⟩:=bM.1 hc;obtain⟨z,e3,hc⟩:=bM.1 hc;obtain⟨ps,e4,hc⟩:=bM.1 hc;obtain⟨l,e5,rfl⟩:=apc.1 hc;exact .inr (.inr ⟨rfl,ano ho e1 e2 e3 e4 e5 hE h hr⟩)
  ·cases hc
 ·rename_i t x y ho;split at hc
  ·rename_i el e1;obtain⟨x',hx,hc⟩:=bM.1 hc;obtain⟨y',hy,hc⟩:=bM.1 hc;obtain⟨i,e2,hc⟩:=bM.1 hc;obtain⟨z,e3,hc⟩:=bM.1 hc;obtain⟨l,e5,rfl⟩:=apc.1 hc;exact .inr (.inr ⟨rfl,anh ho hx hy e1 e2 e3 e5 hE h hr⟩)
  ·cases hc
 ·rename_i t x lo hi ho;split at hc
  ·rename_i el e1;obtain⟨x',hx,hc⟩:=bM.1 hc;obtain⟨lo',e2,hc⟩:=bM.1 hc;obtain⟨hi',e3,hc⟩:=bM.1 hc;obtain⟨i,e4,hc⟩:=bM.1 hc;split at hc
   ·rename_i h0;cases hc;exact .inl ⟨rfl,ane ho hx e2 e3 e1 e4 h0 hE hr⟩
   ·cases hc
  ·cases hc
 ·rename_i t x lo hi mx ho;split at hc
  ·rename_i el e1;obtain⟨i,e4,hc⟩:=bM.1 hc;obtain⟨x',hx,hc⟩:=bM.1 hc;obtain⟨lo',e2,hc⟩:=bM.1 hc;obtain⟨hi',e3,hc⟩:=bM.1 hc;obtain⟨mx',e5,rfl⟩:=apc.1 hc;exact .inl ⟨rfl,anf ho hx e2 e3 e5 e1 e4 hE hr⟩
  ·cases hc
 ·rename_i t x y ho;split at hc
  ·rename_i m el e1;obtain⟨i,e2,hc⟩:=bM.1 hc;obtain⟨d,e3,hc⟩:=bM.1 hc;obtain⟨x',hx,hc⟩:=bM.1 hc;obtain⟨y',hy,rfl⟩:=apc.1 hc;exact .inl ⟨rfl,anj ho hx hy e1 e2 e3 hE hr⟩
  ·rename_i e1;obtain⟨x',hx,hc⟩:=bM.1 hc;obtain⟨y',hy,rfl⟩:=apc.1 hc;exact .inl ⟨rfl,anb ho hx hy e1 hE hr⟩
  ·cases hc
 ·rename_i c ho;obtain⟨cal,args,ats⟩:=c;simp only at hc;split at hc
  ·rename_i x t e2 e3;have e2':args= #[x]:=Array.ext' e2;have e3':ats= #[t]:=Array.ext' e3;subst e2';subst e3';split at hc
   ·rename_i el e4;obtain⟨x',hx,rfl⟩:=apc.1 hc;exact .inl ⟨rfl,Z1 ho hx e4 hE hr⟩
   ·cases hc
  ·rename_i x t e2 e3;have e2':args= #[x]:=Array.ext' e2;have e3':ats= #[t]:=Array.ext' e3;subst e2';subst e3';split at hc
   ·rename_i el e4;obtain⟨x',hx,hc⟩:=bM.1 hc;obtain⟨i,e5,hc⟩:=bM.1 hc;obtain⟨z,e6,hc⟩:=bM.1 hc;obtain⟨l,e7,hc⟩:=bM.1 hc;split at hc
    ·rename_i q1;cases hc;exact .inr (.inr ⟨rfl,Z0 ho hx e4 e5 e6 e7 q1 hE h hr⟩)
    ·cases hc
   ·cases hc
  ·rename_i x t e2 e3;have e2':args= #[x]:=Array.ext' e2;have e3':ats= #[t]:=Array.ext' e3;subst e2';subst e3';split at hc
   ·rename_i el e4;obtain⟨x',hx,rfl⟩:=apc.1 hc;exact .inl ⟨rfl,ZW ho hx e4 hE hr⟩
   ·rename_i e4;obtain⟨x',hx,rfl⟩:=apc.1 hc;exact .inl ⟨rfl,ZV ho hx e4 hE hr⟩
   ·cases hc
  ·rename_i x y t t' e2 e3;have e2':args= #[x,y]:=Array.ext' e2;have e3':ats= #[t,t']:=Array.ext' e3;subst e2';subst e3';split at hc
   ·rename_i el el' e4 e4';obtain⟨x',hx,hc⟩:=bM.1 hc;obtain⟨y',hy,hc⟩:=bM.1 hc;obtain⟨i,e5,hc⟩:=bM.1 hc;obtain⟨z,e6,hc⟩:=bM.1 hc;split at hc
    ·rename_i q1;cases hc;exact .inr (.inr ⟨rfl,Z3 ho hx hy e4 e4' e5 e6 q1 hE h hr⟩)
    ·cases hc
   ·rename_i el k' e4 e4';obtain⟨x',hx,hc⟩:=bM.1 hc;obtain⟨y',hy,hc⟩:=bM.1 hc;obtain⟨i,e5,hc⟩:=bM.1 hc;obtain⟨z,e6,hc⟩:=bM.1 hc;obtain⟨l,e7,rfl⟩:=apc.1 hc;exact .inr (.inr ⟨rfl,Z4 ho hx hy e4 e4' e5 e6 e7 hE h hr⟩)
   ·cases hc
  ·cases hc
 ·cases hc
theorem an1{ap:AP}(hc:rB P o.op=some ap)(hE:ER σ e a)(h:HR B σ H w)(hr:ap.run e H=some (v,H')):oo P B σ a H H' w o v:=by
 rcases z7 hc hE h hr with⟨_,h1⟩|⟨_,h1⟩|⟨_,h1⟩
 ·exact h1.same h
 ·exact h1.same h
 ·exact h1
theorem tY{ap:AP}(hc:rB P o.op=some ap)(hk:ap.kind=2)(hE:ER σ e a)(h:HR B σ H w)(hr:ap.run e H=some (v,H')):qQ P σ a H H' o v:=by
 rcases z7 hc hE h hr with⟨_,h1⟩|⟨hk',h1⟩|⟨hk',h1⟩
 ·exact h1
 ·omega
 ·omega
theorem wa{ap:AP}(hc:rB P o.op=some ap)(hk:ap.kind=1)(hE:ER σ e a)(h:HR B σ H w)(hr:ap.run e H=some (v,H')):Lod P σ e a ap H H' w o v:=by
 rcases z7 hc hE h hr with⟨hk',h1⟩|⟨_,h1⟩|⟨hk',h1⟩
 ·omega
 ·exact h1
 ·omega
end
end Go.Proofs.YtdpkgnmmikebdaaGreat