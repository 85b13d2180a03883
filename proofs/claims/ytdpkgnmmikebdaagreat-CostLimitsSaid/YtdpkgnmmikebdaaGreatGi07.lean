/- A part of the proof of CostLimits. No condition. -/
import Derived.Laws.StructEq
import Derived.Test.YtdpkgnmmikebdaaGreatGi06
import Derived.Test.YtdpkgnmmikebdaaGreatGi02
set_option linter.unusedSimpArgs false
set_option linter.unusedVariables false
set_option linter.constructorNameAsVariable false
set_option maxRecDepth 100000
set_option maxHeartbeats 4000000
namespace Go.Proofs.YtdpkgnmmikebdaaGreat
open Go.RowKit
section
variable {x' y':AX}{x y:Operand}{t:TypeId}
def uT:Value->Option AV
 |.bool x=>some (.b x)
 |.int k x=>some (.n k x)
 |.string x=>some (.s x)
 |.pointer none=>some .p0
 |.slice none 0 0=>some .sl0
 |.nilFunc=>some .f0
 |v=>if v.oneCell'=true then some (.cv v) else none
theorem v6{v:Value}{a:AV}(h:uT v=some a)(σ:Sg):VR σ a v:=by
 unfold uT at h;split at h<;>first|(cases h;constructor;done)|(split at h<;>first|(cases h;exact .cv _ ‹_›)|(cases h;done))
def fF:Operand->Option AX
 |.tmp t=>some (.t t)
 |.const v=>(uT v).map .c
 |.func f=>some (.c (.f f [] []))
 |.global _=>none
def MV:List (Nat×Nat):=[]
 ++[(82,2)]
 ++[(51,2)]
def vW(f:FuncId):Option Nat:=MV.lookup f
def u7(d:Deferred):Prop:=∃f cap,d.target= .fn (.func f) cap/\vW f=some (d.args++cap).size
structure ER(σ:Sg)(e:Tr AV)(a:Act):Prop where
 df:∀d ∈ a.defers,u7 d
 get:∀t v,e.get t=some v->VR σ v (a.tmps.getD t undef)
theorem ER.mono{σ σ':Sg}(hs:σ.le σ'){e:Tr AV}{a:Act}(h:ER σ e a):ER σ' e a:=⟨h.df,λt v hv=>(h.get t v hv).mono hs⟩
theorem gb{y:AX}(hx:fF x=some y){σ:Sg}{e:Tr AV}{a:Act}(hE:ER σ e a){v:AV}(hv:y.ev e=some v):VR σ v (a.eval x):=by
 unfold fF at hx;split at hx
 ·cases hx;exact hE.get _ _ hv
 ·rename_i u;cases hu:uT u with
  |none=>rw[hu] at hx;cases hx
  |some b=>rw[hu] at hx;cases hx;cases hv;exact v6 hu σ
 ·cases hx;cases hv;exact .f rfl (λi v h=>by simp at h) rfl (λi v h=>by simp at h)
 ·cases hx
def NR(σ:Sg)(v:AV)(r:Next):Prop:=(∃u,r= .value u/\VR σ v u)\/(r= .skip/\v= .u)
theorem qj{s:Sem Value}{v:AV}(h:kt s=some v)(P:Program)(σ:Sg):∃u,(∀w,s.run P w= .ok u w)/\VR σ v u:=by
 unfold kt at h;split at h
 ·rename_i u;refine⟨u,λw=>rfl,?_⟩;unfold an0 at h;split at h<;>first|(cases h;constructor)|(cases h;done)
 ·cases h
theorem nF{σ:Sg}{l:List AV}{v:Value}(h:VR σ (.agg l) v):∃cs,v= .agg cs/\l.length=cs.size/\gn σ l cs.toList:=by
 cases h with
 |agg hl hh=>exact⟨_,rfl,hl,by simpa using hl,λi x hx=>by simpa [apd,apA] using hh i x hx⟩
section
variable {P:Program} {B:Nat} {σ:Sg} {e:Tr AV} {a:Act} {H H':AH} {w:World} {o:Oper} {v:AV}
def oo(P:Program)(B:Nat)(σ:Sg)(a:Act)(H H':AH)(w:World)(o:Oper)(v:AV):Prop:=
 ∃r w' σ',(execOp a.eval o).run P w= .ok r w'/\NR σ' v r/\HR B σ' H' w'/\Fr B σ σ' H H' w w'/\σ'.fz=σ.fz
theorem sU(h:HR B σ H w){u:Value}(hr:(execOp a.eval o).run P w= .ok (.value u) w)(hu:VR σ v u):oo P B σ a H H w o v:=⟨_,w,σ,hr,.inl ⟨u,rfl,hu⟩,h,Fr.refl h,rfl⟩
def qQ(P:Program)(σ:Sg)(a:Act)(H H':AH)(o:Oper)(v:AV):Prop:=
 H'=H/\∃u,VR σ v u/\∀w,(execOp a.eval o).run P w= .ok (.value u) w
theorem fG{u:Value}(hr:∀w,(execOp a.eval o).run P w= .ok (.value u) w)(hu:VR σ v u):qQ P σ a H H o v:=⟨rfl,u,hu,hr⟩
theorem qQ.same(hp:qQ P σ a H H' o v)(h:HR B σ H w):oo P B σ a H H' w o v:=by
 obtain⟨rfl,u,hu,hr⟩:=hp;exact sU h (hr w) hu
theorem MR{y:AX}(ho:o.op= .move x\/o.op= .assign x)(hx:fF x=some y)(hE:ER σ e a)(hr:(AP.mv y).run e H=some (v,H')):qQ P σ a H H' o v:=by
 simp only[AP.run,fW,apc,aqn] at hr;obtain⟨v',hv,he⟩:=hr;cases he;refine fG (λw=>?_) (gb hx hE hv);unfold execOp;rcases ho with ho|ho<;>rw[ho]<;>rfl
theorem Lr{c:Operand}{c':AX}(ho:o.op= .pick c x y)(hc:fF c=some c')(hx:fF x=some x')(hy:fF y=some y')(hE:ER σ e a)(hr:(AP.pick c' x' y').run e H=some (v,H')):qQ P σ a H H' o v:=by
 simp only[AP.run,fW,aqn] at hr;split at hr
 ·rename_i hcv;simp only[apc] at hr;obtain⟨v',hv,he⟩:=hr;cases he;have h1:=gb hc hE hcv;have h1':a.eval c= .bool true:=by generalize a.eval c=u at h1;cases h1;rfl
  refine fG (λw=>?_) (gb hx hE hv);unfold execOp;rw[ho];simp[h1',asBool,Sem.run_pure]
 ·rename_i hcv;simp only[apc] at hr;obtain⟨v',hv,he⟩:=hr;cases he;have h1:=gb hc hE hcv;have h1':a.eval c= .bool false:=by generalize a.eval c=u at h1;cases h1;rfl
  refine fG (λw=>?_) (gb hy hE hv);unfold execOp;rw[ho];simp[h1',asBool,Sem.run_pure]
 ·cases hr
theorem FD(hx:fF x=some x')(hE:ER σ e a){b i:Nat}(hv:x'.ev e=some (.p b i)):∃c o,σ b=some (c,o)/\a.eval x= .pointer (some ⟨c,i,none⟩):=by
 have h1:=gb hx hE hv;generalize a.eval x=u at h1;cases h1;rename_i c o h;exact⟨c,o,h,rfl⟩
theorem FE(hx:fF x=some x')(hE:ER σ e a){esz:Nat}{r:Nat->AV}{j:Nat}(hv:x'.ev e=some (.fp esz r j)):
  ∃c off cs,σ.fz c=some cs/\off+esz<=cs.size/\(∀j,j<esz->(r j).cell=true)/\(∀j,j<esz->VR σ.bare (r j) (cs.getD (off+j) undef))/\a.eval x= .pointer (some ⟨c,off+j,none⟩):=by
 have h1:=gb hx hE hv;generalize a.eval x=u at h1;cases h1;rename_i c off cs hz hb h1 h;exact⟨c,off,cs,hz,hb,h1,h,rfl⟩
theorem nu(hx:fF x=some x')(hE:ER σ e a){k:IntKind}{i:Int}(hv:x'.ev e=some (.n k i)):a.eval x= .int k i:=by
 have h1:=gb hx hE hv;generalize a.eval x=u at h1;cases h1;rfl
theorem FG(hx:fF x=some x')(hE:ER σ e a){i:Bool}(hv:x'.ev e=some (.b i)):a.eval x= .bool i:=by
 have h1:=gb hx hE hv;generalize a.eval x=u at h1;cases h1;rfl
theorem anP(hx:fF x=some x')(hE:ER σ e a){i:ByteArray}(hv:x'.ev e=some (.s i)):a.eval x= .string i:=by
 have h1:=gb hx hE hv;generalize a.eval x=u at h1;cases h1;rfl
def Lod(P:Program)(σ:Sg)(e:Tr AV)(a:Act)(ap:AP)(H H':AH)(w:World)(o:Oper)(v:AV):Prop:=
 H'=H/\∃n row x' c u,ap= .ld n row x'/\((∃b off oc,x'.ev e=some (.p b off)/\σ b=some (c,oc))\/∃esz r j fs,x'.ev e=some (.fp esz r j)/\σ.fz c=some fs/\0<fs.size)/\VR σ v u/\
  ∀w':World,(∀i,w'.cell? ⟨c,i,none⟩=w.cell? ⟨c,i,none⟩)->(execOp a.eval o).run P w'= .ok (.value u) w'
theorem Lod.same{ap:AP}(hp:Lod P σ e a ap H H' w o v)(h:HR B σ H w):oo P B σ a H H' w o v:=by
 obtain⟨rfl,_,_,_,_,u,_,_,hu,hr⟩:=hp;exact sU h (hr w (λ_=>rfl)) hu
theorem Ar{esz off:Nat}{r:Nat->AV}{cs:Array Value}(hb:off+esz<=cs.size)(h:∀j,j<esz->VR σ.bare (r j) (cs.getD (off+j) undef)):∀(n j:Nat),j+n<=esz->gn σ (Lf r j n) ((cs.toList.drop (off+j)).take n)
 |0,j,_=>by rw[List.take_zero];exact gn.nil
 |n+1,j,hj=>by
  have hlt:off+j<cs.toList.length:=by rw[apX];omega
  rw[List.drop_eq_getElem_cons hlt,List.take_succ_cons];refine gn.cons ?_ ?_
  ·have:=(h j aa).mono σ.bare_le;rw[apA,ap7 aa,Option.getD_some] at this;simpa using this
  ·exact Ar hb h n (j+1) aa
theorem MS{i:TypeInfo}{d:TypeDesc}(ho:o.op= .load t x)(hx:fF x=some x')(hi:P.info? t=some i)(hd:P.underlying t=some d)(hE:ER σ e a)(h:HR B σ H w)(hr:(AP.ld i.size d.isRow x').run e H=some (v,H')):Lod P σ e a (.ld i.size d.isRow x') H H' w o v:=by
 have row:∀(c off:Nat) (l:List AV) (cs:List Value),d.isRow=true->a.eval x= .pointer (some ⟨c,off,none⟩)->gn σ l cs->cs.length=i.size->(∀j,j<cs.length->w.cell? ⟨c,off+j,none⟩=cs[j]?)->
   ∃u,VR σ (.agg l) u/\∀w':World,(∀i,w'.cell? ⟨c,i,none⟩=w.cell? ⟨c,i,none⟩)->(execOp a.eval o).run P w'= .ok (.value u) w':=by
  intro c off l cs hrow hev g1 g3 g2;refine⟨_,g1.agg,λw' hw'=>?_⟩;have hra:w'.rangeAt c off cs:=λj u hj=>by
   have hjl:j<cs.length:=by
    by_cases hh:j<cs.length
    ·exact hh
    ·rw[apI aa] at hj;cases hj
   rw[hw',g2 j hjl];exact hj
  have:=run_loadAt_mid (P:=P) w' c off t cs d hra hd hrow (by rw[hi,Option.map_some,g3])
  unfold execOp;rw[ho];simp only[hev,Sem.run_bind,this,Result.andThen_ok,Sem.run_pure]
 have cell:∀(c off:Nat) (u:Value),¬d.isRow=true->a.eval x= .pointer (some ⟨c,off,none⟩)->w.cell? ⟨c,off,none⟩=some u->∀w':World,(∀i,w'.cell? ⟨c,i,none⟩=w.cell? ⟨c,i,none⟩)->(execOp a.eval o).run P w'= .ok (.value u) w':=by
  intro c off u hrow hev e2 w' hw';have hag:(isAgg t).run P w'= .ok false w':=by
   unfold isAgg;rw[Sem.run_bind,run_underlying hd w'];cases d<;>simp_all
  have hcell:=(hw' off).trans e2;unfold execOp;rw[ho];simp only[hev,Sem.run_bind,Instr.loadAt,Instr.sureAddr,loadVar,Sem.run_pure,Result.andThen_ok,hag];simp[load,Sem.run,hcell]
 simp only[AP.run,fW,aqn] at hr;split at hr
 ·rename_i b off hv;obtain⟨c,oc,hc,hev⟩:=FD hx hE hv;split at hr
  ·rename_i hrow;simp only[apc] at hr;obtain⟨l,hl,he⟩:=hr;cases he;have key:∃cs:List Value,gn σ l cs/\(∀j,j<cs.length->w.cell? ⟨c,off+j,none⟩=cs[j]?)/\cs.length=i.size:=by
    by_cases h0:i.size=0
    ·rw[h0] at hl;simp only[AH.loadN,apn] at hl;subst hl;exact⟨[],gn.nil,λj hj=>by simp at hj,by rw[h0];rfl⟩
    ·obtain⟨c',o',cs,e1,e2,e3,e4,e5⟩:=h.loadN _ _ _ hl aa;rw[hc] at e1;cases e1;exact⟨cs,e3,λj hj=>e5 j (by rw[<-e4,e3.1];exact hj),by rw[<-e3.1];exact e4⟩
   obtain⟨cs,g1,g2,g3⟩:=key;obtain⟨u,k1,k2⟩:=row c off l cs hrow hev g1 g3 g2;exact⟨rfl,_,_,_,c,u,rfl,.inl ⟨b,off,oc,hv,hc⟩,k1,k2⟩
  ·rename_i hrow;simp only[apc] at hr;obtain⟨l,hl,he⟩:=hr;cases he;obtain⟨c',o',u,e1,e2,e3,e4⟩:=h.load hl;rw[hc] at e1;cases e1;exact⟨rfl,_,_,_,c,u,rfl,.inl ⟨b,off,oc,hv,hc⟩,e3,cell c off u hrow hev e2⟩
 ·rename_i esz r j hv;obtain⟨c,off,cs,hz,hb,h1,hvr,hev⟩:=FE hx hE hv;obtain⟨cs',t',fr',m1,m2,_⟩:=h.frz c cs hz;have hcl:∀k,k<cs.size->w.cell? ⟨c,k,none⟩=cs[k]? :=λk hk=>by
   simp only[World.cell?,m1];exact m2.2 k hk
  split at hr
  ·rename_i hrow;split at hr;rotate_left
   ·cases hr
   rename_i hle;obtain⟨hn0,hle⟩:=hle;cases hr;have hR:=Ar (σ:=σ) hb hvr i.size j hle;have hlen:((cs.toList.drop (off+j)).take i.size).length=i.size:=by rw[apL,aqa,apX];omega
   obtain⟨u,k1,k2⟩:=row c (off+j) _ _ hrow hev hR hlen (λk hk=>by
    rw[hlen] at hk;rw[hcl _ aa,ap6 hk,aqf,apC])
   exact⟨rfl,_,_,_,c,u,rfl,.inr ⟨esz,r,j,cs,hv,hz,aa⟩,k1,k2⟩
  ·rename_i hrow;split at hr;rotate_left
   ·cases hr
   rename_i hle;cases hr;have hu:=(hvr j hle).mono σ.bare_le;refine⟨rfl,_,_,_,c,_,rfl,.inr ⟨esz,r,j,cs,hv,hz,aa⟩,hu,cell c (off+j) _ hrow hev ?_⟩;rw[hcl _ aa,apA,ap7 aa];rfl
 ·cases hr
theorem FF(hx:fF x=some x')(hE:ER σ e a){g:FuncId}{l1 l2:List AV}(hv:x'.ev e=some (.f g l1 l2)):∃c1 c2,a.eval x= .func (.func g) c1 c2/\gn σ l1 c1.toList/\gn σ l2 c2.toList:=by
 have h1:=gb hx hE hv;generalize a.eval x=u at h1;cases h1 with
 |f n1 h1 n2 h2=>exact⟨_,_,rfl,⟨by simpa using n1,λi x hx=>by simpa [apd,apA] using h1 i x hx⟩,by simpa using n2,λi x hx=>by simpa [apd,apA] using h2 i x hx⟩
theorem gn.f{g:FuncId}{l1 l2:List AV}{c1 c2:Array Value}(h1:gn σ l1 c1.toList)(h2:gn σ l2 c2.toList):VR σ (.f g l1 l2) (.func (.func g) c1 c2):=
 .f (by simpa using h1.1) (λi v hv=>by simpa [apd,apA] using h1.2 i v hv) (by simpa using h2.1) (λi v hv=>by simpa [apd,apA] using h2.2 i v hv)
theorem ang(ho:o.op= .nilCheck x)(hx:fF x=some x')(hE:ER σ e a)(hr:(AP.nc x').run e H=some (v,H')):qQ P σ a H H' o v:=by
 simp only[AP.run,fW,aqn] at hr;split at hr
 ·rename_i hv;cases hr;obtain⟨c,oc,hc,hev⟩:=FD hx hE hv;refine fG (λw=>?_) (.p hc);unfold execOp;rw[ho];simp only[hev];rfl
 ·rename_i hv;cases hr;obtain⟨c1,c2,hev,g1,g2⟩:=FF hx hE hv;refine fG (λw=>?_) (gn.f g1 g2);unfold execOp;rw[ho];simp only[hev];rfl
 ·rename_i hv;cases hr;obtain⟨c,off,cs,hz,hb,h1,hvr,hev⟩:=FE hx hE hv;refine fG (λw=>?_) (.fp hz hb h1 hvr _);unfold execOp;rw[ho];simp only[hev];rfl
 ·cases hr
theorem Z2{op:BinOp}{t':TypeId}(ho:o.op= .binOp op t x y t')(hx:fF x=some x')(hy:fF y=some y')(hE:ER σ e a)(hr:(AP.bin op x' y').run e H=some (v,H')):qQ P σ a H H' o v:=by
 simp only[AP.run,fW,aqn] at hr;split at hr
 ·rename_i k1 n1 k2 n2 h1 h2;simp only[apc] at hr;obtain⟨v',hv,he⟩:=hr;cases he;have hs:binOp op t (.int k1 n1) (.int k2 n2)=binOp op 0 (.int k1 n1) (.int k2 n2):=by cases op<;>rfl
  obtain⟨u,hu1,hu2⟩:=qj hv P σ;refine fG (λw=>?_) hu2;unfold execOp;rw[ho];simp only[nu hx hE h1,nu hy hE h2,hs,Sem.run_bind];have hg:(eqGuard op t x y (.int k1 n1) (.int k2 n2)).run P w= .ok () w:=by
   unfold eqGuard;cases op<;>rfl
  simp only[hg,hu1,Result.andThen_ok,Sem.run_pure]
 ·rename_i n1 n2 h1 h2;simp only[apc] at hr;obtain⟨v',hv,he⟩:=hr;cases he;have hs:binOp op t (.string n1) (.string n2)=binOp op 0 (.string n1) (.string n2):=by cases op<;>rfl
  obtain⟨u,hu1,hu2⟩:=qj hv P σ;refine fG (λw=>?_) hu2;unfold execOp;rw[ho];simp only[anP hx hE h1,anP hy hE h2,hs,Sem.run_bind];have hg:(eqGuard op t x y (.string n1) (.string n2)).run P w= .ok () w:=by
   unfold eqGuard;cases op<;>rfl
  simp only[hg,hu1,Result.andThen_ok,Sem.run_pure]
 ·cases hr
theorem ana{op:UnOp}(ho:o.op= .unOp op t x)(hx:fF x=some x')(hE:ER σ e a)(hr:(AP.un op x').run e H=some (v,H')):qQ P σ a H H' o v:=by
 simp only[AP.run,fW,aqn] at hr;split at hr
 ·rename_i h1;simp only[apc] at hr;obtain⟨v',hv,he⟩:=hr;cases he;obtain⟨u,hu1,hu2⟩:=qj hv P σ;refine fG (λw=>?_) hu2;unfold execOp;rw[ho];simp only[nu hx hE h1,Sem.run_bind,hu1,Result.andThen_ok,Sem.run_pure]
 ·rename_i h1;simp only[apc] at hr;obtain⟨v',hv,he⟩:=hr;cases he;obtain⟨u,hu1,hu2⟩:=qj hv P σ;refine fG (λw=>?_) hu2;unfold execOp;rw[ho];simp only[FG hx hE h1,Sem.run_bind,hu1,Result.andThen_ok,Sem.run_pure]
 ·cases hr
theorem ZZ{src dst:TypeId}{k:IntKind}{d:TypeDesc}(ho:o.op= .convert src dst x)(hx:fF x=some x')(hs:P.underlying src=some d)(hd:P.underlying dst=some (.int k))(hE:ER σ e a)(hr:(AP.cvi k x').run e H=some (v,H')):qQ P σ a H H' o v:=by
 simp only[AP.run,fW,aqn] at hr;split at hr;rotate_left
 ·cases hr
 rename_i k1 n1 h1;cases hr;refine fG (λw=>?_) (.n k (k.wrap n1));unfold execOp;rw[ho];simp only[nu hx hE h1,convert,Sem.run_bind,run_underlying hs w,run_underlying hd w,Result.andThen_ok];cases d<;>rfl
def Fw(P:Program)(g:TypeId->Option SH):List Field->Option (List (Nat×Nat×SH))
 |[]=>some []
 |f::l=>if f.name≠ "_" then(P.info? f.type).bind λi=>(g f.type).bind λs=>(Fw P g l).map λr=>(f.offset,i.size,s)::r else none
def sR(P:Program):Nat->TypeId->Option SH
 |0,_=>none
 |d+1,t=>match P.underlying t with
  |some .bool=>some .b
  |some (.int _)=>some .n
  |some (.pointer _)=>some .p
  |some (.struct fs)=>if P.stoodInHeld t=false/\P.eqGuardType P.depth t=false then(Fw P (sR P d) fs.toList).map .st else none
  |_=>none
theorem DF{d:Nat}{s:SH}(h:sR P d t=some s)(w:World):(isAgg t).run P w= .ok s.row w:=by
 cases d with
 |zero=>simp[sR] at h
 |succ d=>
  simp only[sR] at h;unfold isAgg;split at h
  ·exact aqy
  ·exact aqy
  ·exact aqy
  ·rename_i fs hu;split at h
   ·obtain⟨l,_,rfl⟩:=apc.1 h;rw[Sem.run_bind,run_underlying hu w];rfl
   ·cases h
  ·cases h
theorem xw{i:TypeInfo}{o:Nat}{row:Bool}(hag:∀w,(isAgg t).run P w= .ok row w)(hi:P.info? t=some i){l:List AV}{cs:Array Value}(hl:gn σ l cs.toList){v:AV}(hp:xy o i.size row l=some v):
  ∃u,(∀w,(part t cs o).run P w= .ok u w)/\VR σ v u:=by
 unfold xy at hp;split at hp
 ·rename_i hr;subst hr;split at hp;rotate_left
  ·cases hp
  rename_i hle;cases hp;refine⟨.agg (cs.extract o (o+i.size)),λw=>?_,.agg ?_ (λj x hj=>?_)⟩
  ·simp[part,hag,sizeOf,typeInfo,hi]
  ·have hlen:l.length=cs.size:=by simpa using hl.1
   simp;omega
  ·have hjs:j<i.size:=by
    by_cases hh:j<i.size
    ·exact hh
    ·rw[apI (by simp;omega)] at hj;cases hj
   rw[ap6 hjs,aqf] at hj;have:=hl.2 _ x hj;have hlen:l.length=cs.size:=by simpa using hl.1
   rw[apd] at this;rw[apA,Array.getElem?_extract,if_pos aa];simpa using this
 ·rename_i hr;have hr':row=false:=by simpa using hr
  subst hr';have hv:=hl.2 o v hp;have hlt:o<cs.size:=by
   have:=(ap4.1 hp).1;have hlen:l.length=cs.size:=by simpa using hl.1
   omega
  rw[apd,apC,ap7 hlt,Option.getD_some] at hv;refine⟨cs[o],λw=>?_,hv⟩;have hg:cs[o]? =some cs[o]:=ap7 hlt;simp[part,hag,hg]
theorem Bi{D:Nat}{g:TypeId->Option SH}{f:SH->AV->AV->Option Bool}(hag:∀t s,g t=some s->∀w,(isAgg t).run P w= .ok s.row w)
  (ih:∀(t:TypeId) (s:SH) (x y:AV) (u u':Value) (r:Bool),g t=some s->VR σ x u->VR σ y u'->f s x y=some r->∀w,(Op.equalIn D t u u').run P w= .ok r w):
  ∀(fs:List Field) (l:List (Nat×Nat×SH)) (xs ys:List AV) (cs cs':Array Value) (r:Bool),Fw P g fs=some l->gn σ xs cs.toList->gn σ ys cs'.toList->CU f l xs ys=some r->∀w,(Op.eqFields D cs cs' fs).run P w= .ok r w
 |[],l,xs,ys,cs,cs',r,hl,h1,h2,hr,w=>by
  simp only[Fw,apn] at hl;subst hl;simp only[CU,apn] at hr;subst hr;rfl
 |fd::fs,l,xs,ys,cs,cs',r,hl,h1,h2,hr,w=>by
  simp only[Fw] at hl;split at hl;rotate_left
  ·cases hl
  rename_i hname;obtain⟨i,hi,hl⟩:=bM.1 hl;obtain⟨s,hs,hl⟩:=bM.1 hl;obtain⟨l',hl',rfl⟩:=apc.1 hl;simp only[CU] at hr;split at hr;rotate_left
  ·cases hr
  rename_i a b ha hb;have hag':=hag _ _ hs;obtain⟨u,p1,p2⟩:=xw hag' hi h1 ha;obtain⟨u',q1,q2⟩:=xw hag' hi h2 hb;unfold aa9 at hr;split at hr;rotate_left
  ·cases hr
  rename_i r1 r2 e1 e2;cases hr;have m1:=ih fd.type s a b u u' r1 hs p2 q2 e1 w;have m2:=Bi hag ih fs l' xs ys cs cs' r2 hl' h1 h2 e2 w;unfold Op.eqFields;rw[if_pos hname];simp only[Sem.run_bind,p1,q1,m1,Result.andThen_ok];cases r1
  ·simp
  ·simp[m2]
theorem FJ(k:Nat):∀(d f:Nat) (t:TypeId) (s:SH) (x y:AV) (u u':Value) (r:Bool),sR P d t=some s->VR σ x u->VR σ y u'->uk f s x y=some r->∀w,(Op.equalIn (d+k) t u u').run P w= .ok r w
 |0,f,t,s,x,y,u,u',r,hs,_,_,_,w=>by simp[sR] at hs
 |d+1,0,t,s,x,y,u,u',r,hs,_,_,hr,w=>by simp[uk] at hr
 |d+1,f+1,t,s,x,y,u,u',r,hs,hx,hy,hr,w=>by
  rw[show d+1+k=d+k+1 by omega]
  simp only[sR] at hs;split at hs
  ·rename_i hu;cases hs;cases x<;>cases y<;>simp[uk] at hr;subst hr;cases hx;cases hy;simp[Op.equalIn,run_underlying hu]
  ·rename_i q hu;cases hs;cases x<;>cases y<;>simp[uk] at hr;obtain⟨rfl,rfl⟩:=hr;cases hx;cases hy;simp[Op.equalIn,run_underlying hu];rfl
  ·rename_i el hu;cases hs;cases x<;>cases y<;>simp[uk] at hr
   all_goals
    subst hr;cases hx;cases hy;simp[Op.equalIn,run_underlying hu]
  ·rename_i fs hu;split at hs;rotate_left
   ·cases hs
   rename_i hq;obtain⟨l,hl,rfl⟩:=apc.1 hs;cases x<;>cases y<;>simp[uk] at hr;rename_i xs ys;obtain⟨cs,rfl,_,h1⟩:=nF hx;obtain⟨cs',rfl,_,h2⟩:=nF hy;have hf:P.fieldsOf t=fs:=by simp[Program.fieldsOf,hu]
   rw[run_equalIn_struct w (d+k) t cs cs' (by rw[hf];exact hu) hq.1,hf]
   exact Bi (λt s hts w=>DF hts w) (λt s x y u u' r h1 h2 h3 h4 w=>FJ k d f t s x y u u' r h1 h2 h3 h4 w) fs.toList l xs ys cs cs' r hl h1 h2 hr w
  ·cases hs
theorem uF{op:BinOp}{t':TypeId}{neg:Bool}{s:SH}(ho:o.op= .binOp op t x y t')(hop:op=if neg=true then .neq else .eql)(hx:fF x=some x')(hy:fF y=some y')(hs:sR P 9 t=some s)(hsn:s≠ .n)(hE:ER σ e a)(hr:(AP.eq neg s x' y').run e H=some (v,H')):qQ P σ a H H' o v:=by
 simp only[AP.run,fW,aqn] at hr;split at hr;rotate_left
 ·cases hr
 rename_i va vb h1 h2;split at hr;rotate_left
 ·cases hr
 rename_i r hq;cases hr;have g1:=gb hx hE h1;have g2:=gb hy hE h2;have heq:=λw=>FJ 9991 9 9 t s va vb _ _ r hs g1 g2 hq w;refine fG (λw=>?_) (.b _);unfold execOp;rw[ho];have form:((∃p q,a.eval x= .bool p/\a.eval y= .bool q)\/(∃p q,a.eval x= .pointer p/\a.eval y= .pointer q)\/∃cs cs',a.eval x= .agg cs/\a.eval y= .agg cs'/\P.eqGuardType P.depth t=false):=by
  simp only[sR] at hs;split at hs
  ·cases hs;cases va<;>cases vb<;>simp[uk] at hq;generalize a.eval x=u at g1;generalize a.eval y=u' at g2;cases g1;cases g2;exact .inl ⟨_,_,rfl,rfl⟩
  ·cases hs;exact absurd rfl hsn
  ·cases hs;cases va<;>cases vb<;>simp[uk] at hq
   all_goals
    generalize a.eval x=u at g1;generalize a.eval y=u' at g2;cases g1;cases g2;exact .inr (.inl ⟨_,_,rfl,rfl⟩)
  ·split at hs;rotate_left
   ·cases hs
   rename_i hgd;obtain⟨l,_,rfl⟩:=apc.1 hs;cases va<;>cases vb<;>simp[uk] at hq;obtain⟨cs,e1,_⟩:=nF g1;obtain⟨cs',e2,_⟩:=nF g2;exact .inr (.inr ⟨cs,cs',e1,e2,hgd.2⟩)
  ·cases hs
 rcases form with⟨p,q,e1,e2⟩|⟨p,q,e1,e2⟩|⟨cs,cs',e1,e2,hgd⟩
 ·have he:=heq w;rw[e1,e2] at he;have hg:(eqGuard op t x y (.bool p) (.bool q)).run P w= .ok () w:=by
   unfold eqGuard;cases op<;>rfl
  cases neg
  ·simp only[apQ,if_false] at hop;subst hop;simp only[e1,e2,Sem.run_bind,hg,Result.andThen_ok,binOp,Op.equal,Op.maxDepth,he,Sem.run_pure]
   first|done|rfl
  ·simp only[if_true] at hop;subst hop;simp only[e1,e2,Sem.run_bind,hg,Result.andThen_ok,binOp,Op.equal,Op.maxDepth,he,Sem.run_pure]
   first|done|rfl
 ·have he:=heq w;rw[e1,e2] at he;have hg:(eqGuard op t x y (.pointer p) (.pointer q)).run P w= .ok () w:=by
   unfold eqGuard;cases op<;>rfl
  cases neg
  ·simp only[apQ,if_false] at hop;subst hop;simp only[e1,e2,Sem.run_bind,hg,Result.andThen_ok,binOp,Op.equal,Op.maxDepth,he,Sem.run_pure]
   first|done|rfl
  ·simp only[if_true] at hop;subst hop;simp only[e1,e2,Sem.run_bind,hg,Result.andThen_ok,binOp,Op.equal,Op.maxDepth,he,Sem.run_pure]
   first|done|rfl
 ·have he:=heq w;rw[e1,e2] at he;have hg:=run_eqGuard_agg (P:=P) w op t x y cs cs' hgd;cases neg
  ·simp only[apQ,if_false] at hop;subst hop;simp only[e1,e2,Sem.run_bind,hg,Result.andThen_ok,binOp,Op.equal,Op.maxDepth,he,Sem.run_pure]
   first|done|rfl
  ·simp only[if_true] at hop;subst hop;simp only[e1,e2,Sem.run_bind,hg,Result.andThen_ok,binOp,Op.equal,Op.maxDepth,he,Sem.run_pure]
   first|done|rfl
end
end
section
variable {x':AX}{x:Operand}{el t:TypeId}{i:TypeInfo}
section
variable {P:Program} {B:Nat} {σ:Sg} {e:Tr AV} {a:Act} {H H':AH} {w:World} {o:Oper} {v:AV}
theorem anm{s:TypeId}{f:Nat}{fs:Array Field}{fl:Field}(ho:o.op= .fieldAddr s x f)(hx:fF x=some x')(hs:P.underlying s=some (.struct fs))(hf:fs[f]? =some fl)(hi:P.info? fl.type=some i)(h0:i.size≠0)
  (hE:ER σ e a) (hr:(AP.fa fl.offset x').run e H=some (v,H')):qQ P σ a H H' o v:=by
 have fin:∀(c off:Nat),a.eval x= .pointer (some ⟨c,off,none⟩)->∀w,(execOp a.eval o).run P w= .ok (.value (.pointer (some ⟨c,off+fl.offset,none⟩))) w:=λc off hev w=>by
  unfold execOp;rw[ho];simp only[hev,Sem.run_bind,Instr.fieldAt,run_underlying hs w,Result.andThen_ok,hf,Instr.sureAddr,Sem.run_pure];simp[fieldPlace,sizeOf,typeInfo,Sem.run_bind,hi,h0,Addr.add_mid]
 simp only[AP.run,fW,aqn] at hr;split at hr
 ·rename_i b off hv;cases hr;obtain⟨c,oc,hc,hev⟩:=FD hx hE hv;exact fG (fin c off hev) (.p hc)
 ·rename_i esz r j hv;cases hr;obtain⟨c,off,cs,hz,hb,h1,hvr,hev⟩:=FE hx hE hv;refine fG (fin c (off+j) hev) ?_;rw[Nat.add_assoc];exact .fp hz hb h1 hvr _
 ·cases hr
theorem ank{y:Operand}{y':AX}(ho:o.op= .indexAddr t x y)(hx:fF x=some x')(hy:fF y=some y')(ht:P.underlying t=some (.slice el))(hi:P.info? el=some i)
  (hE:ER σ e a) (hr:(AP.ia i.size x' y').run e H=some (v,H')):qQ P σ a H H' o v:=by
 have fin:∀(c off m cap':Nat) (k:IntKind) (j:Int),y'.ev e=some (.n k j)->(0<=j/\j<m)->a.eval x= .slice (some ⟨c,off,none⟩) m cap'->∀w,(execOp a.eval o).run P w= .ok (.value (.pointer (some ⟨c,off+j.toNat*i.size,none⟩))) w:=by
  intro c off m cap' k j hj hjj hev w;unfold execOp;rw[ho];simp only[hev,nu hy hE hj,Sem.run_bind,Instr.indexAt,asIntOf,run_underlying ht w,Result.andThen_ok,Sem.run_pure];simp[sizeOf,typeInfo,Sem.run_bind,hi,hjj,Addr.add_mid,run_underlying ht w]
 simp only[AP.run,fW,aqn] at hr;split at hr
 ·rename_i b off m cap k j hv hj;split at hr;rotate_left
  ·cases hr
  rename_i hjj;cases hr;have h1:=gb hx hE hv;have hs:∃c oc cap',σ b=some (c,oc)/\a.eval x= .slice (some ⟨c,off,none⟩) m cap':=by
   generalize a.eval x=u at h1;cases h1 with
   |sl hh=>exact⟨_,_,_,hh,rfl⟩
   |slo hh hc h0=>exact⟨_,_,_,hh,rfl⟩
  obtain⟨c,oc,cap',hc,hev⟩:=hs;exact fG (fin _ _ _ _ _ _ hj hjj hev) (.p hc)
 ·rename_i b m k j hv hj;split at hr;rotate_left
  ·cases hr
  rename_i hjj;cases hr;have h1:=gb hx hE hv;have hs:∃c oc cap',σ b=some (c,oc)/\a.eval x= .slice (some ⟨c,0,none⟩) m cap':=by
   generalize a.eval x=u at h1;cases h1 with
   |os0 hh a=>omega
   |os hh hl=>exact⟨_,_,_,hh,rfl⟩
  obtain⟨c,oc,cap',hc,hev⟩:=hs;have:=fin _ _ _ _ _ _ hj hjj hev;rw[apz] at this;exact fG this (.p hc)
 ·rename_i esz' m row k j hv hj;split at hr;rotate_left
  ·cases hr
  rename_i hjj;obtain⟨rfl,hjj⟩:=hjj;cases hr;have h1:=gb hx hE hv;generalize hu:a.eval x=u at h1;cases h1 with
  |fs0=>omega
  |fs hz hb hc1 hvr cap hcap=>
   rename_i c off cs;have hlt:j.toNat<m:=aa;have hle:j.toNat*i.size+i.size<=m*i.size:=by
    have:=apD i.size (aqc hlt);rwa [apM] at this
   refine fG (fin _ _ _ _ _ _ hj hjj hu) ?_;exact .fp (off:=off+j.toNat*i.size) hz aa (λq hq=>hc1 _ _ hlt hq) (λq hq=>hvr _ _ hlt hq) 0
 ·cases hr
theorem ZX{m:Nat}{y:Operand}{y':AX}(ho:o.op= .indexAddr t x y)(hx:fF x=some x')(hy:fF y=some y')(ht:P.underlying t=some (.array m el))(hi:P.info? el=some i)
  (hE:ER σ e a) (hr:(AP.iaa m i.size x' y').run e H=some (v,H')):qQ P σ a H H' o v:=by
 simp only[AP.run,fW,aqn] at hr;split at hr;rotate_left
 ·cases hr
 rename_i b off k j hv hj;split at hr;rotate_left
 ·cases hr
 rename_i hjj;cases hr;obtain⟨c,oc,hc,hev⟩:=FD hx hE hv;refine fG (λw=>?_) (.p hc);unfold execOp;rw[ho];simp only[hev,nu hy hE hj,Sem.run_bind,Instr.indexAt,asIntOf,run_underlying ht w,Result.andThen_ok,Sem.run_pure,Instr.sureAddr];simp[sizeOf,typeInfo,Sem.run_bind,hi,hjj,Addr.add_mid,run_underlying ht w]
theorem ZY{i:Nat}(ho:o.op= .extract x i)(hx:fF x=some x')(hE:ER σ e a)(hr:(AP.ext i x').run e H=some (v,H')):qQ P σ a H H' o v:=by
 simp only[AP.run,fW,aqn] at hr;split at hr;rotate_left
 ·cases hr
 rename_i l hv;simp only[apc] at hr;obtain⟨v',hl,he⟩:=hr;cases he;have h1:=gb hx hE hv;have hs:∃cs,a.eval x= .tuple cs/\l.length=cs.size/\VR σ v (cs.getD i undef):=by
  generalize a.eval x=u at h1;cases h1 with
  |tup hn hh=>exact⟨_,rfl,hn,hh i v hl⟩
 obtain⟨cs,hev,hn,hvr⟩:=hs;have hlt:i<cs.size:=by
  have:i<l.length:=by
   by_cases hh:i<l.length
   ·exact hh
   ·rw[apI aa] at hl;cases hl
  omega
 refine fG (λw=>?_) hvr;unfold execOp;rw[ho];have hg:cs[i]? =some (cs.getD i undef):=by simp[Array.getD,hlt]
 simp only[hev,Sem.run_bind,Instr.extract,hg,Sem.run_pure,Result.andThen_ok]
theorem anl{s:TypeId}{f:Nat}{fs:Array Field}{fl:Field}{d:TypeDesc}(ho:o.op= .field s x f)(hx:fF x=some x')(hs:P.underlying s=some (.struct fs))(hf:fs[f]? =some fl)(hi:P.info? fl.type=some i)(hd:P.underlying fl.type=some d)
  (hE:ER σ e a) (hr:(AP.fd fl.offset i.size d.isRow x').run e H=some (v,H')):qQ P σ a H H' o v:=by
 simp only[AP.run,fW,aqn] at hr;split at hr;rotate_left
 ·cases hr
 rename_i l hv;split at hr;rotate_left
 ·cases hr
 rename_i hle;have h1:=gb hx hE hv;have hs':∃cs:Array Value,a.eval x= .agg cs/\gn σ l cs.toList:=by
  generalize a.eval x=u at h1;obtain⟨cs,e1,e2,e3⟩:=nF h1;exact⟨cs,e1,e3⟩
 obtain⟨cs,hev,hvr⟩:=hs';have hag:∀w,(isAgg fl.type).run P w= .ok d.isRow w:=λw=>by
  unfold isAgg;rw[Sem.run_bind,run_underlying hd w];cases d<;>rfl
 have hlen:l.length=cs.size:=by simpa using hvr.1
 split at hr
 ·rename_i hrow;cases hr;have hv2:VR σ (.agg ((l.drop fl.offset).take i.size)) (.agg (cs.extract fl.offset (fl.offset+i.size))):=by
   refine .agg (by simp;omega) (λj u hj=>?_)
   have hjs:j<i.size:=by
    by_cases hh:j<i.size
    ·exact hh
    ·rw[apI (by simp;omega)] at hj;cases hj
   rw[ap6 hjs,aqf] at hj;have:=hvr.2 _ u hj;rw[apd] at this;rw[apA,Array.getElem?_extract];rw[if_pos aa];simpa using this
  refine fG (λw=>?_) hv2;unfold execOp;rw[ho];simp only[hev,Sem.run_bind,Instr.field,run_underlying hs w,Result.andThen_ok,hf,asAgg,Sem.run_pure,part,hag,hrow];simp[sizeOf,typeInfo,Sem.run_bind,hi]
 ·rename_i hrow;simp only[apc] at hr;obtain⟨v',hl,he⟩:=hr;cases he;have:=hvr.2 _ _ hl;rw[apd] at this;have hlt:fl.offset<cs.size:=by
   by_cases hh:fl.offset<l.length
   ·omega
   ·rw[apI aa] at hl;cases hl
  have hg:cs[fl.offset]? =some (cs.toList[fl.offset]?.getD undef):=by simp[hlt]
  generalize cs.toList[fl.offset]?.getD undef=u0 at this hg;refine fG (λw=>?_) this;unfold execOp;rw[ho];simp only[hev,Sem.run_bind,Instr.field,run_underlying hs w,Result.andThen_ok,hf,asAgg,Sem.run_pure,part,hag,hrow];simp[hg]
theorem ZW(ho:o.op= .call {callee:= .builtin .len,args:= #[x],argTypes:= #[t]})(hx:fF x=some x')(ht:P.underlying t=some (.slice el))(hE:ER σ e a)(hr:(AP.len x').run e H=some (v,H')):qQ P σ a H H' o v:=by
 have fin:∀(ad:Option Addr) (n cap:Nat),a.eval x= .slice ad n cap->v= .n .i64 n->H'=H->qQ P σ a H H' o v:=by
  rintro ad n cap hev rfl rfl;refine fG (λw=>?_) (.n .i64 n);have hb:∀w,(Builtin.len_ #[t] o.type #[Value.slice ad n cap]).run P w= .ok (.int .i64 n) w:=λw=>by
   simp[Builtin.len_,run_underlying ht,goInt,Result.andThen]
  unfold execOp;rw[ho];simp only[resolve,invoke,builtin,Sem.run_bind,Sem.run_pure,Result.andThen_ok,apU,List.map_cons,List.map_nil];rw[hev];simp only[hb,Result.andThen_ok]
 simp only[AP.run,fW,aqn] at hr;split at hr
 ·rename_i b off n cap hv;cases hr;have h1:=gb hx hE hv;generalize hu:a.eval x=u at h1;cases h1 with
  |sl hh=>exact fin _ _ _ hu rfl rfl
  |slo hh hc h0=>exact fin _ _ _ hu rfl rfl
 ·rename_i b n hv;cases hr;have h1:=gb hx hE hv;generalize hu:a.eval x=u at h1;cases h1 with
  |os0 hh a=>exact fin _ _ _ hu rfl rfl
  |os hh hl=>exact fin _ _ _ hu rfl rfl
 ·rename_i esz n row hv;cases hr;have h1:=gb hx hE hv;generalize hu:a.eval x=u at h1;cases h1 with
  |fs0=>exact fin _ _ _ hu rfl rfl
  |fs=>exact fin _ _ _ hu rfl rfl
 ·exact dL
 ·cases hr
theorem Z1(ho:o.op= .call {callee:= .builtin .cap,args:= #[x],argTypes:= #[t]})(hx:fF x=some x')(ht:P.underlying t=some (.slice el))(hE:ER σ e a)(hr:(AP.cpc x').run e H=some (v,H')):qQ P σ a H H' o v:=by
 have fin:∀(ad:Option Addr) (n cap:Nat),a.eval x= .slice ad n cap->v= .n .i64 cap->H'=H->qQ P σ a H H' o v:=by
  rintro ad n cap hev rfl rfl;refine fG (λw=>?_) (.n .i64 cap);have hb:∀w,(Builtin.cap_ #[t] o.type #[Value.slice ad n cap]).run P w= .ok (.int .i64 cap) w:=λw=>by
   simp[Builtin.cap_,run_underlying ht,goInt,Result.andThen]
  unfold execOp;rw[ho];simp only[resolve,invoke,builtin,Sem.run_bind,Sem.run_pure,Result.andThen_ok,apU,List.map_cons,List.map_nil];rw[hev];simp only[hb,Result.andThen_ok]
 simp only[AP.run,fW,aqn] at hr;split at hr
 ·exact dL
 ·cases hr
theorem nf{l:List Operand}{l':List AX}{vs:List AV}(hl:l.mapM fF=some l')(hE:ER σ e a)(hv:yP e l'=some vs):gn σ vs (l.map a.eval):=by
 induction l generalizing l' vs with
 |nil=>
  simp only[List.mapM_nil,Option.pure_def,apn] at hl;subst hl;simp only[yP,apn] at hv;subst hv;exact gn.nil
 |cons x l ih=>
  simp only[List.mapM_cons,Option.bind_eq_bind,bM,Option.pure_def,apn] at hl;obtain⟨x',hx,l2,hl2,rfl⟩:=hl;simp only[yP] at hv;split at hv
  ·rename_i v' hv';simp only[apc] at hv;obtain⟨vs',h1,rfl⟩:=hv;exact(ih hl2 h1).cons (gb hx hE hv')
  ·cases hv
theorem ani{g:FuncId}{l1 l2:Array Operand}{l1' l2':List AX}(ho:o.op= .makeFunc (.func g) l1 l2)(h1:l1.toList.mapM fF=some l1')(h2:l2.toList.mapM fF=some l2')(hE:ER σ e a)(hr:(AP.mf g l1' l2').run e H=some (v,H')):qQ P σ a H H' o v:=by
 simp only[AP.run,fW,aqn] at hr;split at hr;rotate_left
 ·cases hr
 rename_i v1 v2 e1 e2;cases hr;refine fG (u:= .func (.func g) (l1.map a.eval) (l2.map a.eval)) (λw=>?_) (gn.f (by simpa using nf h1 hE e1) (by simpa using nf h2 hE e2))
 unfold execOp;rw[ho];simp[Instr.makeFunc]
theorem HR.storeN{b:Nat}:∀(l:List AV) {σ:Sg} {H H':AH} {w:World} {i:Nat} {cs:List Value},HR B σ H w->H.storeN b i l=some H'->gn σ l cs->0<l.length->
  ∃c oc,σ b=some (c,oc)/\w.there c i cs.length/\HR B σ H' (w.setCells c i cs)/\Fr B σ σ H H' w (w.setCells c i cs)
 |[],_,_,_,_,_,_,_,_,_,h0=>by simp at h0
 |x::l,σ,H,H',w,i,cs,h,hs,hv,_=>by
  cases cs with
  |nil=>have:=hv.1;simp at this
  |cons u cs=>
   simp only[AH.storeN] at hs;split at hs;rotate_left
   ·cases hs
   rename_i H1 hs1;have hu:VR σ x u:=by simpa using hv.2 0 x rfl
   have hv':gn σ l cs:=⟨by simpa using hv.1,λj y hj=>by simpa using hv.2 (j+1) y (by simpa using hj)⟩
   obtain⟨c,oc,g1,g2,g3,g4,g5,g6,g7⟩:=h.store hs1 hu;have hsc:w.setCells c i (u::cs)=(w.setCell ⟨c,i,none⟩ u).setCells c (i+1) cs:=rfl;by_cases hl:l.length=0
   ·have:l=[]:=aqe hl;subst this;have hcs:cs=[]:=aqe (by have:=hv'.1;simpa using this.symm)
    subst hcs;simp only[AH.storeN,apn] at hs;subst hs;refine⟨c,oc,g1,λj hj=>?_,g6,g7⟩;have:j=0:=by simpa using hj
    subst this;obtain⟨y,hy⟩:=g5;exact⟨by rw[Nat.add_zero,hy];rfl,g4⟩
   ·obtain⟨c',oc',k1,k2,k3,k4⟩:=HR.storeN l g6 hs hv' aa;rw[g1] at k1;cases k1;refine⟨c,oc,g1,λj hj=>?_,by rw[hsc];exact k3,by rw[hsc];exact g7.trans k4 g6⟩
    cases j with
    |zero=>
     obtain⟨y,hy⟩:=g5;exact⟨by rw[Nat.add_zero,hy];rfl,g4⟩
    |succ j=>
     have hj':j<cs.length:=by simpa using hj
     obtain⟨m1,m2⟩:=k2 j hj';have hne:(⟨c,i+(j+1),none⟩:Addr)≠⟨c,i,none⟩:=ae;rw[show i+1+j=i+(j+1) by omega] at m1 m2
     refine⟨?_,?_⟩
     ·rw[World.cell?_setCell_other _ _ _ _ (Ne.symm hne)] at m1;exact m1
     ·rw[World.frozen?_setCell] at m2;exact m2
end
end
end Go.Proofs.YtdpkgnmmikebdaaGreat