/- A part of the proof of AllocateNeeds: GxA GxB. No condition. -/
import Derived.LoopNIn
import Derived.OrdersIn
import Derived.RangeFuncIn
import Derived.RangeFuncLeaves
import Derived.RangeFuncSeq
import Derived.Test.YteopfmnnhlhbmaaHn15
set_option linter.unusedSimpArgs false
set_option linter.unusedVariables false
set_option linter.constructorNameAsVariable false
set_option maxRecDepth 100000
set_option maxHeartbeats 4000000
namespace Go.Proofs.Yteopfmnnhlhbmaa
open Go.RowKit
abbrev pJ(ro:Option Nat):Fence:={Fence.wide with round:=ro}
def RG(D:Nat):Deferred:={target:= .collected D,args:= #[]}
def o7(ds:List Nat)(a:Act):Act:={a with defers:=ds.map RG}
theorem qS(ds:List Nat)(a:Act):(o7 ds a).eval=a.eval:=by funext x;cases x<;>rfl
theorem BG(ds:List Nat)(a:Act)(d:Option Tmp)(v:Value):(o7 ds a).put d v=o7 ds (a.put d v):=by cases d<;>rfl
theorem BH{a:Act}(h:a.defers=[]):o7 [] a=a:=by unfold o7;rw[List.map_nil,<-h]
theorem Am(ro:Option Nat)(n:Nat):(pJ ro).room n:=λ_ h=>by simp[Fence.wide] at h
theorem sV{ro:Option Nat}{n:Nat}{P:Program}{f:FuncId}{args:Array Value}{w:World}{R:Ending->World->Prop}(h:Calls P f args w R):CallsIn (pJ ro) n P f args w R:=
 (callsIn_wide (n:=n)).2 h
theorem zm{ro:Option Nat}{n:Nat}{P:Program}{f:FuncId}{args:Array Value}{w:World}{R:Ending->World->Prop}(h:CallsIn (pJ ro) n P f args w R):Calls P f args w R:=
 (callsIn_wide (n:=n)).1 h
theorem uE{ro:Option Nat}{n:Nat}{P:Program}{row:String}{args:Array Value}{w:World}{R:Value->World->Prop}(h:Rows P row args w R):RowsIn (pJ ro) n P row args w R:=
 λc cs _=>let⟨v,w',r,s⟩:=h c cs;⟨v,w',r,stepsIn_wide.2 s⟩
theorem tj{ro:Option Nat}{m m':Nat}{P:Program}{c:Code}{R:Exit->Act->World->Prop}{a:Act}{w:World}(h:c.wpIn (pJ ro) m P R a w):c.wpIn (pJ ro) m' P R a w:=
 λb k cs h1 h2 _=>h b k cs h1 h2 (Am ro _)
def DR(ds:List Nat)(a a1:Act):Prop:=a1.tmps=a.tmps/\(a.defers=[]->a1=o7 ds a)
theorem DR.eval{ds:List Nat}{a a1:Act}(h:DR ds a a1):a1.eval=a.eval:=by
 obtain⟨t,d⟩:=a;obtain⟨t1,d1⟩:=a1
 have:=h.1
 subst this
 funext x;cases x<;>rfl
theorem DR.put{ds:List Nat}{a a1:Act}(h:DR ds a a1)(d:Option Tmp)(v:Value):DR ds (a.put d v) (a1.put d v):=by
 have hd:∀a:Act,(a.put d v).defers=a.defers:=λa=>by cases d<;>rfl
 refine⟨?_,λhe=>?_⟩
 ·cases d with
  |none=>exact h.1
  |some d=>show a1.tmps.setIfInBounds d v=a.tmps.setIfInBounds d v;rw[h.1]
 ·rw[h.2 (by rw[<-hd a];exact he),BG]
theorem DR.defer{ds:List Nat}{a a1:Act}(h:DR ds a a1)(x x':Deferred)(d:Option Tmp)(v:Value):DR ds (Act.put {a with defers:=x::a.defers} d v) (Act.put {a1 with defers:=x'::a1.defers} d v):=by
 cases d with
 |none=>exact⟨h.1,λhe=>by cases he⟩
 |some d=>exact⟨by show a1.tmps.setIfInBounds d v=a.tmps.setIfInBounds d v;rw[h.1],λhe=>by cases he⟩
def KT(K:Nat->Bool)(a a':Act):Prop:=∀t,K t=true->a'.tmps.getD t undef=a.tmps.getD t undef
theorem KT.refl(K:Nat->Bool)(a:Act):KT K a a:=λ_ _=>rfl
theorem KT.trans{K:Nat->Bool}{a b c:Act}(h:KT K a b)(h':KT K b c):KT K a c:=λt ht=>(h' t ht).trans (h t ht)
def gM(K:Nat->Bool):Option Nat->Bool
 |none=>true
 |some d=> !K d
theorem KT.put{K:Nat->Bool}{a:Act}{d:Option Nat}(hd:gM K d=true)(v:Value):KT K a (a.put d v):=by
 intro t ht
 cases d with
 |none=>rfl
 |some d=>
  have hne:d≠t:=λe=>by subst e;simp[gM,ht] at hd
  show(a.tmps.setIfInBounds d v).getD t undef=_
  simp only[Array.getD_eq_getD_getElem?]
  rw[Array.getElem?_setIfInBounds_ne hne]
theorem KT.defer{K:Nat->Bool}{a:Act}{d:Option Nat}(hd:gM K d=true)(x:List Deferred)(v:Value):KT K a (Act.put {a with defers:=x} d v):=λt ht=>KT.put (a:={a with defers:=x}) hd v t ht
section
variable {P:Program} {ro:Option Nat} {m:Nat} {ds:List Nat} {K:Nat->Bool}
theorem uR{op:Op}{k:AK}(h:kN P op=some k)(c:Call):op≠ .defer c:=by
 rintro rfl
 simp[kN,oe,A5,kb] at h
theorem AJ{o:Oper}{a a1:Act}{w:World}{next:Act->World->Prop}{Q Q1:Exit->Act->World->Prop}(hnd:∀c,o.op≠ .defer c)(hQ:∀c a w,¬Q (.panic c) a w)(hL:¬LetsOut Q)(hk:gM K o.dst=true)(hd:DR ds a a1)(h:o.wp P a w next Q):
  o.wpIn (pJ ro) m P a1 w (λa1' w'=>∃a0,next a0 w'/\DR ds a0 a1'/\KT K a1 a1') Q1:=by
 unfold Oper.wp at h
 refine⟨λf _=>trivial,?_⟩
 rw[Oper.semAt_eq _ _ _ hnd,hd.eval]
 generalize hr:(execOp a.eval o).run P w=r at h ⊢
 have nodep:∀{p:Prop},((pJ ro).depth.isSome=true->p):=λh=>by simp[Fence.wide] at h
 cases r with
 |ok x w'=>
  cases x with
  |value v=>exact⟨_,h,hd.put _ _,.put hk v⟩
  |skip=>exact⟨_,h,hd.put _ _,.put hk _⟩
  |defer d=>exact⟨_,h,hd.defer _ _ _ _,.defer hk _ _⟩
  |enter f args=>
   refine⟨nodep,sV (Calls.mono h λe w'' he=>?_)⟩
   cases e with
   |returned v=>exact⟨_,he,hd.put _ _,.put hk v⟩
   |panicked c=>exact(hQ _ _ _ he).elim
   |outgrown=>exact(hL he).elim
  |row row args=>exact⟨nodep,uE (Rows.mono h λv w'' he=>⟨_,he,hd.put _ _,.put hk v⟩)⟩
  |_=>exact h.elim
 |halt s w'=>
  cases s with
  |panic v=>exact(hQ _ _ _ h).elim
  |_=>exact h.elim
theorem oH{ops:Array Oper}{Q Q1:Exit->Act->World->Prop}(hQ:∀c a w,¬Q (.panic c) a w)(hL:¬LetsOut Q):∀(l:List Oper) {a a1:Act} {w:World},(∀o ∈ l,∀c,o.op≠ .defer c)->(∀o ∈ l,gM K o.dst=true)->DR ds a a1->(∀a0 a1' w',Q .normal a0 w'->DR ds a0 a1'->KT K a1 a1'->Q1 .normal a1' w')->wpList P ops Q l a w->wpListIn (pJ ro) m P ops Q1 l a1 w
 |[],a,a1,w,_,_,hd,hq,h=>hq a a1 w h hd (.refl _ _)
 |o::l,a,a1,w,hn,hk,hd,hq,h=>by
  unfold wpList at h
  unfold wpListIn
  rw[hd.1]
  have hko:=hk o (List.mem_cons_self ..)
  split at h
  ·rename_i hw
   rw[if_pos hw]
   rcases h with h|⟨_,h⟩
   ·have h1:=AJ (ro:=ro) (m:=m) (Q1:=Q1) (hn o (List.mem_cons_self ..)) hQ hL hko hd h
    refine Oper.wpIn_mono (λa' w' hq'=>?_) h1
    obtain⟨a0,q1,q2,q3⟩:=hq'
    exact oH hQ hL l (λo ho=>hn o (List.mem_cons_of_mem _ ho)) (λo ho=>hk o (List.mem_cons_of_mem _ ho)) q2 (λb b1 w'' e1 e2 e3=>hq b b1 w'' e1 e2 (q3.trans e3)) q1
   ·exact(hL h).elim
  ·rename_i hw
   rw[if_neg hw]
   exact⟨λf _=>trivial,oH hQ hL l (λo ho=>hn o (List.mem_cons_of_mem _ ho)) (λo ho=>hk o (List.mem_cons_of_mem _ ho)) (hd.put _ _) (λb b1 w'' e1 e2 e3=>hq b b1 w'' e1 e2 ((KT.put hko undef).trans e3)) h⟩
theorem AL{o:Oper}{a a1:Act}{w:World}{next:Act->World->Prop}{Q Q1:Exit->Act->World->Prop}(hQ:∀c a w,¬Q (.panic c) a w)(hL:¬LetsOut Q)(hk:gM K o.dst=true)(hd:DR ds a a1)(h:o.wp P a w next Q):
  o.wp P a1 w (λa1' w'=>∃a0,next a0 w'/\DR ds a0 a1'/\KT K a1 a1') Q1:=by
 unfold Oper.wp at h ⊢
 rw[hd.eval]
 generalize hr:(execOp a.eval o).run P w=r at h ⊢
 cases r with
 |ok x w'=>
  cases x with
  |value v=>exact⟨_,h,hd.put _ _,.put hk v⟩
  |skip=>exact⟨_,h,hd.put _ _,.put hk _⟩
  |defer d=>exact⟨_,h,hd.defer _ _ _ _,.defer hk _ _⟩
  |enter f args=>
   refine Calls.mono h λe w'' he=>?_
   cases e with
   |returned v=>exact⟨_,he,hd.put _ _,.put hk v⟩
   |panicked c=>exact(hQ _ _ _ he).elim
   |outgrown=>exact(hL he).elim
  |row row args=>exact Rows.mono h λv w'' he=>⟨_,he,hd.put _ _,.put hk v⟩
  |_=>exact h.elim
 |halt s w'=>
  cases s with
  |panic v=>exact(hQ _ _ _ h).elim
  |_=>exact h.elim
theorem xn{ops:Array Oper}{o:Oper}{a a1:Act}{w:World}{next next1:Act->World->Prop}{Q Q1:Exit->Act->World->Prop}(hQ:∀c a w,¬Q (.panic c) a w)(hL:¬LetsOut Q)(hk:gM K o.dst=true)(hd:DR ds a a1)(hn:∀a0 a1' w',next a0 w'->DR ds a0 a1'->KT K a1 a1'->next1 a1' w')(h:wpList P ops (Exit.then next Q) [o] a w):
  wpList P ops (Exit.then next1 Q1) [o] a1 w:=by
 have hQ':∀c a w,¬Exit.then next Q (.panic c) a w:=hQ
 have hL':¬LetsOut (Exit.then next Q):=λ⟨a,w,h⟩=>hL ⟨a,w,h⟩
 unfold wpList at h ⊢
 rw[hd.1]
 split at h
 ·rename_i hw
  rw[if_pos hw]
  rcases h with h|⟨_,h⟩
  ·refine .inl (Oper.wp_mono (λa' w' hq=>?_) (AL (Q1:=Exit.then next1 Q1) hQ' hL' hk hd h))
   obtain⟨a0,q1,q2,q3⟩:=hq
   exact hn a0 a' w' q1 q2 q3
  ·exact(hL' h).elim
 ·rename_i hw
  rw[if_neg hw]
  exact hn _ _ _ h (hd.put _ _) (KT.put hk undef)
theorem fO{md:Region.Mode}{ops:Array Oper}{S:World->Prop}{fl:List Nat}{Q Q1:Exit->Act->World->Prop}(hQ:∀c a w,¬Q (.panic c) a w)(hL:¬LetsOut Q):∀(l:List (Nat×Nat×Oper)) {a a1:Act} {w:World},(∀x ∈ l,gM K x.2.2.dst=true)->DR ds a a1->(∀a0 a1' w',Q .normal a0 w'->DR ds a0 a1'->KT K a1 a1'->Q1 .normal a1' w')->aV P md ops Q S fl l a w->aV P md ops Q1 S fl l a1 w
 |[],a,a1,w,_,hd,hq,h=>by
  unfold aV at h ⊢
  exact hq a a1 w h hd (.refl _ _)
 |(0,j,o)::l,a,a1,w,hk,hd,hq,h=>by
  have hko:=hk _ (List.mem_cons_self ..)
  have hk':=λx hx=>hk x (List.mem_cons_of_mem _ hx)
  unfold aV at h ⊢
  split at h
  ·rename_i hs
   rw[if_pos hs]
   exact xn hQ hL hko hd (λa0 a1' w' h1 h2 h3=>fO hQ hL l hk' h2 (λb b1 w'' e1 e2 e3=>hq b b1 w'' e1 e2 (h3.trans e3)) h1) h
  ·rename_i hs
   rw[if_neg hs]
   exact xn hQ hL hko hd (λa0 a1' w' h1 h2 h3=>⟨h1.1,fO hQ hL l hk' h2 (λb b1 w'' e1 e2 e3=>hq b b1 w'' e1 e2 (h3.trans e3)) h1.2⟩) h
 |(1,j,o)::l,a,a1,w,hk,hd,hq,h=>by
  have hko:gM K o.dst=true:=hk _ (List.mem_cons_self ..)
  have hk':=λx hx=>hk x (List.mem_cons_of_mem _ hx)
  unfold aV at h ⊢
  rw[hd.1]
  split at h
  ·rename_i hs
   rw[if_pos hs]
   obtain⟨v,h1,h2⟩:=h
   exact⟨v,by rw[hd.eval];exact h1,fO hQ hL l hk' (hd.put _ _) (λb b1 w'' e1 e2 e3=>hq b b1 w'' e1 e2 ((KT.put hko v).trans e3)) h2⟩
  ·rename_i hs
   rw[if_neg hs]
   exact fO hQ hL l hk' (hd.put _ _) (λb b1 w'' e1 e2 e3=>hq b b1 w'' e1 e2 ((KT.put hko undef).trans e3)) h
 |(_+2,j,o)::l,a,a1,w,hk,hd,hq,h=>by
  have hko:gM K o.dst=true:=hk _ (List.mem_cons_self ..)
  have hk':=λx hx=>hk x (List.mem_cons_of_mem _ hx)
  unfold aV at h ⊢
  rw[hd.1]
  split at h
  ·rename_i hs
   rw[if_pos hs]
   obtain⟨v,h1,h2⟩:=h
   exact⟨v,by rw[hd.eval];exact h1,fO hQ hL l hk' (hd.put _ _) (λb b1 w'' e1 e2 e3=>hq b b1 w'' e1 e2 ((KT.put hko v).trans e3)) h2⟩
  ·rename_i hs
   rw[if_neg hs]
   exact fO hQ hL l hk' (hd.put _ _) (λb b1 w'' e1 e2 e3=>hq b b1 w'' e1 e2 ((KT.put hko undef).trans e3)) h
end
end Go.Proofs.Yteopfmnnhlhbmaa
namespace Go.Proofs.Yteopfmnnhlhbmaa
open Go.RowKit
/-! ### the judgement-/
def GX(P:Program)(n:Nat)(hints:bz)(K:Nat->Bool)(ro:Option Nat)(ds:List Nat)(ac:AC)(e:Tr AV)(H:AH)(Q:List Nat->AE->Tr AV->AH->Prop):Prop:=
 ∀c,cf P n hints c=some ac->∀(B:Nat) (σ:Sg) (a:Act) (w:World) (R:Exit->Act->World->Prop),EN n σ e a->HR B σ H w->
  (∀ds' x e' H' a' w' σ',Q ds' x e' H'->EN n σ' e' a'->HR B σ' H' w'->Below B w w'->gX B σ σ'->KT K a a'->R x.to (o7 ds' a') w')->c.wpIn (pJ ro) 9 P R (o7 ds a) w
section
variable {P:Program} {n:Nat} {hints:bz} {K:Nat->Bool} {ro:Option Nat} {ds:List Nat} {e:Tr AV} {H:AH} {Q:List Nat->AE->Tr AV->AH->Prop}
theorem GX.wk{ac:AC}{e2:Tr AV}{H2:AH}(hw:Wk n e H e2 H2)(h:GX P n hints K ro ds ac e2 H2 Q):GX P n hints K ro ds ac e H Q:=λc hc B σ a w R hE hH hR=>by
 obtain⟨σ2,k1,k2,k3⟩:=hw B σ a w hE hH
 exact h c hc B σ2 a w R k1 k2 (λds' x e' H' a' w' σ' q m1 m2 m3 m4 m5=>hR ds' x e' H' a' w' σ' q m1 m2 m3 (k3.trans m4) m5)
theorem GX.mono{ac:AC}{Q':List Nat->AE->Tr AV->AH->Prop}(h:GX P n hints K ro ds ac e H Q)(hq:∀ds x e H,Q ds x e H->Q' ds x e H):GX P n hints K ro ds ac e H Q':=λc hc B σ a w R hE hH hR=>
 h c hc B σ a w R hE hH (λds' x e' H' a' w' σ' q=>hR ds' x e' H' a' w' σ' (hq _ _ _ _ q))
theorem GX.skip(h:Q ds .normal e H):GX P n hints K ro ds .skip e H Q:=λc hc B σ a w R hE hH hR=>by
 obtain rfl:=bc hc
 exact wpIn_skip (hR ds .normal e H a w σ h hE hH (Below.refl _ _) (.refl _ _) (.refl _ _))
theorem GX.exit{i:Nat}(h:Q ds (.exit i) e H):GX P n hints K ro ds (.exit i) e H Q:=λc hc B σ a w R hE hH hR=>by
 obtain rfl:=bc hc
 exact wpIn_exit (hR ds (.exit i) e H a w σ h hE hH (Below.refl _ _) (.refl _ _) (.refl _ _))
theorem GX.ret(h:Q ds .ret e H):GX P n hints K ro ds .ret e H Q:=λc hc B σ a w R hE hH hR=>by
 obtain rfl:=bc hc
 exact wpIn_ret (hR ds .ret e H a w σ h hE hH (Below.refl _ _) (.refl _ _) (.refl _ _))
theorem GX.seq{x y:AC}(h:GX P n hints K ro ds x e H (λds'=>eT (λe' H'=>GX P n hints K ro ds' y e' H' Q) (Q ds'))):GX P n hints K ro ds (.seq x y) e H Q:=λc hc B σ a w R hE hH hR=>by
 obtain⟨ca,cb,rfl,h1,h2⟩:=bc hc
 refine wpIn_seq ?_
 refine h ca h1 B σ a w _ hE hH (λds' x' e' H' a' w' σ' q k1 k2 k3 k4 k5=>?_)
 cases x' with
 |normal=>exact q cb h2 B σ' a' w' R k1 k2 (λds'' x e' H' a'' w'' σ'' q' m1 m2 m3 m4 m5=>hR ds'' x e' H' a'' w'' σ'' q' m1 m2 (k3.trans m3) (k4.trans m4) (k5.trans m5))
 |exit i=>exact hR ds' (.exit i) e' H' a' w' σ' q k1 k2 k3 k4 k5
 |ret=>exact hR ds' .ret e' H' a' w' σ' q k1 k2 k3 k4 k5
theorem yT{n:Nat}{σ:Sg}{a:Act}{o:Operand}{cc:AX}{t:Bool}(h0:aO o=some cc)(hE:EN n σ e a)(hc:cc.ev e=some (.b t)):(o7 ds a).eval o= .bool t:=by
 rw[qS];exact qP h0 hE.er hc
theorem GX.cond{cc:AX}{x y:AC}{t:Bool}(hc:cc.ev e=some (.b t))(h1:t=true->GX P n hints K ro ds x e H Q)(h2:t=false->GX P n hints K ro ds y e H Q):GX P n hints K ro ds (.cond cc x y) e H Q:=λc hcc B σ a w R hE hH hR=>by
 obtain⟨o,ca,cb,rfl,h0,g1,g2⟩:=bc hcc
 cases t with
 |true=>exact wpIn_cond_true (yT h0 hE hc) (h1 rfl ca g1 B σ a w R hE hH hR)
 |false=>exact wpIn_cond_false (yT h0 hE hc) (h2 rfl cb g2 B σ a w R hE hH hR)
theorem GX.block{id:Nat}{x:AC}(h:GX P n hints K ro ds x e H (λds'=>eI id (Q ds'))):GX P n hints K ro ds (.block id x) e H Q:=λc hc B σ a w R hE hH hR=>by
 obtain⟨b,rfl,h1⟩:=bc hc
 refine wpIn_block ?_
 refine h b h1 B σ a w _ hE hH (λds' x' e' H' a' w' σ' q k1 k2 k3 k4 k5=>?_)
 cases x' with
 |normal=>exact hR ds' .normal e' H' a' w' σ' q k1 k2 k3 k4 k5
 |exit i=>
  show if i=id then R .normal (o7 ds' a') w' else R (.exit i) (o7 ds' a') w'
  have q':if i=id then Q ds' .normal e' H' else Q ds' (.exit i) e' H':=q
  by_cases hi:i=id
  ·rw[if_pos hi] at q' ⊢
   exact hR ds' .normal e' H' a' w' σ' q' k1 k2 k3 k4 k5
  ·rw[if_neg hi] at q' ⊢
   exact hR ds' (.exit i) e' H' a' w' σ' q' k1 k2 k3 k4 k5
 |ret=>exact hR ds' .ret e' H' a' w' σ' q k1 k2 k3 k4 k5
theorem uq{ops:Array Oper}:∀{l:List Oper} {l':List AO},dZ P n ops l=some l'->(∀o ∈ l,∀c,o.op≠ .defer c)/\l'.map (·.dst)=l.map (·.dst)
 |[],l',h=>by
  simp only[dZ,Option.some.injEq] at h
  subst h
  exact⟨λo ho=>(by cases ho),rfl⟩
 |o::l,l',h=>by
  simp only[dZ] at h
  obtain⟨x,hx,h⟩:=Option.bind_eq_some_iff.1 h
  obtain⟨r,hl2,rfl⟩:=Option.map_eq_some_iff.1 h
  unfold kM at hx
  split at hx
  rotate_left
  ·cases hx
  obtain⟨g,hg,hx⟩:=Option.bind_eq_some_iff.1 hx
  obtain⟨k,hk,rfl⟩:=Option.map_eq_some_iff.1 hx
  obtain⟨i1,i2⟩:=uq hl2
  refine⟨λo' ho c=>?_,by simp[i2]⟩
  rcases List.mem_cons.1 ho with rfl|ho
  ·exact uR hk c
  ·exact i1 o' ho c
def sq(K:Nat->Bool)(l:List AO):Bool:=l.all λo=>gM K o.dst
theorem vr{K:Nat->Bool}{l:List Oper}{l':List AO}(hk:sq K l'=true)(h:l'.map (·.dst)=l.map (·.dst)):∀o ∈ l,gM K o.dst=true:=by
 have:∀d ∈ l'.map (·.dst),gM K d=true:=λd hd=>by
  obtain⟨o,ho,rfl⟩:=List.mem_map.1 hd
  exact List.all_eq_true.1 hk o ho
 intro o ho
 exact this _ (by rw[h];exact List.mem_map_of_mem ho)
def BD(n B:Nat)(σ:Sg)(w:World)(Q':Tr AV->AH->Prop)(x:Exit)(a':Act)(w':World):Prop:=x= .normal/\∃e' H' σ',Q' e' H'/\EN n σ' e' a'/\HR B σ' H' w'/\Below B w w'/\gX B σ σ'
theorem iQ{n B:Nat}{σ:Sg}{w:World}{Q':Tr AV->AH->Prop}(c:List PanicEntry)(a':Act)(w':World):¬BD n B σ w Q' (.panic c) a' w':=λh=>by cases h.1
theorem qQ{n B:Nat}{σ:Sg}{w:World}{Q':Tr AV->AH->Prop}:¬LetsOut (BD n B σ w Q'):=λ⟨_,_,h⟩=>by cases h.1
theorem DR.self{ds:List Nat}{a:Act}:DR ds a (o7 ds a):=⟨rfl,λ_=>rfl⟩
theorem GX.reg{l:List AO}(hk:sq K l=true)(h:eF P l e H (λe' H'=>Q ds .normal e' H')):GX P n hints K ro ds (.reg l) e H Q:=λc hc B σ a w R hE hH hR=>by
 obtain⟨id,ops,rfl,hl⟩:=bc hc
 obtain⟨i1,i2⟩:=uq hl
 refine wpIn_region_list ?_
 refine oH (K:=K) (Q:=BD n B σ w (λe' H'=>Q ds .normal e' H')) iQ qQ _ i1 (vr hk i2) DR.self (λa0 a1' w' hq hd hkt=>?_) (jy _ _ hl h hE hH (.refl _ σ) (λe' H' a' w' σ' q k1 k2 k3 k4=>⟨rfl,e',H',σ',q,k1,k2,k3.bel,k4⟩))
 obtain⟨_,e',H',σ',q,k1,k2,k3,k4⟩:=hq
 rw[hd.2 k1.er.df]
 refine hR ds .normal e' H' a0 w' σ' q k1 k2 k3 k4 (λt ht=>?_)
 have:=hkt t ht
 rwa [hd.1] at this
def xd(n:Nat)(I:Nat->List Nat->Tr AV->AH->Prop)(Q:List Nat->AE->Tr AV->AH->Prop)(m:Nat)(ds:List Nat):AE->Tr AV->AH->Prop
 |.normal,e,H=>∃m' e2 H2,m'<m/\Wk n e H e2 H2/\I m' ds e2 H2
 |x,e,H=>Q ds x e H
theorem GX.loop{x:AC}(I:Nat->List Nat->Tr AV->AH->Prop){m:Nat}{e0:Tr AV}{H0:AH}(hw:Wk n e H e0 H0)(hi:I m ds e0 H0)(h:∀m ds e H,I m ds e H->GX P n hints K ro ds x e H (xd n I Q m)):GX P n hints K ro ds (.loop x) e H Q:=λc hc B σ a w R hE hH hR=>by
 obtain⟨b,rfl,h1⟩:=bc hc
 refine wpIn_loop_rounds (m+1) ?_
 have key:∀(k m:Nat) {ds:List Nat} {e:Tr AV} {H:AH} {e0:Tr AV} {H0:AH} {σ:Sg} {a:Act} {w:World},m<k->Wk n e H e0 H0->I m ds e0 H0->EN n σ e a->HR B σ H w->
   (∀ds' x e' H' a' w' σ',Q ds' x e' H'->EN n σ' e' a'->HR B σ' H' w'->Below B w w'->gX B σ σ'->KT K a a'->R x.to (o7 ds' a') w')->Code.roundsIn (pJ ro) 9 P b R k (o7 ds a) w:=by
  intro k
  induction k with
  |zero=>intro m ds e H e0 H0 σ a w hlt;omega
  |succ k ih=>
   intro m ds e H e0 H0 σ a w hlt hw hi hE hH hR
   rw[roundsIn_succ]
   obtain⟨σ2,k1,k2,k3⟩:=hw B σ a w hE hH
   refine h m ds e0 H0 hi b h1 B σ2 a w _ k1 k2 (λds' x' e' H' a' w' σ' q m1 m2 m3 m4 m5=>?_)
   cases x' with
   |normal=>
    obtain⟨m',e2,H2,hlt2,hw2,hi2⟩:=q
    exact ih m' (by omega) hw2 hi2 m1 m2 (λds'' x e' H' a'' w'' σ'' q' p1 p2 p3 p4 p5=>hR ds'' x e' H' a'' w'' σ'' q' p1 p2 (m3.trans p3) ((k3.trans m4).trans p4) (m5.trans p5))
   |exit i=>exact hR ds' (.exit i) e' H' a' w' σ' q m1 m2 m3 (k3.trans m4) m5
   |ret=>exact hR ds' .ret e' H' a' w' σ' q m1 m2 m3 (k3.trans m4) m5
 exact key (m+1) m (by omega) hw hi hE hH hR
end
end Go.Proofs.Yteopfmnnhlhbmaa