/-
  PROVED: 'Rows.OptimizerShortensSaid': OptimizerShortens returns true for all code and numbers of passes. No condition.
-/
import Derived.OpenShut
import Derived.ProofKit
import Derived.ShutString
import Derived.WalkKit
import Derived.Test.YtidhfimbnjaceaaGs36
import Derived.Test.YtidhfimbnjaceaaGs33
import Derived.Test.YtidhfimbnjaceaaGs38
import Derived.Test.YtidhfimbnjaceaaGs24
import Derived.Test.YtidhfimbnjaceaaGs10
import Derived.Test.YtidhfimbnjaceaaRows
set_option linter.unusedSimpArgs false
set_option linter.unusedVariables false
set_option linter.constructorNameAsVariable false
set_option maxRecDepth 100000
set_option maxHeartbeats 4000000
namespace Go.Proofs.Ytidhfimbnjaceaa
open Go.RowKit
theorem oP{p:List In->List In}(h:∀c,(p c).length<=c.length):∀(f:Nat) (c:List In),(hI p f c).length<=c.length
 |0,c=>Nat.le_refl _
 |f+1,c=>by
  rw[hI]
  split
  ·exact Nat.le_refl _
  ·exact Nat.le_trans (oP h f (p c)) (h c)
theorem kL{p:List In->List In}{G:List In->Prop}(h:∀c,G c->G (p c)):∀(f:Nat) (c:List In),G c->G (hI p f c)
 |0,c,hc=>hc
 |f+1,c,hc=>by
  rw[hI]
  split
  ·exact hc
  ·exact kL h f (p c) (h c hc)
theorem jZ{la:List (Bool×Int)}{n:Nat}{par:Int}{c:List In}(h:b9 la n par c):∃L,js (16384*n+1) n c=some L:=by
 have hn:=(b6 h.chk).ncs
 have:=Nat.mul_le_mul_right n hn
 exact jg _ _ (by omega)
def nu(la:List (Bool×Int))(n:Nat)(par:Int)(f:FuncId)(c d:List In):Prop:=
 bj Try.prog f [af la.length (aC la) n par c] [.v (af la.length (aC la) n par d),.v (.n .i64 0)]/\b9 la n par d/\d.length<=c.length
theorem nD{la:List (Bool×Int)}{n:Nat}{par:Int}{c:List In}(h:b9 la n par c):∃d,nu la n par 11 c d:=⟨_,lh h.chk h.arg,eA h,gA⟩
theorem lm{la:List (Bool×Int)}{n:Nat}{par:Int}{c:List In}(h:b9 la n par c):∃d,nu la n par 14 c d:=⟨_,jq h.chk h.arg,fG h,iT⟩
theorem mr{la:List (Bool×Int)}{n:Nat}{par:Int}{c:List In}(h:b9 la n par c):∃d,nu la n par 15 c d:=⟨_,kp h.chk h.arg,fk h,ic⟩
theorem mu{la:List (Bool×Int)}{n:Nat}{par:Int}{c:List In}(h:b9 la n par c):∃d,nu la n par 12 c d:=by
 obtain⟨L,hL⟩:=jZ h
 exact⟨_,kr _ h.chk h.arg hL (λ_=>r9),gZ (by rw[hL];simp) h,iq⟩
theorem jL{la:List (Bool×Int)}{n:Nat}{par:Int}{c:List In}(h:b9 la n par c):∃d,nu la n par 16 c d:=by
 have hlv:∀c,b9 la n par c->js (16384*n+1) n c≠none:=λc hc=>by
  obtain⟨L,hL⟩:=jZ hc
  rw[hL];simp
 have hlen:(hI (λc=>fN (16384*n+1) n (fX (gn (dJ n c)))) 8 c).length<=c.length:=
  oP (λc=>Nat.le_trans iq (Nat.le_trans ic (Nat.le_trans iT gA))) 8 c
 exact⟨_,gU (la:=la) (regs:=n) (par:=par) (cs:=c) (b9 la n par) (λc hc=>hc) (λc hc=>eA hc) (λc hc=>fG hc) (λc hc=>fk hc) (16384*n+1) hlv (λc hc=>gZ (hlv c hc) hc) (λc L _ _ _=>r9) h hlen,
  kL (G:=b9 la n par) (λc hc=>gZ (hlv _ (fk (fG (eA hc)))) (fk (fG (eA hc)))) 8 c h,hlen⟩
theorem qU{la:List (Bool×Int)}{n:Nat}{par:Int}{c:List In}(v:Int)(h:b9 la n par c):∃d,b9 la n par d/\d.length<=c.length/\bj Try.prog 7 [af la.length (aC la) n par c,.n .u8 v] [.v (af la.length (aC la) n par d),.v (.n .i64 0)]:=by
 obtain⟨d0,c0,r0,l0⟩:=nD h
 obtain⟨d1,c1,r1,l1⟩:=lm h
 obtain⟨d2,c2,r2,l2⟩:=mr h
 obtain⟨d3,c3,r3,l3⟩:=mu h
 obtain⟨d4,c4,r4,l4⟩:=jL h
 simp only[af] at c0 c1 c2 c3 c4
 by_cases h0:v.tmod 5=0
 ·refine⟨d0,r0,l0,?_⟩
  refine ae aH mi ⟨by simp,by decide⟩ ?_
  simp only[aV,af]
  repeat first|with_reducible refine gg ?_|simp only[go_sem,simprocAttr]
  refine⟨λ_=>?_,λh=>absurd h0 h⟩
  repeat first|with_reducible refine gg ?_|simp only[go_sem,simprocAttr]
  refine g1 c0 ?_
  repeat first|with_reducible refine gg ?_|simp only[go_sem,simprocAttr]
  exact bn (.v rfl rfl (.v rfl rfl .nil))
 by_cases h1:v.tmod 5=1
 ·refine⟨d1,r1,l1,?_⟩
  refine ae aH mi ⟨by simp,by decide⟩ ?_
  simp only[aV,af]
  repeat first|with_reducible refine gg ?_|simp only[go_sem,simprocAttr]
  refine⟨λh=>absurd h h0,λ_=>?_⟩
  repeat first|with_reducible refine gg ?_|simp only[go_sem,simprocAttr]
  refine⟨λ_=>?_,λh=>absurd h1 h⟩
  repeat first|with_reducible refine gg ?_|simp only[go_sem,simprocAttr]
  refine g1 c1 ?_
  repeat first|with_reducible refine gg ?_|simp only[go_sem,simprocAttr]
  exact bn (.v rfl rfl (.v rfl rfl .nil))
 by_cases h2:v.tmod 5=2
 ·refine⟨d2,r2,l2,?_⟩
  refine ae aH mi ⟨by simp,by decide⟩ ?_
  simp only[aV,af]
  repeat first|with_reducible refine gg ?_|simp only[go_sem,simprocAttr]
  refine⟨λh=>absurd h h0,λ_=>?_⟩
  repeat first|with_reducible refine gg ?_|simp only[go_sem,simprocAttr]
  refine⟨λh=>absurd h h1,λ_=>?_⟩
  repeat first|with_reducible refine gg ?_|simp only[go_sem,simprocAttr]
  refine⟨λ_=>?_,λh=>absurd h2 h⟩
  repeat first|with_reducible refine gg ?_|simp only[go_sem,simprocAttr]
  refine g1 c2 ?_
  repeat first|with_reducible refine gg ?_|simp only[go_sem,simprocAttr]
  exact bn (.v rfl rfl (.v rfl rfl .nil))
 by_cases h3:v.tmod 5=3
 ·refine⟨d3,r3,l3,?_⟩
  refine ae aH mi ⟨by simp,by decide⟩ ?_
  simp only[aV,af]
  repeat first|with_reducible refine gg ?_|simp only[go_sem,simprocAttr]
  refine⟨λh=>absurd h h0,λ_=>?_⟩
  repeat first|with_reducible refine gg ?_|simp only[go_sem,simprocAttr]
  refine⟨λh=>absurd h h1,λ_=>?_⟩
  repeat first|with_reducible refine gg ?_|simp only[go_sem,simprocAttr]
  refine⟨λh=>absurd h h2,λ_=>?_⟩
  repeat first|with_reducible refine gg ?_|simp only[go_sem,simprocAttr]
  refine⟨λ_=>?_,λh=>absurd h3 h⟩
  repeat first|with_reducible refine gg ?_|simp only[go_sem,simprocAttr]
  refine g1 c3 ?_
  repeat first|with_reducible refine gg ?_|simp only[go_sem,simprocAttr]
  exact bn (.v rfl rfl (.v rfl rfl .nil))
 refine⟨d4,r4,l4,?_⟩
 refine ae aH mi ⟨by simp,by decide⟩ ?_
 simp only[aV,af]
 repeat first|with_reducible refine gg ?_|simp only[go_sem,simprocAttr]
 refine⟨λh=>absurd h h0,λ_=>?_⟩
 repeat first|with_reducible refine gg ?_|simp only[go_sem,simprocAttr]
 refine⟨λh=>absurd h h1,λ_=>?_⟩
 repeat first|with_reducible refine gg ?_|simp only[go_sem,simprocAttr]
 refine⟨λh=>absurd h h2,λ_=>?_⟩
 repeat first|with_reducible refine gg ?_|simp only[go_sem,simprocAttr]
 refine⟨λh=>absurd h h3,λ_=>?_⟩
 repeat first|with_reducible refine gg ?_|simp only[go_sem,simprocAttr]
 refine g1 c4 ?_
 repeat first|with_reducible refine gg ?_|simp only[go_sem,simprocAttr]
 exact bn (.v rfl rfl (.v rfl rfl .nil))
abbrev bC(ps:List Int):Nat->Nat->AV:=λi _=> .n .u8 (ps.getD i 0)
theorem kW{na:Nat}{ra rp:Nat->Nat->AV}{regs par:Int}{cs:List In}{np:Nat}(h:kc na regs cs=false\/(12:Int)<np):bj Try.prog 3 [af na ra regs par cs,.fs 1 np rp] [.v (.b true)]:=by
 have hw:=i9 na ra regs par cs
 cases hf:kc na regs cs
 ·rw[hf] at hw
  refine ae aH oG ⟨by simp,by decide⟩ ?_
  simp only[aV,af] at hw ⊢
  repeat first|with_reducible refine gg ?_|simp only[go_sem,simprocAttr]
  refine g1 hw ?_
  repeat first|with_reducible refine gg ?_|simp only[go_sem,simprocAttr]
  refine ah [] .nil gB (by simp only[go_sem,simprocAttr]) ?_
  repeat first|with_reducible refine gg ?_|simp only[go_sem,simprocAttr]
  exact ag rfl rfl
 ·rw[hf] at hw
  have h12:(12:Int)<np:=h.resolve_left (by rw[hf];simp)
  refine ae aH oG ⟨by simp,by decide⟩ ?_
  simp only[aV,af] at hw ⊢
  repeat first|with_reducible refine gg ?_|simp only[go_sem,simprocAttr]
  refine g1 hw ?_
  repeat first|with_reducible refine gg ?_|simp only[h12,decide_true,go_sem,simprocAttr]
  refine ah [] .nil gB (by simp only[go_sem,simprocAttr]) ?_
  repeat first|with_reducible refine gg ?_|simp only[go_sem,simprocAttr]
  exact ag rfl rfl
theorem qc{na:Nat}{ra rp:Nat->Nat->AV}{regs par er:Int}{cs:List In}{np:Nat}{x:AV}(hf:kc na regs cs=true)(h12:¬(12:Int)<np)(he:¬er=0)(hc:bj Try.prog 6 [af na ra regs par cs] [.v x,.v (.n .i64 er)]):bj Try.prog 3 [af na ra regs par cs,.fs 1 np rp] [.v (.b true)]:=by
 have hw:=i9 na ra regs par cs
 rw[hf] at hw
 refine ae aH oG ⟨by simp,by decide⟩ ?_
 simp only[aV,af] at hw hc ⊢
 repeat first|with_reducible refine gg ?_|simp only[go_sem,simprocAttr]
 refine g1 hw ?_
 repeat first|with_reducible refine gg ?_|simp only[h12,decide_false,go_sem,simprocAttr]
 refine g1 hc ?_
 repeat first|with_reducible refine gg ?_|simp only[he,decide_false,go_sem,simprocAttr]
 refine ah [] .nil gB (by simp only[go_sem,simprocAttr]) ?_
 repeat first|with_reducible refine gg ?_|simp only[go_sem,simprocAttr]
 exact ag rfl rfl
theorem mO(la:List (Bool×Int))(regs par:Int)(cs:List In)(ps:List Int)(ha:eU cs):bj Try.prog 3 [af la.length (aC la) regs par cs,.fs 1 ps.length (bC ps)] [.v (.b true)]:=by
 cases hf:kc la.length regs cs
 ·exact kW (.inl hf)
 by_cases h12:(12:Int)<ps.length
 ·exact kW (.inr h12)
 have hfew:la.length<=20/\cs.length<=300:=by
  unfold kc mX at hf
  by_cases h1:(la.length:Int)<=20
  ·by_cases h2:(cs.length:Int)<=300
   ·exact⟨by omega,by omega⟩
   ·simp[h1,h2] at hf
  ·simp[h1] at hf
 have hck:=λ(c:List In) (hc:c.length<=300) (hx:eU c)=>kZ la regs par c (by omega) (by omega) hx
 by_cases hz:(gF la regs par cs).2=0
 rotate_left
 ·exact qc hf h12 hz (hck cs hfew.2 ha)
 have h:=b6 hz
 have hr:=h.nregs
 obtain⟨n,rfl⟩:∃n:Nat,regs=(n:Int):=⟨regs.toNat,by omega⟩
 have hg:b9 la n par cs:=⟨hz,ha⟩
 have hw:=i9 la.length (aC la) n par cs
 rw[hf] at hw
 have hc0:=hck cs hfew.2 ha
 rw[hz] at hc0
 generalize hx0:(gF la n par cs).1=x0 at hc0
 refine ae aH oG ⟨by simp,by decide⟩ ?_
 simp only[aV,af] at hw hc0 ⊢
 repeat first|with_reducible refine gg ?_|simp only[go_sem,simprocAttr]
 refine g1 hw ?_
 repeat first|with_reducible refine gg ?_|simp only[h12,decide_false,go_sem,simprocAttr]
 refine g1 hc0 ?_
 repeat first|with_reducible refine gg ?_|simp only[decide_false,go_sem,simprocAttr]
 refine GA.loop (I:=λmm e H=>∃(k:Nat) (c:List In),mm=ps.length-k/\k<=ps.length/\b9 la n par c/\c.length<=300/\e=aL [(1,.fs 1 ps.length (bC ps)),(2,.p 0 0),(7,.n .i64 k)]/\H=aq [aK 0 25 [.fs 2 la.length (aC la),.n .i64 n,.n .i64 par,.fs 5 c.length (cC c)]]) (Wk.mk [0] [] ?_ ?_ ?_) ⟨0,cs,rfl,by omega,hg,hfew.2,rfl,rfl⟩ ?_
 ·simp only[aZ,a7,go_sem,simprocAttr]
  repeat' refine aa ?_ ?_
  all_goals first|exact dt|skip
 ·exact .cons rfl (.ls) .nil
 ·simp
 rintro mm e H ⟨k,c,rfl,hk,hc,hc3,rfl,rfl⟩
 repeat first|with_reducible refine gg ?_|simp only[go_sem,simprocAttr]
 refine⟨λhlt=>?_,λhlt=>?_⟩
 ·obtain⟨d,hd,hl,hp⟩:=qU (ps.getD k 0) hc
  have hcd:=hck d (by omega) hd.arg
  rw[hd.chk] at hcd
  generalize hx1:(gF la n par d).1=x1 at hcd
  simp only[af] at hp hcd
  have hkp:(0:Int)<=k:=by omega
  have hbk:bC ps k 0= .n .u8 (ps.getD k 0):=rfl
  have hct:bC ps (Int.toNat k) 0= .n .u8 (ps.getD k 0):=rfl
  have l1:¬(c.length:Int)<d.length:=by omega
  have hadd:IntKind.wrap .i64 ((k:Int)+1)=((k+1:Nat):Int):=by rw[cE (by omega)];omega
  repeat first|with_reducible refine gg ?_|simp only[go_sem,simprocAttr]
  refine GA.cutQ (aL [(1,.fs 1 ps.length (bC ps)),(2,.p 0 0),(7,.n .i64 k),(8,.p 1 0),(9,.n .i64 0)]) (aq [aK 0 25 [.fs 2 la.length (aC la),.n .i64 n,.n .i64 par,.fs 5 d.length (cC d)],aK 0 25 [.fs 2 la.length (aC la),.n .i64 n,.n .i64 par,.fs 5 c.length (cC c)]]) ?_ (λe' H' hw=>GA.wk hw ?_)
  ·refine GA.frkm aH 1 (by simp only[ee,go_sem,simprocAttr]) ?_
   simp only[hkp,hlt,hbk,hct,decide_true,decide_false,go_sem,simprocAttr]
   repeat' with_reducible refine aa ?_ ?_
   all_goals (refine g2 hp ?_;simp only[go_sem,simprocAttr];repeat' with_reducible refine aa ?_ ?_)
   all_goals first
    |decide
    |exact Nat.le_trans (by simp only[go_sem,simprocAttr];decide) (kill_low_ge _ _)
    |(refine Wk.mk [1,0] [] ?_ ?_ ?_
      ·simp only[aZ,a7,go_sem,simprocAttr]
       repeat' refine aa ?_ ?_
       all_goals first|exact dt|skip
      ·exact .cons rfl (.l4) (.cons rfl (.ls) .nil)
      ·simp)
  ·repeat first|with_reducible refine gg ?_|simp only[l1,decide_true,decide_false,Bool.not_true,Bool.not_false,go_sem,simprocAttr]
   refine g1 hcd ?_
   repeat first|with_reducible refine gg ?_|simp only[hadd,decide_true,decide_false,Bool.not_true,Bool.not_false,go_sem,simprocAttr]
   refine⟨_,_,_,?_,Wk.mk [0] [] ?_ ?_ ?_,k+1,d,rfl,by omega,hd,by omega,rfl,rfl⟩
   ·omega
   ·simp only[aZ,a7,go_sem,simprocAttr]
    repeat' refine aa ?_ ?_
    all_goals first|exact dt|skip
   ·exact .cons rfl (.l4) .nil
   ·simp
 ·repeat first|with_reducible refine gg ?_|simp only[go_sem,simprocAttr]
  refine ah [] .nil gB (by simp only[go_sem,simprocAttr]) ?_
  repeat first|with_reducible refine gg ?_|simp only[go_sem,simprocAttr]
  exact ag rfl rfl
end Go.Proofs.Ytidhfimbnjaceaa
namespace Go.Proofs.Ytidhfimbnjaceaa
open Go.ChangeShapes Go.WideShapes Go.ChangeAt Go.RowKit Go.Deep Go.Joins
theorem nP{H:Type}{enc:TypeId×Value->H}{P:Program}{w:World}{base:Nat}{spare:Nat->Bool}{held:Bool}{t e:TypeId}{k:IntKind}{fuel:Nat}{cs:List Value}{x:DataW H×List MemPlace}(ht:P.underlying t=some (.slice e))(he:P.underlying e=some (.int k))(hc:P.cellsOf e=1)
  (h:DataW.trod enc P w base spare held fuel t cs=some x):
  ∃(a:Option Addr) (cap:Nat) (xs:List Int),cs=[.slice a xs.length cap]/\xs.length<=cap/\eo w.heap.size w 1 a xs.length (λj _=> .int k (xs.getD j 0)):=by
 rcases open_ints ht he hc h with⟨rfl,_⟩|⟨a,len,cap,zs,rfl,hb,hl,hm,hz,_,hcell,hw⟩
 ·exact⟨none,0,[],rfl,by simp,λi hi=>by simp at hi⟩
 ·have hle:len<=zs.length:=by rw[hz];split<;>omega
  have hlen:(zs.take len).length=len:=by rw[List.length_take];omega
  refine⟨some a,cap,zs.take len,by rw[hlen],by rw[hlen];exact iZ ht h rfl,λi hi=>?_⟩
  rw[hlen] at hi
  obtain⟨b,off,sp⟩:=a
  have hci:=hcell i (by omega)
  have hc0:=hcell 0 (by omega)
  have hsp:sp=none:=by
   unfold World.cell? Addr.add at hc0
   split at hc0
   ·cases sp with
    |none=>rfl
    |some _=>simp at hc0
   ·cases hc0
  subst hsp
  rw[ko] at hci
  refine⟨b,off,rfl,World.block_lt_of_cell? w _ hci,λj hj=>?_⟩
  have hj0:j=0:=by omega
  subst hj0
  rw[Nat.mul_one,Nat.add_zero,hci]
  simp[List.getD_eq_getElem?_getD,hi]
theorem mF{H:Type}{enc:TypeId×Value->H}{w:World}{base:Nat}{spare:Nat->Bool}{held:Bool}{r:Reach}{b0:Nat}{v:Value}{d:DataW H}{p:List MemPlace}
  (hv:Value.okWide Try.prog w r b0 26 v) (h:DataW.Trod enc Try.prog w base spare held 26 v d p):
  ∃ps:List Int,VR (Sg.data (jb w)) (.fs 1 ps.length (bC ps)) v:=by
 obtain⟨a,len,cap,rfl⟩:∃a len cap,v= .slice a len cap:=by
  have:=okWide_slice (Try.underlying26) hv
  obtain⟨a,len,cap,rfl⟩:=this
  exact⟨a,len,cap,rfl⟩
 obtain⟨n,hn⟩:=h
 obtain⟨a',cap',xs,e,hl,hR⟩:=nP (P:=Try.prog) (e:=5) (k:= .u8) (by kernel_rfl) (by kernel_rfl) (by kernel_rfl) hn
 have e':[Value.slice a len cap]=[.slice a' xs.length cap']:=e
 simp only[List.cons.injEq,and_true] at e'
 rw[e']
 exact⟨xs,jQ (row:=bC xs) hR (by decide) hl (λi j hi hj=>rfl) (λσ i j hi hj=> .n .u8 _)⟩
theorem mN{k:FuncId}{w:World}{v u:Value}{a b:AV}(h:bj Try.prog k [a,b] [.v (.b true)])(hv:bJ (Sg.data (jb w)) [a,b] [v,u]):Calls Try.prog k #[v,u] w λe w'=>e= .returned (.bool true)/\Below w.heap.size w w':=
 (h.2 (jb w) w #[v,u] (u6 w) hv).mono λe w' hq=>by
  cases e with
  |panicked c=>exact hq.elim
  |outgrown=>exact hq.elim
  |returned u=>
   obtain⟨x,Hc,σ',⟨l,rfl,hr⟩,hx,_,hbel,_⟩:=hq
   match l,hr with
   |[y],hr=>
    have:y= .b true:=hr.1.1
    subst this
    cases hx
    exact⟨rfl,hbel⟩
theorem bJ.snoc{σ:Sg}{a b:AV}{v u:Value}(h:bJ σ [a] [v])(h2:VR σ b u):bJ σ [a,b] [v,u]:=(bJ.nil.cons h2).cons (h.2 0 a rfl)
end Go.Proofs.Ytidhfimbnjaceaa
namespace Go.Proofs.Ytidhfimbnjaceaa.optimizerShortens
open Go.ChangeShapes Go.WideShapes Go.ChangeAt Go.RowKit
open Go.ChangeMaps (open_string shut_string)
theorem own : ownKnob Try.prog.godebug = none := by kernel_rfl
theorem params_read : (Try.f3.params.toList.all fun t => Try.prog.readableRec t && decide (t < Try.prog.types.size)) = true := by kernel_rfl
theorem laid : laidOutB Try.prog = true := by kernel_rfl
theorem params_len : Try.f3.params.toList.length = 2 := by kernel_rfl
set_option maxRecDepth 100000 in
theorem lifted (os : Os) (started : os.Started) (H : Type) (enc : TypeId × Value → H) :
    ReturnsInHanded {} Try.checked os 3 .any (Rows.optimizerShortensSpec.pre6 enc Try.prog Try.f3 Rows.optimizerShortensRow.domain false) (Rows.optimizerShortensSpec.post enc Try.prog Try.f3 false true false false) := by
  refine ut (C := Try.checked) (k := 3) (f := Try.f3) (s := Rows.optimizerShortensSpec) (tb := 4) own started (by kernel_rfl) Try.func3
    (ChangeSpec.witness6 (enc := enc) (C := Try.checked) false ⟨#[], #[.agg #[.slice none 0 0, .int .i64 0, .int .i64 0, .slice none 0 0], .slice none 0 0], []⟩ 8 (by kernel_rfl) (by kernel_rfl) (by kernel_rfl) (by kernel_rfl))
    laid ?_ rfl ?_ (by kernel_rfl) Try.underlying4 ?_
  · intro t ht
    have := List.all_eq_true.1 params_read t ht
    rw [Bool.and_eq_true, decide_eq_true_eq] at this
    exact this
  · intro ds hds
    rw [params_len] at hds
    match ds, hds with
    | [a, b], _ => rfl
  · intro W base args ds p hval hA
    rw [Try.params3] at hA hval
    obtain ⟨v0, vs0, d0, ds0, p0, q0, hargs, rfl, rfl, h0, r0⟩ := trodAll_cons hA
    obtain ⟨v1, vs1, d1, ds1, p1, q1, rfl, rfl, rfl, h1, r1⟩ := trodAll_cons r0
    obtain ⟨rfl, rfl, rfl⟩ := trodAll_nil r1
    obtain rfl : args = #[v0, v1] := by cases args; simp_all
    obtain ⟨la, regs, par, cs, hv, ok⟩ := nQ (hval 0 _ v0 rfl rfl) h0
    obtain ⟨ps, hps⟩ := mF (hval 1 _ v1 rfl rfl) h1
    exact mN (mO la regs par cs ps ok) (hv.snoc hps)
theorem over : Rows.optimizerShortensRow.holds Try.pinned (OpenSpec.ofChange Rows.optimizerShortensSpec) :=
  OpenClaim.holds_of_wide 3 Try.f3 rfl rfl rfl rfl rfl rfl rfl ⟨rfl, rfl, rfl, rfl, rfl⟩ rfl rfl rfl rfl rfl (by kernel_rfl) Try.func3 (by kernel_rfl)
    (of_decide_eq_true (by kernel_rfl)) (by unfold Func.isWrapper; first | (rw [if_pos (by decide +kernel)]; kernel_rfl) | (rw [if_neg (by decide +kernel)]; exact ⟨rfl, rfl⟩))
    (fun os started H enc _ => lifted os started H enc)
/-- ████ THE STATEMENT ████ -/
theorem proved : Rows.OptimizerShortensSaid :=
  over
#print axioms proved
end Go.Proofs.Ytidhfimbnjaceaa.optimizerShortens