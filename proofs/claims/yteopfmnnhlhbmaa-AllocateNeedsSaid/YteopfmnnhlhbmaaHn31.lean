/- A part of the proof of AllocateNeeds: R. No condition. -/
import Derived.Deep.WholeRow
import Derived.Test.YteopfmnnhlhbmaaHn26
import Derived.Test.YteopfmnnhlhbmaaHn29
import Derived.Test.YteopfmnnhlhbmaaHn30
set_option linter.unusedSimpArgs false
set_option linter.unusedVariables false
set_option linter.constructorNameAsVariable false
set_option maxRecDepth 100000
set_option maxHeartbeats 4000000
namespace Go.Proofs.Yteopfmnnhlhbmaa
open Go.RowKit
theorem nZ:∀(l:List Ar) (n m:Int),cy l n=some m->0<=n->n<=m/\m<=n+65536*l.length
 |[],n,m,h,h0=>by simp[cy] at h;subst h;simp
 |a::l,n,m,h,h0=>by
  unfold cy at h
  split at h
  ·cases h
  ·have:=nZ l (n+a.size) m h (by omega)
   simp only[List.length_cons]
   omega
def HT(ars:List Ar)(W:World)(s i:Value)(wr:World):Prop:=
 ∃(k:Nat) (n:Int),s= .int .i64 n/\i= .int .i64 (k:Int)/\k<=ars.length/\0<=n/\n<=65536*k/\cy ars 0=cy (ars.drop k) n/\Below W.heap.size W wr
def HQ(regs spills nA:Int)(cd:List RI)(W:World)(i:Value)(wr:World):Prop:=
 ∃(k:Nat),i= .int .i64 (k:Int)/\k<=cd.length/\bW regs spills nA cd 0=bW regs spills nA (cd.drop k) k/\Below W.heap.size W wr
theorem q9{regs spills nA:Int}(cd:List RI)(k:Nat)(hk:k<cd.length)(h:dD regs spills nA (cd.getD k default)=0):bW regs spills nA (cd.drop k) k=bW regs spills nA (cd.drop (k+1)) (k+1):=by
 rw[List.getD_eq_getElem?_getD,List.getElem?_eq_getElem hk,Option.getD_some] at h
 rw[List.drop_eq_getElem_cons hk,bW,h]
 simp
theorem sS{regs spills nA:Int}(cd:List RI)(k:Nat)(hk:k<cd.length)(h:dD regs spills nA (cd.getD k default)≠0):bW regs spills nA (cd.drop k) k=some ((k:Int),dD regs spills nA (cd.getD k default)):=by
 rw[List.getD_eq_getElem?_getD,List.getElem?_eq_getElem hk,Option.getD_some] at*
 rw[List.drop_eq_getElem_cons hk,bW,if_pos h]
theorem o6(args:Array Value)(w:World):(callFunc 61 args).run Try.prog w= .ok (.enter 61 args) w:=g8 Try.func61 rfl rfl args w
def wj(ars:List Ar)(regs spills:Int)(cd:List RI)(w:World)(e:Ending)(w':World):Prop:=
 e= .returned (.tuple #[.int .i64 (bA ars regs spills cd).1,.int .i64 (bA ars regs spills cd).2])/\Below w.heap.size w w'
theorem wi(arsA codeA:Option Addr)(arsC codeC:Nat)(ars:List Ar)(regs spills:Int)(cd:List RI)(w:World)(hars:dG w.heap.size w 2 arsA ars.length λi j=>(ars.getD i default).cell j)
  (hcd:dG w.heap.size w 5 codeA cd.length λi j=>(cd.getD i default).cell j) (hA:ars.length<=9223372036854775807) (hC:cd.length<=9223372036854775807) (harg:∀i ∈ cd,0<=i.arg/\i.arg<4294967296):
  Calls Try.prog 27 #[.agg #[.slice arsA ars.length arsC,.int .i64 regs,.int .i64 spills,.slice codeA cd.length codeC]] w (wj ars regs spills cd w):=by
 have HARS:=Lib.hid hars
 have HCD:=Lib.hid hcd
 have HARG:=Lib.hid harg
 clear hars hcd harg
 by_cases h8:8<ars.length
 ·have e:bA ars regs spills cd=(0,6):=by simp[bA,h8]
  have HE:=Lib.hid e
  clear e
  have h8':(8:Int)<(ars.length:Int):=by omega
  go_enter Try.func27,Try.ntmps27
  go_wp2
  go_ret2
  exact⟨by rw[HE.out];rfl,(Below.refl _ _).alloc (Nat.le_refl _) _⟩
 have h8':¬(8:Int)<(ars.length:Int):=by omega
 have hb:Below w.heap.size w (w.alloc (.cells #[.slice arsA ars.length arsC,.int .i64 regs,.int .i64 spills,.slice codeA cd.length codeC] 25)):=(Below.refl _ _).alloc (Nat.le_refl _) _
 have HB:=Lib.hid (And.intro hb (bK w (.cells #[.slice arsA ars.length arsC,.int .i64 regs,.int .i64 spills,.slice codeA cd.length codeC] 25)))
 clear hb
 go_enter Try.func27,Try.ntmps27
 go_upto_region 1 with(fail)
 refine cG (λW=>Below w.heap.size w W/\dI W w.heap.size [.slice arsA ars.length arsC,.int .i64 regs,.int .i64 spills,.slice codeA cd.length codeC] 25/\w.heap.size<W.heap.size) ⟨HB.out.1,HB.out.2,by simp⟩ ?_
 rintro W ⟨hbW,hbk,hWl⟩
 clear HB
 have a0:W.cell? ⟨w.heap.size,0,none⟩=some (.slice arsA ars.length arsC):=hbk.cell 0
 have HW:=Lib.hid (And.intro hbW hbk)
 clear hbW hbk
 go_wp2_with fail
 go_loopw [4,21] (λs i wr=>HT ars W s i wr) (λ_ i _=>ars.length-(intOf i).toNat)
 case atStart=>exact⟨0,0,rfl,rfl,Nat.zero_le _,by omega,by simp,by simp,Below.refl _ _⟩
 case round=>
  obtain⟨k,n,rfl,rfl,hk,hn0,hn1,hrun,hbel⟩:=hrel
  have HRUN:=Lib.hid hrun
  clear hrun
  by_cases hlt:k<ars.length
  ·have hk':=bt hlt
   obtain⟨b,off,rfl,hb,hc⟩:=HARS.out k hlt
   have hbw:b<wr.heap.size:=by have h1:=HW.out.1.size;have h2:=hbel.size;omega
   have hc2:∀j,j<2->wr.cell? ⟨b,off+k*2+j,none⟩=some ((ars.getD k default).cell j):=λj hj=>by
    rw[hbel.cell (p:=⟨b,off+k*2+j,none⟩) (by show b<W.heap.size;omega),HW.out.1.cell (p:=⟨b,off+k*2+j,none⟩) hb];exact hc j hj
   clear hc
   have hd:ars.drop k=ars.getD k default::ars.drop (k+1):=by rw[List.drop_eq_getElem_cons hlt,List.getD_eq_getElem?_getD,List.getElem?_eq_getElem hlt];rfl
   generalize hA:ars.getD k default=A at hc2 hd
   obtain⟨wd,sz⟩:=A
   have q0:wr.cell? ⟨b,off+k*2,none⟩=some (.bool wd):=hc2 0 (by omega)
   have q1:wr.cell? ⟨b,off+k*2+1,none⟩=some (.int .i64 sz):=hc2 1 (by omega)
   have HD:=Lib.hid hd
   clear hc2 hd hA
   have hbb:Below W.heap.size W (wr.alloc (.cells #[.bool wd,.int .i64 sz] 102)):=hbel.alloc hbel.size _
   have HBB:=Lib.hid hbb
   clear hbb
   by_cases hs:sz<1\/65536<sz
   ·have e:bA ars regs spills cd=(0,2):=by
     have:cy ars 0=none:=by rw[HRUN.out,HD.out,cy,if_pos hs]
     simp[bA,h8,this]
    have HE:=Lib.hid e
    clear e
    have hbl:Below w.heap.size w (wr.alloc (.cells #[.bool wd,.int .i64 sz] 102)):=HW.out.1.trans (HBB.out.mono HW.out.1.size)
    have HBL:=Lib.hid hbl
    clear hbl
    rcases hs with hs|hs
    ·go_wp2
     go_ret2
     exact⟨by rw[HE.out];rfl,HBL.out⟩
    ·have hs2:¬sz<1:=by omega
     go_wp2
     go_ret2
     exact⟨by rw[HE.out];rfl,HBL.out⟩
   ·have hs1:¬sz<1:=by omega
    have hs2:¬65536<sz:=by omega
    have hkk:n+sz<=65536*(k+1):=by omega
    have hkb:k<=8:=by omega
    go_wp2
    go_roundw
    case rel=>exact⟨k+1,n+sz,rfl,by simp,by omega,by omega,by omega,by rw[HRUN.out,HD.out,cy,if_neg hs],HBB.out⟩
    case measure=>simp[intOf];omega
  ·have hkk:k=ars.length:=by omega
   subst hkk
   have hsum:cy ars 0=some n:=by rw[HRUN.out,List.drop_length,cy]
   have HS:=Lib.hid hsum
   clear hsum HRUN
   have hwc:∀j,wr.cell? ⟨w.heap.size,j,none⟩=W.cell? ⟨w.heap.size,j,none⟩:=λj=>hbel.cell (p:=⟨w.heap.size,j,none⟩) hWl
   have c1:wr.cell? ⟨w.heap.size,1,none⟩=some (.int .i64 regs):=by rw[hwc];exact HW.out.2.cell 1
   have c2:wr.cell? ⟨w.heap.size,2,none⟩=some (.int .i64 spills):=by rw[hwc];exact HW.out.2.cell 2
   have hwr:w.heap.size<wr.heap.size:=by have:=hbel.size;omega
   clear hwc
   have hbz:Below W.heap.size W (wr.alloc (.cells #[.int .i64 regs,.int .i64 spills] 3)):=hbel.alloc hbel.size _
   have HBZ:=Lib.hid (And.intro hbz (bK wr (.cells #[.int .i64 regs,.int .i64 spills] 3)))
   clear hbz
   go_upto_region 12 with(fail)
   refine cG (λZ=>Below W.heap.size W Z/\dI Z wr.heap.size [.int .i64 regs,.int .i64 spills] 3/\wr.heap.size<Z.heap.size) ⟨HBZ.out.1,HBZ.out.2,by simp⟩ ?_
   rintro Z ⟨hbZ,hkZ,hZl⟩
   clear HBZ c1 c2
   have HZ:=Lib.hid hbZ
   have hwZ:Below w.heap.size w Z:=HW.out.1.trans (hbZ.mono HW.out.1.size)
   have HWZ:=Lib.hid hwZ
   clear hbZ hwZ
   by_cases hn:65536<n
   ·have e:bA ars regs spills cd=(0,2):=by simp[bA,h8,HS.out,hn]
    have HE:=Lib.hid e
    clear e
    go_wp2
    go_ret2
    exact⟨by rw[HE.out];rfl,HWZ.out⟩
   have hrow:dG Z.heap.size Z 1 (some ⟨wr.heap.size,0,none⟩) [regs,spills].length λi _=> .int .i64 ([regs,spills].getD i 0):=by
    intro i hi
    refine⟨wr.heap.size,0,rfl,hZl,λj hj=>?_⟩
    have hj0:j=0:=by omega
    subst hj0
    have hi2:i=0\/i=1:=by simp at hi;omega
    rcases hi2 with rfl|rfl
    ·exact hkZ.cell 0
    ·exact hkZ.cell 1
   have cont:=pb (some ⟨wr.heap.size,0,none⟩) 2 [regs,spills] 61 (λn=>decide (n<0)||decide (1024<n)) Z hrow (by simp) o6 (λx w=>tg x w)
   have HCO:=Lib.hid cont
   clear cont hrow hkZ
   by_cases hany:[regs,spills].any (λn=>decide (n<0)||decide (1024<n))=true
   ·have e:bA ars regs spills cd=(0,2):=by
     have hx:regs<0\/1024<regs\/spills<0\/1024<spills:=by simp at hany;omega
     simp[bA,h8,HS.out,hn,hx]
    have HE:=Lib.hid e
    have HAN:=Lib.hid hany
    clear e hany
    go_wp2_with fail
    refine HCO.out.mono ?_
    rintro e w' ⟨rfl,rfl⟩
    rw[HAN.out]
    go_wp2
    go_ret2
    exact⟨by rw[HE.out];rfl,HWZ.out⟩
   have hrs:0<=regs/\regs<=1024/\0<=spills/\spills<=1024:=by simp at hany;omega
   have hany2:[regs,spills].any (λn=>decide (n<0)||decide (1024<n))=false:=by simpa using hany
   have HAN:=Lib.hid hany2
   clear hany hany2
   have hZc:∀j,Z.cell? ⟨w.heap.size,j,none⟩=W.cell? ⟨w.heap.size,j,none⟩:=λj=>HZ.out.cell (p:=⟨w.heap.size,j,none⟩) hWl
   have c3:Z.cell? ⟨w.heap.size,3,none⟩=some (.slice codeA cd.length codeC):=by rw[hZc];exact HW.out.2.cell 3
   clear hZc
   by_cases hcl:16384<cd.length
   ·have e:bA ars regs spills cd=(0,6):=by
     have:¬(65536<n\/regs<0\/1024<regs\/spills<0\/1024<spills):=by omega
     simp[bA,h8,HS.out,this,hcl]
    have HE:=Lib.hid e
    clear e
    have hcl':(16384:Int)<(cd.length:Int):=by omega
    go_wp2_with fail
    refine HCO.out.mono ?_
    rintro e w' ⟨rfl,rfl⟩
    rw[HAN.out]
    go_wp2
    go_ret2
    exact⟨by rw[HE.out];rfl,HWZ.out⟩
   have hcl':¬(16384:Int)<(cd.length:Int):=by omega
   go_wp2_with fail
   refine HCO.out.mono ?_
   rintro e w' ⟨rfl,rfl⟩
   rw[HAN.out]
   go_wp2_with fail
   refine(rH _).mono ?_
   rintro e Y ⟨rfl,hbY⟩
   have hkey:∀(c:Array Value),(Y.alloc (.cells c 105)).setRow Y.heap.size (aG iJ).toArray=Y.alloc (.cells (aG iJ).toArray 105):=λc=>World.setRow_alloc_new Y c _ _
   have HKEY:=Lib.hid hkey
   have HBY:=Lib.hid (show Below W.heap.size W Y from HZ.out.trans (hbY.mono HZ.out.size))
   clear hkey hbY
   have z87:Try.zeroCells105.size=(aG iJ).toArray.size:=by kernel_rfl
   have hv:Below W.heap.size W (Y.alloc (.cells (aG iJ).toArray 105)):=HBY.out.alloc HBY.out.size _
   have HV:=Lib.hid (And.intro hv (bK Y (.cells (aG iJ).toArray 105)))
   clear hv
   go_upto_region 17 with(refine wpList_store_row rfl _ _ _ rfl Y.heap.size (aG iJ).toArray rfl rfl 105 Try.zeroCells105 (bK _ _) (by kernel_rfl) z87 (by kernel_rfl) ?_;rw[HKEY.out])
   refine cG (λV=>Below W.heap.size W V/\dI V Y.heap.size (aG iJ) 105/\Y.heap.size<V.heap.size) ⟨HV.out.1,HV.out.2,by simp⟩ ?_
   rintro V ⟨hbV,hkV,hVl⟩
   clear HV HKEY z87 c3 HCO HAN
   have hVc:∀j,V.cell? ⟨w.heap.size,j,none⟩=W.cell? ⟨w.heap.size,j,none⟩:=λj=>hbV.cell (p:=⟨w.heap.size,j,none⟩) hWl
   have c3:V.cell? ⟨w.heap.size,3,none⟩=some (.slice codeA cd.length codeC):=by rw[hVc];exact HW.out.2.cell 3
   clear hVc
   have hwV:Below w.heap.size w V:=HW.out.1.trans (hbV.mono HW.out.1.size)
   have hwVl:w.heap.size<V.heap.size:=by have:=hbV.size;omega
   have HVV:=Lib.hid (And.intro hbV (And.intro hkV hwV))
   clear hbV hkV hwV
   go_wp2_with fail
   go_loopw [57] (λi wr=>HQ regs spills ars.length cd V i wr) (λi _=>cd.length-(intOf i).toNat)
   case atStart=>exact⟨0,rfl,Nat.zero_le _,by simp,Below.refl _ _⟩
   case round=>
    obtain⟨k,rfl,hk,hrun,hbV⟩:=hrel
    have HRUN:=Lib.hid hrun
    clear hrun
    have hwr2:w.heap.size<wr.heap.size:=by have:=hbV.size;omega
    have hYr:Y.heap.size<wr.heap.size:=by have:=hbV.size;omega
    have htab:wr.heap[Y.heap.size]? =some (.cells (aG iJ).toArray 105 (0,0)):=by rw[hbV.block _ hVl];exact HVV.out.2.1
    have hrc:∀j,wr.cell? ⟨w.heap.size,j,none⟩=W.cell? ⟨w.heap.size,j,none⟩:=λj=>by
     rw[hbV.cell (p:=⟨w.heap.size,j,none⟩) hwVl];exact HVV.out.1.cell (p:=⟨w.heap.size,j,none⟩) hWl
    have d0:wr.cell? ⟨w.heap.size,0,none⟩=some (.slice arsA ars.length arsC):=by rw[hrc];exact HW.out.2.cell 0
    have d1:wr.cell? ⟨w.heap.size,0+1,none⟩=some (.int .i64 regs):=by rw[hrc];exact HW.out.2.cell 1
    have d2:wr.cell? ⟨w.heap.size,0+1+1,none⟩=some (.int .i64 spills):=by rw[hrc];exact HW.out.2.cell 2
    have d3:wr.cell? ⟨w.heap.size,0+1+1+1,none⟩=some (.slice codeA cd.length codeC):=by rw[hrc];exact HW.out.2.cell 3
    have d3':wr.cell? ⟨w.heap.size,3,none⟩=some (.slice codeA cd.length codeC):=d3
    clear hrc
    have hwwr:Below w.heap.size w wr:=HVV.out.2.2.trans (hbV.mono (by omega))
    by_cases hlt:k<cd.length
    ·have hk':=bt hlt
     obtain⟨b,off,rfl,hb,hc⟩:=HCD.out k hlt
     have hbw:b<wr.heap.size:=by omega
     have hc2:∀j,j<5->wr.cell? ⟨b,off+k*5+j,none⟩=some ((cd.getD k default).cell j):=λj hj=>by
      rw[hwwr.cell (p:=⟨b,off+k*5+j,none⟩) hb];exact hc j hj
     have harg:=HARG.out (cd.getD k default) (by rw[List.getD_eq_getElem?_getD,List.getElem?_eq_getElem hlt];exact List.getElem_mem hlt)
     have hnext:=q9 (regs:=regs) (spills:=spills) (nA:=ars.length) cd k hlt
     have hbad:=sS (regs:=regs) (spills:=spills) (nA:=ars.length) cd k hlt
     clear hc
     generalize hA:cd.getD k default=A at hc2 harg hnext hbad
     obtain⟨op,to,a,bb,arg⟩:=A
     have q0:wr.cell? ⟨b,off+k*5,none⟩=some (.int .i64 op):=hc2 0 (by omega)
     have q1:wr.cell? ⟨b,off+k*5+1,none⟩=some (.int .i64 to):=hc2 1 (by omega)
     have q2:wr.cell? ⟨b,off+k*5+1+1,none⟩=some (.int .i64 a):=hc2 2 (by omega)
     have q3:wr.cell? ⟨b,off+k*5+1+1+1,none⟩=some (.int .i64 bb):=hc2 3 (by omega)
     have q4:wr.cell? ⟨b,off+k*5+1+1+1+1,none⟩=some (.int .u32 arg):=hc2 4 (by omega)
     clear hc2 hA
     have HNX:=Lib.hid (And.intro hnext hbad)
     have HBV:=Lib.hid (And.intro hbV hwwr)
     have HG:=Lib.hid harg
     clear hnext hbad hbV hwwr harg d3'
     have hblk:=λ(o:Obj)=>(show(wr.alloc o).heap[Y.heap.size]? =some (.cells (aG iJ).toArray 105 (0,0)) by rw[Below.heap_alloc _ _ _ hYr];exact htab)
     have HBK:=Lib.hid hblk
     clear hblk htab
     have hnot:¬(65536<n\/regs<0\/1024<regs\/spills<0\/1024<spills):=by omega
     by_cases hz:dD regs spills ars.length ⟨op,to,a,bb,arg⟩=0
     ·have HZ0:=Lib.hid hz
      clear hz
      go_wp2_with (first|(refine wpList_load_row rfl _ _ rfl Y.heap.size rfl 105 (aG iJ).toArray (0,0) _ (HBK.out _) Try.underlying105 rfl (by kernel_rfl) ?_)|(go_at_call 63;refine(n3 _ _ _ _ _ _ _ _ _ _ _ _ _ _ hA ⟨hrs.2.2.1,hrs.2.2.2⟩ HG.out).mono ?_;rintro e X ⟨he,hbX⟩;rw[HZ0.out] at he;subst he))
      go_roundw
      case rel=>exact⟨k+1,by simp,by omega,HRUN.out.trans (HNX.out.1 HZ0.out),(HBV.out.1.alloc HBV.out.1.size _).trans (hbX.mono (by have:=HBV.out.1.size;simp;omega))⟩
      case measure=>simp[intOf];omega
     ·obtain⟨er,her⟩:∃er,dD regs spills ars.length ⟨op,to,a,bb,arg⟩=er:=⟨_,rfl⟩
      have e:bA ars regs spills cd=((k:Int),er):=by
       have:=HRUN.out.trans (HNX.out.2 hz)
       simp[bA,h8,HS.out,hnot,hcl,this,her]
      have HE:=Lib.hid (And.intro e her)
      have hne:(er != 0)=true:=by rw[<-her];simpa using hz
      clear e her hz
      go_wp2_with (first|(refine wpList_load_row rfl _ _ rfl Y.heap.size rfl 105 (aG iJ).toArray (0,0) _ (HBK.out _) Try.underlying105 rfl (by kernel_rfl) ?_)|(go_at_call 63;refine(n3 _ _ _ _ _ _ _ _ _ _ _ _ _ _ hA ⟨hrs.2.2.1,hrs.2.2.2⟩ HG.out).mono ?_;rintro e X ⟨he,hbX⟩;rw[HE.out.2] at he;subst he))
      go_ret2
      exact⟨by rw[HE.out.1];rfl,(HBV.out.2.alloc HBV.out.2.size _).trans (hbX.mono (by have:=HBV.out.2.size;simp;omega))⟩
    ·have hkk:k=cd.length:=by omega
     subst hkk
     have hnone:bW regs spills ars.length cd 0=none:=by rw[HRUN.out,List.drop_length,bW]
     have hnot:¬(65536<n\/regs<0\/1024<regs\/spills<0\/1024<spills):=by omega
     have e:bA ars regs spills cd=if(aX cd 0 []).2 then((aX cd 0 []).1,15) else(0,0):=by simp[bA,h8,HS.out,hnot,hcl,hnone]
     have hrow:dG wr.heap.size wr 5 codeA cd.length λi j=>(cd.getD i default).cell j:=(HCD.out.below hwwr).mono hwwr.size
     have hnest:=rZ codeA codeC cd wr hrow (by omega)
     have HNE:=Lib.hid hnest
     have HE:=Lib.hid e
     have HWW:=Lib.hid hwwr
     clear e hrow hnest hwwr hbV htab hnone HRUN
     generalize aX cd 0 []=nr at HNE HE
     obtain⟨p,q⟩:=nr
     cases q
     ·go_wp2_with (go_at_call 64;refine HNE.out.mono ?_;rintro e X ⟨rfl,hbX⟩)
      go_ret2
      exact⟨by rw[HE.out];rfl,HWW.out.trans (hbX.mono HWW.out.size)⟩
     ·go_wp2_with (go_at_call 64;refine HNE.out.mono ?_;rintro e X ⟨rfl,hbX⟩)
      go_ret2
      exact⟨by rw[HE.out];rfl,HWW.out.trans (hbX.mono HWW.out.size)⟩
end Go.Proofs.Yteopfmnnhlhbmaa