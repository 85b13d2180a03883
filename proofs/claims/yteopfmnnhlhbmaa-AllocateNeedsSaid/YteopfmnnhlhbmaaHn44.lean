/- A part of the proof of AllocateNeeds: RcA. No condition. -/
import Derived.Test.YteopfmnnhlhbmaaHn32
import Derived.Test.YteopfmnnhlhbmaaHn43
import Derived.Test.YteopfmnnhlhbmaaHn16
set_option linter.unusedSimpArgs false
set_option linter.unusedVariables false
set_option linter.constructorNameAsVariable false
set_option maxRecDepth 100000
set_option maxHeartbeats 4000000
namespace Go.Proofs.Yteopfmnnhlhbmaa
open Go.RowKit
def jh(cd:List RI):Int×Int:=match cT cd cd.length 0 (List.replicate cd.length 0) [] with
 |.error k=>((k:Int),15)
 |.ok (_,opn)=>if 0<opn.length then((cd.length:Int),15) else(0,0)
def qa(ars:List Ar)(regs spills:Int)(cd:List RI):Int×Int:=
 if 8<ars.length then(0,6) else if dx ars 0=true then(0,2) else if regs<0\/1024<regs\/spills<0\/1024<spills then(0,2) else
  if 16384<cd.length then(0,6) else match bW regs spills ars.length cd 0 with
  |some r=>r
  |none=>jh cd
theorem uM(cd:List RI):(jh cd).2=if(aX cd 0 []).2 then 15 else 0:=by
 have hn:=jR cd.length 0 (List.replicate cd.length 0) [] [] (jS cd) (by omega)
 simp only[List.drop_zero] at hn
 rw[hn]
 unfold jh
 cases hp:cT cd cd.length 0 (List.replicate cd.length 0) [] with
 |error k=>rfl
 |ok x=>
  obtain⟨out,opn⟩:=x
  simp only
  by_cases h0:0<opn.length
  ·rw[if_pos h0,if_pos (by simpa using h0)]
  ·rw[if_neg h0,if_neg (by simpa using h0)]
theorem Aw(ars:List Ar)(regs spills:Int)(cd:List RI):(qa ars regs spills cd).2=(bA ars regs spills cd).2:=by
 unfold qa
 by_cases h8:8<ars.length
 ·rw[if_pos h8];unfold bA;rw[if_pos h8]
 rw[if_neg h8]
 by_cases ha:dx ars 0=true
 ·rw[if_pos ha,BM (by omega) ha]
 rw[if_neg ha]
 by_cases hr:regs<0\/1024<regs\/spills<0\/1024<spills
 ·rw[if_pos hr,y9 (by omega) hr]
 rw[if_neg hr,y8 (by omega) (by simpa using ha) hr]
 split
 ·rfl
 cases bW regs spills ars.length cd 0 with
 |some r=>rfl
 |none=>
  simp only[uM]
  split<;>rfl
theorem Gq{ars:List Ar}{regs spills:Int}{cd:List RI}(h8:ars.length<=8)(h:dx ars 0=true):qa ars regs spills cd=(0,2):=by
 unfold qa;rw[if_neg (by omega),if_pos h]
theorem Av{ars:List Ar}{regs spills:Int}{cd:List RI}(h8:ars.length<=8)(h:regs<0\/1024<regs\/spills<0\/1024<spills):qa ars regs spills cd=(0,2):=by
 unfold qa;rw[if_neg (by omega)]
 split
 ·rfl
 ·rfl
theorem Au{ars:List Ar}{regs spills:Int}{cd:List RI}(h8:ars.length<=8)(h:dx ars 0=false)(hr:¬(regs<0\/1024<regs\/spills<0\/1024<spills)):
  qa ars regs spills cd=if 16384<cd.length then(0,6) else match bW regs spills ars.length cd 0 with|some r=>r|none=>jh cd:=by
 unfold qa;rw[if_neg (by omega),if_neg (by simp[h]),if_neg hr]
theorem AA{w w':World}{cd:List RI}{e:Ending}(h:uu w cd (cT cd cd.length 0 (List.replicate cd.length 0) []) e w'):
  Below w.heap.size w w'/\∃v,e= .returned (.tuple #[v,.int .i64 (jh cd).1,.int .i64 (jh cd).2]):=by
 obtain⟨hb,h⟩:=h
 refine⟨hb,?_⟩
 unfold jh
 cases hp:cT cd cd.length 0 (List.replicate cd.length 0) [] with
 |error k=>
  rw[hp] at h
  exact⟨_,h⟩
 |ok x=>
  obtain⟨out,opn⟩:=x
  rw[hp] at h
  simp only at h
  by_cases h0:0<opn.length
  ·rw[if_pos h0] at h
   simp only[if_pos h0]
   exact⟨_,h⟩
  ·rw[if_neg h0] at h
   simp only[if_neg h0]
   have:opn=[]:=List.eq_nil_of_length_eq_zero (by omega)
   subst this
   obtain⟨r,hr⟩:=kT out hp
   exact⟨_,(h r hr).1⟩
def HL(ars:List Ar)(regs spills:Int)(cd:List RI)(w:World)(e:Ending)(w':World):Prop:=e= .returned (.tuple #[.int .i64 (qa ars regs spills cd).1,.int .i64 (qa ars regs spills cd).2])/\Below w.heap.size w w'
theorem wc(arsA codeA:Option Addr)(arsC codeC:Nat)(ars:List Ar)(regs spills:Int)(cd:List RI)(w:World)
  (hars:dG w.heap.size w 2 arsA ars.length λi j=>(ars.getD i default).cell j) (hcd:dG w.heap.size w 5 codeA cd.length λi j=>(cd.getD i default).cell j)
  (hA:ars.length<=9223372036854775807) (hC:cd.length<=9223372036854775807) (harg:∀i ∈ cd,0<=i.arg/\i.arg<4294967296):
  Calls Try.prog 39 #[.agg #[.slice arsA ars.length arsC,.int .i64 regs,.int .i64 spills,.slice codeA cd.length codeC]] w (HL ars regs spills cd w):=by
 have HARS:=Lib.hid hars
 have HCD:=Lib.hid hcd
 have HARG:=Lib.hid harg
 clear hars hcd harg
 go_enter Try.func39,Try.ntmps39
 go_upto_region 1 with(fail)
 refine cG (λW=>Below w.heap.size w W/\dI W w.heap.size [.slice arsA ars.length arsC,.int .i64 regs,.int .i64 spills,.slice codeA cd.length codeC] 25) ⟨(Below.refl _ _).alloc (Nat.le_refl _) _,bK _ _⟩ ?_
 rintro W ⟨hbW,kW⟩
 have a0:W.cell? ⟨w.heap.size,0,none⟩=some (.slice arsA ars.length arsC):=kW.cell 0
 have a1:W.cell? ⟨w.heap.size,1,none⟩=some (.int .i64 regs):=kW.cell 1
 have a2:W.cell? ⟨w.heap.size,2,none⟩=some (.int .i64 spills):=kW.cell 2
 have a3:W.cell? ⟨w.heap.size,3,none⟩=some (.slice codeA cd.length codeC):=kW.cell 3
 have l0:w.heap.size<W.heap.size:=kW.lt
 have HW:=Lib.hid (And.intro hbW kW)
 clear hbW kW
 by_cases h8:ars.length<=8
 rotate_left
 ·have q:decide ((8:Int)<(ars.length:Int))=true:=by simp;omega
  have HE:=Lib.hid (show qa ars regs spills cd=(0,6) by unfold qa;rw[if_pos (by omega)])
  go_wp2
  refine bodyPost_ret (by simp[results,Try.results39,go_sem];try rfl) rfl ?_
  exact⟨by rw[HE.out],HW.out.1⟩
 have q8:decide ((8:Int)<(ars.length:Int))=false:=by simp;omega
 go_wp2_with fail
 go_loopw [4,5] (λc i wr=>∃(k:Nat) (n:Int),i= .int .i64 (k:Int)/\c= .int .i64 n/\k<=ars.length/\0<=n/\n<=65536/\dx (ars.drop k) n=dx ars 0/\wr=W) (λ_ i _=>ars.length-(intOf i).toNat)
 case atStart=>exact⟨0,0,rfl,rfl,Nat.zero_le _,by omega,by omega,by simp,rfl⟩
 case round=>
  obtain⟨k,n,rfl,rfl,hkl,hn0,hn1,hra,rfl⟩:=hrel
  by_cases hk:k<ars.length
  ·obtain⟨b,off,rfl,hb,hc⟩:=HARS.out k hk
   have hk':=bt hk
   have hbw:b<wr.heap.size:=by omega
   obtain⟨sz,hsz⟩:∃sz,(ars.getD k default).size=sz:=⟨_,rfl⟩
   have hc2:wr.cell? ⟨b,off+k*2+1,none⟩=some (.int .i64 sz):=by
    rw[HW.out.1.cell (p:=⟨b,off+k*2+1,none⟩) hb,<-hsz];exact hc 1 (by omega)
   rw[nW ars k hk,dx,hsz] at hra
   have q:decide ((k:Int)<(ars.length:Int))=true:=by simp;omega
   clear hc hsz
   by_cases hbad:sz<1\/65536-n<sz
   ·rw[if_pos hbad] at hra
    have HE:=Lib.hid (Gq (regs:=regs) (spills:=spills) (cd:=cd) h8 hra.symm)
    clear hra
    by_cases h1:sz<1
    ·have q1:decide (sz<1)=true:=by simp;omega
     go_wp2
     refine bodyPost_ret (by simp[results,Try.results39,go_sem];try rfl) rfl ?_
     exact⟨by rw[HE.out],HW.out.1⟩
    ·have q1:decide (sz<1)=false:=by simp;omega
     have q2:decide (65536-n<sz)=true:=by simp;omega
     go_wp2
     refine bodyPost_ret (by simp[results,Try.results39,go_sem];try rfl) rfl ?_
     exact⟨by rw[HE.out],HW.out.1⟩
   ·rw[if_neg hbad] at hra
    have q1:decide (sz<1)=false:=by simp;omega
    have q2:decide (65536-n<sz)=false:=by simp;omega
    have HRA:=Lib.hid hra
    clear hra
    go_wp2
    go_roundw
    case rel=>exact⟨k+1,n+sz,by simp,rfl,hk,by omega,by omega,HRA.out,by first|trivial|rfl⟩
    case measure=>simp[intOf];omega
  have hke:k=ars.length:=by omega
  subst hke
  have q:decide ((ars.length:Int)<(ars.length:Int))=false:=by simp
  rw[List.drop_length] at hra
  have HRA:=Lib.hid (show dx ars 0=false from hra.symm)
  clear hra
  by_cases hr:regs<0\/1024<regs\/spills<0\/1024<spills
  ·have HE:=Lib.hid (Av (cd:=cd) h8 hr)
   go_wp2
   all_goals first
    |(refine bodyPost_ret (by simp[results,Try.results39,go_sem];try rfl) rfl ?_
      exact⟨by rw[HE.out],HW.out.1⟩)
    |(exfalso;omega)
  have q1:decide (regs<0)=false:=by simp;omega
  have q2:decide (1024<regs)=false:=by simp;omega
  have q3:decide (spills<0)=false:=by simp;omega
  have q4:decide (1024<spills)=false:=by simp;omega
  have HCK:=Lib.hid (Au (cd:=cd) h8 HRA.out hr)
  clear hr
  by_cases hlen:16384<cd.length
  ·have q5:decide ((16384:Int)<(cd.length:Int))=true:=by simp;omega
   have HE:=Lib.hid (show qa ars regs spills cd=(0,6) by rw[HCK.out,if_pos hlen])
   go_wp2
   refine bodyPost_ret (by simp[results,Try.results39,go_sem];try rfl) rfl ?_
   exact⟨by rw[HE.out],HW.out.1⟩
  have q5:decide ((16384:Int)<(cd.length:Int))=false:=by simp;omega
  have hck:=HCK.out
  rw[if_neg hlen] at hck
  have HCK2:=Lib.hid hck
  clear hck HCK
  have HPA:=Lib.hid (λZ (hb:Below w.heap.size w Z)=>fg codeA codeC cd Z ((HCD.out.below hb).mono hb.size) (by omega) kT)
  go_wp2_with fail
  clear a0 a1 a2 a3
  go_loopw [7] (λi wz=>∃k:Nat,i= .int .i64 (k:Int)/\k<=cd.length/\Hid (bW regs spills ars.length (cd.drop k) k=bW regs spills ars.length cd 0)/\Hid (Below wr.heap.size wr wz)) (λi _=>cd.length-(intOf i).toNat)
  case atStart=>exact⟨0,rfl,Nat.zero_le _,Lib.hid (by simp),Lib.hid (Below.refl _ _)⟩
  case round=>
   obtain⟨m,rfl,hml,hall,hbz⟩:=hrel
   have hbz':=hbz.out
   have kz:=HW.out.2.below hbz' HW.out.2.lt
   have hwz:=HW.out.1.trans (hbz'.mono HW.out.1.size)
   have a3:wr.cell? ⟨w.heap.size,3,none⟩=some (.slice codeA cd.length codeC):=kz.cell 3
   have lz:w.heap.size<wr.heap.size:=kz.lt
   have HZ:=Lib.hid hwz
   have HKZ:=Lib.hid kz
   clear kz hwz hbz'
   by_cases hm:m<cd.length
   rotate_left
   ·have hme:m=cd.length:=by omega
    have qm:decide ((m:Int)<(cd.length:Int))=false:=by simp;omega
    have hall':=hall.out
    rw[hme,List.drop_length,bW] at hall'
    have hck:=HCK2.out
    rw[<-hall'] at hck
    simp only at hck
    have HCK3:=Lib.hid (show qa ars regs spills cd=jh cd from hck)
    clear hall' hck
    go_wp2_with fail
    refine(HPA.out wr HZ.out).mono ?_
    intro e V hpost
    obtain⟨hbV,v,rfl⟩:=AA hpost
    have HV:=Lib.hid (HZ.out.trans (hbV.mono HZ.out.size))
    clear hbV hpost
    obtain⟨x,hx⟩:∃x:Int×Int,jh cd=x:=⟨_,rfl⟩
    rw[hx] at HCK3 ⊢
    clear hx
    obtain⟨x1,x2⟩:=x
    go_wp2
    refine bodyPost_ret (by simp[results,Try.results39,go_sem];try rfl) rfl ?_
    exact⟨by rw[HCK3.out],HV.out⟩
   have qm:decide ((m:Int)<(cd.length:Int))=true:=by simp;omega
   have a0:wr.cell? ⟨w.heap.size,0,none⟩=some (.slice arsA ars.length arsC):=HKZ.out.cell 0
   have a1:wr.cell? ⟨w.heap.size,0+1,none⟩=some (.int .i64 regs):=HKZ.out.cell 1
   have a2:wr.cell? ⟨w.heap.size,0+1+1,none⟩=some (.int .i64 spills):=HKZ.out.cell 2
   have a3':wr.cell? ⟨w.heap.size,0+1+1+1,none⟩=some (.slice codeA cd.length codeC):=HKZ.out.cell 3
   obtain⟨b,off,rfl,hb,hc⟩:=HCD.out m hm
   have hm':=bt hm
   have hbw:b<wr.heap.size:=by omega
   have hc2:∀j,j<5->wr.cell? ⟨b,off+m*5+j,none⟩=some ((cd.getD m default).cell j):=λj hj=>by rw[HZ.out.cell (p:=⟨b,off+m*5+j,none⟩) hb];exact hc j hj
   have hin:=HARG.out (cd.getD m default) (by rw[List.getD_eq_getElem?_getD,List.getElem?_eq_getElem hm];exact List.getElem_mem _)
   have hall':=hall.out
   rw[nW cd m hm,bW] at hall'
   obtain⟨ins,hins⟩:∃ins,cd.getD m default=ins:=⟨_,rfl⟩
   rw[hins] at hc2 hall' hin
   have HIA:=Lib.hid (λZ=>kI arsA (some ⟨b,off,none⟩) ars.length arsC cd.length codeC regs spills ins Z (by omega) hin)
   obtain⟨op,to,ra,rb,arg⟩:=ins
   have k0:wr.cell? ⟨b,off+m*5,none⟩=some (.int .i64 op):=hc2 0 (by omega)
   have k1:wr.cell? ⟨b,off+m*5+1,none⟩=some (.int .i64 to):=hc2 1 (by omega)
   have k2:wr.cell? ⟨b,off+m*5+1+1,none⟩=some (.int .i64 ra):=hc2 2 (by omega)
   have k3:wr.cell? ⟨b,off+m*5+1+1+1,none⟩=some (.int .i64 rb):=hc2 3 (by omega)
   have k4:wr.cell? ⟨b,off+m*5+1+1+1+1,none⟩=some (.int .u32 arg):=hc2 4 (by omega)
   obtain⟨ce,hce⟩:∃ce,dD regs spills (ars.length:Int) ⟨op,to,ra,rb,arg⟩=ce:=⟨_,rfl⟩
   rw[hce] at hall' HIA
   have HALL:=Lib.hid hall'
   clear hc hc2 hall' hins hce hall
   go_wp2_with fail
   refine bo [1,3,4] [(2,1),(2,3),(1,0),(1,2),(2,4),(1,5),(0,6),(0,7)] (by kernel_rfl) (by kernel_rfl) (λc a d v w h=>by cases d<;>exact h) ?_
   simp only[ax,List.filterMap_cons,List.filterMap_nil,List.getElem?_toArray,List.getElem?_cons_succ,List.getElem?_cons_zero,Option.map_some]
   repeat ((first|refine aQ (λK hK=>?_)|refine aM (λK hK=>?_));go_simp;refine hK _ ?_;clear hK K)
   clear k0 k1 k2 k3 k4 a0 a1 a2 a3 a3'
   refine bD ?_
   go_wp2_with fail
   refine(HIA.out wr.drew).mono ?_
   rintro e V ⟨rfl,hbV⟩
   have hbV':Below wr.heap.size wr V:=bi hbV
   have HV:=Lib.hid hbV'
   clear hbV hbV'
   go_wp2_with fail
   refine⟨a7 HV.out,?_⟩
   refine bD ?_
   go_wp2_with fail
   refine⟨a7 HV.out,?_⟩
   refine bM ?_
   by_cases hce:ce=0
   ·have qc:(ce != 0)=false:=by simpa using hce
    have hall2:=HALL.out
    rw[if_neg (by simpa using hce)] at hall2
    have HALL2:=Lib.hid hall2
    clear hall2 hce
    go_wp2
    go_roundw
    case rel=>exact⟨m+1,by simp,by omega,HALL2,Lib.hid (hbz.out.trans (HV.out.mono hbz.out.size))⟩
    case measure=>simp[intOf];omega
   ·have qc:(ce != 0)=true:=by simpa using hce
    have hall2:=HALL.out
    rw[if_pos hce] at hall2
    have hck:=HCK2.out
    rw[<-hall2] at hck
    have HCK3:=Lib.hid (show qa ars regs spills cd=((m:Int),ce) from hck)
    clear hall2 hce hck
    go_wp2
    refine bodyPost_ret (by simp[results,Try.results39,go_sem];try rfl) rfl ?_
    exact⟨by rw[HCK3.out],HZ.out.trans (HV.out.mono HZ.out.size)⟩
theorem rN(la:List (Bool×Int))(regs par:Int)(cs:List In)(hla:la.length<=9223372036854775807)(hcs:cs.length<=9223372036854775807)(harg:∀x ∈ cs,0<=x.2.2.2.2/\x.2.2.2.2<4294967296):
  bR Try.prog 39 [aP la.length (aC la) regs par cs] [.v (.n .i64 (qa (la.map jN) regs par (cs.map bq)).1),.v (.n .i64 (fy la regs par cs).2)]:=by
 refine qC ⟨_,Try.func39,by kernel_rfl,by kernel_rfl⟩ (λφ w args' hφ ha=>?_)
 obtain⟨a1,c1,a2,c2,rfl,r1,r2⟩:=qW hφ ha
 have:=Aw (la.map jN) regs par (cs.map bq)
 unfold fy
 rw[<-this]
 refine(wc a1 a2 c1 c2 (la.map jN) regs par (cs.map bq) w r1 r2 (by rw[List.length_map];omega) (by rw[List.length_map];omega) ?_).mono (λe w' hq=>hq)
 intro i hi
 obtain⟨x,hx,rfl⟩:=List.mem_map.1 hi
 exact harg x hx
theorem Hh{σ:Sg}{pt:List Int}{i j:Nat}(hi:i<pt.length)(hj:j<1):VR σ (iC .i64 pt i j) ((eO .i64 pt).toArray.getD i undef):=by
 have:(eO .i64 pt).toArray.getD i undef= .int .i64 (pt.getD i 0):=by
  simp[eO,Array.getD,hi,List.getD_eq_getElem?_getD,List.getElem?_eq_getElem hi]
 rw[this]
 exact .n _ _
theorem nz(cs:List In)(t:T)(ht:cs.map bq=t.flat)(hw:t.wf false 8)(hcs:cs.length<=16384):
  bR Try.prog 23 [.fs 5 cs.length (cC cs)] [.v (.fs 1 (t.rq 0 0).length (iC .i64 (t.rq 0 0))),.v (.n .i64 0),.v (.n .i64 0)]:=by
 refine⟨⟨_,Try.func23,by kernel_rfl,by kernel_rfl⟩,λφ w args' hφ ha=>?_⟩
 have hn:args'.toList.length=1:=ha.1.symm
 match hl:args'.toList,hn with
 |[u],_=>
  rw[hl] at ha
  have hu:=ha.2 0 _ rfl
  simp only[List.getD_cons_zero] at hu
  have hargs:args'= #[u]:=by apply Array.toList_inj.1;rw[hl]
  obtain⟨a,cap,rfl,hr⟩:=sL hφ hu
  rw[hargs]
  have hlen:t.flat.length=cs.length:=by rw[<-ht,List.length_map]
  rw[ht] at hr ⊢
  refine(fg a cap t.flat w hr (by omega) kT).mono λe w' hp=>?_
  obtain⟨hbel,rfl,hblk⟩:=uL hw hp
  have hql:(t.rq 0 0).length=t.flat.length:=by rw[T.rq_length,T.flat_length]
  have hsz:(eO .i64 (t.rq 0 0)).toArray.size=t.flat.length:=by simp[eO,hql]
  have hH:=HR.after hφ hbel
  let φ':Fz:=λc=>if c=w.heap.size then some (eO .i64 (t.rq 0 0)).toArray else φ c
  refine⟨.tup [.fs 1 (t.rq 0 0).length (iC .i64 (t.rq 0 0)),.n .i64 0,.n .i64 0],⟨.nil,0,2^40,λ_=>none⟩,Sg.data φ',⟨[_,_,_],rfl,⟨rfl,rfl⟩,⟨rfl,rfl⟩,⟨rfl,rfl⟩,trivial⟩,bw.tup (cs:=[_,_,_]) (.cons ?_ (.cons (.n _ _) (.cons (.n _ _) .nil))),?_,hbel,λc hc=>?_⟩
  ·rw[hql]
   exact .fs (σ:=Sg.data φ') (c:=w.heap.size) (off:=0) (cs:=(eO .i64 (t.rq 0 0)).toArray) (if_pos rfl) (by omega) (λi j _ _=>rfl) (λi j hi hj=>by
    cases Nat.lt_one_iff.1 hj
    rw[show 0+i*1+0=i by omega]
    exact Hh (by omega) (by omega)) _ (Nat.le_refl _)
  ·exact⟨hH.new,hH.newl,hH.old,hH.small,hH.hB,hH.nil,hH.nilp,λb x c o hx hs=>(by cases hs),hH.szs,λb b' x x' c o o' _ _ hs _=>(by cases hs),λc fs hf=>by
    by_cases e:c=w.heap.size
    ·subst e
     have hf':(if w.heap.size=w.heap.size then some (eO .i64 (t.rq 0 0)).toArray else φ w.heap.size)=some fs:=hf
     rw[if_pos rfl] at hf'
     cases hf'
     exact⟨_,_,_,hblk,fZ.refl _,λb x o _ hs=>(by cases hs)⟩
    ·have hf':(if c=w.heap.size then some (eO .i64 (t.rq 0 0)).toArray else φ c)=some fs:=hf
     rw[if_neg e] at hf'
     exact hH.frz c fs hf',λr x hr=>(by cases hr)⟩
  ·show(if c=w.heap.size then _ else φ c)=φ c
   rw[if_neg (by omega)]
end Go.Proofs.Yteopfmnnhlhbmaa