/- A part of the proof of CostLimits. No condition. -/
import Derived.Test.YtdpkgnmmikebdaaGreatGi35
import Derived.Test.YtdpkgnmmikebdaaGreatGip
set_option linter.unusedSimpArgs false
set_option linter.unusedVariables false
set_option linter.constructorNameAsVariable false
set_option maxRecDepth 100000
set_option maxHeartbeats 4000000
namespace Go.Proofs.YtdpkgnmmikebdaaGreat
open Go.RowKit
theorem y8(a n:Int)(ha:0<=a/\a<=281474976710657)(hn:0<=n/\n<=65537):gw av 24 [aq a,aq n] [.v (aq (fN a n))]:=by
 refine fe fx MC ⟨ae,ag⟩ ?_;simp only[fy];by_cases h:0<n
 ·have hq:¬n=0:=aa;have wq:IntKind.i64.wrap (Int.tdiv 281474976710657 n)=281474976710657 / n:=by
   rw[apO ag];have h1:281474976710657 / n<=281474976710657:=apZ _ ag;have h2:0<=281474976710657 / n:=apW ag aa;exact ff aa
  by_cases hc:281474976710657 / n<a
  ·rw[show fN a n=281474976710657 from if_pos ⟨h,hc⟩]
   repeat first|with_reducible refine fj ?_|simp only[h,lJ hq,hq,if_false,gp,wq,hc,gt_iff_lt,aQ,go_sem,simprocAttr]
   exact dU
  ·rw[show fN a n=gi (a*n) from if_neg (λk=>hc k.2)];have hp:a*n<=281474976710657:=by
    have:=Int.mul_le_of_le_ediv h (Int.not_lt.1 hc);exact this
   have hp0:0<=a*n:=apY ha.1 hn.1;have w:IntKind.i64.wrap (a*n)=a*n:=ff aa
   repeat first|with_reducible refine fj ?_|simp only[h,lJ hq,hq,if_false,gp,wq,hc,w,gt_iff_lt,fL,gV,iW,aQ,go_sem,simprocAttr]
   exact dU
 ·obtain rfl:n=0:=aa;rw[show fN a 0=gi (a*0) from if_neg (λk=>h k.1)];have w:IntKind.i64.wrap (a*0)=a*0:=ff aa
  repeat first|with_reducible refine fj ?_|simp only[h,w,gt_iff_lt,fL,gV,iW,aQ,go_sem,simprocAttr]
  exact dU
theorem xe(a n:Int)(ha:0<=a/\a<=281474976710657)(hn:0<=n/\n<=65537):gw av 27 [aq a,aq n] [.v (aq (fN a n))]:=by
 refine fe fx acH ⟨ae,ag⟩ ?_;simp only[fy];by_cases h:0<n
 ·have hq:¬n=0:=aa;have wq:IntKind.i64.wrap (Int.tdiv 281474976710657 n)=281474976710657 / n:=by
   rw[apO ag];have h1:281474976710657 / n<=281474976710657:=apZ _ ag;have h2:0<=281474976710657 / n:=apW ag aa;exact ff aa
  by_cases hc:281474976710657 / n<a
  ·rw[show fN a n=281474976710657 from if_pos ⟨h,hc⟩]
   repeat first|with_reducible refine fj ?_|simp only[h,lJ hq,hq,if_false,gp,wq,hc,gt_iff_lt,aQ,go_sem,simprocAttr]
   exact dU
  ·rw[show fN a n=gi (a*n) from if_neg (λk=>hc k.2)];have hp:a*n<=281474976710657:=by
    have:=Int.mul_le_of_le_ediv h (Int.not_lt.1 hc);exact this
   have hp0:0<=a*n:=apY ha.1 hn.1;have w:IntKind.i64.wrap (a*n)=a*n:=ff aa
   repeat first|with_reducible refine fj ?_|simp only[h,lJ hq,hq,if_false,gp,wq,hc,w,gt_iff_lt,fL,gV,iW,aQ,go_sem,simprocAttr]
   refine gf (xo (a*n)) ?_;refine dp ?_;exact dU
 ·obtain rfl:n=0:=aa;rw[show fN a 0=gi (a*0) from if_neg (λk=>h k.1)];have w:IntKind.i64.wrap (a*0)=a*0:=ff aa
  repeat first|with_reducible refine fj ?_|simp only[h,w,gt_iff_lt,fL,gV,iW,aQ,go_sem,simprocAttr]
  refine gf (xo (a*0)) ?_;refine dp ?_;exact dU
theorem zz(la:ao)(n:Int)(cs:am)(hl:la.length<=9223372036854775807)(hc:cs.length<=9223372036854775807)(ha:il cs)(inputs:Int):
  gw av 10 [fX la n cs,aq inputs] [.v (.agg [aq (jI la n cs inputs).1,aq (jI la n cs inputs).2.1]),.v (aq (jI la n cs inputs).2.2)]:=by
 refine fe fx MB ⟨ae,ag⟩ ?_;simp only[fy,fX];refine dp ?_;cases hv:j7 la n cs with
 |none=>exact absurd hv (pG ha)
 |some R=>
  cases R with
  |error e=>
   have hF:jI la n cs inputs=(0,0,e.2):=by unfold jI;rw[hv]
   have he:=sJ hv;refine gf (sK la n cs hl hc ha hv) ?_;refine dx he ?_;rw[hF];exact aq7
  |ok q=>
   obtain⟨S,b⟩:=q;obtain⟨h0,_,_,_,hb1,hb2⟩:=nP ha hv;refine gf (pH la n cs hl hc ha hv) ?_;simp only[s9];have hfm:fY la n cs=0:=by
    unfold iH at h0;split at h0
    ·assumption
    ·rename_i h1;exact absurd h0 h1
   by_cases i1:inputs<0
   ·have hF:jI la n cs inputs=(0,0,2):=by unfold jI;rw[hv];exact if_pos (.inl i1)
    refine dx i1 ?_;rw[hF];exact aq7
   by_cases i2:65536<inputs
   ·have hF:jI la n cs inputs=(0,0,2):=by unfold jI;rw[hv];exact if_pos (.inr i2)
    refine dG (aU i1 i2) ?_;rw[hF];exact aq7
   have wi:IntKind.i64.wrap (inputs+1)=inputs+1:=ff aa;have hF:jI la n cs inputs=if 281474976710657<=fN b.1 (inputs+1) then(0,0,18) else(lQ la n,fN b.1 (inputs+1),0):=by
    unfold jI;rw[hv];exact if_neg aa
   refine dG (aU i1 i2) ?_;refine gf (pR la n cs hl hc ha) ?_;rw[hfm,if_pos rfl];refine dx wi ?_;refine gf (F:=[aq b.1,aq (inputs+1)]) (y8 b.1 (inputs+1) aa aa) ?_;refine du wi ?_;refine gf (F:=[aq (fN b.1 (inputs+1))]) (oS _) ?_;by_cases i3:281474976710657<=fN b.1 (inputs+1)
   ·exact avW
   ·exact avX
theorem MQ(la:ao)(n:Nat)(cs:am)(hl:la.length<=9223372036854775807)(hc:cs.length<=9223372036854775807)(ha:il cs):
  PC av (λ_=>false) 25 [fX la n cs] (fi [])
   (λv H'=>(∃(S:WS) (b:Bd),iY la n cs=some (.ok (S,b))/\∃k,v= .tup [.agg [aq b.1,aq b.2,aq S.ht,.os k (gc S.lp cs.length).length],aq 0,aq 0]/\H'.at k=some (fg 48 3 (gc S.lp cs.length).length 0 (kR (gc S.lp cs.length))))\/
    (∃e:Er,iY la n cs=some (.error e)/\v= .tup [.agg [aq 0,aq 0,aq 0,.sl0],aq e.1,aq e.2]))
   (λ_ _=>False):=by
 have h:=vz la n cs hl hc ha;rwa [fv] at h
section
variable (la:ao) (n:Nat) (cs:am) (hl:la.length<=9223372036854775807) (hc:cs.length<=9223372036854775807) (ha:il cs)
include hl hc ha
theorem vo{S:WS}{b:Bd}(h:iY la n cs=some (.ok (S,b))):gw av 25 [fX la n cs] [.a (s9 cs S b),.v (aq 0),.v (aq 0)]:=by
 refine lA ((MQ la n cs hl hc ha).mono (λv H q=>?_) (λc H q=>q));rcases q with⟨S',b',h',k,rfl,hk⟩|⟨e,h',_⟩
 ·exact avV
 ·rw[h] at h';cases h'
theorem vp{e:Er}(h:iY la n cs=some (.error e)):gw av 25 [fX la n cs] [.v (.agg [aq 0,aq 0,aq 0,.sl0]),.v (aq e.1),.v (aq e.2)]:=by
 refine lA ((MQ la n cs hl hc ha).mono (λv H q=>?_) (λc H q=>q));rcases q with⟨S',b',h',k,rfl,hk⟩|⟨e',h',rfl⟩
 ·rw[h] at h';cases h'
 ·exact ata
end
theorem wY(la:ao)(loc:Int)(cs:am)(hl:la.length<=9223372036854775807)(hc:cs.length<=9223372036854775807)(ha:il cs)(h0:(iH la loc cs).2≠0):
  gw av 25 [fX la loc cs] [.v (.agg [aq 0,aq 0,aq 0,.sl0]),.v (aq (iH la loc cs).1),.v (aq (iH la loc cs).2)]:=by
 refine lA (gX Dt ⟨ae,ag⟩ ?_);simp only[fy,fX];refine a7 ?_;refine iR (qm la loc cs hl hc ha) ?_;refine bE h0 ?_;exact asx
section
variable (la:ao) (loc:Int) (cs:am) (hl:la.length<=9223372036854775807) (hc:cs.length<=9223372036854775807) (ha:il cs)
include hl hc ha
theorem wW{S:WS}{b:Bd}(h:j7 la loc cs=some (.ok (S,b))):gw av 25 [fX la loc cs] [.a (s9 cs S b),.v (aq 0),.v (aq 0)]:=by
 unfold j7 at h;split at h
 ·rename_i h0;have:=vo la loc.toNat cs hl hc ha h;rwa [qM ha h0] at this
 ·cases h
theorem wX{e:Er}(h:j7 la loc cs=some (.error e)):gw av 25 [fX la loc cs] [.v (.agg [aq 0,aq 0,aq 0,.sl0]),.v (aq e.1),.v (aq e.2)]:=by
 unfold j7 at h;split at h
 ·rename_i h0;have:=vp la loc.toNat cs hl hc ha h;rwa [qM ha h0] at this
 ·rename_i h0;cases h;exact wY la loc cs hl hc ha h0
end
theorem zf(la:ao)(n:Int)(cs:am)(hl:la.length<=9223372036854775807)(hc:cs.length<=9223372036854775807)(ha:il cs)(inputs:Int):
  gw av 11 [fX la n cs,aq inputs] [.v (.agg [aq (jI la n cs inputs).1,aq (jI la n cs inputs).2.1]),.v (aq (jI la n cs inputs).2.2)]:=by
 refine fe fx XL ⟨ae,ag⟩ ?_;simp only[fy,fX];refine dp ?_;cases hv:j7 la n cs with
 |none=>exact absurd hv (pG ha)
 |some R=>
  cases R with
  |error e=>
   have hF:jI la n cs inputs=(0,0,e.2):=by unfold jI;rw[hv]
   have he:=sJ hv;refine gf (wX la n cs hl hc ha hv) ?_;refine dx he ?_;rw[hF];exact aq7
  |ok q=>
   obtain⟨S,b⟩:=q;obtain⟨h0,_,_,_,hb1,hb2⟩:=nP ha hv;refine gf (wW la n cs hl hc ha hv) ?_;simp only[s9];have hfm:fY la n cs=0:=by
    unfold iH at h0;split at h0
    ·assumption
    ·rename_i h1;exact absurd h0 h1
   by_cases i1:inputs<0
   ·have hF:jI la n cs inputs=(0,0,2):=by unfold jI;rw[hv];exact if_pos (.inl i1)
    refine dx i1 ?_;rw[hF];exact aq7
   by_cases i2:65536<inputs
   ·have hF:jI la n cs inputs=(0,0,2):=by unfold jI;rw[hv];exact if_pos (.inr i2)
    refine dG (aU i1 i2) ?_;rw[hF];exact aq7
   have wi:IntKind.i64.wrap (inputs+1)=inputs+1:=ff aa;have hF:jI la n cs inputs=if 281474976710657<=fN b.1 (inputs+1) then(0,0,18) else(lQ la n,fN b.1 (inputs+1),0):=by
    unfold jI;rw[hv];exact if_neg aa
   refine dG (aU i1 i2) ?_;refine gf (xk la n cs hl hc ha) ?_;rw[hfm,if_pos rfl];refine dx wi ?_;refine gf (F:=[aq b.1,aq (inputs+1)]) (xe b.1 (inputs+1) aa aa) ?_;by_cases i3:281474976710657<=fN b.1 (inputs+1)
   ·rw[if_pos i3] at hF;have i4:281474976710656<fN b.1 (inputs+1):=aa;rw[hF];refine dG i4 ?_;exact⟨[_,_],rfl,⟨rfl,rfl⟩,⟨rfl,rfl⟩,trivial⟩
   ·rw[if_neg i3] at hF;have i4:¬281474976710656<fN b.1 (inputs+1):=aa;rw[hF];refine dG i4 ?_;exact⟨[_,_],rfl,⟨rfl,rfl⟩,⟨rfl,rfl⟩,trivial⟩
theorem tP(la:ao)(loc:Int)(cs:am)(hl:la.length<=9223372036854775807)(hc:cs.length<=9223372036854775807)(ha:il cs)(inputs:Int):gw av 3 [fX la loc cs,aq inputs] [.v (.b true)]:=by
 refine fe fx XS ⟨ae,ag⟩ ?_;simp only[fy,fX];refine dp ?_;refine gf (L7 la loc cs) ?_;cases hF:uj la cs
 ·refine du hF ?_;refine gf Bo ?_;refine dp ?_;exact eY rfl rfl
 refine du hF ?_;refine gf (zz la loc cs hl hc ha inputs) ?_;refine dp ?_;refine gf (zf la loc cs hl hc ha inputs) ?_;refine dq @tH ?_;refine gf Bo ?_;refine dp ?_;exact dU
end Go.Proofs.YtdpkgnmmikebdaaGreat