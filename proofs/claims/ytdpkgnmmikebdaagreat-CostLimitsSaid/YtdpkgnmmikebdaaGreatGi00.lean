/- A part of the proof: short words. No condition. -/
set_option linter.unusedVariables false
namespace Go.Proofs.YtdpkgnmmikebdaaGreat
abbrev am:=List (Int×Int)
abbrev ao:=List (Bool×Int)
theorem aa{P:Prop}(h:P:=by omega):P:=h
theorem ae{P:Prop}(h:P:=by simp):P:=h
theorem af{P:Prop}(h:P:=by rfl):P:=h
theorem ag{P:Prop}(h:P:=by decide):P:=h
theorem ah{P:Prop}(h:P:=by simp only[go_sem,simprocAttr]):P:=h
theorem ai{P:Prop}(h:P:=by simp only[go_sem,simprocAttr]<;>rfl):P:=h
theorem aj{P:Prop}(h:P:=by simp only[go_sem,simprocAttr];rfl):P:=h
theorem dp{P Q:Prop}(h:Q)(e:Q->P:=by intro h;(repeat first|with_reducible refine fj ?_|simp only[go_sem,simprocAttr]);exact h):P:=e h
theorem aQ:(decide True=true)/\(decide False=false)/\((!true)=false)/\((!false)=true)/\((¬True)=False)/\((¬False)=True):=⟨by simp,by simp,rfl,rfl,by simp,by simp⟩
theorem dq{A P Q:Prop}(f:A)(h:Q)(e:A->Q->P:=by intro f h;(repeat first|with_reducible refine fj ?_|simp only[f,aQ,go_sem,simprocAttr]);exact h):P:=e f h
theorem aU{A B:Prop}(a:A)(b:B):A/\B:=⟨a,b⟩
theorem dt{A P Q:Prop}(f:A)(h:Q)(e:A->Q->P:=by intro f h;(repeat first|with_reducible refine fj ?_|simp only[f,ge_iff_le,aQ,go_sem,simprocAttr]);exact h):P:=e f h
theorem du{A P Q:Prop}(f:A)(h:Q)(e:A->Q->P:=by intro f h;(repeat first|with_reducible refine fj ?_|simp only[f,go_sem,simprocAttr]);exact h):P:=e f h
theorem dw{A P Q:Prop}(f:A)(h:Q)(e:A->Q->P:=by intro f h;(repeat first|with_reducible refine fj ?_|simp only[f,gt_iff_lt,aQ,go_sem,simprocAttr]);exact h):P:=e f h
theorem dx{A P Q:Prop}(f:A)(h:Q)(e:A->Q->P:=by intro f h;(repeat first|with_reducible refine fj ?_|simp only[f,ne_eq,aQ,go_sem,simprocAttr]);exact h):P:=e f h
theorem a7{P Q:Prop}(h:Q)(e:Q->P:=by intro h;(repeat first|with_reducible refine GE.g ?_|simp only[go_sem,simprocAttr]);exact h):P:=e h
theorem a8{A P Q:Prop}(f:A)(h:Q)(e:A->Q->P:=by intro f h;(repeat first|with_reducible refine GE.g ?_|simp only[f,aQ,go_sem,simprocAttr]);exact h):P:=e f h
theorem a9{A P Q:Prop}(f:A)(h:Q)(e:A->Q->P:=by intro f h;(repeat first|with_reducible refine GE.g ?_|simp only[f,go_sem,simprocAttr]);exact h):P:=e f h
theorem ba{P Q:Prop}(h:Q)(e:Q->P:=by intro h;simp only[go_sem,simprocAttr];exact h):P:=e h
theorem bc{A P Q:Prop}(f:A)(h:Q)(e:A->Q->P:=by intro f h;simp only[f,go_sem,simprocAttr];exact h):P:=e f h
theorem bf{P Q:Prop}(h:Q)(e:Q->P:=by intro h;(repeat first|with_reducible refine GE.g ?_|simp only[aQ,go_sem,simprocAttr]);exact h):P:=e h
theorem dy{A P:Prop}(f:A)(e:A->P:=by intro f;(repeat first|with_reducible refine fj ?_|simp only[f,ge_iff_le,aQ,go_sem,simprocAttr])):P:=e f
theorem bh{A P Q:Prop}(f:A)(h:Q)(e:A->Q->P:=by intro f h;(repeat first|with_reducible refine GE.g ?_|simp only[f,ge_iff_le,aQ,go_sem,simprocAttr]);exact h):P:=e f h
theorem bi{A P Q:Prop}(f:A)(h:Q)(e:A->Q->P:=by intro f h;(repeat first|with_reducible refine GE.g ?_|simp only[f,gt_iff_lt,aQ,go_sem,simprocAttr]);exact h):P:=e f h
theorem bj{A P Q:Prop}(f:A)(h:Q)(e:A->Q->P:=by intro f h;(repeat first|with_reducible refine GE.g ?_|simp only[f,ge_iff_le,ne_eq,aQ,go_sem,simprocAttr]);exact h):P:=e f h
theorem dz{P Q:Prop}(h:Q)(e:Q->P:=by intro h;(repeat first|with_reducible refine fj ?_|simp only[ne_eq,aQ,go_sem,simprocAttr]);exact h):P:=e h
theorem dA{A P Q:Prop}(f:A)(h:Q)(e:A->Q->P:=by intro f h;(repeat first|with_reducible refine fj ?_|simp only[f,ge_iff_le,gt_iff_lt,aQ,go_sem,simprocAttr]);exact h):P:=e f h
theorem dB{A P Q:Prop}(f:A)(h:Q)(e:A->Q->P:=by intro f h;(repeat first|with_reducible refine fj ?_|simp only[f,if_false,go_sem,simprocAttr]);exact h):P:=e f h
theorem dC{A P Q:Prop}(f:A)(h:Q)(e:A->Q->P:=by intro f h;(repeat first|with_reducible refine fj ?_|simp only[f,gt_iff_lt,if_false,aQ,go_sem,simprocAttr]);exact h):P:=e f h
theorem dD{A P Q:Prop}(f:A)(h:Q)(e:A->Q->P:=by intro f h;(repeat first|with_reducible refine fj ?_|simp only[f,Int.toNat_natCast,aQ,go_sem,simprocAttr]);exact h):P:=e f h
theorem dE{A P Q:Prop}(f:A)(h:Q)(e:A->Q->P:=by intro f h;(repeat first|with_reducible refine fj ?_|simp only[f,Int.toNat_natCast,go_sem,simprocAttr]);exact h):P:=e f h
theorem dF{P Q:Prop}(h:Q)(e:Q->P:=by intro h;(repeat first|with_reducible refine fj ?_|simp only[aQ,go_sem,simprocAttr]);exact h):P:=e h
theorem dG{A P Q:Prop}(f:A)(h:Q)(e:A->Q->P:=by intro f h;(repeat first|with_reducible refine fj ?_|simp only[f,gt_iff_lt,ne_eq,aQ,go_sem,simprocAttr]);exact h):P:=e f h
theorem bw{A P Q:Prop}(f:A)(h:Q)(e:A->Q->P:=by intro f h;(repeat first|with_reducible refine GE.g ?_|simp only[f,Int.le_refl,go_sem,simprocAttr]);exact h):P:=e f h
theorem bz{A P Q:Prop}(f:A)(h:Q)(e:A->Q->P:=by intro f h;(repeat first|with_reducible refine GE.g ?_|simp only[f,Int.le_refl,aQ,go_sem,simprocAttr]);exact h):P:=e f h
theorem bA{A P Q:Prop}(f:A)(h:Q)(e:A->Q->P:=by intro f h;(repeat first|with_reducible refine GE.g ?_|simp only[f,Int.toNat_natCast,aQ,go_sem,simprocAttr]);exact h):P:=e f h
theorem bB{A P Q:Prop}(f:A)(h:Q)(e:A->Q->P:=by intro f h;(repeat first|with_reducible refine GE.g ?_|simp only[f,Int.toNat_natCast,go_sem,simprocAttr]);exact h):P:=e f h
theorem dH{A P Q:Prop}(f:A)(h:Q)(e:A->Q->P:=by intro f h;(repeat first|with_reducible refine fj ?_|simp only[f,Int.le_refl,aQ,go_sem,simprocAttr]);exact h):P:=e f h
theorem bE{A P Q:Prop}(f:A)(h:Q)(e:A->Q->P:=by intro f h;(repeat first|with_reducible refine GE.g ?_|simp only[f,ne_eq,aQ,go_sem,simprocAttr]);exact h):P:=e f h
theorem bF{A P Q:Prop}(f:A)(h:Q)(e:A->Q->P:=by intro f h;(repeat first|with_reducible refine GE.g ?_|simp only[f,Int.toNat_natCast,ge_iff_le,aQ,go_sem,simprocAttr]);exact h):P:=e f h
theorem bG{A P Q:Prop}(f:A)(h:Q)(e:A->Q->P:=by intro f h;(repeat first|with_reducible refine GE.g ?_|simp only[f,Int.le_refl,Int.toNat_natCast,go_sem,simprocAttr]);exact h):P:=e f h
theorem bH{P Q:Prop}(h:Q)(e:Q->P:=by intro h;(repeat first|with_reducible refine GE.g ?_|simp only[ne_eq,aQ,go_sem,simprocAttr]);exact h):P:=e h
theorem bI{A P Q:Prop}(f:A)(h:Q)(e:A->Q->P:=by intro f h;(repeat first|with_reducible refine GE.g ?_|simp only[f,gt_iff_lt,ne_eq,aQ,go_sem,simprocAttr]);exact h):P:=e f h
theorem dI{A P Q:Prop}(f:A)(h:Q)(e:A->Q->P:=by intro f h;(repeat first|with_reducible refine fj ?_|simp only[f,Int.toNat_natCast,ge_iff_le,aQ,go_sem,simprocAttr]);exact h):P:=e f h
theorem bK{A P Q:Prop}(f:A)(h:Q)(e:A->Q->P:=by intro f h;(repeat first|with_reducible refine GE.g ?_|simp only[f,Int.add_zero,ne_eq,aQ,go_sem,simprocAttr]);exact h):P:=e f h
theorem aqd:type_of% @Array.getElem?_setIfInBounds_ne:=@Array.getElem?_setIfInBounds_ne
theorem aqe:type_of% @List.eq_nil_of_length_eq_zero:=@List.eq_nil_of_length_eq_zero
theorem apA:type_of% @Array.getD_eq_getD_getElem?:=@Array.getD_eq_getD_getElem?
theorem apd:type_of% @List.getD_eq_getElem?_getD:=@List.getD_eq_getElem?_getD
theorem apo:type_of% @Array.getElem?_eq_some_iff:=@Array.getElem?_eq_some_iff
theorem apO:type_of% @Int.tdiv_eq_ediv_of_nonneg:=@Int.tdiv_eq_ediv_of_nonneg
theorem apP:type_of% @List.getElem?_append_right:=@List.getElem?_append_right
theorem apF:type_of% @List.getElem?_append_left:=@List.getElem?_append_left
theorem ap4:type_of% @List.getElem?_eq_some_iff:=@List.getElem?_eq_some_iff
theorem ap7:type_of% @Array.getElem?_eq_getElem:=@Array.getElem?_eq_getElem
theorem apk:type_of% @List.getElem?_eq_getElem:=@List.getElem?_eq_getElem
theorem ap6:type_of% @List.getElem?_take_of_lt:=@List.getElem?_take_of_lt
theorem bM:type_of% @Option.bind_eq_some_iff:=@Option.bind_eq_some_iff
theorem aql:type_of% @List.getElem?_replicate:=@List.getElem?_replicate
theorem apc:type_of% @Option.map_eq_some_iff:=@Option.map_eq_some_iff
theorem aqm:type_of% @List.drop_eq_nil_of_le:=@List.drop_eq_nil_of_le
theorem apC:type_of% @Array.getElem?_toList:=@Array.getElem?_toList
theorem apI:type_of% @List.getElem?_eq_none:=@List.getElem?_eq_none
theorem apK:type_of% @List.length_replicate:=@List.length_replicate
theorem apN:type_of% @Array.getElem?_modify:=@Array.getElem?_modify
theorem aqk:type_of% @List.mem_iff_getElem?:=@List.mem_iff_getElem?
theorem apx:type_of% @List.mem_cons_of_mem:=@List.mem_cons_of_mem
theorem apB:type_of% @List.mem_of_getElem?:=@List.mem_of_getElem?
theorem apD:type_of% @Nat.mul_le_mul_right:=@Nat.mul_le_mul_right
theorem aqi:type_of% @Nat.pow_le_pow_right:=@Nat.pow_le_pow_right
theorem apX:type_of% @Array.length_toList:=@Array.length_toList
theorem ape:type_of% @List.length_append:=@List.length_append
theorem aps:type_of% @List.mem_cons_self:=@List.mem_cons_self
theorem apy:type_of% @List.mem_singleton:=@List.mem_singleton
theorem apQ:type_of% @Bool.false_eq_true:=@Bool.false_eq_true
theorem ap1:type_of% @Nat.lt_of_lt_of_le:=@Nat.lt_of_lt_of_le
theorem aqf:type_of% @List.getElem?_drop:=@List.getElem?_drop
theorem aqg:type_of% @List.mem_replicate:=@List.mem_replicate
theorem aqj:type_of% @Int.emod_lt_of_pos:=@Int.emod_lt_of_pos
theorem apn:type_of% @Option.some.injEq:=@Option.some.injEq
theorem apw:type_of% @Int.toNat_natCast:=@Int.toNat_natCast
theorem apR:type_of% @Array.toList_push:=@Array.toList_push
theorem aqc:type_of% @Nat.succ_le_of_lt:=@Nat.succ_le_of_lt
theorem apq:type_of% @Bool.and_eq_true:=@Bool.and_eq_true
theorem apr:type_of% @List.all_eq_true:=@List.all_eq_true
theorem apG:type_of% @Nat.lt_succ_self:=@Nat.lt_succ_self
theorem apL:type_of% @List.length_take:=@List.length_take
theorem apU:type_of% @List.map_toArray:=@List.map_toArray
theorem apV:type_of% @List.drop_length:=@List.drop_length
theorem apZ:type_of% @Int.ediv_le_self:=@Int.ediv_le_self
theorem ap2:type_of% @List.getElem_mem:=@List.getElem_mem
theorem aqa:type_of% @List.length_drop:=@List.length_drop
theorem aqh:type_of% @List.not_mem_nil:=@List.not_mem_nil
theorem apg:type_of% @Nat.not_lt_zero:=@Nat.not_lt_zero
theorem aph:type_of% @List.length_set:=@List.length_set
theorem apl:type_of% @Option.some.inj:=@Option.some.inj
theorem apS:type_of% @List.mem_append:=@List.mem_append
theorem apW:type_of% @Int.ediv_nonneg:=@Int.ediv_nonneg
theorem ap5:type_of% @Bool.or_eq_true:=@Bool.or_eq_true
theorem aqb:type_of% @List.append_nil:=@List.append_nil
theorem apE:type_of% @Nat.lt_one_iff:=@Nat.lt_one_iff
theorem apY:type_of% @Int.mul_nonneg:=@Int.mul_nonneg
theorem apv:type_of% @List.mem_cons:=@List.mem_cons
theorem apJ:type_of% @Nat.lt_irrefl:=@Nat.lt_irrefl
theorem ap9:type_of% @List.all_cons:=@List.all_cons
theorem apj:type_of% @Nat.le_trans:=@Nat.le_trans
theorem apt:type_of% @Nat.sub_self:=@Nat.sub_self
theorem apz:type_of% @Nat.zero_add:=@Nat.zero_add
theorem apM:type_of% @Nat.succ_mul:=@Nat.succ_mul
theorem apT:type_of% @Nat.mul_comm:=@Nat.mul_comm
theorem ap3:type_of% @Nat.zero_mul:=@Nat.zero_mul
theorem ap8:type_of% @List.mem_map:=@List.mem_map
theorem bL:type_of% @Nat.le_refl:=@Nat.le_refl
theorem apf:type_of% @Nat.zero_le:=@Nat.zero_le
theorem apu:type_of% @Nat.mul_one:=@Nat.mul_one
theorem apH:type_of% @Int.le_refl:=@Int.le_refl
theorem asC{P:Prop}(h:P:=by intro r x h;refine ba ?_;exact h):P:=h
theorem aru{P:Prop}(h:P:=by rw[hla];refine .cr (.snoc (row:=out.cell) (n:=out.len) (l:=[aq (-1),aq p,aq ((p+1:Nat):Int),.sl0,.sl0]) ah rfl rfl rfl ag aa (λi j hi _=>by rw[Fo.cell_app,if_pos hi]) (λj hj=>by rw[Fo.cell_app,if_neg (apJ _),apt];rcases(show j=0\/j=1\/j=2\/j=3\/j=4 by omega) with rfl|rfl|rfl|rfl|rfl<;>rfl) (λi j hi _=>Fo.cell_pu _ i j (hla ▸ hi))) bb):P:=h
theorem aq7{P:Prop}(h:P:=by exact⟨[_,_],rfl,⟨rfl,rfl⟩,⟨rfl,rfl⟩,trivial⟩):P:=h
theorem asY{P:Prop}(h:P:=by have:=h1st;first|omega|(show(S1.st++[_]).length<1000;rw[ape];simp only[List.length_cons,List.length_nil];omega)):P:=h
theorem dU{P:Prop}(h:P:=by exact eY rfl rfl):P:=h
theorem dR{P:Prop}(h:P:=by simp only[iz,q3] at hearly;obtain⟨hbm,hearly⟩:=hearly;obtain⟨xb,hxb⟩:=Option.isSome_iff_exists.1 hearly;have hc0:σ b=σ0 b:=hF.dom b (AH.at_lt h0 hxb);rw[hc0] at q4;obtain⟨cs0,p2,p3,p4⟩:=h0.blk b xb c oc hxb q4;refine⟨⟨_,_,_,p3⟩,λb' o' h1 h2 h3=>?_⟩;obtain⟨x',hx',_⟩:=htop' b' h1 aa;have:=h0.inj b b' xb x' c oc o' hxb hx' q4 h3;omega):P:=h
theorem asM{P:Prop}(h:P:=by exact⟨Wv.p rfl,Wv.n rfl,Wv.n rfl,trivial⟩):P:=h
theorem avO{P:Prop}(h:P:=by simp only[aH,aL,i7];exact .cr (.j2) (.cr (.j2) (.cr (.j2) (.cr (.k2 (λ_ _ _ _=>rfl)) (.cr (.k2 (λi j _ _=>fo _ i j)) (.cr (.k2 (λi j _ _=>fk _ i j)) (.cr (.ak (hg:=λi hi=>by rcases vM hi with rfl|rfl|rfl|rfl|rfl|rfl|rfl|rfl|rfl|rfl|rfl|rfl|rfl|rfl|rfl|rfl<;>(simp only[go_sem,simprocAttr];first|exact Wv.same rfl|exact Wv.os rfl|exact .cv (.ownb (ty:=127) (z:=0) ai (λi j _ _=>gL _ i j) ae)))) .nil))))))):P:=h
theorem avN{P:Prop}(h:P:=by first|omega|(show 0<=fA _ _/\fA _ _<1000000;unfold fA;split<;>omega)):P:=h
theorem eo{P:Prop}(h:P:=by rw[ku,if_neg (λh=>hlt h.1)] at hr;refine a8 (aU h01 (aU @ip (aU hop' hlt'))) ?_;exact fP [] (fargs:=[.b false,aq (p1:Int),aq 15]) (ja.same rfl) (gz p1 15) ⟨p1,(apl hr).symm,rfl⟩):P:=h
theorem arT{P:Prop}(h:P:=by simp only[go_sem,simprocAttr]):P:=h
theorem arz{P:Prop}(h:P:=by exact⟨Wv.p rfl,Wv.n rfl,Wv.same rfl,trivial⟩):P:=h
theorem ars{P:Prop}(h:P:=by rw[hla];refine .cr (.snoc (row:=out.cell) (n:=out.len) (l:=[aq op,aq a,aq b,.fs 5 x.len x.cell,.fs 5 y.len y.cell]) ah rfl rfl rfl ag aa (λi j hi _=>by rw[Fo.cell_app,if_pos hi]) (λj hj=>by rw[Fo.cell_app,if_neg (apJ _),apt];rcases(show j=0\/j=1\/j=2\/j=3\/j=4 by omega) with rfl|rfl|rfl|rfl|rfl<;>rfl) (λi j hi _=>Fo.cell_pu _ i j (hla ▸ hi))) bb):P:=h
theorem avP{P:Prop}(h:P:=by exact .cr (.j2) (.cr (.j2) (.cr (.k2 (λ_ _ _ _=>rfl)) (.cr (.k2 (λi j _ _=>fo _ i j)) (.cr (.k2 (λi j _ _=>fk _ i j)) (.cr (.ak (hg:=λi hi=>by rcases vM hi with rfl|rfl|rfl|rfl|rfl|rfl|rfl|rfl|rfl|rfl|rfl|rfl|rfl|rfl|rfl|rfl<;>(simp only[go_sem,simprocAttr];first|exact Wv.same rfl|exact Wv.os rfl|exact .cv (.ow rfl)))) .nil)))))):P:=h
theorem ar4{P:Prop}(h:P:=by rw[hla];exact .cr (.snoc (row:=dn.cell) (n:=dn.len) (l:=[aq (-1),aq x,aq (k:Nat),.sl0,.sl0]) ah rfl rfl rfl ag aa (λi j hi _=>by rw[Fo.cell_app,if_pos hi]) (λj hj=>by rw[Fo.cell_app,if_neg (apJ _),apt];rcases(show j=0\/j=1\/j=2\/j=3\/j=4 by omega) with rfl|rfl|rfl|rfl|rfl<;>rfl) (λi j hi _=>Fo.cell_pu _ i j (hla ▸ hi))) .nil):P:=h
theorem art{P:Prop}(h:P:=by rw[hbl];exact .cr (.put1 (row:=out.cell) (q:=q) (t:=2) (v:= aq ((out.lastB 0+1:Nat):Int)) ah rfl ag aa rfl aa (λi j hi _=>by rw[Fo.cell_bump out 0 i j hi,hq]) (λi j hi _=>Fo.cell_pu _ i j (hbl ▸ hi))) bb):P:=h
theorem eU{P:Prop}(h:P:=by exact .cr (.k2 (λ_ _ _ _=>rfl)) (.cr (.k2 (λi j _ _=>fk _ i j)) (.cr (.wk (hg:=λi hi=>by rcases xJ hi with rfl|rfl|rfl|rfl|rfl|rfl|rfl|rfl|rfl|rfl|rfl<;>(simp only[go_sem,simprocAttr];first|exact Wv.same rfl|exact Wv.os rfl|exact .cv (.ownb (ty:=127) (z:=0) ai (λi j _ _=>gL _ i j) ae)))) .nil))):P:=h
theorem asH{P:Prop}(h:P:=by exact⟨Wv.p rfl,Wv.n rfl,Wv.n rfl,Wv.same rfl,trivial⟩):P:=h
theorem eW{P:Prop}(h:P:=by exact .cr (.j2) (.cr (.j2) (.cr (.k2 (λ_ _ _ _=>rfl)) (.cr (.k2 (λi j _ _=>fk _ i j)) (.cr (.wk (hg:=λi hi=>by rcases xJ hi with rfl|rfl|rfl|rfl|rfl|rfl|rfl|rfl|rfl|rfl|rfl<;>(simp only[go_sem,simprocAttr];first|exact Wv.same rfl|exact Wv.os rfl|exact .cv (.ow rfl)))) .nil))))):P:=h
theorem arY{P:Prop}(h:P:=by exact .cr (.rows (x:=_) aj af af af (apf _) ag ag (λi j h=>absurd h (apg _)) (λi j h=>absurd h (apg _))) .nil):P:=h
theorem eu{P:Prop}(h:P:=by exact eY (by simp only[k8,tn,qz,g1,g2,g3,if_true,if_false,Int.reduceAdd]) rfl):P:=h
theorem avV{P:Prop}(h:P:=by rw[h] at h';cases h';exact⟨[_,_,_],rfl,⟨(by show 4<=8;decide),_,rfl,⟨rfl,rfl⟩,⟨rfl,rfl⟩,⟨rfl,rfl⟩,.inr ⟨k,rfl,by simp[wN],_,hk,rfl,rfl,ag,rfl,bL _,bL _,λi j hi hj=>fI i j hj,λi j _ _=>nj _ i j⟩,trivial⟩,rfl,⟨rfl,rfl⟩,⟨rfl,rfl⟩,trivial⟩):P:=h
theorem arw{P:Prop}(h:P:=by exact .cons (.row ag (λi j _ _=>rfl)) (.cons (.row ag (λi j _ _=>rfl)) (.cons .lq (.cons .lq .nil)))):P:=h
theorem asI{P:Prop}(h:P:=by exact⟨Wv.p rfl,Wv.n rfl,.cv (.bs1 (x:=_) ae ai af ah ah ah),trivial⟩):P:=h
theorem eg{P:Prop}(h:P:=by have e31:¬(cs.getD p2 (0,0)).1=31:=hend;rw[ku,if_neg (λh=>hend h.2)] at hr;refine a8 (aU h01 (aU @ip (aU hop' (aU hlt' (aU h02 e31))))) ?_;exact fP [] (fargs:=[.b false,aq (p2:Int),aq 15]) (ja.same rfl) (gz p2 15) ⟨p2,(apl hr).symm,rfl⟩):P:=h
theorem ek{P:Prop}(h:P:=by have e31:¬(cs.getD p1 (0,0)).1=31:=hend;rw[ku,if_neg (λh=>hend h.2)] at hr;refine a8 (aU h01 (aU @ip (aU hop' (aU hlt' (aU e28 e31))))) ?_;exact fP [] (fargs:=[.b false,aq (p1:Int),aq 15]) (ja.same rfl) (gz p1 15) ⟨p1,(apl hr).symm,rfl⟩):P:=h
theorem aqW{P:Prop}(h:P:=by exact⟨hbel.os,hbel.tape,hbel.output,hbel.size,λk hk=>hbel.block k (by have:=hH.hB;omega)⟩):P:=h
theorem et{P:Prop}(h:P:=by have e31:¬(cs.getD p1 (0,0)).1=31:=hend;rw[ku,if_neg (λh=>hend h.2)] at hr;refine a8 (aU h01 (aU @ip (aU hop' (aU hlt' e31)))) ?_;exact fP [] (fargs:=[.b false,aq (p1:Int),aq 15]) (ja.same rfl) (gz p1 15) ⟨p1,(apl hr).symm,rfl⟩):P:=h
theorem asJ{P:Prop}(h:P:=by rintro c H' ⟨x,hx,rfl⟩;exact hErr x (by rw[hA,hx];rfl)):P:=h
theorem ew{P:Prop}(h:P:=by rw[hKl];exact .cr .k1 (.cr (.put1 (row:=iC out) (row2:=iC outK) (o:=k) (q:=k) (t:=0) (v:= aq (-1)) ah aa ag aa rfl aa (λi j hi hj=>by cases apE.1 hj;rw[hK];simp only[iC];rw[i5 hkn];by_cases hh:i=k<;>simp[hh]) (λ_ _ _ _=>rfl)) bb)):P:=h
theorem ey{P:Prop}(h:P:=by rw[if_pos hg] at this;refine dA (aU h0 (aU h1 (aU hw hg))) ?_;exact eY (congrArg _ this) rfl):P:=h
theorem ez{P:Prop}(h:P:=by rw[if_neg hg] at this;refine dA (aU h0 (aU h1 (aU hw hg))) ?_;exact eY (congrArg _ this) rfl):P:=h
theorem ep{P:Prop}(h:P:=by rw[hK1,aph];exact .cr (.put1 (row:=iC ptK) (row2:=iC (ptK.set z (p1:Int))) (o:=z) (q:=z) (t:=0) (v:= aq (p1:Int)) ah aa ag aa rfl aa (λi j hi hj=>by simp only[iC];rw[i5 hzl];by_cases hh:i=z<;>simp[hh];omega) (λ_ _ _ _=>rfl)) bb):P:=h
theorem avQ{P:Prop}(h:P:=by refine a8 (aU hqi hne) ?_;exact mj (ob:=ob) [3,2,1,0] [] (jo bd) (aH la loc cs pt Sx er) bb (.cv (.rfl rfl)) (by simp[aH]) (λr x h=>by simp only[go_sem,simprocAttr];exact h) (fh rfl) ⟨_,_,_,rfl,rfl,hbd,hjx,.inr ⟨hs,hne⟩⟩):P:=h
theorem aqU{P:Prop}(h:P:=by have hf':σ'.fz c=some fs:=hf;rw[hfz c hc] at hf';obtain⟨cs,t,fr,e1,e2,e3⟩:=q6.frz c fs hf';exact⟨cs,t,fr,by rw[hbel.block c hc];exact e1,e2,e3⟩):P:=h
theorem d9{P:Prop}(h:P:=by simp only[List.cons_append,List.nil_append,fv];exact bb):P:=h
theorem ed{P:Prop}(h:P:=by simp only[go_sem,simprocAttr,g8]):P:=h
theorem arf{P:Prop}(h:P:=by have:=apl h;subst this;exact⟨λo p1 pt1 lv1 he=>(by cases he),λo p1 pt1 lv1 he=>(by cases he)⟩):P:=h
theorem eh{P:Prop}(h:P:=by rw[ku,if_neg (λh=>hlt h.1)] at hr;refine a8 (aU h01 (aU @ip (aU hop' (aU hlt' h02)))) ?_;exact fP [] (fargs:=[.b false,aq (p2:Int),aq 15]) (ja.same rfl) (gz p2 15) ⟨p2,(apl hr).symm,rfl⟩):P:=h
theorem asa{P:Prop}(h:P:=by exact .cr .ls .nil):P:=h
theorem asN{P:Prop}(h:P:=by exact⟨Wv.p rfl,Wv.n rfl,Wv.n rfl,Wv.n rfl,Wv.n rfl,trivial⟩):P:=h
theorem dJ{P:Prop}(h:P:=by rename_i hw;obtain⟨v,h1,h2⟩:=h;exact jC hi hpu (Region.noSelect_spec hsel) (λc a w=>hQ c a _ v w) _ listed a w (Region.free_spec hi hf) hr' (.inl ⟨hw,λw _=>h1 w⟩) (next _ h2)):P:=h
theorem ef{P:Prop}(h:P:=by rw[hAl];exact .cr (.put2 (row:=iC pt2) (row2:=iC ptA) (a:=p1) (c:=p2) (v:= aq (p2:Int)) (w:= aq (p:Int)) ah aa aa rfl aa (λi hi=>by rw[hA];exact mr aa aa _ _ i) (λ_ _ _ _=>rfl)) bb):P:=h
theorem ei{P:Prop}(h:P:=by rw[hAl];exact .cr (.put2 (row:=iC pt1) (row2:=iC ptA) (a:=p) (c:=p1) (v:= aq (p1:Int)) (w:= aq (p:Int)) ah aa aa rfl aa (λi hi=>by rw[hA];exact mr aa aa _ _ i) (λ_ _ _ _=>rfl)) bb):P:=h
theorem eS{P:Prop}(h:P:=by rw[if_pos c] at h;exact kf h λ_ h'=>kj h' hS):P:=h
theorem aqT{P:Prop}(h:P:=by obtain⟨cs,e1,e2,e3⟩:=q6.blk b x c o hx hs;exact⟨cs,e1,by rw[hbel.block c ((apo.1 e2).1)];exact e2,e3.mono hle⟩):P:=h
theorem arI{P:Prop}(h:P:=by rintro c H' ⟨z,rfl,rfl⟩;exact⟨z,(apl hr).symm,rfl⟩):P:=h
theorem eR{P:Prop}(h:P:=by refine bA (aU hj0 (aU hjt' (aU hby (aU e0 (aU e1 (aU e2 (aU @tF (aU @tG (aU @tI @tJ))))))))) ?_;exact fP [] (fargs:=[.b false,aq p,aq 13]) (ja.same rfl) (jK p 13) (hE0 rfl)):P:=h
theorem dK{P:Prop}(h:P:=by rename_i hw;exact jC hi hpu (Region.noSelect_spec hsel) (λc a w=>hQ c a _ undef w) _ listed a w (Region.free_spec hi hf) hr' (.inr ⟨by simpa using hw,rfl⟩) (next _ h)):P:=h
theorem avU{P:Prop}(h:P:=by intro i j hi hj;rw[hl1] at hi;refine ba ?_;have hq:=fI (ty:=4) (esz:=1) (n:=n+1) (z:=0) (row:=tC st) i j hj;rw[apu] at hq;rw[hq];unfold tC;simp[apd,List.getElem?_take,hi]):P:=h
theorem avM{P:Prop}(h:P:=by refine dq h ?_;obtain rfl:k=x.length:=aa;exact⟨[_],rfl,.inr ⟨0,rfl,ae,_,ai,rfl,rfl,ag,rfl,bL _,bL _,λi j hi hj=>fI i j hj,λi j _ _=>gL _ i j⟩,rfl,trivial⟩):P:=h
theorem aqH{P:Prop}(h:P:=by have:=(List.pairwise_map (f:=λe:MapEntry=>(e.key,e.born)) (R:=λa b=>a.1≠b.1/\a.2<b.2) (l:=es.toList)).2 h.one;rw[<-hm] at this;exact List.pairwise_map.1 this):P:=h
theorem d8{P:Prop}(h:P:=by rw[if_pos h8] at hr;have h8':¬(d:Int)<=8:=aa;refine a8 h8' ?_;exact fP [] (fargs:=[.b false,aq (p:Int),aq 15]) (ja.same rfl) (gz p 15) ⟨p,(apl hr).symm,rfl⟩):P:=h
theorem arX{P:Prop}(h:P:=by rw[hd k hk,Below.heap_setCell _ _ _ _ (show k≠(⟨eb,0,none⟩:Addr).block from h2),Below.heap_setCell _ _ _ _ (show k≠(⟨ab,0,none⟩:Addr).block from h1)]):P:=h
theorem avX{P:Prop}(h:P:=by rw[if_neg i3] at hF;rw[hF,show ul (fN b.1 (inputs+1))=(fN b.1 (inputs+1),0) from if_neg i3];refine dz ?_;exact⟨[_,_],rfl,⟨rfl,rfl⟩,⟨rfl,rfl⟩,trivial⟩):P:=h
theorem eC{P:Prop}(h:P:=by have h':¬(k:Int)<cs.length:=aa;have:k=cs.length:=aa;subst this;rw[apV,mC] at hs;rw[hs];refine dq h' ?_;exact⟨[_,_],rfl,⟨rfl,rfl⟩,⟨rfl,rfl⟩,trivial⟩):P:=h
theorem aq4{P:Prop}(h:P:=by first|decide|(simp only[go_sem,simprocAttr]<;>decide)):P:=h
theorem eA{P:Prop}(h:P:=by refine dp ?_;have:k=la.length:=aa;subst this;rw[apV] at hs2;simp only[th,Int.add_zero] at hs2;exact⟨[_,_],rfl,⟨by rw[hs2],rfl⟩,⟨rfl,rfl⟩,trivial⟩):P:=h
theorem asA{P:Prop}(h:P:=by exact⟨[_,_],rfl,⟨by(try rw[<-o2])<;>rfl,rfl⟩,⟨rfl,rfl⟩,trivial⟩):P:=h
theorem eT{P:Prop}(h:P:=by exact .cr (.lstj (x:=_) ai af af af af af af ae (λi hi=>by rcases anC hi with rfl|rfl<;>(simp only[go_sem,simprocAttr,hk];exact Wv.same rfl))) bb):P:=h
theorem avW{P:Prop}(h:P:=by rw[if_pos i3] at hF;rw[hF,show ul (fN b.1 (inputs+1))=(0,18) from if_pos i3];refine dz ?_;exact⟨[_,_],rfl,⟨rfl,rfl⟩,⟨rfl,rfl⟩,trivial⟩):P:=h
theorem asx{P:Prop}(h:P:=by exact⟨[_,_,_],rfl,⟨rfl,rfl⟩,⟨rfl,rfl⟩,⟨rfl,rfl⟩,trivial⟩):P:=h
theorem aq1{P:Prop}(h:P:=by rw[if_neg (by simpa using hM)];exact bL _):P:=h
theorem ar7{P:Prop}(h:P:=by exact .cv (.ownb (ty:=140) (z:=0) ah (λi j hi _=>u.cell_ok i j hi) ae)):P:=h
theorem as7{P:Prop}(h:P:=by exact⟨Wv.f rfl rfl (λi v v' h1 h2=>by cases h1) (λi v v' h1 h2=>by rcases i with _|_|i<;>cases h1<;>cases h2<;>exact Wv.p rfl),trivial⟩):P:=h
theorem avR{P:Prop}(h:P:=by obtain⟨c1,c3⟩:=kx k1 hA hWx;have c2:=o6 k1 hSx;rw[k1] at hs;exact .inl ⟨k2,bL _,hq,lM q y r',kN hgr,apj (kM q y r') hsz,hs,c1.wf,c2⟩):P:=h
theorem arD{P:Prop}(h:P:=by intro b hb;have hb':=of_decide_eq_true hb;obtain rfl:b=0:=aa;exact⟨0,rfl,rfl,.inl rfl⟩):P:=h
theorem arB{P:Prop}(h:P:=by exact .cons .lq (.cons (.lst ae (by simp[AV.nm])) (.cons .lq .nil))):P:=h
theorem arV{P:Prop}(h:P:=by rw[hd ab hal,Below.heap_setCell _ _ _ _ (show ab≠(⟨eb,0,none⟩:Addr).block from hne)];simp only[World.setCell,apN,if_true,ha];rfl):P:=h
theorem eB{P:Prop}(h:P:=by refine .cr (.rows (x:=_) aj af af af ?_ (bL _) ag (λi j _ hj=>fI i j hj) (λi j _ _=>rfl)) .nil;simp only[go_sem,simprocAttr,ape,bL]):P:=h
theorem avT{P:Prop}(h:P:=by refine a8 h ?_;exact fP [] (fargs:=[.b false,aq 0,aq 18]) (ja.same rfl) (jK 0 18) ⟨(0,18),by unfold mI;rw[ha];exact if_neg h,rfl⟩):P:=h
theorem aqv{P:Prop}(h:P:=by obtain⟨cs1,g2,g3,_⟩:=h.blk b y c' o' hy hs;have hlt:c'<w.heap.size:=(apo.1 g3).1;exact⟨aa,Below.heap_alloc _ _ _ hlt⟩):P:=h
theorem aqR{P:Prop}(h:P:=by rename_i l hl;exact⟨l,hl,q⟩):P:=h
theorem eX{P:Prop}(h:P:=by exact .cv (.ownb (ty:=127) (z:=0) ai (λi j _ _=>gL _ i j) ae)):P:=h
theorem arl{P:Prop}(h:P:=by simp only[List.length_cons,List.length_nil];omega):P:=h
theorem eN{P:Prop}(h:P:=by refine dC (aU h0 (aU hz (aU @gp (aU w1 hc)))) ?_;exact eY (by rw[show fN a n=281474976710657 from if_pos ⟨h0,hc⟩]) rfl):P:=h
theorem arA{P:Prop}(h:P:=by exact λr x hx=>by cases hx):P:=h
theorem ar1{P:Prop}(h:P:=by exact .cons (.row ag (λi j _ _=>rfl)) (.cons (.row ag (λi j _ _=>rfl)) .nil)):P:=h
theorem dQ{P:Prop}(h:P:=by rw[if_neg e] at hq;obtain⟨e1,h1,h2⟩:=h.dom q y hq;obtain⟨e',a1,a2,_⟩:=kJ hm h1;exact⟨e',a1,by rw[a2,h2]⟩):P:=h
theorem arM{P:Prop}(h:P:=by simp only[go_sem,simprocAttr]<;>decide):P:=h
theorem aro{P:Prop}(h:P:=by refine .cr (.rows (x:=_) aj af af af ag ag ag (λi j h=>by simp[Fo.len] at h) (λi j h=>by simp[Fo.len] at h)) bb):P:=h
theorem eL{P:Prop}(h:P:=by simp only[g8,go_sem,simprocAttr]):P:=h
theorem arq{P:Prop}(h:P:=by exact .cons (.row ag (λi j _ _=>rfl)) (.cons .lq .nil)):P:=h
theorem dL{P:Prop}(h:P:=by rename_i hv;cases hr;have h1:=gb hx hE hv;generalize hu:a.eval x=u at h1;cases h1;exact fin _ _ _ hu rfl rfl):P:=h
theorem aqY{P:Prop}(h:P:=by rw[p4];show σ'.fz c=σ.fz c;rw[hfz c (by have:=hH.hB;omega),q4.eq c hc]):P:=h
theorem asf{P:Prop}(h:P:=by rename_i h;obtain⟨⟨h1,h2,h3⟩,h4,h5,h6⟩:=h;refine⟨?_,?_,?_⟩<;>(dsimp only;repeat' split)<;>omega):P:=h
theorem dY{P:Prop}(h:P:=by exact λb hb=>by simp[fV] at hb;simp;omega):P:=h
theorem dZ{P:Prop}(h:P:=by exact λb hb=>by simp[j9] at hb;simp;omega):P:=h
theorem eV{P:Prop}(h:P:=by exact .cr (.put (q:=k) ai ae rfl hkn rfl ag aa (put _ _ gk) (λi j _ _=>by split<;>exact oy _ _ _)) .nil):P:=h
theorem ark{P:Prop}(h:P:=by rw[if_neg (by simpa using hM),(AB.app_rest _ _ _).2.2.2.2];exact bL _):P:=h
theorem ar6{P:Prop}(h:P:=by exact Wv.same rfl):P:=h
theorem avS{P:Prop}(h:P:=by obtain⟨c1,c2,c3⟩:=pY hA hgN k1 hWx hSx;rw[k1] at hs;exact .inl ⟨k2,hqe,aa,r',hgr,aa,hs,c1,c2⟩):P:=h
theorem aqE{P:Prop}(h:P:=by rw[if_neg e] at hq;obtain⟨e0,h1,h2⟩:=h.dom q y hq;exact⟨e0,List.mem_append_left _ h1,h2⟩):P:=h
theorem ar5{P:Prop}(h:P:=by simp only[Fo.size];omega):P:=h
theorem dT{P:Prop}(h:P:=by obtain rfl:=ht rfl;refine dp ?_;exact⟨[_],rfl,.o0 rfl .nil⟩):P:=h
theorem aqZ{P:Prop}(h:P:=by simp[Tr.set_nil,Tr.set_node,k0,k1,Tr.set_set f]):P:=h
theorem ata{P:Prop}(h:P:=by rw[h] at h';cases h';exact⟨[_,_,_],rfl,⟨rfl,rfl⟩,⟨rfl,rfl⟩,⟨rfl,rfl⟩,trivial⟩):P:=h
theorem asd{P:Prop}(h:P:=by simp only[go_sem,simprocAttr,hl1,apu];exact hg):P:=h
theorem asX{P:Prop}(h:P:=by exact .cv (.os (x:=_) ae ai aa (λi j hi=>absurd hi (apg _)) (λi j hi=>absurd hi (apg _)))):P:=h
theorem aqx{P:Prop}(h:P:=by rw[Sg.ext_ne _ _ e,h.new b hb] at hs;cases hs):P:=h
theorem aqy{P:Prop}(h:P:=by rename_i hu;cases h;rw[Sem.run_bind,run_underlying hu w];rfl):P:=h
theorem arN{P:Prop}(h:P:=by exact⟨Wv.p rfl,Wv.n rfl,Wv.p rfl,trivial⟩):P:=h
theorem aqI{P:Prop}(h:P:=by have h1:=hE.get t _ q3;generalize a.tmps.getD t undef=y at h1;cases h1;exact⟨_,_,rfl⟩):P:=h
theorem dX{P:Prop}(h:P:=by refine dp ?_;have:k=cs.length:=aa;subst this;rw[apV,ij] at hs;exact eY (by rw[hE,hs]) rfl):P:=h
theorem aqw{P:Prop}(h:P:=by subst e;rw[Sg.ext_self] at hs;cases hs;omega):P:=h
theorem aqA{P:Prop}(h:P:=by exact fin ad m c _ _ _ e1 e2 e3 hev rfl rfl):P:=h
theorem arj{P:Prop}(h:P:=by have:=apD esz (aqc h);rw[apM] at this;omega):P:=h
theorem eI{P:Prop}(h:P:=by refine dw (aU h1 (aU h2 (aU h3 (aU h4 h5)))) ?_;exact eY (by simp[h1,h2,h3,h4,h5]) rfl):P:=h
theorem arx{P:Prop}(h:P:=by rw[if_pos e];rw[e,hg] at hu;cases hu;exact .os0 (σ:=σ.extNil H.next) (Or.inl rfl) _):P:=h
theorem asK{P:Prop}(h:P:=by exact⟨Wv.p rfl,Wv.n rfl,.cv (.bs2 (x:=_) ae ai af ah ah ah ah ah ah),trivial⟩):P:=h
theorem aqJ{P:Prop}(h:P:=by exact hn _ _ _ _ hq (.u _) k1 k2):P:=h
theorem dS{P:Prop}(h:P:=by unfold fD;rw[hwant,if_neg ae];exact next):P:=h
theorem arQ{P:Prop}(h:P:=by exact⟨_,rfl⟩):P:=h
theorem avL{P:Prop}(h:P:=by cases h;exact gx (by unfold fA;constructor<;>dsimp only<;>split<;>omega) qU.nn):P:=h
theorem asr{P:Prop}(h:P:=by exact .cr .ls (.cr .ls (.cr .ls .nil))):P:=h
theorem eH{P:Prop}(h:P:=by refine dw (aU h1 (aU h2 (aU h3 h4))) ?_;exact eY (by simp[h1,h2,h3,h4]) rfl):P:=h
theorem eO{P:Prop}(h:P:=by have h':¬(k:Int)<s:=aa;obtain rfl:k=s:=aa;refine dq h' ?_;exact eY rfl rfl):P:=h
theorem asz{P:Prop}(h:P:=by exact⟨[_,_],rfl,⟨by(try rw[<-o1])<;>rfl,rfl⟩,⟨rfl,rfl⟩,trivial⟩):P:=h
theorem aq2{P:Prop}(h:P:=by simp only[go_sem,simprocAttr]<;>omega):P:=h
theorem asm{P:Prop}(h:P:=by obtain⟨_,_,hc⟩:=apc.1 hc;cases hc):P:=h
theorem aqQ{P:Prop}(h:P:=by exact i1 i _ v' (apk hlt) hv' (k1 i _ (apk hlt))):P:=h
theorem aqS{P:Prop}(h:P:=by exact⟨cs,t,fr,e1,e2⟩):P:=h
theorem eE{P:Prop}(h:P:=by have:=m2.nn;have:=n2.nn;unfold fA;dsimp only;constructor<;>split<;>omega):P:=h
theorem asu{P:Prop}(h:P:=by exact .cr .ls (.cr .ls (.cr .ls (.cr .ls .nil)))):P:=h
theorem eM{P:Prop}(h:P:=by subst e;refine dq (aU hN1 (aU hl z0)) ?_;rw[hA];exact jx rfl rfl rfl rfl):P:=h
theorem as4{P:Prop}(h:P:=by exact⟨Wv.p rfl,Wv.n rfl,Wv.n rfl,Wv.n rfl,Wv.n rfl,Wv.n rfl,trivial⟩):P:=h
theorem dP{P:Prop}(h:P:=by subst e;obtain⟨e',a1,a2,_⟩:=kJ hm he0;exact⟨e',a1,by rw[a2,hk]⟩):P:=h
theorem aqM{P:Prop}(h:P:=by obtain⟨ap,hap,rfl⟩:=apc.1 hc;exact fin ap (by rw[ho];exact hap) rfl):P:=h
theorem arU{P:Prop}(h:P:=by have hkn':¬(k:Int)<n:=aa;obtain rfl:k=n:=aa;refine a8 hkn' ?_;exact hQ):P:=h
theorem asL{P:Prop}(h:P:=by exact⟨Wv.p rfl,Wv.n rfl,Wv.n rfl,Wv.n (by rw[hh]),Wv.n rfl,trivial⟩):P:=h
theorem arn{P:Prop}(h:P:=by exact⟨h0,h1,h2,⟨m,g1,g2,aa,g4,g5'⟩,h4.bump hl h27 h29 h28 h31⟩):P:=h
theorem aqo{P:Prop}(h:P:=by rw[if_pos k0];subst k0;simp only[Tr.get_node,Tr.get_nil];split<;>simp):P:=h
theorem dM{P:Prop}(h:P:=by exact uF (neg:=false) ho rfl h1 h2 hs ae hE hr):P:=h
theorem eD{P:Prop}(h:P:=by unfold jT;refine⟨?_,?_,?_⟩<;>dsimp only<;>(repeat' split)<;>omega):P:=h
theorem eP{P:Prop}(h:P:=by exact .cv (.ownb ai (λi j _ _=>kH tl i j) ae)):P:=h
theorem arW{P:Prop}(h:P:=by rw[hd eb hel];simp only[World.setCell,apN,if_true,if_neg hne,he];rfl):P:=h
theorem asR{P:Prop}(h:P:=by rw[hacc,List.take_add_one,apk hkn,List.foldl_append,apd,apk hkn];rfl):P:=h
theorem dN{P:Prop}(h:P:=by exact uF (neg:=true) ho rfl h1 h2 hs ae hE hr):P:=h
theorem aqL{P:Prop}(h:P:=by exact hn _ _ _ _ hr (.n .i64 _) h (Fr.refl h)):P:=h
theorem aqp{P:Prop}(h:P:=by subst hji;exact hy.wpOp hi trivial ⟨λ_=> .inl ⟨hpu,rfl⟩,H⟩):P:=h
theorem arb{P:Prop}(h:P:=by rw[q4] at hs;obtain⟨b0,h1,h2⟩:=bM.1 hs;exact .inl ⟨b0,o,h2⟩):P:=h
theorem asi{P:Prop}(h:P:=by exact absurd h28 q0):P:=h
theorem arc{P:Prop}(h:P:=by rw[s1 b hb] at hs;exact hn b o hs):P:=h
theorem arS{P:Prop}(h:P:=by simp only[go_sem,simprocAttr,ape,List.length_cons,List.length_nil]):P:=h
theorem aqX{P:Prop}(h:P:=by have:=p8 b c o hb hs;omega):P:=h
theorem dV{P:Prop}(h:P:=by refine dq (aU h4 h5) ?_;exact eY (by simp[zM,h1,h2,h3,h4,h5]) rfl):P:=h
theorem asE{P:Prop}(h:P:=by exact⟨v,e',H',σ',r0,r1,r2,r3,r4.sub (λb hb=>by rw[hb];rfl)⟩):P:=h
theorem ar0{P:Prop}(h:P:=by exact .cons (.row ag (λi j _ _=>rfl)) .nil):P:=h
theorem eG{P:Prop}(h:P:=by refine dw (aU h1 (aU h2 h3)) ?_;exact eY (by simp[h1,h2,h3]) rfl):P:=h
theorem aqs{P:Prop}(h:P:=by rw[if_pos e,if_pos hlive] at hy;cases hy;exact .inl ⟨e,rfl⟩):P:=h
theorem aqK{P:Prop}(h:P:=by exact hn _ _ _ _ (hr w.heap.size h.ob.o.free) (.cv _ rfl) k1 k2):P:=h
theorem aqP{P:Prop}(h:P:=by obtain⟨y0,e1,e2,_⟩:=hat b' y hy;rw[e2];exact h.szs b' y0 e1):P:=h
theorem dW{P:Prop}(h:P:=by rw[if_neg hi] at hs;refine dx hi ?_;exact eY (by rw[hE,hs]) rfl):P:=h
theorem arm{P:Prop}(h:P:=by exact .inr ⟨q0,q1,q2⟩):P:=h
theorem arZ{P:Prop}(h:P:=by exact λb hb=>by cases hb):P:=h
theorem ari{P:Prop}(h:P:=by have:=apl h;subst this;exact λo p1 pt1 lv1 he=>(by cases he)):P:=h
theorem arr{P:Prop}(h:P:=by exact .cons (.row ag (λi j hi _=>out.cell_nm _ i j hi)) .nil):P:=h
theorem asU{P:Prop}(h:P:=by rintro c H' ⟨e,he,rfl⟩;refine⟨e,?_,rfl⟩;rw[hs,he];rfl):P:=h
theorem aqt{P:Prop}(h:P:=by rw[if_neg e] at hy;exact .inr ⟨e,hy⟩):P:=h
theorem aqu{P:Prop}(h:P:=by rw[Sg.ext_ne _ _ e'] at hs;exact g3 b y o1 (hat b y h1).1 hs):P:=h
theorem aqD{P:Prop}(h:P:=by subst e;exact⟨_,List.mem_append_right _ (apy.2 rfl),rfl⟩):P:=h
theorem aqV{P:Prop}(h:P:=by rw[p5 b hb];show σ2.nm b=σ.nm b;rw[q2]):P:=h
theorem ara{P:Prop}(h:P:=by exact(nap _ hc).elim):P:=h
theorem eF{P:Prop}(h:P:=by have:=m2.nn;unfold fA;dsimp only;constructor<;>split<;>omega):P:=h
theorem asn{P:Prop}(h:P:=by simp only[go_sem,simprocAttr];exact hMap):P:=h
theorem ard{P:Prop}(h:P:=by rw[if_pos e] at h;cases h;exact hL.1.2):P:=h
theorem aq0{P:Prop}(h:P:=by show σ3 _=_;rw[e1];exact hh):P:=h
theorem ar2{P:Prop}(h:P:=by exact λc H' h=>h.elim):P:=h
theorem asV{P:Prop}(h:P:=by cases h1;cases h2;exact Wv.same rfl):P:=h
theorem arh{P:Prop}(h:P:=by split<;>(try simp)<;>omega):P:=h
theorem eJ{P:Prop}(h:P:=by exact eY (by simp[gg]) rfl):P:=h
theorem bb{P:Prop}(h:P:=by repeat' first|exact ig.nil|refine ig.cr ?_ ?_|exact .k2 (λ_ _ _ _=>rfl)|exact .k1|exact .k2 (λi j _ _=>fo _ i j)|exact .k2 (λi j _ _=>fk _ i j)|exact .k2 (λi j _ _=>oy _ i j)|exact .j1|exact .j2|exact .j3|exact .j4|exact .j5|exact .j6|exact .rz|exact .ak|exact .wk):P:=h
end Go.Proofs.YtdpkgnmmikebdaaGreat
