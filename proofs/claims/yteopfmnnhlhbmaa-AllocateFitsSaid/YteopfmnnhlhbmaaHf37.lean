/- A part of the proof of AllocateFits: FoM FrB FrC PrB PrC OpA OpB PsR. No condition. -/
import Derived.Test.YteopfmnnhlhbmaaHf36
import Derived.Test.YteopfmnnhlhbmaaHf14
import Derived.Test.YteopfmnnhlhbmaaHf16
import Derived.Test.YteopfmnnhlhbmaaHf13
set_option linter.unusedSimpArgs false
set_option linter.unusedVariables false
set_option linter.constructorNameAsVariable false
set_option maxRecDepth 100000
set_option maxHeartbeats 4000000
namespace Go.Proofs.Yteopfmnnhlhbmaa
open Go.RowKit
def xe(op:Int):Bool:=(b8 op.toNat).getD 2 false
def xd(op:Int):Bool:=(b8 op.toNat).getD 3 false
def upd{α:Type}(f:Nat->α)(r:Nat)(x:α):Nat->α:=λi=>if i=r then x else f i
structure Su(regs:Nat)(x:In):Prop where
 op:0<=x.1/\x.1<39
 a:xe x.1=true->0<=x.2.2.1/\x.2.2.1<regs
 b:xd x.1=true->0<=x.2.2.2.1/\x.2.2.2.1<regs
 to:a8 x.1 x.2.1<regs
 arg:0<=x.2.2.2.2/\x.2.2.2.2<4294967296
abbrev Lv:=Nat->Nat->Bool
def Se(L:Lv)(to:Int)(base:Nat->Bool)(l:List Int)(r:Nat):Bool:=base r||l.any λnx=>L nx.toNat r&& !decide ((r:Int)=to)
def Sd(base:Nat->Bool)(l:List Int)(r:Nat):Bool:=base r||l.any λq=>decide (q=(r:Int))
def Pu(cs:List In)(pt:List Int)(L:Lv)(i:Nat):Nat->Bool:=
 Sd (Se L (a8 (cs.getD i (0,0,0,0,0)).1 (cs.getD i (0,0,0,0,0)).2.1) (L i) (PJ cs pt i)) (aD (cs.getD i (0,0,0,0,0)).1 (cs.getD i (0,0,0,0,0)).2.2.1 (cs.getD i (0,0,0,0,0)).2.2.2.1)
def AY(cs:List In)(pt:List Int)(regs i:Nat)(s:Lv×Bool):Lv×Bool:=
 if eqB regs (Pu cs pt s.1 i) (s.1 i)=true then s else(upd s.1 i (Pu cs pt s.1 i),true)
def tJ(cs:List In)(pt:List Int)(regs:Nat):Nat->Lv×Bool->Lv×Bool
 |0,s=>s
 |i+1,s=>tJ cs pt regs i (AY cs pt regs i s)
def rounds(cs:List In)(pt:List Int)(regs:Nat):Nat->Lv->Option Lv
 |0,_=>none
 |f+1,L=>if(tJ cs pt regs cs.length (L,false)).2=true then rounds cs pt regs f (tJ cs pt regs cs.length (L,false)).1 else some (tJ cs pt regs cs.length (L,false)).1
end Go.Proofs.Yteopfmnnhlhbmaa