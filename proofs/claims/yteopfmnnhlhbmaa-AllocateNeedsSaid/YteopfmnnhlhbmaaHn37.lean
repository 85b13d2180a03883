/- A part of the proof of AllocateNeeds: FoM FrB FrC PrB PrC OpA OpB PsR. No condition. -/
import Derived.Test.YteopfmnnhlhbmaaHn36
import Derived.Test.YteopfmnnhlhbmaaHn14
import Derived.Test.YteopfmnnhlhbmaaHn16
import Derived.Test.YteopfmnnhlhbmaaHn13
set_option linter.unusedSimpArgs false
set_option linter.unusedVariables false
set_option linter.constructorNameAsVariable false
set_option maxRecDepth 100000
set_option maxHeartbeats 4000000
namespace Go.Proofs.Yteopfmnnhlhbmaa
open Go.RowKit
def F5(op:Int):Bool:=(cn op.toNat).getD 2 false
def F4(op:Int):Bool:=(cn op.toNat).getD 3 false
def upd{α:Type}(f:Nat->α)(r:Nat)(x:α):Nat->α:=λi=>if i=r then x else f i
structure RZ(regs:Nat)(x:In):Prop where
 op:0<=x.1/\x.1<39
 a:F5 x.1=true->0<=x.2.2.1/\x.2.2.1<regs
 b:F4 x.1=true->0<=x.2.2.2.1/\x.2.2.2.1<regs
 to:a8 x.1 x.2.1<regs
 arg:0<=x.2.2.2.2/\x.2.2.2.2<4294967296
abbrev Lv:=Nat->Nat->Bool
def RE(L:Lv)(to:Int)(base:Nat->Bool)(l:List Int)(r:Nat):Bool:=base r||l.any λnx=>L nx.toNat r&& !decide ((r:Int)=to)
def RD(base:Nat->Bool)(l:List Int)(r:Nat):Bool:=base r||l.any λq=>decide (q=(r:Int))
def OU(cs:List In)(pt:List Int)(L:Lv)(i:Nat):Nat->Bool:=
 RD (RE L (a8 (cs.getD i (0,0,0,0,0)).1 (cs.getD i (0,0,0,0,0)).2.1) (L i) (O7 cs pt i)) (aA (cs.getD i (0,0,0,0,0)).1 (cs.getD i (0,0,0,0,0)).2.2.1 (cs.getD i (0,0,0,0,0)).2.2.2.1)
def Ad(cs:List In)(pt:List Int)(regs i:Nat)(s:Lv×Bool):Lv×Bool:=
 if eqB regs (OU cs pt s.1 i) (s.1 i)=true then s else(upd s.1 i (OU cs pt s.1 i),true)
def tq(cs:List In)(pt:List Int)(regs:Nat):Nat->Lv×Bool->Lv×Bool
 |0,s=>s
 |i+1,s=>tq cs pt regs i (Ad cs pt regs i s)
def rounds(cs:List In)(pt:List Int)(regs:Nat):Nat->Lv->Option Lv
 |0,_=>none
 |f+1,L=>if(tq cs pt regs cs.length (L,false)).2=true then rounds cs pt regs f (tq cs pt regs cs.length (L,false)).1 else some (tq cs pt regs cs.length (L,false)).1
end Go.Proofs.Yteopfmnnhlhbmaa