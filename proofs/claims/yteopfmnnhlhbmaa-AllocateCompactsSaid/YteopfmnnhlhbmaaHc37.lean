/- A part of the proof of AllocateCompacts: FoM FrB FrC PrB PrC OpA OpB PsR. No condition. -/
import Derived.Test.YteopfmnnhlhbmaaHc36
import Derived.Test.YteopfmnnhlhbmaaHc14
import Derived.Test.YteopfmnnhlhbmaaHc16
import Derived.Test.YteopfmnnhlhbmaaHc13
set_option linter.unusedSimpArgs false
set_option linter.unusedVariables false
set_option linter.constructorNameAsVariable false
set_option maxRecDepth 100000
set_option maxHeartbeats 4000000
namespace Go.Proofs.Yteopfmnnhlhbmaa
open Go.RowKit
def GK(op:Int):Bool:=(cj op.toNat).getD 2 false
def GJ(op:Int):Bool:=(cj op.toNat).getD 3 false
def upd{α:Type}(f:Nat->α)(r:Nat)(x:α):Nat->α:=λi=>if i=r then x else f i
structure Su(regs:Nat)(x:In):Prop where
 op:0<=x.1/\x.1<39
 a:GK x.1=true->0<=x.2.2.1/\x.2.2.1<regs
 b:GJ x.1=true->0<=x.2.2.2.1/\x.2.2.2.1<regs
 to:aW x.1 x.2.1<regs
 arg:0<=x.2.2.2.2/\x.2.2.2.2<4294967296
abbrev Lv:=Nat->Nat->Bool
def Se(L:Lv)(to:Int)(base:Nat->Bool)(l:List Int)(r:Nat):Bool:=base r||l.any λnx=>L nx.toNat r&& !decide ((r:Int)=to)
def Sd(base:Nat->Bool)(l:List Int)(r:Nat):Bool:=base r||l.any λq=>decide (q=(r:Int))
def Px(cs:List In)(pt:List Int)(L:Lv)(i:Nat):Nat->Bool:=
 Sd (Se L (aW (cs.getD i (0,0,0,0,0)).1 (cs.getD i (0,0,0,0,0)).2.1) (L i) (PO cs pt i)) (aB (cs.getD i (0,0,0,0,0)).1 (cs.getD i (0,0,0,0,0)).2.2.1 (cs.getD i (0,0,0,0,0)).2.2.2.1)
def zZ(cs:List In)(pt:List Int)(regs i:Nat)(s:Lv×Bool):Lv×Bool:=
 if eqB regs (Px cs pt s.1 i) (s.1 i)=true then s else(upd s.1 i (Px cs pt s.1 i),true)
def th(cs:List In)(pt:List Int)(regs:Nat):Nat->Lv×Bool->Lv×Bool
 |0,s=>s
 |i+1,s=>th cs pt regs i (zZ cs pt regs i s)
def rounds(cs:List In)(pt:List Int)(regs:Nat):Nat->Lv->Option Lv
 |0,_=>none
 |f+1,L=>if(th cs pt regs cs.length (L,false)).2=true then rounds cs pt regs f (th cs pt regs cs.length (L,false)).1 else some (th cs pt regs cs.length (L,false)).1
end Go.Proofs.Yteopfmnnhlhbmaa