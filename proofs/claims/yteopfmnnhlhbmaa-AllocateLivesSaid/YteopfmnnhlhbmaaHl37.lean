/- A part of the proof of AllocateLives: FoM FrB FrC PrB PrC OpA OpB PsR. No condition. -/
import Derived.Test.YteopfmnnhlhbmaaHl36
import Derived.Test.YteopfmnnhlhbmaaHl14
import Derived.Test.YteopfmnnhlhbmaaHl16
import Derived.Test.YteopfmnnhlhbmaaHl13
set_option linter.unusedSimpArgs false
set_option linter.unusedVariables false
set_option linter.constructorNameAsVariable false
set_option maxRecDepth 100000
set_option maxHeartbeats 4000000
namespace Go.Proofs.Yteopfmnnhlhbmaa
open Go.RowKit
def Gy(op:Int):Bool:=(ch op.toNat).getD 2 false
def Gx(op:Int):Bool:=(ch op.toNat).getD 3 false
def upd{α:Type}(f:Nat->α)(r:Nat)(x:α):Nat->α:=λi=>if i=r then x else f i
abbrev Lv:=Nat->Nat->Bool
def PA(L:Lv)(to:Int)(base:Nat->Bool)(l:List Int)(r:Nat):Bool:=base r||l.any λnx=>L nx.toNat r&& !decide ((r:Int)=to)
def Pz(base:Nat->Bool)(l:List Int)(r:Nat):Bool:=base r||l.any λq=>decide (q=(r:Int))
def ML(cs:List In)(pt:List Int)(L:Lv)(i:Nat):Nat->Bool:=
 Pz (PA L (a7 (cs.getD i (0,0,0,0,0)).1 (cs.getD i (0,0,0,0,0)).2.1) (L i) (M0 cs pt i)) (ax (cs.getD i (0,0,0,0,0)).1 (cs.getD i (0,0,0,0,0)).2.2.1 (cs.getD i (0,0,0,0,0)).2.2.2.1)
def yU(cs:List In)(pt:List Int)(regs i:Nat)(s:Lv×Bool):Lv×Bool:=
 if eqB regs (ML cs pt s.1 i) (s.1 i)=true then s else(upd s.1 i (ML cs pt s.1 i),true)
def sf(cs:List In)(pt:List Int)(regs:Nat):Nat->Lv×Bool->Lv×Bool
 |0,s=>s
 |i+1,s=>sf cs pt regs i (yU cs pt regs i s)
def rounds(cs:List In)(pt:List Int)(regs:Nat):Nat->Lv->Option Lv
 |0,_=>none
 |f+1,L=>if(sf cs pt regs cs.length (L,false)).2=true then rounds cs pt regs f (sf cs pt regs cs.length (L,false)).1 else some (sf cs pt regs cs.length (L,false)).1
end Go.Proofs.Yteopfmnnhlhbmaa