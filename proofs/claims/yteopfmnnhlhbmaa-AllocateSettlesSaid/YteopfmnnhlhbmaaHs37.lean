/- A part of the proof of AllocateSettles: FoM FrB FrC PrB PrC OpA OpB PsR. No condition. -/
import Derived.Test.YteopfmnnhlhbmaaHs36
import Derived.Test.YteopfmnnhlhbmaaHs14
import Derived.Test.YteopfmnnhlhbmaaHs16
import Derived.Test.YteopfmnnhlhbmaaHs13
set_option linter.unusedSimpArgs false
set_option linter.unusedVariables false
set_option linter.constructorNameAsVariable false
set_option maxRecDepth 100000
set_option maxHeartbeats 4000000
namespace Go.Proofs.Yteopfmnnhlhbmaa
open Go.RowKit
def wM(op:Int):Bool:=(b7 op.toNat).getD 2 false
def wL(op:Int):Bool:=(b7 op.toNat).getD 3 false
def upd{α:Type}(f:Nat->α)(r:Nat)(x:α):Nat->α:=λi=>if i=r then x else f i
structure Ri(regs:Nat)(x:In):Prop where
 op:0<=x.1/\x.1<39
 a:wM x.1=true->0<=x.2.2.1/\x.2.2.1<regs
 b:wL x.1=true->0<=x.2.2.2.1/\x.2.2.2.1<regs
 to:aW x.1 x.2.1<regs
 arg:0<=x.2.2.2.2/\x.2.2.2.2<4294967296
abbrev Lv:=Nat->Nat->Bool
def Q5(L:Lv)(to:Int)(base:Nat->Bool)(l:List Int)(r:Nat):Bool:=base r||l.any λnx=>L nx.toNat r&& !decide ((r:Int)=to)
def Q4(base:Nat->Bool)(l:List Int)(r:Nat):Bool:=base r||l.any λq=>decide (q=(r:Int))
def Ok(cs:List In)(pt:List Int)(L:Lv)(i:Nat):Nat->Bool:=
 Q4 (Q5 L (aW (cs.getD i (0,0,0,0,0)).1 (cs.getD i (0,0,0,0,0)).2.1) (L i) (OC cs pt i)) (aA (cs.getD i (0,0,0,0,0)).1 (cs.getD i (0,0,0,0,0)).2.2.1 (cs.getD i (0,0,0,0,0)).2.2.2.1)
def Ae(cs:List In)(pt:List Int)(regs i:Nat)(s:Lv×Bool):Lv×Bool:=
 if eqB regs (Ok cs pt s.1 i) (s.1 i)=true then s else(upd s.1 i (Ok cs pt s.1 i),true)
def th(cs:List In)(pt:List Int)(regs:Nat):Nat->Lv×Bool->Lv×Bool
 |0,s=>s
 |i+1,s=>th cs pt regs i (Ae cs pt regs i s)
def rounds(cs:List In)(pt:List Int)(regs:Nat):Nat->Lv->Option Lv
 |0,_=>none
 |f+1,L=>if(th cs pt regs cs.length (L,false)).2=true then rounds cs pt regs f (th cs pt regs cs.length (L,false)).1 else some (th cs pt regs cs.length (L,false)).1
end Go.Proofs.Yteopfmnnhlhbmaa