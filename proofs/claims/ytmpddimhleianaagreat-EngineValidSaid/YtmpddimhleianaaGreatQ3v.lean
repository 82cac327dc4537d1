/- Joined. -/
import Derived.Test.YtmpddimhleianaaGreatP5v
import Derived.Test.YtmpddimhleianaaGreatP4v
set_option linter.unusedVariables false
set_option linter.unusedSimpArgs false
namespace Go.Proofs.YtmpddimhleianaaGreat
open Go Go.FH Go.RowKit
def sm(f:Nat->Int):Nat->Int
 |0=>0
 |n+1=>sm f n+f n
theorem aa2{f g:Nat->Int}:∀n,(∀i,i<n->f i<=g i)->sm f n<=sm g n
 |0,_=>afT _
 | n + 1, h => by
   have:=aa2 (f:=f) (g:=g) n (fun i hi=>h i af0);have:=h n af0;show sm f n+f n<=sm g n+g n
   omega
theorem aa0{f:Nat->Int}:∀n,(∀i,i<n->f i=0)->sm f n=0
 |0,_=>rfl
 |n+1,h=>by show sm f n+f n=0;rw[aa0 n fun i hi=>h i af0,h n af0];rfl
theorem gR(p:Nat->Bool)(q:Bool){b:Int}(hb:0<=b):∀m,(∀k,k<m->p k=true->q=true)->(∀i k,i<k->k<m->p k=true->p i=false)->sm (fun k=>if p k=true then b else 0) m<=if q=true then b else 0
 |0,_,_=>by show (0:Int)<=_;split<;>omega
 | m + 1, h1, h2 => by
   show sm _ m+(if p m=true then b else 0)<=_
   by_cases hp:p m=true
   ·rw[aa0 m fun i hi=>afx (by rw[h2 i m hi af0 hp];decide),afA hp,afA (h1 m af0 hp)];omega
   ·rw[afx hp];have:=gR p q hb m (fun k hk=>h1 k af0) (fun i k hi hk=>h2 i k hi af0);omega
def aaa(eqv bals:List Int):Int:=aH (fun i n=>if (i:Int)∉eqv then IntKind.u64.wrap (n+bals.getD i 0)else n) 0 bals.length
end Go.Proofs.YtmpddimhleianaaGreat
