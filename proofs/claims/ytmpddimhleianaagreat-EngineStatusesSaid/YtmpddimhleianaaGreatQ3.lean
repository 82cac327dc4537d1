/- Joined. -/
import Derived.Test.YtmpddimhleianaaGreatP5
import Derived.Test.YtmpddimhleianaaGreatP4
set_option linter.unusedVariables false
set_option linter.unusedSimpArgs false
namespace Go.Proofs.YtmpddimhleianaaGreat
open Go Go.FH Go.RowKit
def sm(f:Nat->Int):Nat->Int
 |0=>0
 |n+1=>sm f n+f n
theorem Ti{f g:Nat->Int}:∀n,(∀i,i<n->f i<=g i)->sm f n<=sm g n
 |0,_=>amr _
 | n + 1, h => by
   have:=Ti (f:=f) (g:=g) n (fun i hi=>h i WL);have:=h n WL;show sm f n+f n<=sm g n+g n
   omega
theorem Th{f:Nat->Int}:∀n,(∀i,i<n->f i=0)->sm f n=0
 |0,_=>rfl
 |n+1,h=>by show sm f n+f n=0;rw[Th n fun i hi=>h i WL,h n WL];rfl
theorem gU(p:Nat->Bool)(q:Bool){b:Int}(hb:0<=b):∀m,(∀k,k<m->p k=true->q=true)->(∀i k,i<k->k<m->p k=true->p i=false)->sm (fun k=>if p k=true then b else 0) m<=if q=true then b else 0
 |0,_,_=>by show (0:Int)<=_;split<;>omega
 | m + 1, h1, h2 => by
   show sm _ m+(if p m=true then b else 0)<=_
   by_cases hp:p m=true
   ·rw[Th m fun i hi=>al5 (by rw[h2 i m hi WL hp];decide),al7 hp,al7 (h1 m WL hp)];omega
   ·rw[al5 hp];have:=gU p q hb m (fun k hk=>h1 k WL) (fun i k hi hk=>h2 i k hi WL);omega
def SW(eqv bals:List Int):Int:=bg (fun i n=>if (i:Int)∉eqv then IntKind.u64.wrap (n+bals.getD i 0)else n) 0 bals.length
end Go.Proofs.YtmpddimhleianaaGreat
