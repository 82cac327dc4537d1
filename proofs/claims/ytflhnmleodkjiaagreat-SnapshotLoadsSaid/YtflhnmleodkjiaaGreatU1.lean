/- Joined. -/
import Derived.Test.YtflhnmleodkjiaaGreatV9
import Derived.Test.YtflhnmleodkjiaaGreatV7
set_option linter.unusedVariables false
set_option linter.unusedSimpArgs false
set_option maxRecDepth 8000
set_option maxHeartbeats 4000000
namespace Go.Proofs.YtflhnmleodkjiaaGreat
open Go Go.FH Go.RowKit
theorem ada{a b:AV}{c d:AV}(n:Int)(h1:Wk a b)(h2:Wk c d):Wk (.tup [a,c,.int .i64 n]) (.tup [b,d,.int .i64 n]):=Wk.tup ⟨h1,h2,Wk.refl _,trivial⟩
theorem GZ(c:cU)(hb:c.bals.length<=2097152)(hs:ib c=0->StR (kO c)):PC Tryz.prog 28 [.agg (bW c.a)] (.tup [.agg (aV (iW c).1.a),.sl 96 false (rows AZ (iW c).2.1),.int .i64 (iW c).2.2]):=by
 refine PC.fact 9 Kz (by simp) puA ⟨aI.pul _,fm _,trivial,trivial⟩ ?_;unfold yW;refine bd ?_;have c1:=RL c hb;unfold iW;unfold O0 at c1;by_cases q:ib c=0
 ·rw[al7 q]at c1
  simp only[al7 q]at *;have c2:=MB ⟨kO c,[],[],1,false,fS,false,false⟩ (hs q);generalize kO c=S at *;generalize io ⟨S,[],[],1,false,fS,false,false⟩=E at *;obtain⟨E1,E2⟩:=E;dsimp only at c2 ⊢
  have hw:Wk (.agg (aV ⟨S.a,.sl 0 true [],.sl 0 true [],1,false,fS,false,false⟩)) (.agg (aV (aI.a ⟨S,[],[],1,false,fS,false,false⟩))):=by
   refine Wk.agg ?_;unfold aI.a aV;dsimp only;exact(WkC.refl _).app (.cons (Wk.empty _ _ _) (fun h=>h) (.cons (Wk.empty _ _ _) (fun h=>h) (WkC.refl _)))
  have hp:PuL (aV ⟨S.a,.sl 0 true [],.sl 0 true [],1,false,fS,false,false⟩):=by
   refine(Qv _).2 ?_;have:=S.pul;simp[Sta.Pure,Pu,fy,(uH _).1 this]
  refine gon ?_;refine am c1 ?_;refine bk ?_;refine pG c2 ⟨hw,trivial⟩ ⟨hp,trivial⟩ ?_;refine gon ?_;exact ai
 ·rw[al5 q]at c1;simp only[al5 q]at *;have e1:(ib c != 0)=true:=by simp[q]
  refine gon ?_;refine am c1 ?_;refine aM e1 ?_;refine⟨_,(by first|rfl|exact evd),.inr ⟨.tup [.agg (aV rD),.sl 0 true [],.int .i64 (ib c)],?_,⟨uG,trivial,trivial,trivial⟩,ada _ C9 (Wk.empty _ _ _)⟩⟩;exact evd
end Go.Proofs.YtflhnmleodkjiaaGreat
