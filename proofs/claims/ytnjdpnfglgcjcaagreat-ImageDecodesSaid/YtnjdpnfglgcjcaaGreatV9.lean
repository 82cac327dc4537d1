/-
 My texts Nd, Ne, joined.
-/
import Derived.Test.YtnjdpnfglgcjcaaGreatV7
import Derived.Test.YtnjdpnfglgcjcaaGreatW6
set_option linter.unusedVariables false
set_option linter.unusedSimpArgs false
set_option maxRecDepth 8000
set_option maxHeartbeats 4000000
namespace Go.Proofs.YtnjdpnfglgcjcaaGreat
open Go Go.FH Go.RowKit
theorem CX(x:Sta)(v:AV):(aV x).set 151 v=aV { x with rets:=v }:=by
 simp only[aV,akf,cx,acv,Nat.reduceSub,Nat.reduceLT,aiG,aiR,aiQ]
theorem CW(x:Sta):(aV x).getD 151 .dead=x.rets:=by
 simp only[aV,E3,aj2,cx,acv,Nat.reduceSub,Nat.reduceLT,aiG,ajB,ajj,ajg]
theorem adc:WkC (aE kU) (aE jX.a):=by
 unfold kU jX ap.a aE;dsimp only;refine WkC.app ?_ ?_
 ·unfold ui cU.a bW;dsimp only;exact(WkC.refl _).app (.same _ (.same _ ((WkC.refl _).app ((WkC.refl _).app (.one (Wk.empty _ _ _) fun h=>h)))))
 ·exact .cons (Wk.empty _ _ _) (fun h=>h) (.cons (Wk.empty _ _ _) (fun h=>h) ((WkC.refl _).app ((WkC.refl _).app (.cons (Wk.empty _ _ _) (fun h=>h) (.cons (Wk.empty _ _ _) (fun h=>h) (.cons (Wk.empty _ _ _) (fun h=>h) (.same _ ((WkC.refl _).app (.one (Wk.empty _ _ _) fun h=>h)))))))))
theorem C9:Wk (.agg (aV rD)) (.agg (aV Fx.a)):=by
 refine Wk.agg ?_;unfold rD Fx aI.a aV;dsimp only;exact adc.app (.cons (Wk.empty _ _ _) (fun h=>h) (.cons (Wk.empty _ _ _) (fun h=>h) (WkC.refl _)))
theorem uG:PuL (aV rD):=by simp[rD,aV,eJ,PuL,Pu,fy,kU,aE,mg,dI,ju,gV,ui,bW,cp0,rf]
theorem ZF(s:ap)(h:StR s):PC Tryz.prog 311 [.agg (aE s.a)] (.agg (rtc (WX s))):=by
 refine PC.fact 4 OQ (by simp) puA puA ?_;unfold AX;refine bd ?_;have c1:=cC s.nodes s.j.rt h.bn;have b1:=fM s.nodes s.j.rt;unfold WX;generalize aj s.nodes s.j.rt=I at *;refine gon ?_;refine am c1 ?_;by_cases q:0<=I
 ·have e1:=au q
  have hg:=dy (t:=s.nodes) (i:=I.toNat) (by omega);by_cases q2:(nod s.nodes I.toNat).status=1
  ·have e2:((nod s.nodes I.toNat).status==1)=true:=by simp[q2]
   rw[Fy ⟨q,q2⟩];refine fI e1 hg e2 ?_;exact ai
  ·have e2:((nod s.nodes I.toNat).status==1)=false:=by simp[q2]
   rw[Fw (fun h=>q2 h.2)];refine wg e1 hg e2 ?_;exact ai
 ·have e1:=aA q;rw[Fw (fun h=>q h.1)];refine aF e1 ?_;exact ai
theorem abo{s:ap}(h:StR s):0<=HY s/\HY s<s.nodes.length:=by
 have h1:=fM s.nodes s.j.rt;have h2:=Rx h.tree (nk s) (Il s) (s.nodes.length+1) (aj s.nodes s.j.rt) (by omega);have h3:=h.jf;unfold HY;omega
theorem aaM(s:ap)(h:StR s):PC Tryz.prog 210 [.agg (aE s.a)] (.agg (co (X3 s))):=by
 refine PC.fact 3 FW (by simp) puA puA ?_;unfold tM;refine bd ?_;have c1:=Yu s h;have c2:=ZF s h;have hb:=abo h;unfold X3;generalize HY s=I at *;generalize WX s=S at *;have hg:=dy (t:=s.nodes) (i:=I.toNat) (by omega);refine gon ?_;refine aK (c1) ?_;refine ah hg ?_;refine aK (c2) ?_;refine gon ?_;exact ai
theorem MB(s:aI)(h:StR s.sto):PC Tryz.prog 84 [.agg (aV s.a)] (.tup [.agg (aV (io s).1.a),.sl 96 false (rows co (io s).2)]):=by
 refine PC.fact 5 OO (by simp) puA ⟨aI.pul _,fm _,trivial⟩ ?_;have c1:=aaM s.sto h;unfold io;generalize X3 s.sto=C at *;by_cases q:s.sent=true/\s.last=C
 ·rw[Fy q];obtain⟨q1,q2⟩:=q;have e2:decide (s.last=C)=true:=au q2;unfold kz;refine bd ?_;refine gon ?_;refine am c1 ?_;refine cH q1 e2 ?_;refine⟨_,(by first|rfl|exact evd),.inr ⟨.tup [.agg (aV s.a),.sl 0 true []],?_,⟨aI.pul _,trivial,trivial⟩,Wk.tup ⟨Wk.refl _,Wk.empty _ _ _,trivial⟩⟩⟩;exact evd
 ·rw [Fw q]
  have key:∀b:Bool,s.sent=b->(b=true->decide (s.last=C)=false)->Tri Tryz.prog 23 0 kz (PQ [.cell 2 true 252,.tmp 3] (.tup [.agg (aV (aI.a ⟨s.sto,s.reqs,s.rets,s.tag,true,C,s.over,s.halt⟩)),.sl 96 false (rows co [C])])) ⟨5,[.agg (aV s.a),.dead,.dead,.dead,.dead],[]⟩ []:=by
   intro b h1 h2;cases b with
   | false =>
     unfold kz;dsimp only[nfO,Int.reduceOfNat,Int.reduceNegSucc,wA,wB,wC,wD,wE,wF,wG,wH,wI,wJ,wK,wL,wM,wN,wO,wP,wQ,wR,wS,wT,wU,wV,wW,wX,wY,wZ,om,oo,on,omg,og,ong,ci,cu,cb,cf,fA,lA,lF,bI,bC,sO,eX,lN,iX,kA,kB,kC,sR,cN];refine gon ?_;refine am c1 ?_;refine aF h1 ?_;refine⟨_,(by first|rfl|exact evd),.inr ⟨.tup [.agg (aV (aI.a ⟨s.sto,s.reqs,s.rets,s.tag,true,C,s.over,s.halt⟩)),.sl 96 true (rows co [C])],?_,⟨aI.pul _,fm _,trivial⟩,Wk.tup ⟨Wk.refl _,Wk.open_ _ _ _,trivial⟩⟩⟩;exact evd
   | true =>
     have e2:=h2 rfl;unfold kz;dsimp only[nfO,Int.reduceOfNat,Int.reduceNegSucc,wA,wB,wC,wD,wE,wF,wG,wH,wI,wJ,wK,wL,wM,wN,wO,wP,wQ,wR,wS,wT,wU,wV,wW,wX,wY,wZ,om,oo,on,omg,og,ong,ci,cu,cb,cf,fA,lA,lF,bI,bC,sO,eX,lN,iX,kA,kB,kC,sR,cN];refine gon ?_;refine am c1 ?_;refine fU h1 e2 ?_;refine⟨_,(by first|rfl|exact evd),.inr ⟨.tup [.agg (aV (aI.a ⟨s.sto,s.reqs,s.rets,s.tag,true,C,s.over,s.halt⟩)),.sl 96 true (rows co [C])],?_,⟨aI.pul _,fm _,trivial⟩,Wk.tup ⟨Wk.refl _,Wk.open_ _ _ _,trivial⟩⟩⟩;exact evd
  exact key s.sent rfl fun hb=>aA fun hl=>q ⟨hb,hl⟩
end Go.Proofs.YtnjdpnfglgcjcaaGreat
