/-
 My texts Sc, joined.
-/
import Derived.Test.YtnjdpnfglgcjcaaGreatP1
set_option linter.unusedVariables false
set_option linter.unusedSimpArgs false
set_option maxRecDepth 8000
set_option maxHeartbeats 4000000
namespace Go.Proofs.YtnjdpnfglgcjcaaGreat
open Go Go.FH Go.RowKit
theorem abM{s:am}{i:Nat}(h:(cF s.orph i).root=rt0\/0<=aj s.nodes (cF s.orph i).root\/0<=aj s.nodes (cF s.orph i).parent\/(cF s.orph i).timely=true\/s.now<(cF s.orph i).slot\/(cF s.orph i).slot<=(bD s.f.ep s.cfg.spe).1\/(cF s.orph i).root∈(s.orph.take i).map (·.root)):tI s i≠0:=by
 rw[tc,tc]at h;unfold tI qS;(repeat' split)<;>first|decide|(rcases h with h|h|h|h|h|h|h<;>contradiction)
theorem Yd{s:am}{i:Nat}(h1:¬ (cF s.orph i).root=rt0)(h2:¬0<=aj s.nodes (cF s.orph i).root)(h3:¬0<=aj s.nodes (cF s.orph i).parent)(h4:(cF s.orph i).timely=false)(h5:¬s.now<(cF s.orph i).slot)(h6:¬ (cF s.orph i).slot<=(bD s.f.ep s.cfg.spe).1)(h7:(cF s.orph i).root∉(s.orph.take i).map (·.root)):tI s i=0:=by
 rw[tc]at h2 h3;unfold tI qS;rw[if_neg h1,if_neg h2,if_neg h7,if_neg h3,if_neg (by rw[h4];decide),if_neg h5,if_neg h6]
theorem Pg (s : am) (hn : s.nodes.length <= 1000000) (he : s.early.length <= 1000000) (ho : s.orph.length <= 1000000) (hv : ∀ a ∈ s.early, a.vals.length <= 1000000) : PC Tryz.prog 119 [.agg (aw s.a)] (.bool (CY s)) := by
 refine PC.fact 9 Hr (by simp) puA puA ?_;unfold vC;refine bd ?_;unfold CY;obtain⟨E,hE⟩:∃E,E=frE (eaE s) (s.early.length-0) 0:=⟨_,rfl⟩
 obtain⟨O,hO⟩:∃O,O=frE (tI s) (s.orph.length-0) 0:=⟨_,rfl⟩
 rw[<-hE,<-hO];have c0:=qp s;refine gon ?_;refine ay (fun i:Nat=>[(3,.int .i64 i)]) (fun i=>[.var (aw s.a)]) (fun i=>s.early.length-i) (fun i=>i<=s.early.length/\E=frE (eaE s) (s.early.length-i) i) 0 ⟨Nat.zero_le _,hE⟩ ?_ ?_
 ·exact adk [] [0]
 clear hE;rintro i ⟨hi,hE⟩;refine dM ?_;by_cases h1:i<s.early.length
 ·have e1:=inT h1
  have hw:=ah h1 (by omega);have hgd:(rows aW.c s.early).getD i []=bZ (fk s.early i).a:=aM (f:=aW.c) default h1;have hm:fk s.early i∈s.early:=cG default h1;have c1:=gp (fk s.early i).vals false s.cfg.bals.length (by have:=hv _ hm;omega);have hf0:∀ {v:Int},eaE s i=v->v≠0->E=v:=fun h0 h2=>by rw[hE,vV h1 (by rw[h0];exact h2),h0]
  have hf1:eaE s i=0->E=frE (eaE s) (s.early.length-(i+1)) (i+1):=fun h0=>by rw[hE,vU h1 h0]
  clear hE;unfold eaE at hf0 hf1;generalize dr (fk s.early i).vals s.cfg.bals.length=V at *;refine bg e1 ?_;refine ap hgd ?_;refine aC (c0) ?_;refine ap hgd ?_;refine aC (c1) ?_;by_cases q:V=0
  ·have k:(V != 0)=false:=by simp[q]
   refine aQ k ?_;refine ap hw ?_;refine⟨i+1,⟨h1,hf1 q⟩,by omega,?_⟩;exact adk [] [0]
  ·have k:(V != 0)=true:=by simp[q]
   obtain rfl:=hf0 rfl q;rw[au q,Bool.false_and];refine aE k ?_;exact af
 ·obtain rfl:i=s.early.length:=by omega
  have e1:=inF (s.early.length);rw[vT]at hE;subst hE;rw[ak rfl,Bool.true_and];clear hi h1;have c2:=jR s s.f.ep;obtain⟨S,hS⟩:∃S,S=cR s s.f.ep:=⟨_,rfl⟩
  have hS1:S.1=(bD s.f.ep s.cfg.spe).1:=by rw[hS];rfl
  rw[<-hS]at c2;obtain⟨S1,S2⟩:=S;clear hS;dsimp only at c2 hS1;refine aD e1 ?_;refine acT c2 ?_;refine ay (fun i:Nat=>[(6,.int .i64 i)]) (fun i=>[.var (aw s.a)]) (fun i=>s.orph.length-i) (fun i=>i<=s.orph.length/\O=frE (tI s) (s.orph.length-i) i) 0 ⟨Nat.zero_le _,hO⟩ ?_ ?_
  ·exact adk [] [0]
  clear hO e1;rintro i ⟨hi,hO⟩;refine dM ?_;by_cases h1:i<s.orph.length
  ·have e1:=inT h1
   have hw:=ah h1 (by omega);have hgd:(rows aA s.orph).getD i []=aA (cF s.orph i):=aM (f:=aA) dO h1;have hf0:tI s i≠0->O≠0:=fun h0=>by rw[hO,vV h1 h0];exact h0
   have hf1:tI s i=0->O=frE (tI s) (s.orph.length-(i+1)) (i+1):=fun h0=>by rw[hO,vU h1 h0]
   clear hO;have c3:=cm s.nodes (cF s.orph i).root hn;have c4:=cm s.nodes (cF s.orph i).parent hn;have yy:=fun h=>hf0 (abM (s:=s) (i:=i) h)
   have nn:=fun a1 a2 a3 a4 a5 a6 a7=>hf1 (Yd (s:=s) (i:=i) a1 a2 a3 a4 a5 a6 a7)
   rw[<-hS1]at yy nn;clear hf0 hf1
   have hin:∀k,k<i->cF s.orph k∈s.orph.take i:=fun k hk=>by
    unfold cF;rw[List.getD_eq_getElem?_getD,List.getElem?_eq_getElem (by omega)];exact List.mem_take_iff_getElem.2 ⟨k,by omega,rfl⟩
   have hout:∀b∈s.orph.take i,∃k,k<i/\cF s.orph k=b:=fun b hb=>by
    obtain⟨k,hk,he⟩:=List.mem_take_iff_getElem.1 hb;refine⟨k,by omega,?_⟩;unfold cF;rw[List.getD_eq_getElem?_getD,List.getElem?_eq_getElem (by omega)];exact he
   generalize hx:cF s.orph i=x at *;generalize aj s.nodes x.root=I at *;generalize aj s.nodes x.parent=J at *;unfold nA at c3 c4;refine bg e1 ?_;by_cases q1:x.root=rt0
   ·have k1:=ak q1;rw[au (yy (.inl q1))];refine cn hgd k1 ?_;exact af
   have k1:=au q1;refine aO hgd k1 ?_;refine ai c3 ?_;by_cases q2:0<=I
   ·have k2:decide (I ≥ 0)=true:=ak q2;have k2':decide (0<=I)=true:=ak q2;rw[au (yy (.inr (.inl q2)))];refine cn k2 k2' ?_;exact af
   have k2:decide (I ≥ 0)=false:=au q2;have k2':decide (0<=I)=false:=au q2;refine aO k2 k2' ?_;refine ai c4 ?_;by_cases q3:0<=J
   ·have k3:decide (J ≥ 0)=true:=ak q3;have k3':decide (0<=J)=true:=ak q3;rw[au (yy (.inr (.inr (.inl q3))))];refine cn k3 k3' ?_;exact af
   have k3:decide (J ≥ 0)=false:=au q3;have k3':decide (0<=J)=false:=au q3;by_cases q4:x.timely=true
   ·rw[au (yy (.inr (.inr (.inr (.inl q4)))))];refine fK k3 k3' q4 ?_;exact af
   have k4:x.timely=false:=by simpa using q4
   by_cases q5:s.now<x.slot
   ·have k5:decide (x.slot > s.now)=true:=ak q5;have k5':decide (s.now<x.slot)=true:=ak q5;rw[au (yy (.inr (.inr (.inr (.inr (.inl q5))))))];refine eO k3 k3' k4 k5 k5' ?_;refine abX ?_;exact af
   have k5:decide (x.slot > s.now)=false:=au q5;have k5':decide (s.now<x.slot)=false:=au q5;by_cases q6:x.slot<=S1
   ·have k6:=ak q6;rw[au (yy (.inr (.inr (.inr (.inr (.inr (.inl q6)))))))];refine eI k3 k3' k4 k5 k5' k6 ?_;refine abX ?_;exact af
   have k6:=au q6;refine eI k3 k3' k4 k5 k5' k6 ?_;refine abW ?_;clear c3 c4 k1 k2 k2' k3 k3' k4 k5 k5' k6;refine ay (fun k:Nat=>[(8,.int .i64 k)]) (fun k=>[.var (aw s.a),.var (aA x)]) (fun k=>i-k) (fun k=>k<=i/\∀m,m<k->(cF s.orph m).root≠x.root) 0 ⟨Nat.zero_le _,fun m hm=>absurd hm (Nat.not_lt_zero m)⟩ ?_ ?_
   ·exact adk [] [0,1]
   rintro k ⟨hk,hm⟩;refine dM ?_;by_cases h2:k<i
   ·have e2:=inT h2
    have hwk:=ah h2 (by omega);have hgk:(rows aA s.orph).getD k []=aA (cF s.orph k):=aM (f:=aA) dO (by omega);have hxk:k<s.orph.length:=by omega
    have hyk:=hin k h2;generalize hy:cF s.orph k=y at *;refine bg e2 ?_;by_cases q7:y.root=x.root
    ·have k7:=ak q7;rw[au (yy (.inr (.inr (.inr (.inr (.inr (.inr (by rw[<-q7];exact List.mem_map_of_mem hyk))))))))];refine fK hgk k7 hxk ?_;exact af
    ·have k7:=au q7
     refine vW hgk k7 hxk ?_;refine ap hwk ?_;refine⟨k+1,⟨h2,fun m h3=>?_⟩,by omega,?_⟩
     ·by_cases h4:m=k
      ·subst h4;rw[hy];exact q7
      ·exact hm m (by omega)
     ·exact adk [] [0,1]
   ·obtain rfl:k=i:=by omega
    have e2:=inF k
    have hz:x.root∉(s.orph.take k).map (·.root):=fun h=>by
     obtain⟨b,hb,he⟩:=List.mem_map.1 h;obtain⟨m,hm1,hm2⟩:=hout b hb;exact hm m hm1 (by rw[hm2];exact he)
    refine aQ e2 ?_;refine ap hw ?_;refine⟨k+1,⟨h1,nn q1 q2 q3 (by simpa using q4) q5 q6 hz⟩,by omega,?_⟩;exact adk [] [0]
  ·obtain rfl:i=s.orph.length:=by omega
   have e1:=inF (s.orph.length);rw[vT]at hO;subst hO;rw[ak rfl];refine aD e1 ?_;exact af
end Go.Proofs.YtnjdpnfglgcjcaaGreat
