/- Joined. -/
import Derived.Test.YtnjdpnfglgcjcaaGreatP1
set_option linter.unusedVariables false
set_option linter.unusedSimpArgs false
set_option maxRecDepth 8000
set_option maxHeartbeats 4000000
namespace Go.Proofs.YtnjdpnfglgcjcaaGreat
open Go Go.FH Go.RowKit
theorem agr{s:ap}{i:Nat}(h:(dn s.orph i).root=rt0\/0<=aj s.nodes (dn s.orph i).root\/0<=aj s.nodes (dn s.orph i).parent\/(dn s.orph i).timely=true\/s.now<(dn s.orph i).slot\/(dn s.orph i).slot<=(dk s.f.ep s.cfg.spe).1\/(dn s.orph i).root∈(s.orph.take i).map (·.root)):qt s i≠0:=by
 rw[vW,vW]at h;unfold qt tn;(repeat' split)<;>first|decide|(rcases h with h|h|h|h|h|h|h<;>contradiction)
theorem ab1{s:ap}{i:Nat}(h1:¬ (dn s.orph i).root=rt0)(h2:¬0<=aj s.nodes (dn s.orph i).root)(h3:¬0<=aj s.nodes (dn s.orph i).parent)(h4:(dn s.orph i).timely=false)(h5:¬s.now<(dn s.orph i).slot)(h6:¬ (dn s.orph i).slot<=(dk s.f.ep s.cfg.spe).1)(h7:(dn s.orph i).root∉(s.orph.take i).map (·.root)):qt s i=0:=by
 rw[vW]at h2 h3;unfold qt tn;rw[al5 h1,al5 h2,al5 h7,al5 h3,al5 (by rw[h4];decide),al5 h5,al5 h6]
theorem SD (s : ap) (hn : s.nodes.length <= 2097152) (he : s.early.length <= 2097152) (ho : s.orph.length <= 2097152) (hv : ∀ a ∈ s.early, a.vals.length <= 2097152) : PC Tryz.prog 119 [.agg (aE s.a)] (.bool (zV s)) := by
 refine PC.fact 9 Kx (by simp) puA puA ?_;unfold yU;refine bd ?_;unfold zV;obtain⟨E,hE⟩:∃E,E=frE (eaE s) (s.early.length-0) 0:=⟨_,rfl⟩
 obtain⟨O,hO⟩:∃O,O=frE (qt s) (s.orph.length-0) 0:=⟨_,rfl⟩
 rw[<-hE,<-hO];have c0:=sq s;refine gon ?_;refine az (fun i:Nat=>[(3,.int .i64 i)]) (fun i=>[.var (aE s.a)]) (fun i=>s.early.length-i) (fun i=>i<=s.early.length/\E=frE (eaE s) (s.early.length-i) i) 0 ⟨amc _,hE⟩ ?_ ?_
 ·exact ais [] [0]
 clear hE;rintro i ⟨hi,hE⟩;refine dp ?_;by_cases h1:i<s.early.length
 ·have e1:=inT h1
  have hw:=af h1 (by omega);have hgd:(rows bp.c s.early).getD i []=cy (gO s.early i).a:=aS (f:=bp.c) default h1;have hm:gO s.early i∈s.early:=bK default h1;have c1:=gl (gO s.early i).vals false s.cfg.bals.length (by have:=hv _ hm;omega);have hf0:∀ {v:Int},eaE s i=v->v≠0->E=v:=fun h0 h2=>by rw[hE,zg h1 (by rw[h0];exact h2),h0]
  have hf1:eaE s i=0->E=frE (eaE s) (s.early.length-(i+1)) (i+1):=fun h0=>by rw[hE,zf h1 h0]
  clear hE;unfold eaE at hf0 hf1;generalize cE (gO s.early i).vals s.cfg.bals.length=V at *;refine bw e1 ?_;refine ah hgd ?_;refine aK (c0) ?_;refine ah hgd ?_;refine aK (c1) ?_;by_cases q:V=0
  ·have k:(V != 0)=false:=by simp[q]
   refine bJ k ?_;refine ah hw ?_;refine⟨i+1,⟨h1,hf1 q⟩,by omega,?_⟩;exact ais [] [0]
  ·have k:(V != 0)=true:=by simp[q]
   obtain rfl:=hf0 rfl q;rw[aA q,ajq];refine aM k ?_;exact ai
 ·obtain rfl:i=s.early.length:=by omega
  have e1:=inF (s.early.length);rw[ze]at hE;subst hE;rw[au rfl,am2];clear hi h1;have c2:=jU s s.f.ep;obtain⟨S,hS⟩:∃S,S=da s s.f.ep:=⟨_,rfl⟩
  have hS1:S.1=(dk s.f.ep s.cfg.spe).1:=by rw[hS];rfl
  rw[<-hS]at c2;obtain⟨S1,S2⟩:=S;clear hS;dsimp only at c2 hS1;refine aF e1 ?_;refine ahG c2 ?_;refine az (fun i:Nat=>[(6,.int .i64 i)]) (fun i=>[.var (aE s.a)]) (fun i=>s.orph.length-i) (fun i=>i<=s.orph.length/\O=frE (qt s) (s.orph.length-i) i) 0 ⟨amc _,hO⟩ ?_ ?_
  ·exact ais [] [0]
  clear hO e1;rintro i ⟨hi,hO⟩;refine dp ?_;by_cases h1:i<s.orph.length
  ·have e1:=inT h1
   have hw:=af h1 (by omega);have hgd:(rows aO s.orph).getD i []=aO (dn s.orph i):=aS (f:=aO) cw h1;have hf0:qt s i≠0->O≠0:=fun h0=>by rw[hO,zg h1 h0];exact h0
   have hf1:qt s i=0->O=frE (qt s) (s.orph.length-(i+1)) (i+1):=fun h0=>by rw[hO,zf h1 h0]
   clear hO;have c3:=cC s.nodes (dn s.orph i).root hn;have c4:=cC s.nodes (dn s.orph i).parent hn;have yy:=fun h=>hf0 (agr (s:=s) (i:=i) h)
   have nn:=fun a1 a2 a3 a4 a5 a6 a7=>hf1 (ab1 (s:=s) (i:=i) a1 a2 a3 a4 a5 a6 a7)
   rw[<-hS1]at yy nn;clear hf0 hf1
   have hin:∀k,k<i->dn s.orph k∈s.orph.take i:=fun k hk=>by
    unfold dn;rw[alt,al6 (by omega)];exact ajt.2 ⟨k,by omega,rfl⟩
   have hout:∀b∈s.orph.take i,∃k,k<i/\dn s.orph k=b:=fun b hb=>by
    obtain⟨k,hk,he⟩:=ajt.1 hb;refine⟨k,by omega,?_⟩;unfold dn;rw[alt,al6 (by omega)];exact he
   generalize hx:dn s.orph i=x at *;generalize aj s.nodes x.root=I at *;generalize aj s.nodes x.parent=J at *;unfold nA at c3 c4;refine bw e1 ?_;by_cases q1:x.root=rt0
   ·have k1:=au q1;rw[aA (yy (.inl q1))];refine cH hgd k1 ?_;exact ai
   have k1:=aA q1;refine aZ hgd k1 ?_;refine am c3 ?_;by_cases q2:0<=I
   ·have k2:decide (I ≥ 0)=true:=au q2;have k2':decide (0<=I)=true:=au q2;rw[aA (yy (.inr (.inl q2)))];refine cH k2 k2' ?_;exact ai
   have k2:decide (I ≥ 0)=false:=aA q2;have k2':decide (0<=I)=false:=aA q2;refine aZ k2 k2' ?_;refine am c4 ?_;by_cases q3:0<=J
   ·have k3:decide (J ≥ 0)=true:=au q3;have k3':decide (0<=J)=true:=au q3;rw[aA (yy (.inr (.inr (.inl q3))))];refine cH k3 k3' ?_;exact ai
   have k3:decide (J ≥ 0)=false:=aA q3;have k3':decide (0<=J)=false:=aA q3;by_cases q4:x.timely=true
   ·rw[aA (yy (.inr (.inr (.inr (.inl q4)))))];refine fI k3 k3' q4 ?_;exact ai
   have k4:x.timely=false:=by simpa using q4
   by_cases q5:s.now<x.slot
   ·have k5:decide (x.slot > s.now)=true:=au q5;have k5':decide (s.now<x.slot)=true:=au q5;rw[aA (yy (.inr (.inr (.inr (.inr (.inl q5))))))];refine eU k3 k3' k4 k5 k5' ?_;refine agF ?_;exact ai
   have k5:decide (x.slot > s.now)=false:=aA q5;have k5':decide (s.now<x.slot)=false:=aA q5;by_cases q6:x.slot<=S1
   ·have k6:=au q6;rw[aA (yy (.inr (.inr (.inr (.inr (.inr (.inl q6)))))))];refine eV k3 k3' k4 k5 k5' k6 ?_;refine agF ?_;exact ai
   have k6:=aA q6;refine eV k3 k3' k4 k5 k5' k6 ?_;refine agE ?_;clear c3 c4 k1 k2 k2' k3 k3' k4 k5 k5' k6;refine az (fun k:Nat=>[(8,.int .i64 k)]) (fun k=>[.var (aE s.a),.var (aO x)]) (fun k=>i-k) (fun k=>k<=i/\∀m,m<k->(dn s.orph m).root≠x.root) 0 ⟨amc _,fun m hm=>absurd hm (aju m)⟩ ?_ ?_
   ·exact ais [] [0,1]
   rintro k ⟨hk,hm⟩;refine dp ?_;by_cases h2:k<i
   ·have e2:=inT h2
    have hwk:=af h2 (by omega);have hgk:(rows aO s.orph).getD k []=aO (dn s.orph k):=aS (f:=aO) cw (by omega);have hxk:k<s.orph.length:=by omega
    have hyk:=hin k h2;generalize hy:dn s.orph k=y at *;refine bw e2 ?_;by_cases q7:y.root=x.root
    ·have k7:=au q7;rw[aA (yy (.inr (.inr (.inr (.inr (.inr (.inr (by rw[<-q7];exact List.mem_map_of_mem hyk))))))))];refine fI hgk k7 hxk ?_;exact ai
    ·have k7:=aA q7
     refine zh hgk k7 hxk ?_;refine ah hwk ?_;refine⟨k+1,⟨h2,fun m h3=>?_⟩,by omega,?_⟩
     ·by_cases h4:m=k
      ·subst h4;rw[hy];exact q7
      ·exact hm m (by omega)
     ·exact ais [] [0,1]
   ·obtain rfl:k=i:=by omega
    have e2:=inF k
    have hz:x.root∉(s.orph.take k).map (·.root):=fun h=>by
     obtain⟨b,hb,he⟩:=amV.1 h;obtain⟨m,hm1,hm2⟩:=hout b hb;exact hm m hm1 (by rw[hm2];exact he)
    refine bJ e2 ?_;refine ah hw ?_;refine⟨k+1,⟨h1,nn q1 q2 q3 (by simpa using q4) q5 q6 hz⟩,by omega,?_⟩;exact ais [] [0]
  ·obtain rfl:i=s.orph.length:=by omega
   have e1:=inF (s.orph.length);rw[ze]at hO;subst hO;rw[au rfl];refine aF e1 ?_;exact ai
end Go.Proofs.YtnjdpnfglgcjcaaGreat
