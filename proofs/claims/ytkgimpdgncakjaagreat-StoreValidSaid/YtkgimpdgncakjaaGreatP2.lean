/-
 My texts Sc, joined.
-/
import Derived.Test.YtkgimpdgncakjaaGreatP1
namespace Go.Proofs.YtkgimpdgncakjaaGreat
open Go Go.FH Go.RowKit
set_option linter.unusedVariables false
set_option linter.unusedSimpArgs false
set_option maxRecDepth 8000
set_option maxHeartbeats 4000000
theorem QY_{s:ah_}{i:Nat}(h:(bF_ s.orph i).root=rt0∨0≤af_ s.nodes (bF_ s.orph i).root∨0≤af_ s.nodes (bF_ s.orph i).parent∨(bF_ s.orph i).timely=true∨s.now<(bF_ s.orph i).slot∨(bF_ s.orph i).slot≤(bh_ s.f.ep s.cfg.spe).1∨(bF_ s.orph i).root∈(s.orph.take i).map (·.root)):na_ s i≠0:=by
 rw[mL_,mL_]at h;unfold na_ kY_;(repeat' split)<;>first|decide|(rcases h with h|h|h|h|h|h|h<;>contradiction)
theorem Nc_{s:ah_}{i:Nat}(h1:¬ (bF_ s.orph i).root=rt0)(h2:¬0≤af_ s.nodes (bF_ s.orph i).root)(h3:¬0≤af_ s.nodes (bF_ s.orph i).parent)(h4:(bF_ s.orph i).timely=false)(h5:¬s.now<(bF_ s.orph i).slot)(h6:¬ (bF_ s.orph i).slot≤(bh_ s.f.ep s.cfg.spe).1)(h7:(bF_ s.orph i).root∉(s.orph.take i).map (·.root)):na_ s i=0:=by
 rw[mL_]at h2 h3;unfold na_ kY_;rw[if_neg h1,if_neg h2,if_neg h7,if_neg h3,if_neg (by rw[h4];decide),if_neg h5,if_neg h6]
theorem EE_(s:ah_)(hn:s.nodes.length≤1000000)(he:s.early.length≤1000000)(ho:s.orph.length≤1000000)(hv:∀a∈s.early,a.vals.length≤1000000):PC Tryz.prog 76 [.agg (ak_ s.a)] (.bool (tA_ s)):=by
 refine PC.fact 9 xF_ (by simp) puA puA ?_;unfold oB_;refine bd ?_;unfold tA_;obtain⟨E,hE⟩:∃E,E=frE (eaE s) (s.early.length-0) 0:=⟨_,rfl⟩
 obtain⟨O,hO⟩:∃O,O=frE (na_ s) (s.orph.length-0) 0:=⟨_,rfl⟩
 rw[←hE,←hO];have c0:=kB_ s;try refine aa_ ?_
 refine an_ (fun i:Nat=>[(3,.int .i64 i)]) (fun i=>[.var (ak_ s.a)]) (fun i=>s.early.length-i) (fun i=>i≤s.early.length∧E=frE (eaE s) (s.early.length-i) i) 0 ⟨Nat.zero_le _,hE⟩ ?_ ?_
 ·exact SN_ [] [0]
 clear hE;rintro i ⟨hi,hE⟩;refine cJ_ ?_;by_cases h1:i<s.early.length
 ·have e1:=inT h1
  have hw:=ag_ h1 (by omega);have hgd:(rows aD_.c s.early).getD i []=bl_ (dM_ s.early i).a:=aA_ (f:=aD_.c) default h1;have hm:dM_ s.early i∈s.early:=bH_ default h1;have c1:=dX_ (dM_ s.early i).vals false s.cfg.bals.length (by have:=hv _ hm;omega);have hf0:∀ {v:Int},eaE s i=v→v≠0→E=v:=fun h0 h2=>by rw[hE,oS_ h1 (by rw[h0];exact h2),h0]
  have hf1:eaE s i=0→E=frE (eaE s) (s.early.length-(i+1)) (i+1):=fun h0=>by rw[hE,oR_ h1 h0]
  clear hE;unfold eaE at hf0 hf1;generalize cd_ (dM_ s.early i).vals s.cfg.bals.length=V at *;repeat(first|refine aa_ ?_|simp only[go_sem,e1])
  refine ac_ ?_;repeat(first|refine aa_ ?_|simp only[go_sem,hgd])
  refine ao_ (c0) ?_;repeat(first|refine aa_ ?_|simp only[go_sem,hgd])
  refine ao_ (c1) ?_;by_cases q:V=0
  ·have k:(V != 0)=false:=by simp[q]
   repeat(first|refine aa_ ?_|simp only[go_sem,k])
   refine ab_ ?_;repeat(first|refine aa_ ?_|simp only[go_sem,hw])
   refine⟨i+1,⟨h1,hf1 q⟩,by omega,?_⟩;exact SN_ [] [0]
  ·have k:(V != 0)=true:=by simp[q]
   obtain rfl:=hf0 rfl q;rw[decide_eq_false q,Bool.false_and];repeat(first|refine aa_ ?_|simp only[go_sem,k])
   refine Ri_ ?_
   exact ae_
 ·obtain rfl:i=s.early.length:=by omega
  have e1:=inF (s.early.length);rw[oQ_]at hE;subst hE;rw[decide_eq_true rfl,Bool.true_and];clear hi h1;have c2:=fS_ s s.f.ep;obtain⟨S,hS⟩:∃S,S=bw_ s s.f.ep:=⟨_,rfl⟩
  have hS1:S.1=(bh_ s.f.ep s.cfg.spe).1:=by rw[hS];rfl
  rw[←hS]at c2;obtain⟨S1,S2⟩:=S;clear hS;dsimp only at c2 hS1;repeat(first|refine aa_ ?_|simp only[go_sem,e1])
  refine Rh_ ?_
  refine So_ c2 ?_
  refine an_ (fun i:Nat=>[(6,.int .i64 i)]) (fun i=>[.var (ak_ s.a)]) (fun i=>s.orph.length-i) (fun i=>i≤s.orph.length∧O=frE (na_ s) (s.orph.length-i) i) 0 ⟨Nat.zero_le _,hO⟩ ?_ ?_
  ·exact SN_ [] [0]
  clear hO e1;rintro i ⟨hi,hO⟩;refine cJ_ ?_;by_cases h1:i<s.orph.length
  ·have e1:=inT h1
   have hw:=ag_ h1 (by omega);have hgd:(rows ap_ s.orph).getD i []=ap_ (bF_ s.orph i):=aA_ (f:=ap_) cF_ h1;have hf0:na_ s i≠0→O≠0:=fun h0=>by rw[hO,oS_ h1 h0];exact h0
   have hf1:na_ s i=0→O=frE (na_ s) (s.orph.length-(i+1)) (i+1):=fun h0=>by rw[hO,oR_ h1 h0]
   clear hO;have c3:=bg_ s.nodes (bF_ s.orph i).root hn;have c4:=bg_ s.nodes (bF_ s.orph i).parent hn;have yy:=fun h=>hf0 (QY_ (s:=s) (i:=i) h)
   have nn:=fun a1 a2 a3 a4 a5 a6 a7=>hf1 (Nc_ (s:=s) (i:=i) a1 a2 a3 a4 a5 a6 a7)
   rw[←hS1]at yy nn;clear hf0 hf1
   have hin:∀k,k<i→bF_ s.orph k∈s.orph.take i:=fun k hk=>by
    unfold bF_;rw[List.getD_eq_getElem?_getD,List.getElem?_eq_getElem (by omega)];exact List.mem_take_iff_getElem.2 ⟨k,by omega,rfl⟩
   have hout:∀b∈s.orph.take i,∃k,k<i∧bF_ s.orph k=b:=fun b hb=>by
    obtain⟨k,hk,he⟩:=List.mem_take_iff_getElem.1 hb;refine⟨k,by omega,?_⟩;unfold bF_;rw[List.getD_eq_getElem?_getD,List.getElem?_eq_getElem (by omega)];exact he
   generalize hx:bF_ s.orph i=x at *;generalize af_ s.nodes x.root=I at *;generalize af_ s.nodes x.parent=J at *;unfold nA at c3 c4;repeat(first|refine aa_ ?_|simp only[go_sem,e1])
   refine ac_ ?_;by_cases q1:x.root=rt0
   ·have k1:=decide_eq_true q1;rw[decide_eq_false (yy (.inl q1))];repeat(first|refine aa_ ?_|simp only[go_sem,hgd,k1])
    refine Ri_ ?_
    exact ae_
   have k1:=decide_eq_false q1;repeat(first|refine aa_ ?_|simp only[go_sem,hgd,k1])
   refine aj_ c3 ?_;by_cases q2:0≤I
   ·have k2:decide (I ≥ 0)=true:=decide_eq_true q2;have k2':decide (0≤I)=true:=decide_eq_true q2;rw[decide_eq_false (yy (.inr (.inl q2)))];repeat(first|refine aa_ ?_|simp only[go_sem,k2,k2'])
    refine Ri_ ?_
    exact ae_
   have k2:decide (I ≥ 0)=false:=decide_eq_false q2;have k2':decide (0≤I)=false:=decide_eq_false q2;repeat(first|refine aa_ ?_|simp only[go_sem,k2,k2'])
   refine aj_ c4 ?_;by_cases q3:0≤J
   ·have k3:decide (J ≥ 0)=true:=decide_eq_true q3;have k3':decide (0≤J)=true:=decide_eq_true q3;rw[decide_eq_false (yy (.inr (.inr (.inl q3))))];repeat(first|refine aa_ ?_|simp only[go_sem,k3,k3'])
    refine Ri_ ?_
    exact ae_
   have k3:decide (J ≥ 0)=false:=decide_eq_false q3;have k3':decide (0≤J)=false:=decide_eq_false q3;by_cases q4:x.timely=true
   ·rw[decide_eq_false (yy (.inr (.inr (.inr (.inl q4)))))];repeat(first|refine aa_ ?_|simp only[go_sem,k3,k3',q4])
    refine Ri_ ?_
    exact ae_
   have k4:x.timely=false:=by simpa using q4
   by_cases q5:s.now<x.slot
   ·have k5:decide (x.slot > s.now)=true:=decide_eq_true q5;have k5':decide (s.now<x.slot)=true:=decide_eq_true q5;rw[decide_eq_false (yy (.inr (.inr (.inr (.inr (.inl q5))))))];repeat(first|refine aa_ ?_|simp only[go_sem,k3,k3',k4,k5,k5'])
    refine Ri_ ?_
    exact ae_
   have k5:decide (x.slot > s.now)=false:=decide_eq_false q5;have k5':decide (s.now<x.slot)=false:=decide_eq_false q5;by_cases q6:x.slot≤S1
   ·have k6:decide (x.slot≤S1)=true:=decide_eq_true q6;rw[decide_eq_false (yy (.inr (.inr (.inr (.inr (.inr (.inl q6)))))))];repeat(first|refine aa_ ?_|simp only[go_sem,k3,k3',k4,k5,k5',k6])
    refine Ri_ ?_
    exact ae_
   have k6:decide (x.slot≤S1)=false:=decide_eq_false q6;repeat(first|refine aa_ ?_|simp only[go_sem,k3,k3',k4,k5,k5',k6])
   refine Rh_ ?_
   clear c3 c4 k1 k2 k2' k3 k3' k4 k5 k5' k6;refine an_ (fun k:Nat=>[(8,.int .i64 k)]) (fun k=>[.var (ak_ s.a),.var (ap_ x)]) (fun k=>i-k) (fun k=>k≤i∧∀m,m<k→(bF_ s.orph m).root≠x.root) 0 ⟨Nat.zero_le _,fun m hm=>absurd hm (Nat.not_lt_zero m)⟩ ?_ ?_
   ·exact SN_ [] [0,1]
   rintro k ⟨hk,hm⟩;refine cJ_ ?_;by_cases h2:k<i
   ·have e2:=inT h2
    have hwk:=ag_ h2 (by omega);have hgk:(rows ap_ s.orph).getD k []=ap_ (bF_ s.orph k):=aA_ (f:=ap_) cF_ (by omega);have hxk:k<s.orph.length:=by omega
    have hyk:=hin k h2;generalize hy:bF_ s.orph k=y at *;repeat(first|refine aa_ ?_|simp only[go_sem,e2])
    refine ac_ ?_;by_cases q7:y.root=x.root
    ·have k7:=decide_eq_true q7;rw[decide_eq_false (yy (.inr (.inr (.inr (.inr (.inr (.inr (by rw[←q7];exact List.mem_map_of_mem hyk))))))))];repeat(first|refine aa_ ?_|simp only[go_sem,hgk,k7,hxk])
     refine Ri_ ?_
     exact ae_
    ·have k7:=decide_eq_false q7
     repeat(first|refine aa_ ?_|simp only[go_sem,hgk,k7,hxk])
     refine ab_ ?_;repeat(first|refine aa_ ?_|simp only[go_sem,hwk])
     refine⟨k+1,⟨h2,fun m h3=>?_⟩,by omega,?_⟩
     ·by_cases h4:m=k
      ·subst h4;rw[hy];exact q7
      ·exact hm m (by omega)
     ·exact SN_ [] [0,1]
   ·obtain rfl:k=i:=by omega
    have e2:=inF k
    have hz:x.root∉(s.orph.take k).map (·.root):=fun h=>by
     obtain⟨b,hb,he⟩:=List.mem_map.1 h;obtain⟨m,hm1,hm2⟩:=hout b hb;exact hm m hm1 (by rw[hm2];exact he)
    repeat(first|refine aa_ ?_|simp only[go_sem,e2])
    refine ab_ ?_;repeat(first|refine aa_ ?_|simp only[go_sem,hw])
    refine⟨k+1,⟨h1,nn q1 q2 q3 (by simpa using q4) q5 q6 hz⟩,by omega,?_⟩;exact SN_ [] [0]
  ·obtain rfl:i=s.orph.length:=by omega
   have e1:=inF (s.orph.length);rw[oQ_]at hO;subst hO;rw[decide_eq_true rfl];repeat(first|refine aa_ ?_|simp only[go_sem,e1])
   refine Rh_ ?_
   exact ae_
end Go.Proofs.YtkgimpdgncakjaaGreat
