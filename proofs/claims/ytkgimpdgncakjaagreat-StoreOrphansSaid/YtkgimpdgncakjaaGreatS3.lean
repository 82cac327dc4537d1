/-
 My texts Rh, joined.
-/
import Derived.Test.YtkgimpdgncakjaaGreatS2
import Derived.Test.YtkgimpdgncakjaaGreatR1
namespace Go.Proofs.YtkgimpdgncakjaaGreat
open Go Go.FH Go.RowKit
set_option linter.unusedVariables false
set_option linter.unusedSimpArgs false
set_option maxRecDepth 8000
set_option maxHeartbeats 4000000
theorem MN_(n:Int):0≤fw_ .i64 n 16777215∧fw_ .i64 n 16777215<16777216:=by
 unfold fw_
 have h:(BitVec.ofInt IntKind.i64.bits n &&& BitVec.ofInt IntKind.i64.bits 16777215).toNat≤16777215:=by
  rw[BitVec.toNat_and];exact Nat.le_trans Nat.and_le_right (by decide)
 rw[ax_ (by omega) (by omega)];omega
theorem KT_(l:List Rt)(hl:l.length≤1000000):PC Tryz.prog 22 [.sl 32 false (rows rtc l),.sl 32 false (rows rtc l)] (.bool true):=by
 refine PC.fact 6 qx_ (by simp) puA puA ?_;unfold jg_;refine bd ?_;have e0:((l.length:Int) != (l.length:Int))=false:=by simp
 repeat(first|refine aa_ ?_|simp only[go_sem,e0])
 refine Rm_ ?_
 refine ao_ (fun i:Nat=>[(5,.int .i64 i)]) (fun _=>[]) (fun i=>l.length-i) (fun i=>i≤l.length) 0 (Nat.zero_le _) ?_ ?_
 ·exact ST_ [] []
 intro i hi;refine cC_ ?_;by_cases h1:i<l.length
 ·have e1:=inT h1;have hw:=af_ h1 (by omega);have hgd:(rows rtc l).getD i []=rtc (l.getD i rt0):=aB_ (f:=rtc) rt0 h1;generalize l.getD i rt0=x at *;repeat(first|refine aa_ ?_|simp only[go_sem,e1])
  refine ac_ ?_;repeat(first|refine aa_ ?_|simp only[go_sem,hgd])
  refine ab_ ?_;repeat(first|refine aa_ ?_|simp only[go_sem,hw])
  refine⟨i+1,h1,by omega,?_⟩;exact ST_ [] []
 ·obtain rfl:i=l.length:=by omega
  have e1:=inF (l.length);repeat(first|refine aa_ ?_|simp only[go_sem,e1])
  refine Rm_ ?_
  exact ag_
theorem zf_{s:ai_}{b:Blk}(h0:(aT_ s b).2.2≠0):(aT_ s b).1=dd_∧(aT_ s b).2.1=[]:=by
 unfold aT_ at h0 ⊢;split
 ·rename_i h1;rw[if_pos h1]at h0;split
  ·exact⟨rfl,rfl⟩
  ·rename_i h2;rw[if_neg h2]at h0;exact absurd rfl h0
 ·rename_i h1;rw[if_neg h1]at h0;split
  ·exact⟨rfl,rfl⟩
  ·rename_i h2;rw[if_neg h2]at h0;exact absurd rfl h0
theorem Mq_{s:ai_}{i:Nat}(h:aJ_ s i){b:Blk}(hb:eL_ i b):CpR (aT_ s b).1∧(aT_ s b).2.1.length≤1000000:=by
 by_cases h0:(aT_ s b).2.2=0
 ·obtain⟨h1,h2⟩:=h.block hb h0;exact⟨h1.cp,by omega⟩
 ·obtain⟨h1,h2⟩:=zf_ h0;rw[h1,h2];exact⟨Mr_,by simp⟩
theorem pc_StoreBlocks(l:List Int)(hl:l.length≤maxLen)(hwl:∀z∈l,(Lit.int .i64 z).wf=true)(k:Int)(hla:(Lit.int .i64 k).wf=true):PC Tryz.prog 5 [.sl 1 false (aq_ .i64 l),.int .i64 k] (.bool true):=by
 refine PC.fact 13 nJ_ (by simp) puA puA ?_;unfold hD_;refine bd ?_;obtain⟨a,ha,ca⟩:=wD_ l;have hs:=ha.sto;obtain⟨b,hb,cb⟩:=rr_ a.sto 24 hs hs.cfg.tt 99 (fw_ .i64 k 16777215) (MN_ k).1 (by decide) (by decide) (by decide);have c1:=jv_ a.sto 24 hs b hb.w;have c2:=ur_ a.sto 24 hs b hb.w;obtain⟨hc1,hc2⟩:=Mq_ hs hb.w;have c3:=Ak_ _ hc1;have c4:=KT_ _ hc2;have c5:=pO_;have eq1:∀n:Int,(n==n)=true:=fun n=>by simp
 generalize aT_ a.sto b=T at *;obtain⟨T1,T2,T3⟩:=T;dsimp only at c1 c2 c3 c4;try refine aa_ ?_
 refine Sv_ ca ?_
 refine Sv_ cb ?_
 refine Sv_ c1 ?_
 refine ae_ c2 ?_;repeat(first|refine aa_ ?_|simp only[go_sem,eq1])
 refine Sv_ c4 ?_
 refine Sv_ c3 ?_
 refine Sv_ c5 ?_
 exact ag_
end Go.Proofs.YtkgimpdgncakjaaGreat
