/- Joined. -/
import Derived.Test.YtmpddimhleianaaGreatE3
import Derived.Test.YtmpddimhleianaaGreatW3
import Derived.Test.YtmpddimhleianaaGreatChecked
import Derived.KernelRfl
import Derived.Test.YtmpddimhleianaaGreatP5
import Derived.Test.YtmpddimhleianaaGreatE2
import Derived.Test.YtmpddimhleianaaGreatS2
import Derived.Test.YtmpddimhleianaaGreatT1
import Derived.Test.YtmpddimhleianaaGreatT9
import Derived.Test.YtmpddimhleianaaGreatU1
import Derived.Test.YtmpddimhleianaaGreatE4
import Derived.Test.YtmpddimhleianaaGreatV2
import Derived.Test.YtmpddimhleianaaGreatT4
import Derived.Test.YtmpddimhleianaaGreatE5
import Derived.Test.YtmpddimhleianaaGreatQ2
set_option linter.unusedVariables false
set_option linter.unusedSimpArgs false
set_option maxRecDepth 8000
set_option maxHeartbeats 4000000
namespace Go.Proofs.YtmpddimhleianaaGreat
open Go Go.FH Go.RowKit
theorem nh(S:aI)(hb:S.sto.nodes.length<=2097152)(x:Rt):ay Tryz.prog 192 [.agg (rtc x),.ptr 0 0] [.var (aV S.a)] (.int .i64 (aj S.sto.nodes x)) [.var (aV S.a)]:=by
 refine dS 4 ?_;have c1:=zU S.sto.nodes x hb;unfold aI.a ap.a;exact aw
def iJ(s:aI)(v:Vdt):aI×Int:=
 if (cz s v).2.2≠0 then (li,(cz s v).2.2)else if v.kind=3\/v.kind=4 then (lO (cz s v).2.1 (cz s v).1,0)
 else if (judgeV (cz s v).2.1.sto (cz s v).1.block v).2≠0 then (li,(judgeV (cz s v).2.1.sto (cz s v).1.block v).2)
 else (ij (cz s v).2.1 (boostV (dD (cz s v).2.1.sto (judgeV (cz s v).2.1.sto (cz s v).1.block v).1)),0)
theorem KL{fr:Fr}{σ:St}{rs:List gN}{l:List AV}{n:Int}(hl:dH fr σ rs=some l)(hv:fz σ (List.range σ.length) (gk l)=.tup [.agg (aV rD),.int .i64 n]):PQ rs (.tup [.agg (aV li.a),.int .i64 n]) .ret fr σ:=
 ⟨l,hl,.inr ⟨_,hv,⟨uG,trivial,trivial⟩,Wk.tup ⟨C9,Wk.refl _,trivial⟩⟩⟩
theorem NH(s:aI)(h:CpA s)(ht:dU s.sto.nodes)(hr:(nod s.sto.nodes 0).up=-1)(v:Vdt)
 (hL:(cz s v).2.2=0->PC Tryz.prog 191 [.agg (aV (cz s v).2.1.a),.agg (aP (cz s v).1)] (.agg (aV (lO (cz s v).2.1 (cz s v).1).a))):
 PC Tryz.prog 111 [.agg (aV s.a),.agg (cA v)] (.tup [.agg (aV (iJ s v).1.a),.int .i64 (iJ s v).2]):=by
 refine ae 11 ?_;have c1:=Es s h v;have hm:=@qj s v;unfold iJ judgeV;generalize cz s v=M at *;obtain⟨r,t,e⟩:=M;dsimp only at *;by_cases q:e=0
 case neg=>
  rw[al7 q];clear hL hm;refine nx fun H=>?_
  exact KL (by first|rfl|exact evd) (by exact evd)
 subst q;have c2:=hL rfl;rw[al5 WM];by_cases k3:v.kind=3
 ·rw[al7 (.inl k3)];clear hL hm;exact aw
 by_cases k4:v.kind=4
 ·rw[al7 (.inr k4)];clear hL hm;exact aw
 rw[al5 (fun x=>x.elim k3 k4)];have ho:=hm rfl;clear c2 hL hm;rw[<-ho]at ht hr;have hb:t.sto.nodes.length<=2097152:=by rw[ho];exact h.st.bn
 clear ho;have d1:=nh t hb r.block;have d2:=nh t hb t.sto.j.rt;have d3:=nh t hb t.sto.f.rt;have c2:=Em t.sto.nodes ht hr hb (aj t.sto.nodes r.block) v [aj t.sto.nodes t.sto.j.rt,aj t.sto.nodes t.sto.f.rt] true (by show 2<=_;omega);unfold aH nA at c2;simp only[amE,amR]at c2;have hjl:=fun h=>(@sN t.sto.nodes (aj t.sto.nodes r.block) v [aj t.sto.nodes t.sto.j.rt,aj t.sto.nodes t.sto.f.rt] h).1
 generalize iT t.sto.nodes (aj t.sto.nodes r.block) v [aj t.sto.nodes t.sto.j.rt,aj t.sto.nodes t.sto.f.rt]=J at *;obtain⟨J,e⟩:=J;dsimp only at *;unfold aI.a ap.a at d1 d2 d3 c1;refine nx fun H=>?_
 refine dre [4] d1 ?_;refine nx fun H=>?_
 refine dre [4] d2 ?_;refine nx fun H=>?_
 refine dre [4] d3 ?_;refine nx fun H=>?_
 clear d1 d2 d3 c2;by_cases q:e=0
 case neg=>
  rw[al7 q];refine nx fun H=>?_
  exact KL (by first|rfl|exact evd) (by exact evd)
 subst q;rw[al5 WM];have hJ:=hjl rfl;have d1:=nh (ij t (dD t.sto J)) (by show J.length<=_;omega) t.sto.boost;unfold aI.a ap.a ij dD at d1;dsimp only at d1;refine nx fun H=>?_
 refine oce [4] d1 ?_;have b1:=fM J t.sto.boost;have hB:boostV (dD t.sto J)=if 0<=aj J t.sto.boost/\(nod J (aj J t.sto.boost).toNat).status=2 then withB (dD t.sto J) rt0 else dD t.sto J:=rfl
 rw[hB];clear hB d1;generalize aj J t.sto.boost=x at *;by_cases hx:x<0
 ·rw[al5 WL];unfold aI.a ap.a ij dD;exact aw
 ·obtain⟨k,rfl⟩:=ajO (alY.1 hx)
  have hk:k<J.length:=WL
  have ek:((k:Int)).toNat=k:=rfl;rw[ek];by_cases hs:(nod J k).status=2
  ·rw[al7 ⟨WL,hs⟩];unfold aI.a ap.a ij withB dD;exact aw
  ·rw[al5 fun h=>hs h.2];unfold aI.a ap.a ij dD;exact aw
def pD(s:aI)(x:VOp):aI×Int:=if x.kind=6 then iJ s x.vdt else ia s x
theorem Ja(s:aI)(m:Nat)(h:bP s.sto m)(hc:CpA s)(x:VOp)(hx:OpR x)
 (hS:PC Tryz.prog 109 [.agg (aE s.sto.a),.agg (d7 x.slg.a)] (.tup [.agg (aE (ik s.sto x.slg).1.a),.int .i64 (ik s.sto x.slg).2]))
 (hR:PC Tryz.prog 110 [.agg (aE s.sto.a),.agg (ar x.tab.a)] (.tup [.agg (aE (kY s.sto x.tab).1.a),.int .i64 (kY s.sto x.tab).2]))
 (hD:x.kind=1->(gp s.sto).2=0->PC Tryz.prog 105 [.agg (aV (ij s (gp s.sto).1).a)] (.agg (aV (mE (ij s (gp s.sto).1)).a))/\PC Tryz.prog 104 [.agg (aV (mE (ij s (gp s.sto).1)).a)] (.agg (aV (zQ (mE (ij s (gp s.sto).1))).a)))
 (hO:x.kind=2->(di s.sto x.blk).2.2=0->PC Tryz.prog 105 [.agg (aV (ij s (di s.sto x.blk).1).a)] (.agg (aV (mE (ij s (di s.sto x.blk).1)).a))/\PC Tryz.prog 107 [.agg (aV (mE (ij s (di s.sto x.blk).1)).a),.sl 32 false (rows rtc (di s.sto x.blk).2.1)] (.agg (aV (nK (mE (ij s (di s.sto x.blk).1)) (di s.sto x.blk).2.1).a)))
 (hA:x.kind=6->PC Tryz.prog 111 [.agg (aV s.a),.agg (cA x.vdt)] (.tup [.agg (aV (iJ s x.vdt).1.a),.int .i64 (iJ s x.vdt).2])):
 PC Tryz.prog 56 [.agg (aV s.a),.agg (dj x.a)] (.tup [.agg (aV (pD s x).1.a),.int .i64 (pD s x).2]):=by
 refine ae 82 ?_;have c0:=pC s hc;unfold pD;by_cases k6:x.kind=6
 ·rw[al7 k6];have c1:=hA k6;clear hS hR hD hO hA;generalize iJ s x.vdt=T at *;obtain⟨T1,T2⟩:=T;dsimp only at c1 ⊢;exact aw
 rw[al5 k6];unfold ia;by_cases k1:x.kind=1
 ·rw[al7 k1]
  have c1:=TX s.sto m h;have cD:=hD k1;clear hS hR hD hO hA k6;generalize gp s.sto=T at *;obtain⟨T1,T2⟩:=T;dsimp only at c1 cD ⊢;by_cases q:T2=0
  ·subst q;obtain⟨c2,c3⟩:=cD rfl;clear cD;rw[al7 rfl];generalize zQ (mE (ij s T1))=D2 at *;generalize mE (ij s T1)=D1 at *;unfold ij aI.a at c2;exact aw
  ·rw[al5 q];clear cD;unfold ij aI.a;exact aw
 rw[al5 k1];by_cases k2:x.kind=2
 ·rw[al7 k2]
  have c1:=D9 s.sto m h x.blk (hx.blk.up (amc m));have cO:=hO k2;clear hS hR hD hO hA k6 k1;generalize di s.sto x.blk=T at *;obtain⟨T1,T2,T3⟩:=T;dsimp only at c1 cO ⊢;by_cases q:T3=0
  ·subst q;obtain⟨c2,c3⟩:=cO rfl;clear cO;rw[al7 rfl];generalize nK (mE (ij s T1)) T2=D2 at *;generalize mE (ij s T1)=D1 at *;unfold ij aI.a at c2;exact aw
  ·rw[al5 q];clear cO;unfold ij aI.a;exact aw
 rw[al5 k2];clear hD hO hA;by_cases k3:x.kind=3
 ·rw[al7 k3];have c1:=Uo s.sto m h x.att (by have:=hx.att.len;omega);clear hS hR k1 k2 k6;generalize mA s.sto x.att=T at *;obtain⟨T1,T2⟩:=T;dsimp only at c1 ⊢;unfold ij aI.a;exact aw
 rw[al5 k3];by_cases k4:x.kind=4
 ·rw[al7 k4];have c1:=hS;clear hS hR k1 k2 k3 k6;generalize ik s.sto x.slg=T at *;obtain⟨T1,T2⟩:=T;dsimp only at c1 ⊢;unfold ij aI.a;exact aw
 rw[al5 k4];by_cases k5:x.kind=5
 ·rw[al7 k5];have c1:=hR;clear hS hR k1 k2 k3 k4 k6;generalize kY s.sto x.tab=T at *;obtain⟨T1,T2⟩:=T;dsimp only at c1 ⊢;unfold ij aI.a;exact aw
 rw[al5 k5,al5 k6];clear hS hR;exact aw
def OQ(s:aI)(x:VOp):aI×List Cmd×Int:=
 if s.halt=true then (s,[],22)else if vOp (toV x)≠0 then (s,[],vOp (toV x))
 else if (pD s x).2≠0 then (⟨s.sto,s.reqs,s.rets,s.tag,s.sent,s.last,s.over,decide ((pD s x).2=21)⟩,[],(pD s x).2)
 else ((io (pD s x).1).1,(io (pD s x).1).2,0)
theorem CC{fr:Fr}{σ:St}{rs:List gN}{l:List AV}{t:aI}{n:Int}(hl:dH fr σ rs=some l)(hv:fz σ (List.range σ.length) (gk l)=.tup [.agg (aV t.a),.sl 0 true [],.int .i64 n]):PQ rs (.tup [.agg (aV t.a),.sl 96 false (rows AZ []),.int .i64 n]) .ret fr σ:=
 ⟨l,hl,.inr ⟨_,hv,⟨aI.pul _,trivial,trivial,trivial⟩,ada _ (Wk.refl _) (Wk.empty _ _ _)⟩⟩
theorem Jh(s:aI)(hc:CpA s)(x:VOp)(hu:OpU (toV x))
 (hP:PC Tryz.prog 56 [.agg (aV s.a),.agg (dj x.a)] (.tup [.agg (aV (pD s x).1.a),.int .i64 (pD s x).2]))
 (hE:vOp (toV x)=0->(pD s x).2=0->PC Tryz.prog 43 [.agg (aV (pD s x).1.a)] (.tup [.agg (aV (io (pD s x).1).1.a),.sl 96 false (rows AZ (io (pD s x).1).2)])):
 PC Tryz.prog 20 [.agg (aV s.a),.agg (dj x.a)] (.tup [.agg (aV (OQ s x).1.a),.sl 96 false (rows AZ (OQ s x).2.1),.int .i64 (OQ s x).2.2]):=by
 refine ae 8 ?_;have c0:=pC s hc;have c1:=Nc (toV x) hu;rw[RP]at c1;unfold OQ;by_cases q0:s.halt=true
 ·rw[al7 q0];clear hP hE c1;refine nx fun H=>?_
  exact CC (by first|rfl|exact evd) (by first|rfl|exact evd)
 rw[al5 q0];have n0:s.halt=false:=by simpa using q0
 clear q0;by_cases q1:vOp (toV x)=0
 case neg=>
  rw[al7 q1];generalize vOp (toV x)=V at *;clear hP hE;refine nx fun H=>?_
  exact CC (by first|rfl|exact evd) (by first|rfl|exact evd)
 rw[al5 (by simp[q1])];rw[q1]at c1;have hE:=hE q1;clear q1;generalize pD s x=T at *;obtain⟨T1,T2⟩:=T;dsimp only at hP hE ⊢;by_cases q3:T2=0
 case neg=>
  rw[al7 q3];clear hE;by_cases q2:T2=21
  ·subst q2;refine nx fun H=>?_
   exact CC (t:=⟨s.sto,s.reqs,s.rets,s.tag,s.sent,s.last,s.over,true⟩) (by first|rfl|exact evd) (by first|rfl|exact evd)
  ·have e2:=aA q2;rw[e2];refine nx fun H=>?_
   exact CC (t:=⟨s.sto,s.reqs,s.rets,s.tag,s.sent,s.last,s.over,false⟩) (by first|rfl|exact evd) (by first|rfl|exact evd)
 subst q3;rw[al5 WM];have c3:=hE rfl;clear hE;generalize io T1=E at *;obtain⟨E1,E2⟩:=E;dsimp only at c3 ⊢;exact aw
theorem Te{t:List Nod}{i:Int}(h:isN t i=true):(fD t i).2=0\/(fD t i).2=21:=by
 unfold fD;rw[al7 h];split
 ·exact .inl rfl
 ·exact .inr rfl
theorem Kg{t:List Nod}{i:Int}(h:isN t i=true):(kF t i).2=0\/(kF t i).2=21:=by
 unfold kF;rw[al7 h];split
 ·exact .inl rfl
 ·exact .inr rfl
theorem Oz{t:List Nod}(ht:dU t)(i:Int)(L:Rt):(iY t i L).1<t.length:=by
 have hm:=fun x hx=>gu (i:=i) (x:=x) ht.ok hx
 have hg:∀k,k<(AI t i).length->0<=(AI t i).getD k 0/\(AI t i).getD k 0<t.length:=fun k hk=>by
  have:=hm _ (bK (l:=AI t i) 0 hk);omega
 have hp:=ht.pos;unfold iY;split
 ·show (-1:Int)<_;omega
 ·split
  ·split
   ·rename_i k hk;obtain⟨h0,h1⟩:=hg k (fZ hk).1;obtain⟨x,hx⟩:=ajO h0;show (nod t ((AI t i).getD k 0).toNat).up<_
    rw[hx,amw];rcases ajQ x with h|h
    ·subst h;have:=ht.root;omega
    ·have:=(ht.ok x h WL).2;omega
   ·show (-1:Int)<_;omega
  ·split
   ·rename_i k hk;have:=(rr hk).1;exact(hg k WL).2
   ·show (-1:Int)<_;omega
theorem PY{t:List Nod}(ht:dU t){i:Int}(hi:isN t i=true){v:Vdt}(hv:1<=v.kind/\v.kind<=4)(keep:List Int):(iT t i v keep).2=0\/(iT t i v keep).2=21:=by
 have hc:=fun n (hn:i=((n:Nat):Int)) (h:n<t.length)=>Oy ht h v.latest
 have hf:=Oz ht i v.latest;obtain⟨h0,h1⟩:=dR.1 hi;obtain⟨n,rfl⟩:=ajO h0;obtain⟨c,e,hcl,_⟩:=hc n rfl WL;have hC:isN t (iY t n v.latest).2=true:=dR.2 WL;unfold iT;rw[al5 (by simp[hi])];by_cases k1:v.kind=1
 ·rw[al7 k1];exact Te hi
 rw[al5 k1];by_cases k3:v.kind=3\/v.kind=4
 ·rw[al7 k3];exact .inl rfl
 rw[al5 k3,al5 WL];split
 ·exact .inr rfl
 by_cases q6:0<=(iY t n v.latest).1
 ·rw[al7 q6]
  by_cases q7:(fD t (iY t n v.latest).1).2≠0
  ·rw[al7 q7];exact Te (dR.2 ⟨q6,hf⟩)
  ·rw[al5 q7];have h2:=(dU.raise ht (by simpa using q7)).2;exact Kg (dR.2 WL)
 ·rw[al5 q6];exact Kg hC
theorem E0{x:VOp}(h:vOp (toV x)=0)(hk:x.kind=6):1<=x.vdt.kind/\x.vdt.kind<=4:=by
 have h1:(fld (toV x)).2=0:=by
  unfold vOp at h;split at h
  ·cases h
  ·split at h
   ·rename_i h2;exact absurd h h2
   ·rename_i h2;simpa using h2
 unfold fld at h1;rw[al5 (by show ¬x.kind=2;omega),al5 (by show ¬x.kind=3;omega),al5 (by show ¬x.kind=4;omega),al5 (by show ¬x.kind=5;omega),al7 (show (toV x).kind=6 from hk)]at h1;have h2:(if uC x.vdt then (3:Int)else 0)=0:=h1;split at h2
 ·cases h2
 ·rename_i h3;unfold uC at h3;omega
theorem CL{s:aI}(h:CpA s)(ht:dU s.sto.nodes)(hf:kV s){v:Vdt}(hv:1<=v.kind/\v.kind<=4):
 ((iJ s v).2=0/\ky s v=((iJ s v).1,0))\/((iJ s v).2=21/\ky s v=(⟨s.sto,s.reqs,s.rets,s.tag,s.sent,s.last,s.over,true⟩,21))\/((iJ s v).2≠0/\(iJ s v).2≠21/\(ky s v)=(s,(iJ s v).2)):=by
 by_cases q1:(cz s v).2.2≠0
 ·have eA:iJ s v=(li,(cz s v).2.2):=by unfold iJ;rw[al7 q1]
  have eV:ky s v=(s,(cz s v).2.2):=by unfold ky;rw[al7 q1]
  rw[eA,eV];refine .inr (.inr ⟨q1,?_,rfl⟩);show (cz s v).2.2≠21
  unfold cz;split
  ·exact(by decide:(0:Int)≠21)
  ·exact(by decide:(23:Int)≠21)
 by_cases q2:v.kind=3\/v.kind=4
 ·have eA:iJ s v=(lO (cz s v).2.1 (cz s v).1,0):=by unfold iJ;rw[al5 q1,al7 q2]
  have eV:ky s v=(lO (cz s v).2.1 (cz s v).1,0):=by unfold ky;rw[al5 q1,al7 q2]
  rw[eA,eV];exact .inl ⟨rfl,rfl⟩
 have e0:(cz s v).2.2=0:=by simpa using q1
 have hs:=qj e0
 have hin:0<=aj s.sto.nodes (cz s v).1.block:=by
  unfold cz at e0 ⊢;split at e0
  ·rename_i i hi;exact hf.q _ (pM (fZ hi).1)
  ·cases e0
 have hc:(judgeV (cz s v).2.1.sto (cz s v).1.block v).2=0\/(judgeV (cz s v).2.1.sto (cz s v).1.block v).2=21:=by
  unfold judgeV;rw[hs];exact PY ht (dR.2 ⟨hin,(fM _ _).2⟩) hv _
 by_cases q3:(judgeV (cz s v).2.1.sto (cz s v).1.block v).2≠0
 ·have eA:iJ s v=(li,(judgeV (cz s v).2.1.sto (cz s v).1.block v).2):=by unfold iJ;rw[al5 q1,al5 q2,al7 q3]
  have eV:ky s v=(⟨s.sto,s.reqs,s.rets,s.tag,s.sent,s.last,s.over,true⟩,21):=by unfold ky;rw[al5 q1,al5 q2,al7 q3]
  rw[eA,eV];exact .inr (.inl ⟨hc.resolve_left q3,rfl⟩)
 ·have eV:ky s v=((iJ s v).1,0)/\(iJ s v).2=0:=by unfold ky iJ;rw[al5 q1,al5 q2,al5 q3,al5 q1,al5 q2,al5 q3];exact⟨rfl,rfl⟩
  exact .inl ⟨eV.2,eV.1⟩
theorem QE{s:aI}(h:CpA s)(ht:dU s.sto.nodes)(hf:kV s)(x:VOp):OQ s x=kl s x:=by
 unfold OQ kl;by_cases q0:s.halt=true
 ·rw[al7 q0,al7 q0]
 rw[al5 q0,al5 q0];have n0:s.halt=false:=by simpa using q0
 by_cases q1:vOp (toV x)≠0
 ·rw[al7 q1,al7 q1]
 rw[al5 q1,al5 q1]
 have hd:∀e:Int,e≠21->(⟨s.sto,s.reqs,s.rets,s.tag,s.sent,s.last,s.over,decide (e=21)⟩:aI)=s:=fun e he=>by
  rw[aA he,<-n0]
 unfold pD;by_cases k6:x.kind=6
 ·have e6:ia s x=ky s x.vdt:=by
   unfold ia;rw[al5 WL,al5 WL,al5 WL,al5 WL,al5 WL,al7 k6]
  rw[al7 k6,e6];rcases CL h ht hf (E0 (by simpa using q1) k6)with⟨a,b⟩|⟨a,b⟩|⟨a,b,c⟩
  ·rw[b,a];rfl
  ·rw[b,a];rfl
  ·rw[c,al7 a,al5 b,al7 a,hd _ b]
 ·rw[al5 k6];have n21:(ia s x).2≠21:=fun e=>k6 (KH e).1
  rw[al5 n21];by_cases q2:(ia s x).2≠0
  ·rw[al7 q2,al7 q2,hd _ n21]
  ·rw[al5 q2,al5 q2]
theorem j6.ply{s:aI}{i:Nat}(h:j6 s i){l:List VOp}(hl:∀x∈l,OpG x):∀k,k<=l.length->i+k<=40->j6 (eM s l k).1 (i+k)
 |0,_,_=>h
 |k+1,h1,h2=>(j6.ply h hl k WL WL).step WL (hl _ (KG WL))
theorem j6.play{s:aI}{i:Nat}(h:j6 s i){l:List VOp}(hl:∀x∈l,OpG x)(hi:i+l.length<=40):j6 (xf s l).1 (i+l.length):=h.ply hl _ (amb _) hi
theorem j6.cp{s:aI}{i:Nat}(h:j6 s i):CpA s:=⟨h.a.sto.cp,by have:=h.a.rq;have:=h.a.sto.ii;omega,by have:=h.a.yl;omega⟩
theorem R7{l:List Int}(h:∀x∈l,0<=x)(h2:(EI l).2=0):0<=(EI l).1:=by
 have key:∀n,(dN l n).2=0->0<=(dN l n).1:=by
  intro n;induction n with
  |zero=>exact fun _=>amr _
  | succ n ih =>
    intro h3;have e:dN l (n+1)=if (dN l n).2≠0 then dN l n else FA (dN l n).1 (l.getD n 0):=rfl
    rw[e]at h3 ⊢;split at h3
    ·rename_i h4;exact absurd h3 h4
    ·rename_i h4;rw[al5 h4];unfold FA at h3 ⊢;split at h3
     ·cases h3
     ·rename_i h5;rw[al5 h5];exact(ce _).1
 exact key _ h2
theorem StV.hd{s:ap}(h:StV s)(hb:s.nodes.length<=2097152)(hl:s.cfg.bals.length<=1024)(hq:s.eqv.length<=2097152)(hbo:0<=s.cfg.boost)(hB:qP s)(ht:s.tabs.length<=2097152):HdR s:=by
 obtain⟨⟨s1,s2⟩,_⟩:=Qb h.w.ne
 have hb2:s.cfg.boost<=100:=by
  have hn:=h.w.ne;unfold ib at hn;by_cases q0:s.cfg.spe<1
  ·omega
  rw[al5 q0]at hn;by_cases q1:64<s.cfg.spe
  ·omega
  rw[al5 q1]at hn;by_cases q2:100<s.cfg.boost
  ·rw[al7 q2]at hn;cases hn
  ·omega
 obtain⟨t,m,e⟩:=h.w.tj
 have hj:0<=dJ s.tabs s.j:=by
  unfold dJ;cases hf:dW (fun i=>decide ((tab s.tabs i).cp=s.j)) s.tabs.length with
  |some k=>exact Int.natCast_nonneg k
  | none =>
    obtain⟨k,hk,rfl⟩:=amJ m;have:=iL hf k hk;have e2:tab s.tabs k=s.tabs[k]:=by unfold tab;rw[alt,al6 hk];rfl
    rw[e2,e]at this;simp at this
 have hbt:∃u∈s.tabs,TK s=u.bals:=by
  have b1:=HN s.tabs s.j;unfold TK;rw[al5 WL];exact⟨_,bK _ WL,rfl⟩
 obtain⟨u,hu,eu⟩:=hbt;have hv:=h.w.tv.1 u hu
 have hv1:(u.bals.length:Int)=s.cfg.bals.length/\(EI u.bals).2=0/\(EI u.bals).1<=4611686018427387904:=by
  unfold gh at hv;split at hv
  ·cases hv
  ·rename_i h1
   split at hv
   ·cases hv
   ·rename_i h2;simp only[not_or,ajT,Decidable.not_not]at h1 h2;exact⟨h1,h2.1,WL⟩
 have hds:∀i j,i<s.nodes.length->j<s.nodes.length->(nod s.nodes i).blk.root=(nod s.nodes j).blk.root->i=j:=fun i j hi hj he=>by
  rcases alb i j with h1|h1|h1
  ·exact absurd he (h.w.tree.ds i j h1 hj)
  ·exact h1
  ·exact absurd he.symm (h.w.tree.ds j i h1 hi)
 have hp:s.eqv.Pairwise (· < ·):=by
  rcases h.w.qv with h1|h1
  ·rw[h1];exact List.Pairwise.nil
  ·exact(Df h1).2
 have hll:=h.w.ll;exact⟨h.w.tree.r,⟨s1,s2⟩,⟨hbo,hb2⟩,hds,hb,WL,hp,hq,ht,hj,by rw[eu];omega,by rw[eu];exact⟨hv1.2.1,R7 (fun x hx=>(hB.tb u hu x hx).1) hv1.2.1,hv1.2.2⟩,h.w.jf⟩
theorem j6.hd{s:aI}{i:Nat}(h:j6 s i):HdR s.sto:=by
 have a:=h.a.sto;have:=a.nn;have:=a.tt;have:=a.qq;have:=a.ii;have:=a.cfg.b1;exact h.v.hd WL WL WL h.w.bo h.b WL
theorem fQ.cp{s:aI}{i:Nat}(h:fQ s i):CpA s:=⟨h.sto.cp,by have:=h.rq;have:=h.sto.ii;omega,by have:=h.yl;omega⟩
theorem So{l:List Req}(h:l.Pairwise fun a b=>gC a b=true):∀i j,i<j->j<l.length->(bm l i).due<=(bm l j).due:=fun i j h1 h2=>by
 have:=ajW.1 h i j WL h2 h1;rw[yS]at this;unfold bm;rw[alt,alt,al6 h2,al6 (show i<l.length by omega)];dsimp only[Option.getD_some];omega
theorem j6.emp{s:aI}{i:Nat}(h:j6 s i)(hi:i<40){x:VOp}(hx:OpE x)(h2:(ia s x).2=0):fQ (ia s x).1 (i+1)/\HdR (ia s x).1.sto:=by
 have a:=h.a.perf hi hx.r (.inl h2);have v:=h.v.perf h.a.sto hx.r (.inl h2);have b:=h.b.perf (fun y hy=>by have:=hx.u.tab.all y hy;exact⟨this.lo,this.hi⟩) (.inl h2);have w:=(h.w.perf h.f WL WL WL h.a h.v hx.r (.inl h2)).1;have:=a.sto.nn;have:=a.sto.tt;have:=a.sto.qq;have:=a.sto.ii;have:=a.sto.cfg.b1;exact⟨a,v.hd WL WL WL w.bo b WL⟩
theorem zg(s:aI)(h:CpA s)(hd:HdR s.sto):PC Tryz.prog 43 [.agg (aV s.a)] (.tup [.agg (aV (io s).1.a),.sl 96 false (rows AZ (io s).2)]):=H3 s h (zY s.sto hd (o8 s.sto hd))
theorem Od{s:aI}{i:Nat}(h:j6 s i)(hi:i<40){x:VOp}(hx:OpE x):PC Tryz.prog 56 [.agg (aV s.a),.agg (dj x.a)] (.tup [.agg (aV (pD s x).1.a),.int .i64 (pD s x).2]):=by
 have hr:=h.a.rq;have hy:=h.a.yl;have hu:∀y∈x.tab.bals,0<=y/\y<18446744073709551616:=fun y hy=>by have:=hx.u.tab.all y hy;exact⟨this.lo,this.hi⟩
 have hdr:∀t:ap,bP t i->CpA (ij s t)/\CpA (mE (ij s t))/\(mE (ij s t)).reqs.length<=10*i/\(mE (ij s t)).rets.length<=3/\(mE (ij s t)).rets.Pairwise (fun a b=>gC a b=true):=fun t ht=>by
  have k1:=(pW t.nodes s.reqs).1;have k2:=(pW t.nodes s.rets).1;refine⟨⟨ht.cp,by show s.reqs.length<=_;omega,by show s.rets.length<=_;omega⟩,⟨ht.cp,?_,?_⟩,?_,?_,h.w.y1.sublist (nG _ _).1⟩
  ·show (mm t.nodes s.reqs).length<=_;omega
  ·show (mm t.nodes s.rets).length<=_;omega
  ·show (mm t.nodes s.reqs).length<=_;omega
  ·show (mm t.nodes s.rets).length<=_;omega
 refine Ja s i h.a.sto h.cp x hx.r ?_ ?_ (fun _ e=>?_) (fun _ e=>?_) (fun _=>?_)
 ·exact EM s.sto i h.a.sto h.hd.qq x.slg (by have:=hx.r.fst;omega) (by have:=hx.r.snd;omega)
 ·exact Om s.sto i h.a.sto h.v.w.tv x.tab (by have:=hx.r.tab;omega) hu
 ·obtain⟨a,b,c,d,e⟩:=hdr _ (h.a.sto.tick e);exact⟨xc _ a,N1 _ b WL (So e)⟩
 ·obtain⟨q,hq⟩:=h.a.sto.block (hx.r.blk.up (amc i)) e;obtain⟨a,b,c,d,_⟩:=hdr _ q;exact⟨xc _ a,IV _ b _ _ WL⟩
 ·refine NH s h.cp h.a.sto.tree h.v.w.tree.r0 x.vdt fun e=>?_
  obtain⟨m1,m2,m3,m4,m5,m6⟩:=h.w.mat h.f e;have hm:=qj e;have hq:=h.w.q2 _ m3;have hb:=Cu h.v.w.ne;exact Eo _ (h.a.mat e).cp _ hq.2.2.2.1 WL (by rw[hm];omega) (by rw[hm];omega) (by rw[m5];exact h.w.y1) (by rw[m5];exact fun y hy=>h.w.y3 _ m3 y hy)
theorem xB{s:aI}{i:Nat}(h:j6 s i)(hi:i<40){x:VOp}(hx:OpE x):PC Tryz.prog 20 [.agg (aV s.a),.agg (dj x.a)] (.tup [.agg (aV (kl s x).1.a),.sl 96 false (rows AZ (kl s x).2.1),.int .i64 (kl s x).2.2]):=by
 rw[<-QE h.cp h.a.sto.tree h.f x];refine Jh s h.cp x hx.u (Od h hi hx) fun hv e=>?_
 have key:(ia s x).2=0/\(ia s x).1=(pD s x).1:=by
  unfold pD at e ⊢;by_cases k6:x.kind=6
  ·rw[al7 k6]at e ⊢
   have e6:ia s x=ky s x.vdt:=by
    unfold ia;rw[al5 WL,al5 WL,al5 WL,al5 WL,al5 WL,al7 k6]
   rw[e6];rcases CL h.cp h.a.sto.tree h.f (E0 hv k6)with⟨a,b⟩|⟨a,b⟩|⟨a,b,c⟩
   ·rw[b];exact⟨rfl,rfl⟩
   ·rw[a]at e;cases e
   ·exact absurd e a
  ·rw[al5 k6]at e ⊢;exact⟨e,rfl⟩
 obtain⟨a,d⟩:=h.emp hi hx key.1;rw[key.2]at a d;exact zg _ a.cp d
theorem rQ{s:aI}{i:Nat}(h:j6 s i)(hi:i<40){x:VOp}(hx:OpG x):PC Tryz.prog 20 [.agg (aV s.a),.agg (dj x.a)] (.tup [.agg (aV (kl s x).1.a),.sl 96 false (rows AZ (kl s x).2.1),.int .i64 (kl s x).2.2]):=xB h hi hx.e
end Go.Proofs.YtmpddimhleianaaGreat
