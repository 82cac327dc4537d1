/- Joined. -/
import Derived.Test.YtmpddimhleianaaGreatE3v
import Derived.Test.YtmpddimhleianaaGreatR1v
import Derived.Test.YtmpddimhleianaaGreatP5v
import Derived.Test.YtmpddimhleianaaGreatE2v
import Derived.Test.YtmpddimhleianaaGreatS2v
import Derived.Test.YtmpddimhleianaaGreatT1v
import Derived.Test.YtmpddimhleianaaGreatT9v
import Derived.Test.YtmpddimhleianaaGreatU1v
import Derived.Test.YtmpddimhleianaaGreatE4v
import Derived.Test.YtmpddimhleianaaGreatV2v
import Derived.Test.YtmpddimhleianaaGreatT4v
import Derived.Test.YtmpddimhleianaaGreatE5v
import Derived.Test.YtmpddimhleianaaGreatQ2v
set_option linter.unusedVariables false
set_option linter.unusedSimpArgs false
set_option maxRecDepth 8000
set_option maxHeartbeats 4000000
namespace Go.Proofs.YtmpddimhleianaaGreat
open Go Go.FH Go.RowKit
theorem sW(S:al)(hb:S.sto.nodes.length<=2097152)(x:Rt):aJ Tryz.prog 192 [.agg (rtc x),.ptr 0 0] [.var (aG S.a)] (.int .i64 (ab S.sto.nodes x)) [.var (aG S.a)]:=by
 refine cZ 4 ?_;have c1:=dW S.sto.nodes x hb;unfold al.a af.a;exact aw
def oB(s:al)(v:Vdt):al×Int:=
 if (aL s v).2.2≠0 then (xz,(aL s v).2.2)else if v.kind=3\/v.kind=4 then (gZ (aL s v).2.1 (aL s v).1,0)
 else if (judgeV (aL s v).2.1.sto (aL s v).1.block v).2≠0 then (xz,(judgeV (aL s v).2.1.sto (aL s v).1.block v).2)
 else (cy (aL s v).2.1 (boostV (bQ (aL s v).2.1.sto (judgeV (aL s v).2.1.sto (aL s v).1.block v).1)),0)
theorem OM{fr:Fr}{σ:St}{rs:List fS}{l:List AV}{n:Int}(hl:dy fr σ rs=some l)(hv:fz σ (List.range σ.length) (fJ l)=.tup [.agg (aG mB),.int .i64 n]):PQ rs (.tup [.agg (aG xz.a),.int .i64 n]) .ret fr σ:=
 ⟨l,hl,.inr ⟨_,hv,⟨vu,trivial,trivial⟩,Wk.tup ⟨AG,Wk.refl _,trivial⟩⟩⟩
theorem QP(s:al)(h:CpA s)(ht:bk s.sto.nodes)(hr:(nod s.sto.nodes 0).up=-1)(v:Vdt)
 (hL:(aL s v).2.2=0->PC Tryz.prog 191 [.agg (aG (aL s v).2.1.a),.agg (ay (aL s v).1)] (.agg (aG (gZ (aL s v).2.1 (aL s v).1).a))):
 PC Tryz.prog 111 [.agg (aG s.a),.agg (dZ v)] (.tup [.agg (aG (oB s v).1.a),.int .i64 (oB s v).2]):=by
 refine aQ 11 ?_;have c1:=Kz s h v;have hm:=@j8 s v;unfold oB judgeV;generalize aL s v=M at *;obtain⟨r,t,e⟩:=M;dsimp only at *;by_cases q:e=0
 case neg=>
  rw[afA q];clear hL hm;refine nx fun H=>?_
  exact OM (by first|rfl|exact evd) (by exact evd)
 subst q;have c2:=hL rfl;rw[afx af1];by_cases k3:v.kind=3
 ·rw[afA (.inl k3)];clear hL hm;exact aw
 by_cases k4:v.kind=4
 ·rw[afA (.inr k4)];clear hL hm;exact aw
 rw[afx (fun x=>x.elim k3 k4)];have ho:=hm rfl;clear c2 hL hm;rw[<-ho]at ht hr;have hb:t.sto.nodes.length<=2097152:=by rw[ho];exact h.st.bn
 clear ho;have d1:=sW t hb r.block;have d2:=sW t hb t.sto.j.rt;have d3:=sW t hb t.sto.f.rt;have c2:=Ku t.sto.nodes ht hr hb (ab t.sto.nodes r.block) v [ab t.sto.nodes t.sto.j.rt,ab t.sto.nodes t.sto.f.rt] true (by show 2<=_;omega);unfold ah nA at c2;simp only[acv,acX]at c2;have hjl:=fun h=>(@pN t.sto.nodes (ab t.sto.nodes r.block) v [ab t.sto.nodes t.sto.j.rt,ab t.sto.nodes t.sto.f.rt] h).1
 generalize dR t.sto.nodes (ab t.sto.nodes r.block) v [ab t.sto.nodes t.sto.j.rt,ab t.sto.nodes t.sto.f.rt]=J at *;obtain⟨J,e⟩:=J;dsimp only at *;unfold al.a af.a at d1 d2 d3 c1;refine nx fun H=>?_
 refine dre [4] d1 ?_;refine nx fun H=>?_
 refine dre [4] d2 ?_;refine nx fun H=>?_
 refine dre [4] d3 ?_;refine nx fun H=>?_
 clear d1 d2 d3 c2;by_cases q:e=0
 case neg=>
  rw[afA q];refine nx fun H=>?_
  exact OM (by first|rfl|exact evd) (by exact evd)
 subst q;rw[afx af1];have hJ:=hjl rfl;have d1:=sW (cy t (bQ t.sto J)) (by show J.length<=_;omega) t.sto.boost;unfold al.a af.a cy bQ at d1;dsimp only at d1;refine nx fun H=>?_
 refine oce [4] d1 ?_;have b1:=dl J t.sto.boost;have hB:boostV (bQ t.sto J)=if 0<=ab J t.sto.boost/\(nod J (ab J t.sto.boost).toNat).status=2 then withB (bQ t.sto J) rt0 else bQ t.sto J:=rfl
 rw[hB];clear hB d1;generalize ab J t.sto.boost=x at *;by_cases hx:x<0
 ·rw[afx af0];unfold al.a af.a cy bQ;exact aw
 ·obtain⟨k,rfl⟩:=afF (ac8.1 hx)
  have hk:k<J.length:=af0
  have ek:((k:Int)).toNat=k:=rfl;rw[ek];by_cases hs:(nod J k).status=2
  ·rw[afA ⟨af0,hs⟩];unfold al.a af.a cy withB bQ;exact aw
  ·rw[afx fun h=>hs h.2];unfold al.a af.a cy bQ;exact aw
def pU(s:al)(x:VOp):al×Int:=if x.kind=6 then oB s x.vdt else de s x
theorem M9(s:al)(m:Nat)(h:bi s.sto m)(hc:CpA s)(x:VOp)(hx:OpR x)
 (hS:PC Tryz.prog 109 [.agg (ak s.sto.a),.agg (dU x.slg.a)] (.tup [.agg (ak (d7 s.sto x.slg).1.a),.int .i64 (d7 s.sto x.slg).2]))
 (hR:PC Tryz.prog 110 [.agg (ak s.sto.a),.agg (bE x.tab.a)] (.tup [.agg (ak (iL s.sto x.tab).1.a),.int .i64 (iL s.sto x.tab).2]))
 (hD:x.kind=1->(dF s.sto).2=0->PC Tryz.prog 105 [.agg (aG (cy s (dF s.sto).1).a)] (.agg (aG (fE (cy s (dF s.sto).1)).a))/\PC Tryz.prog 104 [.agg (aG (fE (cy s (dF s.sto).1)).a)] (.agg (aG (tK (fE (cy s (dF s.sto).1))).a)))
 (hO:x.kind=2->(bR s.sto x.blk).2.2=0->PC Tryz.prog 105 [.agg (aG (cy s (bR s.sto x.blk).1).a)] (.agg (aG (fE (cy s (bR s.sto x.blk).1)).a))/\PC Tryz.prog 107 [.agg (aG (fE (cy s (bR s.sto x.blk).1)).a),.sl 32 false (rows rtc (bR s.sto x.blk).2.1)] (.agg (aG (jT (fE (cy s (bR s.sto x.blk).1)) (bR s.sto x.blk).2.1).a)))
 (hA:x.kind=6->PC Tryz.prog 111 [.agg (aG s.a),.agg (dZ x.vdt)] (.tup [.agg (aG (oB s x.vdt).1.a),.int .i64 (oB s x.vdt).2])):
 PC Tryz.prog 56 [.agg (aG s.a),.agg (cG x.a)] (.tup [.agg (aG (pU s x).1.a),.int .i64 (pU s x).2]):=by
 refine aQ 82 ?_;have c0:=sY s hc;unfold pU;by_cases k6:x.kind=6
 ·rw[afA k6];have c1:=hA k6;clear hS hR hD hO hA;generalize oB s x.vdt=T at *;obtain⟨T1,T2⟩:=T;dsimp only at c1 ⊢;exact aw
 rw[afx k6];unfold de;by_cases k1:x.kind=1
 ·rw[afA k1]
  have c1:=Nj s.sto m h;have cD:=hD k1;clear hS hR hD hO hA k6;generalize dF s.sto=T at *;obtain⟨T1,T2⟩:=T;dsimp only at c1 cD ⊢;by_cases q:T2=0
  ·subst q;obtain⟨c2,c3⟩:=cD rfl;clear cD;rw[afA rfl];generalize tK (fE (cy s T1))=D2 at *;generalize fE (cy s T1)=D1 at *;unfold cy al.a at c2;exact aw
  ·rw[afx q];clear cD;unfold cy al.a;exact aw
 rw[afx k1];by_cases k2:x.kind=2
 ·rw[afA k2]
  have c1:=Kn s.sto m h x.blk (hx.blk.up (afK m));have cO:=hO k2;clear hS hR hD hO hA k6 k1;generalize bR s.sto x.blk=T at *;obtain⟨T1,T2,T3⟩:=T;dsimp only at c1 cO ⊢;by_cases q:T3=0
  ·subst q;obtain⟨c2,c3⟩:=cO rfl;clear cO;rw[afA rfl];generalize jT (fE (cy s T1)) T2=D2 at *;generalize fE (cy s T1)=D1 at *;unfold cy al.a at c2;exact aw
  ·rw[afx q];clear cO;unfold cy al.a;exact aw
 rw[afx k2];clear hD hO hA;by_cases k3:x.kind=3
 ·rw[afA k3];have c1:=QQ s.sto m h x.att (by have:=hx.att.len;omega);clear hS hR k1 k2 k6;generalize kH s.sto x.att=T at *;obtain⟨T1,T2⟩:=T;dsimp only at c1 ⊢;unfold cy al.a;exact aw
 rw[afx k3];by_cases k4:x.kind=4
 ·rw[afA k4];have c1:=hS;clear hS hR k1 k2 k3 k6;generalize d7 s.sto x.slg=T at *;obtain⟨T1,T2⟩:=T;dsimp only at c1 ⊢;unfold cy al.a;exact aw
 rw[afx k4];by_cases k5:x.kind=5
 ·rw[afA k5];have c1:=hR;clear hS hR k1 k2 k3 k4 k6;generalize iL s.sto x.tab=T at *;obtain⟨T1,T2⟩:=T;dsimp only at c1 ⊢;unfold cy al.a;exact aw
 rw[afx k5,afx k6];clear hS hR;exact aw
def R4(s:al)(x:VOp):al×List Cmd×Int:=
 if s.halt=true then (s,[],22)else if vOp (toV x)≠0 then (s,[],vOp (toV x))
 else if (pU s x).2≠0 then (⟨s.sto,s.reqs,s.rets,s.tag,s.sent,s.last,s.over,decide ((pU s x).2=21)⟩,[],(pU s x).2)
 else ((dC (pU s x).1).1,(dC (pU s x).1).2,0)
theorem HZ{fr:Fr}{σ:St}{rs:List fS}{l:List AV}{t:al}{n:Int}(hl:dy fr σ rs=some l)(hv:fz σ (List.range σ.length) (fJ l)=.tup [.agg (aG t.a),.sl 0 true [],.int .i64 n]):PQ rs (.tup [.agg (aG t.a),.sl 96 false (rows bH []),.int .i64 n]) .ret fr σ:=
 ⟨l,hl,.inr ⟨_,hv,⟨al.pul _,trivial,trivial,trivial⟩,N1 _ (Wk.refl _) (Wk.empty _ _ _)⟩⟩
theorem Nh(s:al)(hc:CpA s)(x:VOp)(hu:OpU (toV x))
 (hP:PC Tryz.prog 56 [.agg (aG s.a),.agg (cG x.a)] (.tup [.agg (aG (pU s x).1.a),.int .i64 (pU s x).2]))
 (hE:vOp (toV x)=0->(pU s x).2=0->PC Tryz.prog 43 [.agg (aG (pU s x).1.a)] (.tup [.agg (aG (dC (pU s x).1).1.a),.sl 96 false (rows bH (dC (pU s x).1).2)])):
 PC Tryz.prog 20 [.agg (aG s.a),.agg (cG x.a)] (.tup [.agg (aG (R4 s x).1.a),.sl 96 false (rows bH (R4 s x).2.1),.int .i64 (R4 s x).2.2]):=by
 refine aQ 8 ?_;have c0:=sY s hc;have c1:=NU (toV x) hu;rw[XF]at c1;unfold R4;by_cases q0:s.halt=true
 ·rw[afA q0];clear hP hE c1;refine nx fun H=>?_
  exact HZ (by first|rfl|exact evd) (by first|rfl|exact evd)
 rw[afx q0];have n0:s.halt=false:=by simpa using q0
 clear q0;by_cases q1:vOp (toV x)=0
 case neg=>
  rw[afA q1];generalize vOp (toV x)=V at *;clear hP hE;refine nx fun H=>?_
  exact HZ (by first|rfl|exact evd) (by first|rfl|exact evd)
 rw[afx (by simp[q1])];rw[q1]at c1;have hE:=hE q1;clear q1;generalize pU s x=T at *;obtain⟨T1,T2⟩:=T;dsimp only at hP hE ⊢;by_cases q3:T2=0
 case neg=>
  rw[afA q3];clear hE;by_cases q2:T2=21
  ·subst q2;refine nx fun H=>?_
   exact HZ (t:=⟨s.sto,s.reqs,s.rets,s.tag,s.sent,s.last,s.over,true⟩) (by first|rfl|exact evd) (by first|rfl|exact evd)
  ·have e2:=aD q2;rw[e2];refine nx fun H=>?_
   exact HZ (t:=⟨s.sto,s.reqs,s.rets,s.tag,s.sent,s.last,s.over,false⟩) (by first|rfl|exact evd) (by first|rfl|exact evd)
 subst q3;rw[afx af1];have c3:=hE rfl;clear hE;generalize dC T1=E at *;obtain⟨E1,E2⟩:=E;dsimp only at c3 ⊢;exact aw
theorem KH{t:List Nod}{i:Int}(h:isN t i=true):(bL t i).2=0\/(bL t i).2=21:=by
 unfold bL;rw[afA h];split
 ·exact .inl rfl
 ·exact .inr rfl
theorem Od{t:List Nod}{i:Int}(h:isN t i=true):(fg t i).2=0\/(fg t i).2=21:=by
 unfold fg;rw[afA h];split
 ·exact .inl rfl
 ·exact .inr rfl
theorem Rk{t:List Nod}(ht:bk t)(i:Int)(L:Rt):(dh t i L).1<t.length:=by
 have hm:=fun x hx=>dL (i:=i) (x:=x) ht.ok hx
 have hg:∀k,k<(aZ t i).length->0<=(aZ t i).getD k 0/\(aZ t i).getD k 0<t.length:=fun k hk=>by
  have:=hm _ (cR (l:=aZ t i) 0 hk);omega
 have hp:=ht.pos;unfold dh;split
 ·show (-1:Int)<_;omega
 ·split
  ·split
   ·rename_i k hk;obtain⟨h0,h1⟩:=hg k (cJ hk).1;obtain⟨x,hx⟩:=afF h0;show (nod t ((aZ t i).getD k 0).toNat).up<_
    rw[hx,afH];rcases acF x with h|h
    ·subst h;have:=ht.root;omega
    ·have:=(ht.ok x h af0).2;omega
   ·show (-1:Int)<_;omega
  ·split
   ·rename_i k hk;have:=(ye hk).1;exact(hg k af0).2
   ·show (-1:Int)<_;omega
theorem Uz{t:List Nod}(ht:bk t){i:Int}(hi:isN t i=true){v:Vdt}(hv:1<=v.kind/\v.kind<=4)(keep:List Int):(dR t i v keep).2=0\/(dR t i v keep).2=21:=by
 have hc:=fun n (hn:i=((n:Nat):Int)) (h:n<t.length)=>Gp ht h v.latest
 have hf:=Rk ht i v.latest;obtain⟨h0,h1⟩:=ez.1 hi;obtain⟨n,rfl⟩:=afF h0;obtain⟨c,e,hcl,_⟩:=hc n rfl af0;have hC:isN t (dh t n v.latest).2=true:=ez.2 af0;unfold dR;rw[afx (by simp[hi])];by_cases k1:v.kind=1
 ·rw[afA k1];exact KH hi
 rw[afx k1];by_cases k3:v.kind=3\/v.kind=4
 ·rw[afA k3];exact .inl rfl
 rw[afx k3,afx af0];split
 ·exact .inr rfl
 by_cases q6:0<=(dh t n v.latest).1
 ·rw[afA q6]
  by_cases q7:(bL t (dh t n v.latest).1).2≠0
  ·rw[afA q7];exact KH (ez.2 ⟨q6,hf⟩)
  ·rw[afx q7];have h2:=(bk.raise ht (by simpa using q7)).2;exact Od (ez.2 af0)
 ·rw[afx q6];exact Od hC
theorem Lp{x:VOp}(h:vOp (toV x)=0)(hk:x.kind=6):1<=x.vdt.kind/\x.vdt.kind<=4:=by
 have h1:(fld (toV x)).2=0:=by
  unfold vOp at h;split at h
  ·cases h
  ·split at h
   ·rename_i h2;exact absurd h h2
   ·rename_i h2;simpa using h2
 unfold fld at h1;rw[afx (by show ¬x.kind=2;omega),afx (by show ¬x.kind=3;omega),afx (by show ¬x.kind=4;omega),afx (by show ¬x.kind=5;omega),afA (show (toV x).kind=6 from hk)]at h1;have h2:(if rx x.vdt then (3:Int)else 0)=0:=h1;split at h2
 ·cases h2
 ·rename_i h3;unfold rx at h3;omega
theorem Je{s:al}(h:CpA s)(ht:bk s.sto.nodes)(hf:kl s){v:Vdt}(hv:1<=v.kind/\v.kind<=4):
 ((oB s v).2=0/\eg s v=((oB s v).1,0))\/((oB s v).2=21/\eg s v=(⟨s.sto,s.reqs,s.rets,s.tag,s.sent,s.last,s.over,true⟩,21))\/((oB s v).2≠0/\(oB s v).2≠21/\(eg s v)=(s,(oB s v).2)):=by
 by_cases q1:(aL s v).2.2≠0
 ·have eA:oB s v=(xz,(aL s v).2.2):=by unfold oB;rw[afA q1]
  have eV:eg s v=(s,(aL s v).2.2):=by unfold eg;rw[afA q1]
  rw[eA,eV];refine .inr (.inr ⟨q1,?_,rfl⟩);show (aL s v).2.2≠21
  unfold aL;split
  ·exact(by decide:(0:Int)≠21)
  ·exact(by decide:(23:Int)≠21)
 by_cases q2:v.kind=3\/v.kind=4
 ·have eA:oB s v=(gZ (aL s v).2.1 (aL s v).1,0):=by unfold oB;rw[afx q1,afA q2]
  have eV:eg s v=(gZ (aL s v).2.1 (aL s v).1,0):=by unfold eg;rw[afx q1,afA q2]
  rw[eA,eV];exact .inl ⟨rfl,rfl⟩
 have e0:(aL s v).2.2=0:=by simpa using q1
 have hs:=j8 e0
 have hin:0<=ab s.sto.nodes (aL s v).1.block:=by
  unfold aL at e0 ⊢;split at e0
  ·rename_i i hi;exact hf.q _ (lc (cJ hi).1)
  ·cases e0
 have hc:(judgeV (aL s v).2.1.sto (aL s v).1.block v).2=0\/(judgeV (aL s v).2.1.sto (aL s v).1.block v).2=21:=by
  unfold judgeV;rw[hs];exact Uz ht (ez.2 ⟨hin,(dl _ _).2⟩) hv _
 by_cases q3:(judgeV (aL s v).2.1.sto (aL s v).1.block v).2≠0
 ·have eA:oB s v=(xz,(judgeV (aL s v).2.1.sto (aL s v).1.block v).2):=by unfold oB;rw[afx q1,afx q2,afA q3]
  have eV:eg s v=(⟨s.sto,s.reqs,s.rets,s.tag,s.sent,s.last,s.over,true⟩,21):=by unfold eg;rw[afx q1,afx q2,afA q3]
  rw[eA,eV];exact .inr (.inl ⟨hc.resolve_left q3,rfl⟩)
 ·have eV:eg s v=((oB s v).1,0)/\(oB s v).2=0:=by unfold eg oB;rw[afx q1,afx q2,afx q3,afx q1,afx q2,afx q3];exact⟨rfl,rfl⟩
  exact .inl ⟨eV.2,eV.1⟩
theorem Wa{s:al}(h:CpA s)(ht:bk s.sto.nodes)(hf:kl s)(x:VOp):R4 s x=bV s x:=by
 unfold R4 bV;by_cases q0:s.halt=true
 ·rw[afA q0,afA q0]
 rw[afx q0,afx q0];have n0:s.halt=false:=by simpa using q0
 by_cases q1:vOp (toV x)≠0
 ·rw[afA q1,afA q1]
 rw[afx q1,afx q1]
 have hd:∀e:Int,e≠21->(⟨s.sto,s.reqs,s.rets,s.tag,s.sent,s.last,s.over,decide (e=21)⟩:al)=s:=fun e he=>by
  rw[aD he,<-n0]
 unfold pU;by_cases k6:x.kind=6
 ·have e6:de s x=eg s x.vdt:=by
   unfold de;rw[afx af0,afx af0,afx af0,afx af0,afx af0,afA k6]
  rw[afA k6,e6];rcases Je h ht hf (Lp (by simpa using q1) k6)with⟨a,b⟩|⟨a,b⟩|⟨a,b,c⟩
  ·rw[b,a];rfl
  ·rw[b,a];rfl
  ·rw[c,afA a,afx b,afA a,hd _ b]
 ·rw[afx k6];have n21:(de s x).2≠21:=fun e=>k6 (XQ e).1
  rw[afx n21];by_cases q2:(de s x).2≠0
  ·rw[afA q2,afA q2,hd _ n21]
  ·rw[afx q2,afx q2]
theorem dJ.ply{s:al}{i:Nat}(h:dJ s i){l:List VOp}(hl:∀x∈l,OpG x):∀k,k<=l.length->i+k<=40->dJ (lk s l k).1 (i+k)
 |0,_,_=>h
 |k+1,h1,h2=>(dJ.ply h hl k af0 af0).step af0 (hl _ (OH af0))
theorem dJ.play{s:al}{i:Nat}(h:dJ s i){l:List VOp}(hl:∀x∈l,OpG x)(hi:i+l.length<=40):dJ (rf s l).1 (i+l.length):=h.ply hl _ (afE _) hi
theorem dJ.cp{s:al}{i:Nat}(h:dJ s i):CpA s:=⟨h.a.sto.cp,by have:=h.a.rq;have:=h.a.sto.ii;omega,by have:=h.a.yl;omega⟩
theorem YB{l:List Int}(h:∀x∈l,0<=x)(h2:(ku l).2=0):0<=(ku l).1:=by
 have key:∀n,(gS l n).2=0->0<=(gS l n).1:=by
  intro n;induction n with
  |zero=>exact fun _=>afT _
  | succ n ih =>
    intro h3;have e:gS l (n+1)=if (gS l n).2≠0 then gS l n else uP (gS l n).1 (l.getD n 0):=rfl
    rw[e]at h3 ⊢;split at h3
    ·rename_i h4;exact absurd h3 h4
    ·rename_i h4;rw[afx h4];unfold uP at h3 ⊢;split at h3
     ·cases h3
     ·rename_i h5;rw[afx h5];exact(dc _).1
 exact key _ h2
theorem StV.hd{s:af}(h:StV s)(hb:s.nodes.length<=2097152)(hl:s.cfg.bals.length<=1024)(hq:s.eqv.length<=2097152)(hbo:0<=s.cfg.boost)(hB:o0 s)(ht:s.tabs.length<=2097152):HdR s:=by
 obtain⟨⟨s1,s2⟩,_⟩:=ZI h.w.ne
 have hb2:s.cfg.boost<=100:=by
  have hn:=h.w.ne;unfold gF at hn;by_cases q0:s.cfg.spe<1
  ·omega
  rw[afx q0]at hn;by_cases q1:64<s.cfg.spe
  ·omega
  rw[afx q1]at hn;by_cases q2:100<s.cfg.boost
  ·rw[afA q2]at hn;cases hn
  ·omega
 obtain⟨t,m,e⟩:=h.w.tj
 have hj:0<=dr s.tabs s.j:=by
  unfold dr;cases hf:cm (fun i=>decide ((tab s.tabs i).cp=s.j)) s.tabs.length with
  |some k=>exact Int.natCast_nonneg k
  | none =>
    obtain⟨k,hk,rfl⟩:=acp m;have:=fh hf k hk;have e2:tab s.tabs k=s.tabs[k]:=by unfold tab;rw[afy,afz hk];rfl
    rw[e2,e]at this;simp at this
 have hbt:∃u∈s.tabs,jq s=u.bals:=by
  have b1:=qx s.tabs s.j;unfold jq;rw[afx af0];exact⟨_,cR _ af0,rfl⟩
 obtain⟨u,hu,eu⟩:=hbt;have hv:=h.w.tv.1 u hu
 have hv1:(u.bals.length:Int)=s.cfg.bals.length/\(ku u.bals).2=0/\(ku u.bals).1<=4611686018427387904:=by
  unfold fY at hv;split at hv
  ·cases hv
  ·rename_i h1
   split at hv
   ·cases hv
   ·rename_i h2;simp only[GG,afw,Decidable.not_not]at h1 h2;exact⟨h1,h2.1,af0⟩
 have hds:∀i j,i<s.nodes.length->j<s.nodes.length->(nod s.nodes i).blk.root=(nod s.nodes j).blk.root->i=j:=fun i j hi hj he=>by
  rcases aeo i j with h1|h1|h1
  ·exact absurd he (h.w.tree.ds i j h1 hj)
  ·exact h1
  ·exact absurd he.symm (h.w.tree.ds j i h1 hi)
 have hp:s.eqv.Pairwise (· < ·):=by
  rcases h.w.qv with h1|h1
  ·rw[h1];exact List.Pairwise.nil
  ·exact(Dz h1).2
 have hll:=h.w.ll;exact⟨h.w.tree.r,⟨s1,s2⟩,⟨hbo,hb2⟩,hds,hb,af0,hp,hq,ht,hj,by rw[eu];omega,by rw[eu];exact⟨hv1.2.1,YB (fun x hx=>(hB.tb u hu x hx).1) hv1.2.1,hv1.2.2⟩,h.w.jf⟩
theorem dJ.hd{s:al}{i:Nat}(h:dJ s i):HdR s.sto:=by
 have a:=h.a.sto;have:=a.nn;have:=a.tt;have:=a.qq;have:=a.ii;have:=a.cfg.b1;exact h.v.hd af0 af0 af0 h.w.bo h.b af0
theorem fT.cp{s:al}{i:Nat}(h:fT s i):CpA s:=⟨h.sto.cp,by have:=h.rq;have:=h.sto.ii;omega,by have:=h.yl;omega⟩
theorem Zv{l:List Req}(h:l.Pairwise fun a b=>fv a b=true):∀i j,i<j->j<l.length->(aO l i).due<=(aO l j).due:=fun i j h1 h2=>by
 have:=acY.1 h i j af0 h2 h1;rw[sZ]at this;unfold aO;rw[afy,afy,afz h2,afz (show i<l.length by omega)];dsimp only[Option.getD_some];omega
theorem dJ.emp{s:al}{i:Nat}(h:dJ s i)(hi:i<40){x:VOp}(hx:OpE x)(h2:(de s x).2=0):fT (de s x).1 (i+1)/\HdR (de s x).1.sto:=by
 have a:=h.a.perf hi hx.r (.inl h2);have v:=h.v.perf h.a.sto hx.r (.inl h2);have b:=h.b.perf (fun y hy=>by have:=hx.u.tab.all y hy;exact⟨this.lo,this.hi⟩) (.inl h2);have w:=(h.w.perf h.f af0 af0 af0 h.a h.v hx.r (.inl h2)).1;have:=a.sto.nn;have:=a.sto.tt;have:=a.sto.qq;have:=a.sto.ii;have:=a.sto.cfg.b1;exact⟨a,v.hd af0 af0 af0 w.bo b af0⟩
theorem P7(s:al)(h:CpA s)(hd:HdR s.sto):PC Tryz.prog 43 [.agg (aG s.a)] (.tup [.agg (aG (dC s).1.a),.sl 96 false (rows bH (dC s).2)]):=MT s h (Gg s.sto hd (u9 s.sto hd))
theorem Q3{s:al}{i:Nat}(h:dJ s i)(hi:i<40){x:VOp}(hx:OpE x):PC Tryz.prog 56 [.agg (aG s.a),.agg (cG x.a)] (.tup [.agg (aG (pU s x).1.a),.int .i64 (pU s x).2]):=by
 have hr:=h.a.rq;have hy:=h.a.yl;have hu:∀y∈x.tab.bals,0<=y/\y<18446744073709551616:=fun y hy=>by have:=hx.u.tab.all y hy;exact⟨this.lo,this.hi⟩
 have hdr:∀t:af,bi t i->CpA (cy s t)/\CpA (fE (cy s t))/\(fE (cy s t)).reqs.length<=10*i/\(fE (cy s t)).rets.length<=3/\(fE (cy s t)).rets.Pairwise (fun a b=>fv a b=true):=fun t ht=>by
  have k1:=(nY t.nodes s.reqs).1;have k2:=(nY t.nodes s.rets).1;refine⟨⟨ht.cp,by show s.reqs.length<=_;omega,by show s.rets.length<=_;omega⟩,⟨ht.cp,?_,?_⟩,?_,?_,h.w.y1.sublist (nB _ _).1⟩
  ·show (fZ t.nodes s.reqs).length<=_;omega
  ·show (fZ t.nodes s.rets).length<=_;omega
  ·show (fZ t.nodes s.reqs).length<=_;omega
  ·show (fZ t.nodes s.rets).length<=_;omega
 refine M9 s i h.a.sto h.cp x hx.r ?_ ?_ (fun _ e=>?_) (fun _ e=>?_) (fun _=>?_)
 ·exact KC s.sto i h.a.sto h.hd.qq x.slg (by have:=hx.r.fst;omega) (by have:=hx.r.snd;omega)
 ·exact Ra s.sto i h.a.sto h.v.w.tv x.tab (by have:=hx.r.tab;omega) hu
 ·obtain⟨a,b,c,d,e⟩:=hdr _ (h.a.sto.tick e);exact⟨CI _ a,QY _ b af0 (Zv e)⟩
 ·obtain⟨q,hq⟩:=h.a.sto.block (hx.r.blk.up (afK i)) e;obtain⟨a,b,c,d,_⟩:=hdr _ q;exact⟨CI _ a,M8 _ b _ _ af0⟩
 ·refine QP s h.cp h.a.sto.tree h.v.w.tree.r0 x.vdt fun e=>?_
  obtain⟨m1,m2,m3,m4,m5,m6⟩:=h.w.mat h.f e;have hm:=j8 e;have hq:=h.w.q2 _ m3;have hb:=qE h.v.w.ne;exact Kw _ (h.a.mat e).cp _ hq.2.2.2.1 af0 (by rw[hm];omega) (by rw[hm];omega) (by rw[m5];exact h.w.y1) (by rw[m5];exact fun y hy=>h.w.y3 _ m3 y hy)
theorem NK{s:al}{i:Nat}(h:dJ s i)(hi:i<40){x:VOp}(hx:OpE x):PC Tryz.prog 20 [.agg (aG s.a),.agg (cG x.a)] (.tup [.agg (aG (bV s x).1.a),.sl 96 false (rows bH (bV s x).2.1),.int .i64 (bV s x).2.2]):=by
 rw[<-Wa h.cp h.a.sto.tree h.f x];refine Nh s h.cp x hx.u (Q3 h hi hx) fun hv e=>?_
 have key:(de s x).2=0/\(de s x).1=(pU s x).1:=by
  unfold pU at e ⊢;by_cases k6:x.kind=6
  ·rw[afA k6]at e ⊢
   have e6:de s x=eg s x.vdt:=by
    unfold de;rw[afx af0,afx af0,afx af0,afx af0,afx af0,afA k6]
   rw[e6];rcases Je h.cp h.a.sto.tree h.f (Lp hv k6)with⟨a,b⟩|⟨a,b⟩|⟨a,b,c⟩
   ·rw[b];exact⟨rfl,rfl⟩
   ·rw[a]at e;cases e
   ·exact absurd e a
  ·rw[afx k6]at e ⊢;exact⟨e,rfl⟩
 obtain⟨a,d⟩:=h.emp hi hx key.1;rw[key.2]at a d;exact P7 _ a.cp d
theorem tD{s:al}{i:Nat}(h:dJ s i)(hi:i<40){x:VOp}(hx:OpG x):PC Tryz.prog 20 [.agg (aG s.a),.agg (cG x.a)] (.tup [.agg (aG (bV s x).1.a),.sl 96 false (rows bH (bV s x).2.1),.int .i64 (bV s x).2.2]):=NK h hi hx.e
end Go.Proofs.YtmpddimhleianaaGreat
