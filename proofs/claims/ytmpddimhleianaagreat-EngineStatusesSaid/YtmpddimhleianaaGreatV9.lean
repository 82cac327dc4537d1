/- Joined. -/
import Derived.Test.YtmpddimhleianaaGreatV8
import Derived.Test.YtmpddimhleianaaGreatW6
import Derived.Test.YtmpddimhleianaaGreatW3
set_option linter.unusedVariables false
set_option linter.unusedSimpArgs false
set_option maxRecDepth 8000
set_option maxHeartbeats 4000000
namespace Go.Proofs.YtmpddimhleianaaGreat
open Go Go.FH Go.RowKit
theorem CX(x:Sta)(v:AV):(aV x).set 151 v=aV { x with rets:=v }:=by
 simp only[aV,akf,zM,al8,Nat.reduceSub,Nat.reduceLT,amj,amy,amx]
theorem CW(x:Sta):(aV x).getD 151 .dead=x.rets:=by
 simp only[aV,alt,aj2,zM,al8,Nat.reduceSub,Nat.reduceLT,amj,ajB,amQ,amT]
theorem lu(l:List Req):List.take l.length (rows aP l)=rows aP l:=amf WM
theorem FU(s:aI)(h:StR s.sto)(r:Rt):PC Tryz.prog 205 [.agg (aV s.a),.agg (rtc r)] (.bool (Cz s.sto r)):=by
 refine ae 6 ?_;have c1:=cC s.sto.nodes r h.bn;have b1:=fM s.sto.nodes r;unfold Cz;generalize aj s.sto.nodes r=x at *;by_cases h:x<0
 ·have:¬0<=x:=WL
  exact aw
 ·obtain⟨k,rfl⟩:=ajO (alY.1 h);have hg:=dy (t:=s.sto.nodes) (i:=k) WL;exact aw
theorem J5(s:aI)(h:StR s.sto)(r:Rt):ay Tryz.prog 205 [.agg (aV { s.a with rets:=.hs 35 0 0 s.rets.length }),.agg (rtc r)] [.vec 35 (rows aP s.rets)] (.bool (Cz s.sto r)) [.vec 35 (rows aP s.rets)]:=by
 refine ay.lend rfl ?_;(try simp only[go_sem,lu,al8,ama,ake,ako])
 exact FU s h r
theorem Hg(s:aI)(r:Rt)(k:Int)(hb:s.reqs.length<=2097152):PC Tryz.prog 206 [.agg (aV s.a),.agg (rtc r),.int .i64 k] (.agg (aV (nH s r k).a)):=by
 refine ae 8 ?_;have hsn:rows aP s.reqs++[aP ⟨s.tag,r,k,0⟩]=rows aP (s.reqs++[⟨s.tag,r,k,0⟩]):=cR aP s.reqs _;have ht:List.take (s.reqs.length+1) (rows aP (s.reqs++[⟨s.tag,r,k,0⟩]))=rows aP (s.reqs++[⟨s.tag,r,k,0⟩]):=amf WM;have h2:=lu s.reqs;unfold nH aI.a;exact aw
theorem J3(s:aI)(r:Rt)(k:Int)(hb:s.reqs.length<=2097152)(l:List Req)(n:Nat):ay Tryz.prog 206 [.agg (aV { s.a with rets:=.hs 35 0 0 n }),.agg (rtc r),.int .i64 k] [.vec 35 (rows aP l)] (.agg (aV { (nH s r k).a with rets:=.hs 35 0 0 n })) [.vec 35 (rows aP l)]:=by
 refine dS 8 ?_;have hsn:rows aP s.reqs++[aP ⟨s.tag,r,k,0⟩]=rows aP (s.reqs++[⟨s.tag,r,k,0⟩]):=cR aP s.reqs _;have ht:List.take (s.reqs.length+1) (rows aP (s.reqs++[⟨s.tag,r,k,0⟩]))=rows aP (s.reqs++[⟨s.tag,r,k,0⟩]):=amf WM;refine aZ hsn lu ?_;refine bA [2,3,4,5,6,7] [0] _ WM (by first|rfl|exact evd) WM rfl WM WM evd ?_;exact uZ ht
theorem Lw(s:aI)(l:List Rt):∀k,(bg (mq l) s k).sto=s.sto/\(bg (mq l) s k).reqs.length<=s.reqs.length+k:=by
 intro k;induction k with
 |zero=>exact⟨rfl,amb _⟩
 | succ k ih =>
   rw[cX];generalize bg (mq l) s k=s1 at *;unfold mq;split
   ·exact⟨ih.1,by simp[nH];omega⟩
   ·exact⟨ih.1,WL⟩
theorem Ee(s:aI)(l:List Rt)(h:StR s.sto)(hb:s.reqs.length+l.length<=2097152):PC Tryz.prog 118 [.agg (aV s.a),.sl 32 false (rows rtc l)] (.agg (aV (nK s l).a)):=by
 refine ae 6 ?_;have hS:=Lw s l;unfold nK;refine nx fun _=>?_
 refine BA l.length (fun i=>[(5,.int .i64 i)]) (fun i=>[.var (aV (bg (mq l) s i).a),.var (aV rD)]) (fun i h1 hw h2=>?_) (fun h=>?_)
 ·have hgd:=aS (f:=rtc) rt0 h1;have hs:=cX (mq l) s i;obtain⟨hS1,hS2⟩:=hS i;have c1:=FU (bg (mq l) s i) (by rw[hS1];exact h) (l.getD i rt0);have c2:=Hg (bg (mq l) s i) (l.getD i rt0) 0 WL;clear hS hS1;generalize bg (mq l) s i=s1 at *;change _=ite _ _ _ at hs
  generalize Cz s1.sto (l.getD i rt0)=B at *;cases B<;>exact aw
 ·exact aw
theorem adc:WkC (aE kU) (aE jX.a):=by
 unfold kU jX ap.a aE;dsimp only;refine WkC.app ?_ ?_
 ·unfold ui cU.a bW;dsimp only;exact(WkC.refl _).app (.same _ (.same _ ((WkC.refl _).app ((WkC.refl _).app (.one (Wk.empty _ _ _) fun h=>h)))))
 ·exact .cons (Wk.empty _ _ _) (fun h=>h) (.cons (Wk.empty _ _ _) (fun h=>h) ((WkC.refl _).app ((WkC.refl _).app (.cons (Wk.empty _ _ _) (fun h=>h) (.cons (Wk.empty _ _ _) (fun h=>h) (.cons (Wk.empty _ _ _) (fun h=>h) (.same _ ((WkC.refl _).app (.one (Wk.empty _ _ _) fun h=>h)))))))))
theorem C9:Wk (.agg (aV rD)) (.agg (aV li.a)):=by
 refine Wk.agg ?_;unfold rD li aI.a aV;dsimp only;exact adc.app (.cons (Wk.empty _ _ _) (fun h=>h) (.cons (Wk.empty _ _ _) (fun h=>h) (WkC.refl _)))
theorem uG:PuL (aV rD):=by simp[rD,aV,eJ,PuL,Pu,fy,kU,aE,mg,dI,ju,gV,ui,bW,cp0,rf]
theorem Eb(s:aI)(v:Vdt)(hb:s.reqs.length<=2097152):PC Tryz.prog 215 [.agg (aV s.a),.agg (cA v)] (.tup [.agg (aP (cz s v).1),.agg (aV (cz s v).2.1.a),.int .i64 (cz s v).2.2]):=by
 refine PC.fact 9 yg WM puA ⟨gB _,aI.pul _,trivial,trivial⟩ ?_;unfold qr;refine bd ?_;unfold cz;generalize hp:(fun i=>decide ((bm s.reqs i).tag=v.tag))=p;have hp2:∀i,p i=decide ((bm s.reqs i).tag=v.tag):=fun i=>by rw[<-hp]
 clear hp;refine nx fun _=>?_
 refine Mg p s.reqs.length (fun i=>[(7,.int .i64 i)]) (fun _=>[.var (aV s.a),.var (cA v),.var (aP gT),.var (aV rD)]) (fun i h1 hpi hf hw h2=>?_) (fun i h1 hpi hw h2=>?_) (fun hf h=>?_)
 ·have hgd:(rows aP s.reqs).getD i []=aP (bm s.reqs i):=aS (f:=aP) gT h1;have q:(bm s.reqs i).tag=v.tag:=by rw[hp2]at hpi;exact aks hpi
  rw[hf];have ht1:List.take i (rows aP s.reqs)=rows aP (s.reqs.take i):=si _ _ _;have ht2:List.drop (i+1) (rows aP s.reqs)=rows aP (s.reqs.drop (i+1)):=uz _ _ _;have ht3:rows aP (s.reqs.take i)++rows aP (s.reqs.drop (i+1))=rows aP (qh s.reqs i):=vT _ _ _;have ht4:(s.reqs.take i).length+(s.reqs.drop (i+1)).length=(qh s.reqs i).length:=by unfold qh;rw[akC]
  have ht5:List.take (s.reqs.length-(i+1)) (rows aP (s.reqs.drop (i+1)))=rows aP (s.reqs.drop (i+1)):=amf WM;have ht6:=lu (qh s.reqs i);have hlo:(qh s.reqs i).length<=s.reqs.length:=(FN _ _).1;dsimp only;unfold Ml aI.a;generalize bm s.reqs i=r at *;clear hp2 hpi hf;exact aw
 ·have hgd:(rows aP s.reqs).getD i []=aP (bm s.reqs i):=aS (f:=aP) gT h1;have q:¬ (bm s.reqs i).tag=v.tag:=by rw[hp2]at hpi;exact aky hpi
  clear hp2 hpi;exact aw
 ·rw[hf];dsimp only;clear hf hp2;refine nx fun _=>?_
  exact⟨_,(by first|rfl|exact evd),.inr ⟨.tup [.agg (aP gT),.agg (aV rD),.int .i64 23],evd,⟨gB _,uG,trivial,trivial⟩,Wk.tup ⟨Wk.refl _,C9,Wk.refl _,trivial⟩⟩⟩
theorem uQ(s:aI)(l:List Req)(h:StR s.sto)(hb:l.length<=2097152):PC Tryz.prog 207 [.agg (aV s.a),.sl 35 false (rows aP l)] (.sl 35 false (rows aP (mm s.sto.nodes l))):=by
 refine ae 7 ?_;have hL:∀k,(bg (kK s.sto.nodes l) [] k).length<=0+k:=ng fun i o=>by unfold kK;split<;>simp
 unfold mm;refine nx fun _=>?_
 refine jx 5 35 ?_;simp only[go_sem];refine BA l.length (fun i=>[(6,.int .i64 i),(5,.hs 35 1 0 (bg (kK s.sto.nodes l) [] i).length)]) (fun i=>[.var (aV s.a),.vec 35 (rows aP (bg (kK s.sto.nodes l) [] i))]) (fun i h1 hw h2=>?_) (fun h=>?_)
 ·have hLi:=hL i
  have hgd:(rows aP l).getD i []=aP (bm l i):=aS (f:=aP) gT h1;have hs:=cX (kK s.sto.nodes l) [] i;have c1:=cC s.sto.nodes (bm l i).block h.bn;clear hL;generalize bg (kK s.sto.nodes l) [] i=o at *;change _=ite _ _ _ at hs
  generalize bm l i=r at *;have hsn:rows aP o++[aP r]=rows aP (o++[r]):=cR aP o r;by_cases q:0<=aj s.sto.nodes r.block
  ·rw[al7 q]at hs;exact aw
  ·rw[al5 q]at hs;exact aw
 ·have h2:=lu (bg (kK s.sto.nodes l) [] l.length);exact aw
theorem yR(s:aI)(h:StR s.sto)(h1:s.reqs.length<=2097152)(h2:s.rets.length<=2097152):PC Tryz.prog 116 [.agg (aV s.a)] (.agg (aV (mE s).a)):=by
 refine ae 3 ?_;have c1:=uQ s s.reqs h h1;have c2:=uQ s s.rets h h2;unfold mE aI.a at *;exact aw
theorem QF(t b:Int)(ht:t<=9223372036854775807):PC Tryz.prog 298 [.int .i64 t,.int .u64 b] (.int .u64 (vx t b)):=by
 refine ae 7 ?_;unfold vx;by_cases h0:b=0
 ·subst h0;exact aw
 rw[al5 h0];obtain⟨R,hR⟩:∃R,qS b (t-1).toNat 1=R:=⟨_,rfl⟩
 rw[hR];refine nx fun _=>?_
 refine az (fun x:Nat×Int=>[(6,.int .i64 ((x.1:Int)+1)),(5,.int .u64 x.2)]) (fun _=>[]) (fun x=>(t-1).toNat-x.1) (fun x=>x.1<=(t-1).toNat/\qS b ((t-1).toNat-x.1) x.2=R) (0,1) ⟨amc _,hR⟩ aw ?_;clear hR;rintro⟨i,d⟩ ⟨hi,hn⟩;dsimp only at hi hn ⊢;by_cases h1:(i:Int)+1<t
 ·obtain⟨f,hf⟩:∃f,(t-1).toNat-i=f+1:=⟨(t-1).toNat-i-1,WL⟩
  rw[hf,qS]at hn;have hw:IntKind.i64.wrap ((i:Int)+1+1)=((i+1:Nat):Int)+1:=by rw[aL WL WL];omega
  by_cases q:IntKind.u64.wrap (b-d)<=d
  ·rw[al7 q]at hn;subst hn;clear h0;exact aw
  ·rw[al5 q]at hn;refine nx fun _=>?_
   refine⟨(i+1,IntKind.u64.wrap (2*d)),⟨by dsimp only;omega,by rw[<-hn,show (t-1).toNat-(i+1)=f by omega]⟩,by dsimp only;omega,?_⟩;clear hn;exact aw
 ·rw[show (t-1).toNat-i=0 by omega,qS]at hn;subst hn;exact aw
theorem Ng(s:aI):∀k,(bg (oZ s.rets) (gi s []) k).sto=s.sto/\(bg (oZ s.rets) (gi s []) k).reqs.length<=s.reqs.length+k/\(bg (oZ s.rets) (gi s []) k).rets.length<=k:=by
 intro k;induction k with
 |zero=>exact⟨rfl,amb _,amb _⟩
 | succ k ih =>
   rw[cX];generalize bg (oZ s.rets) (gi s []) k=s1 at *;unfold oZ;split
   ·exact⟨ih.1,by simp[gi];omega,by simp[gi];omega⟩
   ·split
    ·exact⟨ih.1,by simp[nH];omega,by simp[nH];omega⟩
    ·exact⟨ih.1,WL,WL⟩
theorem IK(s:aI)(h:StR s.sto)(h1:s.reqs.length+s.rets.length<=2097152):PC Tryz.prog 115 [.agg (aV s.a)] (.agg (aV (zQ s).a)):=by
 refine ae 5 ?_;have hK:=Ng s;unfold zQ;refine nx fun _=>?_
 refine pS 0 151 35 ?_ WQ (by exact CW _);simp only[go_sem,CX];refine BA s.rets.length (fun i=>[(4,.int .i64 i)]) (fun i=>[.var (aV { (bg (oZ s.rets) (gi s []) i).a with rets:=.hs 35 2 0 (bg (oZ s.rets) (gi s []) i).rets.length }),.var (aV rD),.vec 35 (rows aP (bg (oZ s.rets) (gi s []) i).rets)]) (fun i g1 hw g2=>?_) (fun g=>?_) (h0:=by unfold gi;exact ais [] [0,1,2])
 ·obtain⟨hK1,hK2,hK3⟩:=hK i
  have hgd:(rows aP s.rets).getD i []=aP (bm s.rets i):=aS (f:=aP) gT g1;have hs:=cX (oZ s.rets) (gi s []) i;clear hK;generalize bg (oZ s.rets) (gi s []) i=s1 at *;change _=ite _ _ _ at hs
  have c1:=J5 s1 (by rw[hK1];exact h) (bm s.rets i).block;have c2:=J3 s1 (bm s.rets i).block (bm s.rets i).tries WL s1.rets s1.rets.length;clear hK1;generalize bm s.rets i=r at *;have hsn:rows aP s1.rets++[aP r]=rows aP (s1.rets++[r]):=cR aP s1.rets r;by_cases q:s1.sto.now<r.due
  ·rw[al7 q]at hs;refine nx fun _=>?_
   try rw[hs]
   unfold gi;exact gcJ [0,1,3]
  ·rw[al5 q]at hs
   refine nx fun _=>?_
   refine dre [2] c1 ?_;generalize Cz s1.sto r.block=B at *;cases B with
   | true =>
     rw[al7 rfl]at hs;refine nx fun _=>?_
     refine dce [2] c2 ?_;unfold nH at *;exact aw
   | false =>
     rw[al5 WM]at hs;exact aw
 ·have h2:=lu (bg (oZ s.rets) (gi s []) s.rets.length).rets;unfold aI.a;exact aw
theorem XM(n:Int):IntKind.i64.wrap n<=9223372036854775807:=by rw[IntKind.wrap_i64];omega
theorem T7(s:aI)(L:List Req)(n:Nat)(hL:L.length=n+1)(hb:n<=2097152)(r0:Req):
 Tri Tryz.prog 117 0 (dl.tl 6) (PQ [.cell 4 true 252] (.agg (aV (gi s (nS L n)).a))) ⟨7,[.dead,.dead,.ptr 0 0,.ptr 1 0,.ptr 2 0,.hs 35 3 0 (n+1),.dead],[]⟩ [.var (aV s.a),.var (aP r0),.var (aV rD),.vec 35 (rows aP L)]:=by
 unfold dl;refine bd ?_;simp only[ab.tl];obtain⟨R,hR⟩:∃R,R=nS L n:=⟨_,rfl⟩
 rw[<-hR];have hw0:IntKind.i64.wrap (((n+1:Nat):Int)-1)=(n:Int):=by rw[aL WL WL];omega
 have hw0':IntKind.i64.wrap ((n:Int)+1-1)=(n:Int):=by rw[aL WL WL];omega
 refine aZ hw0 hw0' ?_;refine az (fun x:Nat×List Req=>[(6,.int .i64 x.1)]) (fun x=>[.var (aV s.a),.var (aP r0),.var (aV rD),.vec 35 (rows aP x.2)]) (fun x=>x.1) (fun x=>x.1<=n/\x.2.length=n+1/\R=nS x.2 x.1) (n,L) ⟨amb _,hL,hR⟩ ?_ ?_
 ·exact ais [] [0,1,2,3]
 clear hR;rintro⟨k,l⟩ ⟨hk,hl,hn⟩;dsimp only at hk hl hn ⊢;(try simp only[dE,dr,amx,amy])
 have ht:List.take (n+1) (rows aP l)=rows aP l:=amf (by simp[hl]);cases k with
 | zero =>
   have e0:decide ((0:Int)<((0:Nat):Int))=false:=WN
   have hr:R=l:=hn;subst hr;refine aF e0 ?_;refine⟨_,(by first|rfl|exact evd),.inl ?_⟩;exact U5 ht hl
 | succ k =>
   have e0:decide ((0:Int)<((k+1:Nat):Int))=true:=au WL;have hw:IntKind.i64.wrap (((k+1:Nat):Int)-1)=(k:Int):=by rw[aL WL WL];omega
   have hg1:(rows aP l).getD (k+1) []=aP (bm l (k+1)):=aS (f:=aP) gT WL;have hg2:(rows aP l).getD k []=aP (bm l k):=aS (f:=aP) gT WL;have hsk:nS l (k+1)=if gC (bm l (k+1)) (bm l k)=true then nS ((l.set (k+1) (bm l k)).set k (bm l (k+1))) k else l:=rfl
   rw[hsk]at hn;have hset:∀ (m:List Req) (j:Nat) (x:Req),(rows aP m).set j (aP x)=rows aP (m.set j x):=fun m j x=>F2 aP m j x
   unfold gC at hn;generalize ha:bm l (k+1)=a at *;generalize hb2:bm l k=b at *;have hg3:(rows aP (l.set (k+1) b)).getD k []=aP ((l.set (k+1) b).getD k gT):=aS (f:=aP) gT (by simp;omega);have hlt1:k+1<n+1:=WL
   have hlt2:k<n+1:=WL
   by_cases q1:a.due<b.due
   ·have e1:=au q1;rw[e1,alp,al7 rfl]at hn;refine fG e0 hg1 hg2 hw e1 hl ?_;refine ax ?_;refine fG hg1 hg2 hg3 hw hl hset ?_;refine⟨(k,(l.set (k+1) b).set k a),⟨by dsimp only;omega,by simp[hl],hn⟩,by dsimp only;omega,?_⟩;exact ais [] [0,1,2,3]
   have e1:=aA q1;rw[e1,aj9]at hn;by_cases q2:a.due=b.due
   ·have e2:(a.due==b.due)=true:=by simp[q2]
    rw[au q2,am2]at hn;by_cases q3:a.tag<b.tag
    ·have e3:=au q3;rw[e3,al7 rfl]at hn;refine mP e0 hg1 hg2 hw e1 e2 e3 hl ?_;refine ax ?_;refine fG hg1 hg2 hg3 hw hl hset ?_;refine⟨(k,(l.set (k+1) b).set k a),⟨by dsimp only;omega,by simp[hl],hn⟩,by dsimp only;omega,?_⟩;exact ais [] [0,1,2,3]
    ·have e3:=aA q3;rw[e3,al5 WM]at hn;subst hn;refine mP e0 hg1 hg2 hw e1 e2 e3 hl ?_;refine agE ?_;refine⟨_,(by first|rfl|exact evd),.inl ?_⟩;exact U5 ht hl
   ·have e2:(a.due==b.due)=false:=by simp[q2]
    rw[aA q2,ajq,al5 WM]at hn;subst hn;refine jj e0 hg1 hg2 hw e1 e2 hl ?_;refine agE ?_;refine⟨_,(by first|rfl|exact evd),.inl ?_⟩;exact U5 ht hl
theorem Q4(s:aI)(r:Req)(h:StR s.sto)(hy:s.rets.length<=1000):PC Tryz.prog 216 [.agg (aV s.a),.agg (aP r)] (.agg (aV (lO s r).a)):=by
 have tl:=T7 s (s.rets++[jC s r]) s.rets.length WM WL (jC s r);refine pfn 7 H2 ?_;have hc:dl=.seq dl.hd (.seq (dl.tl 1).hd (.seq (dl.tl 2).hd (.seq (dl.tl 3).hd (.seq (dl.tl 4).hd (.seq (dl.tl 5).hd (dl.tl 6)))))):=rfl;rw[hc];clear hc;generalize dl.tl 6=cT at *;unfold dl;refine bd ?_;simp only[ab.tl,ab.hd];have c1:=FU s h r.block;have c2:=QF (IntKind.i64.wrap (r.tries+1)) s.sto.cfg.lim.backoff (XM _);unfold lO;generalize Cz s.sto r.block=B at *;cases B with
 | false =>
   rw[al7 rfl];refine gon ?_;refine am c1 ?_;refine aX ?_;exact ai
 | true =>
   rw[al5 WM];by_cases q:s.sto.cfg.lim.retry<=s.rets.length
   ·have e1:decide (s.sto.cfg.lim.retry<=(s.rets.length:Int))=true:=au q;rw[al7 q];refine gon ?_;refine am c1 ?_;refine dQ ?_;refine aM e1 ?_;exact ai
   ·have e1:decide (s.sto.cfg.lim.retry<=(s.rets.length:Int))=false:=aA q;have hsn:rows aP s.rets++[aP (jC s r)]=rows aP (s.rets++[jC s r]):=cR aP s.rets _;have hlr:aP { tag:=r.tag,block:=r.block,tries:=IntKind.i64.wrap (r.tries+1),due:=IntKind.u64.wrap (s.sto.now+vx (IntKind.i64.wrap (r.tries+1)) s.sto.cfg.lim.backoff) }=aP (jC s r):=rfl;rw[al5 q];refine gon ?_;refine am c1 ?_;refine dQ ?_;refine aF e1 ?_;refine aK (c2) ?_;refine dC hlr hsn lu ?_;refine eg ?_ tl;exact ais [] [0,1,2,5]
theorem ZF(s:ap)(h:StR s):PC Tryz.prog 62 [.agg (aE s.a)] (.agg (rtc (WX s))):=by
 refine ae 4 ?_;have c1:=cC s.nodes s.j.rt h.bn;have b1:=fM s.nodes s.j.rt;unfold WX;generalize aj s.nodes s.j.rt=I at *;refine gon ?_;refine am c1 ?_;by_cases q:0<=I
 ·have e1:=au q
  have hg:=dy (t:=s.nodes) (i:=I.toNat) WL;by_cases q2:(nod s.nodes I.toNat).status=1
  ·have e2:((nod s.nodes I.toNat).status==1)=true:=by simp[q2]
   rw[al7 ⟨q,q2⟩];refine fI e1 hg e2 ?_;exact ai
  ·have e2:((nod s.nodes I.toNat).status==1)=false:=by simp[q2]
   rw[al5 (fun h=>q2 h.2)];refine wg e1 hg e2 ?_;exact ai
 ·have e1:=aA q;rw[al5 (fun h=>q h.1)];refine aF e1 ?_;exact ai
theorem abo{s:ap}(h:StR s):0<=HY s/\HY s<s.nodes.length:=by
 have h1:=fM s.nodes s.j.rt;have h2:=Rx h.tree (nk s) (Il s) (s.nodes.length+1) (aj s.nodes s.j.rt) WL;have h3:=h.jf;unfold HY;omega
theorem aaM(s:ap)(h:StR s):PC Tryz.prog 30 [.agg (aE s.a)] (.agg (AZ (X3 s))):=by
 refine ae 3 ?_;have c1:=Yu s h;have c2:=ZF s h;have hb:=abo h;unfold X3;generalize HY s=I at *;generalize WX s=S at *;have hg:=dy (t:=s.nodes) (i:=I.toNat) WL;refine gon ?_;refine aK (c1) ?_;refine ah hg ?_;refine aK (c2) ?_;refine gon ?_;exact ai
theorem MB(s:aI)(h:StR s.sto):PC Tryz.prog 45 [.agg (aV s.a)] (.tup [.agg (aV (io s).1.a),.sl 96 false (rows AZ (io s).2)]):=by
 refine PC.fact 5 OO WM puA ⟨aI.pul _,fm _,trivial⟩ ?_;have c1:=aaM s.sto h;unfold io;generalize X3 s.sto=C at *;by_cases q:s.sent=true/\s.last=C
 ·rw[al7 q];obtain⟨q1,q2⟩:=q;have e2:decide (s.last=C)=true:=au q2;unfold ez;refine bd ?_;refine gon ?_;refine am c1 ?_;refine cH q1 e2 ?_;refine⟨_,(by first|rfl|exact evd),.inr ⟨.tup [.agg (aV s.a),.sl 0 true []],?_,⟨aI.pul _,trivial,trivial⟩,Wk.tup ⟨Wk.refl _,Wk.empty _ _ _,trivial⟩⟩⟩;exact evd
 ·rw [al5 q]
  have key:∀b:Bool,s.sent=b->(b=true->decide (s.last=C)=false)->Tri Tryz.prog 23 0 ez (PQ [.cell 2 true 252,.tmp 3] (.tup [.agg (aV (aI.a ⟨s.sto,s.reqs,s.rets,s.tag,true,C,s.over,s.halt⟩)),.sl 96 false (rows AZ [C])])) ⟨5,[.agg (aV s.a),.dead,.dead,.dead,.dead],[]⟩ []:=by
   intro b h1 h2;cases b with
   | false =>
     unfold ez;dsimp only[nfO,Int.reduceOfNat,Int.reduceNegSucc,wA,wB,wC,wD,wE,wF,wG,wH,wI,wJ,wK,wL,wM,wN,wO,wP,wQ,wR,wS,wT,wU,wV,wW,wX,wY,wZ,om,oo,on,omg,og,ong,ci,cu,cb,cf,fA,lA,lF,bI,bC,sO,eX,lN,iX,kA,kB,kC,sR,cN];refine gon ?_;refine am c1 ?_;refine aF h1 ?_;refine⟨_,(by first|rfl|exact evd),.inr ⟨.tup [.agg (aV (aI.a ⟨s.sto,s.reqs,s.rets,s.tag,true,C,s.over,s.halt⟩)),.sl 96 false (rows AZ [C])],?_,⟨aI.pul _,fm _,trivial⟩,Wk.tup ⟨Wk.refl _,Wk.refl _,trivial⟩⟩⟩;exact evd
   | true =>
     have e2:=h2 rfl;unfold ez;dsimp only[nfO,Int.reduceOfNat,Int.reduceNegSucc,wA,wB,wC,wD,wE,wF,wG,wH,wI,wJ,wK,wL,wM,wN,wO,wP,wQ,wR,wS,wT,wU,wV,wW,wX,wY,wZ,om,oo,on,omg,og,ong,ci,cu,cb,cf,fA,lA,lF,bI,bC,sO,eX,lN,iX,kA,kB,kC,sR,cN];refine gon ?_;refine am c1 ?_;refine fU h1 e2 ?_;refine⟨_,(by first|rfl|exact evd),.inr ⟨.tup [.agg (aV (aI.a ⟨s.sto,s.reqs,s.rets,s.tag,true,C,s.over,s.halt⟩)),.sl 96 false (rows AZ [C])],?_,⟨aI.pul _,fm _,trivial⟩,Wk.tup ⟨Wk.refl _,Wk.refl _,trivial⟩⟩⟩;exact evd
  exact key s.sent rfl fun hb=>aA fun hl=>q ⟨hb,hl⟩
end Go.Proofs.YtmpddimhleianaaGreat
