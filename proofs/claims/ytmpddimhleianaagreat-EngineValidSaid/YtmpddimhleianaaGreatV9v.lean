/- Joined. -/
import Derived.Test.YtmpddimhleianaaGreatV8v
import Derived.Test.YtmpddimhleianaaGreatW6v
import Derived.Test.YtmpddimhleianaaGreatW3v
set_option linter.unusedVariables false
set_option linter.unusedSimpArgs false
set_option maxRecDepth 8000
set_option maxHeartbeats 4000000
namespace Go.Proofs.YtmpddimhleianaaGreat
open Go Go.FH Go.RowKit
theorem Iz(x:Sta)(v:AV):(aG x).set 151 v=aG { x with rets:=v }:=by
 simp only[aG,aek,cn,afG,Nat.reduceSub,Nat.reduceLT,acq,acx,act]
theorem Iy(x:Sta):(aG x).getD 151 .dead=x.rets:=by
 simp only[aG,afy,adr,cn,afG,Nat.reduceSub,Nat.reduceLT,acq,aed,adq,ac7]
theorem lS(l:List Req):List.take l.length (rows ay l)=rows ay l:=afD af1
theorem CC(s:al)(h:StR s.sto)(r:Rt):PC Tryz.prog 205 [.agg (aG s.a),.agg (rtc r)] (.bool (mu s.sto r)):=by
 refine aQ 6 ?_;have c1:=cj s.sto.nodes r h.bn;have b1:=dl s.sto.nodes r;unfold mu;generalize ab s.sto.nodes r=x at *;by_cases h:x<0
 ·have:¬0<=x:=af0
  exact aw
 ·obtain⟨k,rfl⟩:=afF (ac8.1 h);have hg:=dv (t:=s.sto.nodes) (i:=k) af0;exact aw
theorem U6(s:al)(h:StR s.sto)(r:Rt):aJ Tryz.prog 205 [.agg (aG { s.a with rets:=.hs 35 0 0 s.rets.length }),.agg (rtc r)] [.vec 35 (rows ay s.rets)] (.bool (mu s.sto r)) [.vec 35 (rows ay s.rets)]:=by
 refine aJ.lend rfl ?_;(try simp only[go_sem,lS,afG,afM,acV,adl])
 exact CC s h r
theorem QN(s:al)(r:Rt)(k:Int)(hb:s.reqs.length<=2097152):PC Tryz.prog 206 [.agg (aG s.a),.agg (rtc r),.int .i64 k] (.agg (aG (jo s r k).a)):=by
 refine aQ 8 ?_;have hsn:rows ay s.reqs++[ay ⟨s.tag,r,k,0⟩]=rows ay (s.reqs++[⟨s.tag,r,k,0⟩]):=dn ay s.reqs _;have ht:List.take (s.reqs.length+1) (rows ay (s.reqs++[⟨s.tag,r,k,0⟩]))=rows ay (s.reqs++[⟨s.tag,r,k,0⟩]):=afD af1;have h2:=lS s.reqs;unfold jo al.a;exact aw
theorem U4(s:al)(r:Rt)(k:Int)(hb:s.reqs.length<=2097152)(l:List Req)(n:Nat):aJ Tryz.prog 206 [.agg (aG { s.a with rets:=.hs 35 0 0 n }),.agg (rtc r),.int .i64 k] [.vec 35 (rows ay l)] (.agg (aG { (jo s r k).a with rets:=.hs 35 0 0 n })) [.vec 35 (rows ay l)]:=by
 refine cZ 8 ?_;have hsn:rows ay s.reqs++[ay ⟨s.tag,r,k,0⟩]=rows ay (s.reqs++[⟨s.tag,r,k,0⟩]):=dn ay s.reqs _;have ht:List.take (s.reqs.length+1) (rows ay (s.reqs++[⟨s.tag,r,k,0⟩]))=rows ay (s.reqs++[⟨s.tag,r,k,0⟩]):=afD af1;refine bm hsn lS ?_;refine bp [2,3,4,5,6,7] [0] _ af1 (by first|rfl|exact evd) af1 rfl af1 af1 evd ?_;exact uv ht
theorem XI(s:al)(l:List Rt):∀k,(aH (fX l) s k).sto=s.sto/\(aH (fX l) s k).reqs.length<=s.reqs.length+k:=by
 intro k;induction k with
 |zero=>exact⟨rfl,afE _⟩
 | succ k ih =>
   rw[bg];generalize aH (fX l) s k=s1 at *;unfold fX;split
   ·exact⟨ih.1,by simp[jo];omega⟩
   ·exact⟨ih.1,af0⟩
theorem MM(s:al)(l:List Rt)(h:StR s.sto)(hb:s.reqs.length+l.length<=2097152):PC Tryz.prog 118 [.agg (aG s.a),.sl 32 false (rows rtc l)] (.agg (aG (jT s l).a)):=by
 refine aQ 6 ?_;have hS:=XI s l;unfold jT;refine nx fun _=>?_
 refine dI l.length (fun i=>[(5,.int .i64 i)]) (fun i=>[.var (aG (aH (fX l) s i).a),.var (aG mB)]) (fun i h1 hw h2=>?_) (fun h=>?_)
 ·have hgd:=aK (f:=rtc) rt0 h1;have hs:=bg (fX l) s i;obtain⟨hS1,hS2⟩:=hS i;have c1:=CC (aH (fX l) s i) (by rw[hS1];exact h) (l.getD i rt0);have c2:=QN (aH (fX l) s i) (l.getD i rt0) 0 af0;clear hS hS1;generalize aH (fX l) s i=s1 at *;change _=ite _ _ _ at hs
  generalize mu s1.sto (l.getD i rt0)=B at *;cases B<;>exact aw
 ·exact aw
theorem Ws:WkC (ak i6) (ak kj.a):=by
 unfold i6 kj af.a ak;dsimp only;refine WkC.app ?_ ?_
 ·unfold rl cI.a cV;dsimp only;exact(WkC.refl _).app (.same _ (.same _ ((WkC.refl _).app ((WkC.refl _).app (.one (Wk.empty _ _ _) fun h=>h)))))
 ·exact .cons (Wk.empty _ _ _) (fun h=>h) (.cons (Wk.empty _ _ _) (fun h=>h) ((WkC.refl _).app ((WkC.refl _).app (.cons (Wk.empty _ _ _) (fun h=>h) (.cons (Wk.empty _ _ _) (fun h=>h) (.cons (Wk.empty _ _ _) (fun h=>h) (.same _ ((WkC.refl _).app (.one (Wk.empty _ _ _) fun h=>h)))))))))
theorem AG:Wk (.agg (aG mB)) (.agg (aG xz.a)):=by
 refine Wk.agg ?_;unfold mB xz al.a aG;dsimp only;exact Ws.app (.cons (Wk.empty _ _ _) (fun h=>h) (.cons (Wk.empty _ _ _) (fun h=>h) (WkC.refl _)))
theorem vu:PuL (aG mB):=by simp[mB,aG,fy,PuL,Pu,fU,i6,ak,kv,dH,jK,gG,rl,cV,cp0,nL]
theorem MH(s:al)(v:Vdt)(hb:s.reqs.length<=2097152):PC Tryz.prog 215 [.agg (aG s.a),.agg (dZ v)] (.tup [.agg (ay (aL s v).1),.agg (aG (aL s v).2.1.a),.int .i64 (aL s v).2.2]):=by
 refine PC.fact 9 Ei af1 puA ⟨gg _,al.pul _,trivial,trivial⟩ ?_;unfold um;refine bd ?_;unfold aL;generalize hp:(fun i=>decide ((aO s.reqs i).tag=v.tag))=p;have hp2:∀i,p i=decide ((aO s.reqs i).tag=v.tag):=fun i=>by rw[<-hp]
 clear hp;refine nx fun _=>?_
 refine tG p s.reqs.length (fun i=>[(7,.int .i64 i)]) (fun _=>[.var (aG s.a),.var (dZ v),.var (ay gU),.var (aG mB)]) (fun i h1 hpi hf hw h2=>?_) (fun i h1 hpi hw h2=>?_) (fun hf h=>?_)
 ·have hgd:(rows ay s.reqs).getD i []=ay (aO s.reqs i):=aK (f:=ay) gU h1;have q:(aO s.reqs i).tag=v.tag:=by rw[hp2]at hpi;exact ac3 hpi
  rw[hf];have ht1:List.take i (rows ay s.reqs)=rows ay (s.reqs.take i):=pZ _ _ _;have ht2:List.drop (i+1) (rows ay s.reqs)=rows ay (s.reqs.drop (i+1)):=yx _ _ _;have ht3:rows ay (s.reqs.take i)++rows ay (s.reqs.drop (i+1))=rows ay (mC s.reqs i):=xj _ _ _;have ht4:(s.reqs.take i).length+(s.reqs.drop (i+1)).length=(mC s.reqs i).length:=by unfold mC;rw[afB]
  have ht5:List.take (s.reqs.length-(i+1)) (rows ay (s.reqs.drop (i+1)))=rows ay (s.reqs.drop (i+1)):=afD af1;have ht6:=lS (mC s.reqs i);have hlo:(mC s.reqs i).length<=s.reqs.length:=(O8 _ _).1;dsimp only;unfold zk al.a;generalize aO s.reqs i=r at *;clear hp2 hpi hf;exact aw
 ·have hgd:(rows ay s.reqs).getD i []=ay (aO s.reqs i):=aK (f:=ay) gU h1;have q:¬ (aO s.reqs i).tag=v.tag:=by rw[hp2]at hpi;exact adi hpi
  clear hp2 hpi;exact aw
 ·rw[hf];dsimp only;clear hf hp2;refine nx fun _=>?_
  exact⟨_,(by first|rfl|exact evd),.inr ⟨.tup [.agg (ay gU),.agg (aG mB),.int .i64 23],evd,⟨gg _,vu,trivial,trivial⟩,Wk.tup ⟨Wk.refl _,AG,Wk.refl _,trivial⟩⟩⟩
theorem yU(s:al)(l:List Req)(h:StR s.sto)(hb:l.length<=2097152):PC Tryz.prog 207 [.agg (aG s.a),.sl 35 false (rows ay l)] (.sl 35 false (rows ay (fZ s.sto.nodes l))):=by
 refine aQ 7 ?_;have hL:∀k,(aH (jS s.sto.nodes l) [] k).length<=0+k:=jI fun i o=>by unfold jS;split<;>simp
 unfold fZ;refine nx fun _=>?_
 refine dT 5 35 ?_;simp only[go_sem];refine dI l.length (fun i=>[(6,.int .i64 i),(5,.hs 35 1 0 (aH (jS s.sto.nodes l) [] i).length)]) (fun i=>[.var (aG s.a),.vec 35 (rows ay (aH (jS s.sto.nodes l) [] i))]) (fun i h1 hw h2=>?_) (fun h=>?_)
 ·have hLi:=hL i
  have hgd:(rows ay l).getD i []=ay (aO l i):=aK (f:=ay) gU h1;have hs:=bg (jS s.sto.nodes l) [] i;have c1:=cj s.sto.nodes (aO l i).block h.bn;clear hL;generalize aH (jS s.sto.nodes l) [] i=o at *;change _=ite _ _ _ at hs
  generalize aO l i=r at *;have hsn:rows ay o++[ay r]=rows ay (o++[r]):=dn ay o r;by_cases q:0<=ab s.sto.nodes r.block
  ·rw[afA q]at hs;exact aw
  ·rw[afx q]at hs;exact aw
 ·have h2:=lS (aH (jS s.sto.nodes l) [] l.length);exact aw
theorem FI(s:al)(h:StR s.sto)(h1:s.reqs.length<=2097152)(h2:s.rets.length<=2097152):PC Tryz.prog 116 [.agg (aG s.a)] (.agg (aG (fE s).a)):=by
 refine aQ 3 ?_;have c1:=yU s s.reqs h h1;have c2:=yU s s.rets h h2;unfold fE al.a at *;exact aw
theorem L6(t b:Int)(ht:t<=9223372036854775807):PC Tryz.prog 298 [.int .i64 t,.int .u64 b] (.int .u64 (mJ t b)):=by
 refine aQ 7 ?_;unfold mJ;by_cases h0:b=0
 ·subst h0;exact aw
 rw[afx h0];obtain⟨R,hR⟩:∃R,mI b (t-1).toNat 1=R:=⟨_,rfl⟩
 rw[hR];refine nx fun _=>?_
 refine aE (fun x:Nat×Int=>[(6,.int .i64 ((x.1:Int)+1)),(5,.int .u64 x.2)]) (fun _=>[]) (fun x=>(t-1).toNat-x.1) (fun x=>x.1<=(t-1).toNat/\mI b ((t-1).toNat-x.1) x.2=R) (0,1) ⟨afK _,hR⟩ aw ?_;clear hR;rintro⟨i,d⟩ ⟨hi,hn⟩;dsimp only at hi hn ⊢;by_cases h1:(i:Int)+1<t
 ·obtain⟨f,hf⟩:∃f,(t-1).toNat-i=f+1:=⟨(t-1).toNat-i-1,af0⟩
  rw[hf,mI]at hn;have hw:IntKind.i64.wrap ((i:Int)+1+1)=((i+1:Nat):Int)+1:=by rw[ar af0 af0];omega
  by_cases q:IntKind.u64.wrap (b-d)<=d
  ·rw[afA q]at hn;subst hn;clear h0;exact aw
  ·rw[afx q]at hn;refine nx fun _=>?_
   refine⟨(i+1,IntKind.u64.wrap (2*d)),⟨by dsimp only;omega,by rw[<-hn,show (t-1).toNat-(i+1)=f by omega]⟩,by dsimp only;omega,?_⟩;clear hn;exact aw
 ·rw[show (t-1).toNat-i=0 by omega,mI]at hn;subst hn;exact aw
theorem aaC(s:al):∀k,(aH (oD s.rets) (fw s []) k).sto=s.sto/\(aH (oD s.rets) (fw s []) k).reqs.length<=s.reqs.length+k/\(aH (oD s.rets) (fw s []) k).rets.length<=k:=by
 intro k;induction k with
 |zero=>exact⟨rfl,afE _,afE _⟩
 | succ k ih =>
   rw[bg];generalize aH (oD s.rets) (fw s []) k=s1 at *;unfold oD;split
   ·exact⟨ih.1,by simp[fw];omega,by simp[fw];omega⟩
   ·split
    ·exact⟨ih.1,by simp[jo];omega,by simp[jo];omega⟩
    ·exact⟨ih.1,af0,af0⟩
theorem Ts(s:al)(h:StR s.sto)(h1:s.reqs.length+s.rets.length<=2097152):PC Tryz.prog 115 [.agg (aG s.a)] (.agg (aG (tK s).a)):=by
 refine aQ 5 ?_;have hK:=aaC s;unfold tK;refine nx fun _=>?_
 refine ou 0 151 35 ?_ af5 (by exact Iy _);simp only[go_sem,Iz];refine dI s.rets.length (fun i=>[(4,.int .i64 i)]) (fun i=>[.var (aG { (aH (oD s.rets) (fw s []) i).a with rets:=.hs 35 2 0 (aH (oD s.rets) (fw s []) i).rets.length }),.var (aG mB),.vec 35 (rows ay (aH (oD s.rets) (fw s []) i).rets)]) (fun i g1 hw g2=>?_) (fun g=>?_) (h0:=by unfold fw;exact abS [] [0,1,2])
 ·obtain⟨hK1,hK2,hK3⟩:=hK i
  have hgd:(rows ay s.rets).getD i []=ay (aO s.rets i):=aK (f:=ay) gU g1;have hs:=bg (oD s.rets) (fw s []) i;clear hK;generalize aH (oD s.rets) (fw s []) i=s1 at *;change _=ite _ _ _ at hs
  have c1:=U6 s1 (by rw[hK1];exact h) (aO s.rets i).block;have c2:=U4 s1 (aO s.rets i).block (aO s.rets i).tries af0 s1.rets s1.rets.length;clear hK1;generalize aO s.rets i=r at *;have hsn:rows ay s1.rets++[ay r]=rows ay (s1.rets++[r]):=dn ay s1.rets r;by_cases q:s1.sto.now<r.due
  ·rw[afA q]at hs;refine nx fun _=>?_
   try rw[hs]
   unfold fw;exact gcJ [0,1,3]
  ·rw[afx q]at hs
   refine nx fun _=>?_
   refine dre [2] c1 ?_;generalize mu s1.sto r.block=B at *;cases B with
   | true =>
     rw[afA rfl]at hs;refine nx fun _=>?_
     refine dce [2] c2 ?_;unfold jo at *;exact aw
   | false =>
     rw[afx af1]at hs;exact aw
 ·have h2:=lS (aH (oD s.rets) (fw s []) s.rets.length).rets;unfold al.a;exact aw
theorem Zz(n:Int):IntKind.i64.wrap n<=9223372036854775807:=by rw[IntKind.wrap_i64];omega
theorem Qz(s:al)(L:List Req)(n:Nat)(hL:L.length=n+1)(hb:n<=2097152)(r0:Req):
 Tri Tryz.prog 117 0 (dz.tl 6) (PQ [.cell 4 true 252] (.agg (aG (fw s (mA L n)).a))) ⟨7,[.dead,.dead,.ptr 0 0,.ptr 1 0,.ptr 2 0,.hs 35 3 0 (n+1),.dead],[]⟩ [.var (aG s.a),.var (ay r0),.var (aG mB),.vec 35 (rows ay L)]:=by
 unfold dz;refine bd ?_;simp only[am.tl];obtain⟨R,hR⟩:∃R,R=mA L n:=⟨_,rfl⟩
 rw[<-hR];have hw0:IntKind.i64.wrap (((n+1:Nat):Int)-1)=(n:Int):=by rw[ar af0 af0];omega
 have hw0':IntKind.i64.wrap ((n:Int)+1-1)=(n:Int):=by rw[ar af0 af0];omega
 refine bm hw0 hw0' ?_;refine aE (fun x:Nat×List Req=>[(6,.int .i64 x.1)]) (fun x=>[.var (aG s.a),.var (ay r0),.var (aG mB),.vec 35 (rows ay x.2)]) (fun x=>x.1) (fun x=>x.1<=n/\x.2.length=n+1/\R=mA x.2 x.1) (n,L) ⟨afE _,hL,hR⟩ ?_ ?_
 ·exact abS [] [0,1,2,3]
 clear hR;rintro⟨k,l⟩ ⟨hk,hl,hn⟩;dsimp only at hk hl hn ⊢;(try simp only[dS,dE,act,acx])
 have ht:List.take (n+1) (rows ay l)=rows ay l:=afD (by simp[hl]);cases k with
 | zero =>
   have e0:decide ((0:Int)<((0:Nat):Int))=false:=af2
   have hr:R=l:=hn;subst hr;refine aS e0 ?_;refine⟨_,(by first|rfl|exact evd),.inl ?_⟩;exact Tx ht hl
 | succ k =>
   have e0:decide ((0:Int)<((k+1:Nat):Int))=true:=ax af0;have hw:IntKind.i64.wrap (((k+1:Nat):Int)-1)=(k:Int):=by rw[ar af0 af0];omega
   have hg1:(rows ay l).getD (k+1) []=ay (aO l (k+1)):=aK (f:=ay) gU af0;have hg2:(rows ay l).getD k []=ay (aO l k):=aK (f:=ay) gU af0;have hsk:mA l (k+1)=if fv (aO l (k+1)) (aO l k)=true then mA ((l.set (k+1) (aO l k)).set k (aO l (k+1))) k else l:=rfl
   rw[hsk]at hn;have hset:∀ (m:List Req) (j:Nat) (x:Req),(rows ay m).set j (ay x)=rows ay (m.set j x):=fun m j x=>pY ay m j x
   unfold fv at hn;generalize ha:aO l (k+1)=a at *;generalize hb2:aO l k=b at *;have hg3:(rows ay (l.set (k+1) b)).getD k []=ay ((l.set (k+1) b).getD k gU):=aK (f:=ay) gU (by simp;omega);have hlt1:k+1<n+1:=af0
   have hlt2:k<n+1:=af0
   by_cases q1:a.due<b.due
   ·have e1:=ax q1;rw[e1,aeh,afA rfl]at hn;refine gO e0 hg1 hg2 hw e1 hl ?_;refine aq ?_;refine gO hg1 hg2 hg3 hw hl hset ?_;refine⟨(k,(l.set (k+1) b).set k a),⟨by dsimp only;omega,by simp[hl],hn⟩,by dsimp only;omega,?_⟩;exact abS [] [0,1,2,3]
   have e1:=aD q1;rw[e1,ac9]at hn;by_cases q2:a.due=b.due
   ·have e2:(a.due==b.due)=true:=by simp[q2]
    rw[ax q2,acD]at hn;by_cases q3:a.tag<b.tag
    ·have e3:=ax q3;rw[e3,afA rfl]at hn;refine pL e0 hg1 hg2 hw e1 e2 e3 hl ?_;refine aq ?_;refine gO hg1 hg2 hg3 hw hl hset ?_;refine⟨(k,(l.set (k+1) b).set k a),⟨by dsimp only;omega,by simp[hl],hn⟩,by dsimp only;omega,?_⟩;exact abS [] [0,1,2,3]
    ·have e3:=aD q3;rw[e3,afx af1]at hn;subst hn;refine pL e0 hg1 hg2 hw e1 e2 e3 hl ?_;refine aab ?_;refine⟨_,(by first|rfl|exact evd),.inl ?_⟩;exact Tx ht hl
   ·have e2:(a.due==b.due)=false:=by simp[q2]
    rw[aD q2,acI,afx af1]at hn;subst hn;refine lx e0 hg1 hg2 hw e1 e2 hl ?_;refine aab ?_;refine⟨_,(by first|rfl|exact evd),.inl ?_⟩;exact Tx ht hl
theorem Mz(s:al)(r:Req)(h:StR s.sto)(hy:s.rets.length<=1000):PC Tryz.prog 216 [.agg (aG s.a),.agg (ay r)] (.agg (aG (gZ s r).a)):=by
 have tl:=Qz s (s.rets++[iD s r]) s.rets.length af1 af0 (iD s r);refine pfn 7 Eh ?_;have hc:dz=.seq dz.hd (.seq (dz.tl 1).hd (.seq (dz.tl 2).hd (.seq (dz.tl 3).hd (.seq (dz.tl 4).hd (.seq (dz.tl 5).hd (dz.tl 6)))))):=rfl;rw[hc];clear hc;generalize dz.tl 6=cT at *;unfold dz;refine bd ?_;simp only[am.tl,am.hd];have c1:=CC s h r.block;have c2:=L6 (IntKind.i64.wrap (r.tries+1)) s.sto.cfg.lim.backoff (Zz _);unfold gZ;generalize mu s.sto r.block=B at *;cases B with
 | false =>
   rw[afA rfl];refine gon ?_;refine ap c1 ?_;refine bD ?_;exact aj
 | true =>
   rw[afx af1];by_cases q:s.sto.cfg.lim.retry<=s.rets.length
   ·have e1:decide (s.sto.cfg.lim.retry<=(s.rets.length:Int))=true:=ax q;rw[afA q];refine gon ?_;refine ap c1 ?_;refine d6 ?_;refine aW e1 ?_;exact aj
   ·have e1:decide (s.sto.cfg.lim.retry<=(s.rets.length:Int))=false:=aD q;have hsn:rows ay s.rets++[ay (iD s r)]=rows ay (s.rets++[iD s r]):=dn ay s.rets _;have hlr:ay { tag:=r.tag,block:=r.block,tries:=IntKind.i64.wrap (r.tries+1),due:=IntKind.u64.wrap (s.sto.now+mJ (IntKind.i64.wrap (r.tries+1)) s.sto.cfg.lim.backoff) }=ay (iD s r):=rfl;rw[afx q];refine gon ?_;refine ap c1 ?_;refine d6 ?_;refine aS e1 ?_;refine aP (c2) ?_;refine eS hlr hsn lS ?_;refine fN ?_ tl;exact abS [] [0,1,2,5]
theorem RG(s:af)(h:StR s):PC Tryz.prog 62 [.agg (ak s.a)] (.agg (rtc (xl s))):=by
 refine aQ 4 ?_;have c1:=cj s.nodes s.j.rt h.bn;have b1:=dl s.nodes s.j.rt;unfold xl;generalize ab s.nodes s.j.rt=I at *;refine gon ?_;refine ap c1 ?_;by_cases q:0<=I
 ·have e1:=ax q
  have hg:=dv (t:=s.nodes) (i:=I.toNat) af0;by_cases q2:(nod s.nodes I.toNat).status=1
  ·have e2:((nod s.nodes I.toNat).status==1)=true:=by simp[q2]
   rw[afA ⟨q,q2⟩];refine kU e1 hg e2 ?_;exact aj
  ·have e2:((nod s.nodes I.toNat).status==1)=false:=by simp[q2]
   rw[afx (fun h=>q2 h.2)];refine xX e1 hg e2 ?_;exact aj
 ·have e1:=aD q;rw[afx (fun h=>q h.1)];refine aS e1 ?_;exact aj
theorem TV{s:af}(h:StR s):0<=gC s/\gC s<s.nodes.length:=by
 have h1:=dl s.nodes s.j.rt;have h2:=pM h.tree (du s) (iK s) (s.nodes.length+1) (ab s.nodes s.j.rt) af0;have h3:=h.jf;unfold gC;omega
theorem Tf(s:af)(h:StR s):PC Tryz.prog 30 [.agg (ak s.a)] (.agg (bH (ro s))):=by
 refine aQ 3 ?_;have c1:=Qn s h;have c2:=RG s h;have hb:=TV h;unfold ro;generalize gC s=I at *;generalize xl s=S at *;have hg:=dv (t:=s.nodes) (i:=I.toNat) af0;refine gon ?_;refine aP (c1) ?_;refine aA hg ?_;refine aP (c2) ?_;refine gon ?_;exact aj
theorem FJ(s:al)(h:StR s.sto):PC Tryz.prog 45 [.agg (aG s.a)] (.tup [.agg (aG (dC s).1.a),.sl 96 false (rows bH (dC s).2)]):=by
 refine PC.fact 5 HI af1 puA ⟨al.pul _,eT _,trivial⟩ ?_;have c1:=Tf s.sto h;unfold dC;generalize ro s.sto=C at *;by_cases q:s.sent=true/\s.last=C
 ·rw[afA q];obtain⟨q1,q2⟩:=q;have e2:decide (s.last=C)=true:=ax q2;unfold kM;refine bd ?_;refine gon ?_;refine ap c1 ?_;refine dV q1 e2 ?_;refine⟨_,(by first|rfl|exact evd),.inr ⟨.tup [.agg (aG s.a),.sl 0 true []],?_,⟨al.pul _,trivial,trivial⟩,Wk.tup ⟨Wk.refl _,Wk.empty _ _ _,trivial⟩⟩⟩;exact evd
 ·rw [afx q]
  have key:∀b:Bool,s.sent=b->(b=true->decide (s.last=C)=false)->Tri Tryz.prog 23 0 kM (PQ [.cell 2 true 252,.tmp 3] (.tup [.agg (aG (al.a ⟨s.sto,s.reqs,s.rets,s.tag,true,C,s.over,s.halt⟩)),.sl 96 false (rows bH [C])])) ⟨5,[.agg (aG s.a),.dead,.dead,.dead,.dead],[]⟩ []:=by
   intro b h1 h2;cases b with
   | false =>
     unfold kM;dsimp only[nfO,Int.reduceOfNat,Int.reduceNegSucc,wA,wB,wC,wD,wE,wF,wG,wH,wI,wJ,wK,wL,wM,wN,wO,wP,wQ,wR,wS,wT,wU,wV,wW,wX,wY,wZ,om,oo,on,omg,og,ong,ci,cu,cb,cf,fA,lA,lF,bI,bC,sO,eX,lN,iX,kA,kB,kC,sR,cN];refine gon ?_;refine ap c1 ?_;refine aS h1 ?_;refine⟨_,(by first|rfl|exact evd),.inr ⟨.tup [.agg (aG (al.a ⟨s.sto,s.reqs,s.rets,s.tag,true,C,s.over,s.halt⟩)),.sl 96 false (rows bH [C])],?_,⟨al.pul _,eT _,trivial⟩,Wk.tup ⟨Wk.refl _,Wk.refl _,trivial⟩⟩⟩;exact evd
   | true =>
     have e2:=h2 rfl;unfold kM;dsimp only[nfO,Int.reduceOfNat,Int.reduceNegSucc,wA,wB,wC,wD,wE,wF,wG,wH,wI,wJ,wK,wL,wM,wN,wO,wP,wQ,wR,wS,wT,wU,wV,wW,wX,wY,wZ,om,oo,on,omg,og,ong,ci,cu,cb,cf,fA,lA,lF,bI,bC,sO,eX,lN,iX,kA,kB,kC,sR,cN];refine gon ?_;refine ap c1 ?_;refine pi h1 e2 ?_;refine⟨_,(by first|rfl|exact evd),.inr ⟨.tup [.agg (aG (al.a ⟨s.sto,s.reqs,s.rets,s.tag,true,C,s.over,s.halt⟩)),.sl 96 false (rows bH [C])],?_,⟨al.pul _,eT _,trivial⟩,Wk.tup ⟨Wk.refl _,Wk.refl _,trivial⟩⟩⟩;exact evd
  exact key s.sent rfl fun hb=>aD fun hl=>q ⟨hb,hl⟩
end Go.Proofs.YtmpddimhleianaaGreat
