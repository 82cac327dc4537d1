/- Joined. -/
import Derived.Test.YtmpddimhleianaaGreatQ1
import Derived.Test.YtmpddimhleianaaGreatQ4
import Derived.Test.YtmpddimhleianaaGreatE2
import Derived.Test.YtmpddimhleianaaGreatO1
import Derived.Test.YtmpddimhleianaaGreatO7
import Derived.Test.YtmpddimhleianaaGreatT1
set_option linter.unusedVariables false
set_option linter.unusedSimpArgs false
set_option maxRecDepth 8000
set_option maxHeartbeats 4000000
namespace Go.Proofs.YtmpddimhleianaaGreat
open Go Go.FH Go.RowKit
theorem ID(l:List Req)(i:Nat)(v:Req)(hi:i<=l.length)(hb:l.length<=2097152):
 ay Tryz.prog 276 [.hs 35 0 0 l.length,.int .i64 i,.sl 35 true (rows aP [v])] [.vec 35 (rows aP l)] (.hs 35 1 0 (l.length+1)) [.gone,.vec 35 (rows aP (l.take i++v::l.drop i))]:=by
 refine dS 10 ?_;refine pe 0 WQ WQ WN WM (fun m hm=>?_);have hv:(rows aP l).length=l.length:=WM
 have hXl:(rows aP l++List.replicate m (List.replicate 35 AV.any)).length=l.length+m:=WM
 have hX1:List.take i (rows aP l++List.replicate m (List.replicate 35 AV.any))=rows aP (l.take i):=by
  rw[ajs (by simp;exact hi)];simp[rows]
 have hX2:List.take (l.length-i) (List.drop i (rows aP l++List.replicate m (List.replicate 35 AV.any)))=rows aP (l.drop i):=by
  rw[akw (by simp;exact hi),ajs WM,amf WM];simp[rows]
 have hX3:List.take l.length (rows aP l++List.replicate m (List.replicate 35 AV.any))=rows aP l:=by
  rw[ajs WM,amf WM]
 have hF:rows aP l++rows aP [v]=rows aP (l++v::List.drop l.length l):=by simp[rows]
 have ht:(rows aP l).take i=rows aP (l.take i):=by simp[rows]
 have hd:(rows aP l).drop i=rows aP (l.drop i):=by simp[rows]
 have hG:rows aP (l.take i)++rows aP [v]++rows aP (l.drop i)=rows aP (l.take i++v::l.drop i):=by simp[rows]
 have hG2:rows aP (l.take i)++(aP v)::rows aP (l.drop i)=rows aP (l.take i++v::l.drop i):=by simp[rows]
 have R1:=uw (rows aP l) (List.replicate m (List.replicate 35 AV.any)) i (by rw[hv];exact hi);have R2:=uv (rows aP l) (aP ⟨0,rt0,0,0⟩) (aP v) i (by rw[hv];exact hi);rw[hv,ht,hd,akH]at R1;rw[hv,ht,hd,hG2]at R2;rw[show [aP v]=rows aP [v]from rfl]at R2
 have hY:i<l.length->List.take (l.length-i) (List.take (l.length+1-i) (List.drop i (rows aP l++List.replicate m (List.replicate 35 AV.any))))=rows aP (l.drop i):=fun _=>by
  rw[ak7,akA WL];exact hX2
 have hYl:0<m->(List.take (l.length+1-i) (List.drop i (rows aP l++List.replicate m (List.replicate 35 AV.any)))).length=l.length+1-i:=fun _=>by simp;omega
 generalize rows aP l++List.replicate m (List.replicate 35 AV.any)=X at *;have k1:(l.length:Int)<=((l.length+m:Nat):Int):=WL
 have k2:(i:Int)<=((l.length:Nat):Int):=WL
 have k3:l.length<=l.length+m:=WL
 refine OA hXl k1 k2 k3 ?_;refine pz hXl k1 k2 k3 ?_;by_cases q:i=l.length
 ·subst q
  refine bw hXl ?_;by_cases hm0:m=0
  ·subst hm0;have q1:¬l.length+1<=l.length:=WL
   refine fG hXl ajV q1 amb hX3 hF ?_;exact ahY [0] [0,1]
  ·have q1:l.length+1<=l.length+m:=WL
   generalize hret:ab.ret=R;refine pz hXl q1 k3 hX3 ?_;subst hret;refine rU 6 true (rows aP l++rows aP [v]) (X.drop (l.length+1)) WQ WQ ?_;refine ah hF ?_;exact ahY [] [0,2]
 have e0:((i:Int)==((l.length:Nat):Int))=false:=by simp;omega
 have hw1:IntKind.i64.wrap ((l.length:Int)+1)=((l.length+1:Nat):Int):=by rw[aL WL WL];omega
 have hw2:IntKind.i64.wrap ((i:Int)+1)=((i+1:Nat):Int):=by rw[aL WL WL];omega
 refine fp hXl e0 ?_;obtain⟨Z,z1,z2,z3⟩:=R2;have m1:min 1 (l.length+1-i)=1:=WL
 have m2:min (l.length-i) (l.length+1-(i+1))=l.length-i:=WL
 have m3:min (l.length+1-i) (l.length+1-(i+1))=l.length-i:=WL
 have t1:List.take 1 (rows aP [v])=rows aP [v]:=rfl;by_cases hm0:m=0
 ·subst hm0;clear R1 hY hYl;have e1:decide (((l.length:Nat):Int)<((l.length+1:Nat):Int))=true:=au WL;have hw3:IntKind.i64.wrap (((l.length+1:Nat):Int)-(i:Int))=((l.length+1-i:Nat):Int):=by rw[aL WL WL];omega
  have hs1:i+(l.length+1-i)=l.length+1:=WL
  have hs2:i+(l.length-i)=l.length:=WL
  have hs3:i+1+(l.length+1-(i+1))=l.length+1:=WL
  have hs4:i+1+(l.length-i)=l.length+1:=WL
  have hdl:(l.drop i).length=l.length-i:=WM
  have htn:List.take (l.length-i) (rows aP (l.drop i))=rows aP (l.drop i):=amf WM;have j1:0<l.length+1-i:=WL
  refine jj hXl e0 hw1 ajV amb e1 Wt ?_;refine ax ?_;repeat(first|refine bY ?_|simp only[go_sem,hXl,e0,hw1,hw2,hw3,hs1,hs2,hs3,j1,hX1,hX2,m1,t1,z1,z2,amw,ajV,amb,e1,Wt,hdl,m2,htn,hs4,z3])
  exact ahY [0] [0,1]
 ·have e1:decide (((l.length+m:Nat):Int)<((l.length+1:Nat):Int))=false:=aA WL;obtain⟨X2,x1,x2,x3,x4⟩:=R1 WL;have hY1:=hY WL;have hYl1:=hYl WL;have r1:i+(l.length+1-i)<=l.length+m:=WL
  have r2:i+1+(l.length+1-(i+1))<=l.length+m:=WL
  have r3:l.length+1<=l.length+m:=WL
  refine fG hXl e0 hw1 k3 e1 Wt ?_;refine aB ?_;refine jj hXl e0 hw1 hw2 k3 e1 Wt ?_;clear R1 hY hYl;refine ax ?_;generalize hret:ab.ret=R;repeat(first|refine bY ?_|simp only[go_sem,hXl,e0,hw1,hw2,k3,e1,Wt,r1,r2,r3,hYl1,m3,hY1,x1,x2,x3,x4,m1,t1])
  subst hret;refine rU 6 true (rows aP (l.take i++v::l.drop i)) (X.drop (l.length+1)) WQ (by rw[<-hG];simp[Go.FH.mkr]) ?_;refine gon ?_;exact ahY [] [0,1]
theorem NP(l:List Req)(cl:Bool)(x:Req)(i:Nat)(hi:i<=l.length)(hb:l.length<=2097152)(h1:∀j,j<i->gC (bm l j) x=true)(h2:∀j,i<=j->j<l.length->gC (bm l j) x=false):
 ∃f:Bool,PC Tryz.prog 275 [.sl 35 cl (rows aP l),.agg (aP x),.fn (.func 83) []] (.tup [.int .i64 i,.bool f]):=by
 refine⟨decide ((i:Int)<(l.length:Int))&&decide (orI [xX (bm l i).due x.due,xX (bm l i).tag x.tag]=0),?_⟩;refine ae 12 ?_
 have hlt:∀j,(orI [xX (bm l j).due x.due,xX (bm l j).tag x.tag]<0)=(gC (bm l j) x=true):=fun j=>by
  have:=abZ (bm l j) x;rw[eq_iff_iff,<-Int.not_le];cases hd:gC (bm l j) x<;>rw[hd]at this<;>simp at this ⊢<;>omega
 have hc:=fun j=>ab0 (bm l j) x
 generalize hg:(fun j=>orI [xX (bm l j).due x.due,xX (bm l j).tag x.tag])=g;have hg2:∀j,orI [xX (bm l j).due x.due,xX (bm l j).tag x.tag]=g j:=fun j=>by rw[<-hg]
 clear hg;simp only[hg2]at hlt hc ⊢;clear hg2;refine nx fun H=>?_
 refine az (fun y:Nat×Nat=>[(9,.int .i64 y.1),(10,.int .i64 y.2),(11,.dead)]) (fun _=>[.var (aP x)]) (fun y=>y.2-y.1) (fun y=>y.1<=i/\i<=y.2/\y.2<=l.length) (0,l.length) ⟨amc _,hi,amb _⟩ ?_ ?_
 ·exact aw
 rintro⟨a,b⟩ ⟨ha,hb1,hb2⟩;dsimp only at ha hb1 hb2;by_cases q:a<b
 ·have e1:(a:Int)<(b:Int):=WL
  obtain⟨h,g1,g2,g3,g4,g5,g6,g7⟩:=oJ q hb2 hb;have hh:h<l.length:=WL
  have hgd:=gdq hh;have c1:=hc h;have hth:=hlt h;have h1h:=h1 h;have h2h:=fun hc=>h2 h hc hh
  clear hlt hc h1 h2;generalize g h=R at *;by_cases q2:R<0
  ·have hhi:h<i:=Nat.lt_of_not_le fun hc=>by rw[hth,h2h hc]at q2;cases q2
   clear hth h1h h2h;refine nx fun H=>?_
   exact⟨(h+1,b),⟨hhi,hb1,hb2⟩,by dsimp only;omega,aw⟩
  ·have hhi:i<=h:=Ww fun hc=>q2 (hth▸h1h hc)
   clear hth h1h h2h;refine nx fun H=>?_
   exact⟨(a,h),⟨ha,hhi,by dsimp only;omega⟩,by dsimp only;omega,aw⟩
 ·obtain rfl:a=i:=WL
  obtain rfl:b=a:=WL
  have c1:=hc b;clear hlt hc h1 h2;generalize g b=R at *;have e1:¬ (b:Int)<(b:Int):=WL
  by_cases q2:b<l.length
  ·have e2:(b:Int)<(l.length:Int):=WL
   have hgd:=gdq q2;exact aw
  ·have e2:¬ (b:Int)<(l.length:Int):=WL
   exact aw
theorem Gg{a b:Req}(h:gC a b=true):gC b a=false:=by
 rw[<-amZ];rw[yS]at h ⊢;omega
theorem Qt{l:List Req}(hl:l.Pairwise fun a b=>gC a b=true){x:Req}(hx:∀y∈l,x.tag≠y.tag):∃i,i<=l.length/\(∀j,j<i->gC (bm l j) x=true)/\(∀j,i<=j->j<l.length->gC (bm l j) x=false)/\nS (l++[x]) l.length=l.take i++x::l.drop i:=by
 obtain⟨hs,_⟩:=Db hl hx;obtain⟨p,q,h1,h2,h3,h4⟩:=LY x l [];rw[h2,amo]at hs;rw[h2,amo];subst h1;rw[ajw]at hs;obtain⟨_,_,k3⟩:=hs;refine⟨p.length,WM,fun j hj=>?_,fun j h5 h6=>?_,WM⟩
 ·have e:bm (p++q) j=p[j]:=by unfold bm;rw[alt,amH hj,al6 hj];rfl
  rw[e];exact k3 _ (amS _) _ (akj ..)
 ·rw[akC]at h6;have hj:j-p.length<q.length:=WL
  have e:bm (p++q) j=q[j-p.length]:=by unfold bm;rw[alt,amX h5,al6 hj];rfl
  rw[e];exact Gg (h3 _ (amS _))
theorem NO(l:List Req)(x:Req)(i:Nat)(hi:i<=l.length)(hb:l.length<=2097152)(h1:∀j,j<i->gC (bm l j) x=true)(h2:∀j,i<=j->j<l.length->gC (bm l j) x=false):
 ∃f:Bool,ay Tryz.prog 275 [.hs 35 0 0 l.length,.agg (aP x),.fn (.func 83) []] [.vec 35 (rows aP l)] (.tup [.int .i64 i,.bool f]) [.vec 35 (rows aP l)]:=by
 obtain⟨f,hf⟩:=NP l false x i hi hb h1 h2;refine⟨f,ay.lend rfl ?_⟩;have ht:List.take l.length (rows aP l)=rows aP l:=amf WM;(try simp only[go_sem,ht,al8,ama,ake,ako])
 exact hf
theorem Eo(s:aI)(h:CpA s)(r:Req)(ht0:0<=r.tries)(ht1:r.tries<1000000)(hb0:0<=s.sto.cfg.lim.backoff)(hb1:s.sto.cfg.lim.backoff<18446744073709551616)(hs:s.rets.Pairwise fun a b=>gC a b=true)(hx:∀y∈s.rets,r.tag≠y.tag):PC Tryz.prog 191 [.agg (aV s.a),.agg (aP r)] (.agg (aV (lO s r).a)):=by
 refine ae 8 ?_;have c1:=gm s h;have c2:=Fb s r.block h.st.bn;have hw:IntKind.i64.wrap (r.tries+1)=r.tries+1:=aL WL WL;have c3:=Eg (r.tries+1) s.sto.cfg.lim.backoff WL hb0 hb1;obtain⟨i,p1,p2,p3,p4⟩:=Qt hs (x:=jC s r) hx;obtain⟨f,c4⟩:=NO s.rets (jC s r) i p1 h.ry p2 p3;have c5:=ID s.rets i (jC s r) p1 h.ry;unfold lO;rw[p4];unfold DU at c1;unfold jC at *;rw[hw]at c4 c5 ⊢;unfold aI.a at c2 ⊢;clear p2 p3 p4 hs hx;generalize vx (r.tries+1) s.sto.cfg.lim.backoff=D at *;refine gon ?_;refine oce [] c1 ?_;cases q:Cz s.sto r.block with
 | false =>
   rw[q]at c2;clear c1 c3 c4 c5;rw[al7 rfl];exact aw
 | true =>
   rw[q]at c2;rw[al5 WM];by_cases q2:s.sto.cfg.lim.retry<=s.rets.length
   ·rw[al7 q2];clear c1 c3 c4 c5;exact aw
   ·rw[al5 q2];have hl:(s.rets.take i++(⟨r.tag,r.block,r.tries+1,IntKind.u64.wrap (s.sto.now+D)⟩:Req)::s.rets.drop i).length=s.rets.length+1:=by simp;omega
    refine nx fun H=>?_
    refine oce [4] c4 ?_;refine nx fun H=>?_
    refine oce [4] c5 ?_;unfold gi;generalize s.rets.take i++(⟨r.tag,r.block,r.tries+1,IntKind.u64.wrap (s.sto.now+D)⟩:Req)::s.rets.drop i=L at *;rw[<-hl];exact aw
theorem SC(l:List Nod)(i:Nat)(x:Nod):(rows bB l).set i (bB x)=rows bB (l.set i x):=F2 bB l i x
attribute [go_sem] SC Option.isSome_some Option.getD_some
def F0(t:List Nod)(l:List Int)(a b:Int):List Nod×Int:=if l.length=0 then ([],10)else match tD t l a b with
 |some u=>(u,0)
 |none=>([],21)
theorem zX(t:List Nod)(hb:t.length<=2097152)(l:List Int)(hl:l.length<=2097152)(hm:∀x∈l,0<=x/\x<t.length)(a b:Int):
 PC Tryz.prog 338 [.agg [nA t],.sl 1 false (aH .i64 l),.int .i64 a,.int .i64 b] (.tup [.agg [nA (F0 t l a b).1],.int .i64 (F0 t l a b).2]):=by
 refine ae 22 ?_;unfold F0;by_cases h0:l.length=0
 ·have e:l=[]:=amK h0;subst e;exact aw
 have h1:¬ (l.length:Int)=0:=WL
 have c1:=oE t false hb;have hd:∀k,k<l.length->bg (qf l a b) (some t) k=none->tD t l a b=none:=fun k hk h=>y9 h _ WL
 refine nx fun H=>?_
 refine oce [] c1 ?_;refine nx fun H=>?_
 refine FO l.length (fun i=>(bg (qf l a b) (some t) i).isSome=true) (fun i=>[(21,.int .i64 i),(12,.dead),(16,.dead),(18,.dead)]) (fun i=>[.var [nA t],.var [.sl 0 true []],.vec 240 (rows bB ((bg (qf l a b) (some t) i).getD [])),.var [.hs 240 2 0 t.length]]) rfl (fun i h1 hk hw h2=>?_) (fun hk h=>?_)
 ·have hs:=cX (qf l a b) (some t) i
  cases hu:bg (qf l a b) (some t) i with
  |none=>rw[hu]at hk;cases hk
  | some u =>
    have hul:=ml hu;have hxm:=hm _ (show l.getD i 0∈l by rw[alt,al6 h1];exact amS _);obtain⟨x,hx⟩:=ajO hxm.1;have hxu:x<u.length:=WL
    rw[hu]at hs;simp only[qf,ale,hx,amw]at hs;by_cases q:(nod u x).status=b
    ·rw[al7 q]at hs;have:=y9 hs l.length h1;unfold tD;exact aw
    ·rw[al5 q]at hs;exact aw
 ·cases hu:bg (qf l a b) (some t) l.length with
  |none=>rw[hu]at hk;cases hk
  | some u =>
    have hul:=ml hu;unfold tD;exact aw
theorem Ow{t:List Nod}(ht:dU t)(i:Int):fD t i=F0 t (AI t i) 1 2:=by
 unfold fD F0;cases hj:isN t i with
 |false=>rw[te hj];rfl
 | true =>
   obtain⟨h0,h1⟩:=dR.1 hj;obtain⟨k,rfl⟩:=ajO h0;rw[al7 rfl,al5 (by rw[gE ht WL];simp)];rfl
theorem M5{t:List Nod}(i:Int):∀x∈im t i,0<=x/\x<(t.length:Int):=by
 unfold im;refine Yy (fun k (l:List Int)=>∀x∈l,0<=x/\x<(t.length:Int)) WM t.length (fun k l hk h=>?_) _ (amb _);split
 ·intro x hx;rw[amm,amn]at hx;rcases hx with hx|rfl
  ·exact h x hx
  ·omega
 ·exact h
theorem MY(t:List Nod)(i:Int):(im t i).length<=t.length:=by
 have:(bg (fun k l=>if eh t i k=true then l++[(k:Int)]else l) [] t.length).length<=0+t.length:=ng (fun k l=>by split<;>simp) t.length;rw[amO]at this;exact this
theorem Ps{t:List Nod}(ht:dU t)(i:Int):kF t i=F0 t (im t i) 2 1:=by
 unfold kF F0;cases hj:isN t i with
 | false =>
   have h0:im t i=[]:=by
    unfold im;refine Yy (fun _ l=>l=[]) rfl t.length (fun k l _ h=>?_) _ (amb _);rw[po ht (.inl hj)];exact h
   rw[h0];rfl
 | true =>
   obtain⟨h0,h1⟩:=dR.1 hj;obtain⟨k,rfl⟩:=ajO h0
   have hm:(k:Int)∈im t k:=by
    have:=Yy (f:=fun j l=>if eh t k j=true then l++[(j:Int)]else l) (a:=[]) (fun j l=>k<j->(k:Int)∈l) (fun h=>absurd h (aju _)) t.length (fun j l hj ih hk=>by
     by_cases he:k=j
     ·subst he;rw[al7 (by rw[CK ht hj];simp)];simp
     ·split
      ·exact aka _ (ih WL)
      ·exact ih WL) t.length (amb _)
    exact this WL
   rw[al7 rfl,al5 (by intro h;rw[amK h]at hm;cases hm)];rfl
theorem sB(t:List Nod)(ht:dU t)(hb:t.length<=2097152)(i:Int):PC Tryz.prog 277 [.agg [nA t],.int .i64 i] (.tup [.agg [nA (fD t i).1],.int .i64 (fD t i).2]):=by
 refine ae 6 ?_;rw[Ow ht];have c1:=xj t ht hb i;have c2:=zX t hb (AI t i) (ams (pF ht.ok i) hb) (fun x hx=>⟨(gu ht.ok hx).1,(gu ht.ok hx).2.2⟩) 1 2;exact aw
theorem v7(t:List Nod)(ht:dU t)(hb:t.length<=2097152)(i:Int):PC Tryz.prog 341 [.agg [nA t],.int .i64 i] (.tup [.agg [nA (kF t i).1],.int .i64 (kF t i).2]):=by
 refine ae 6 ?_;rw[Ps ht];have c1:=HT t ht hb i;have c2:=zX t hb (im t i) (ams (MY t i) hb) (M5 i) 2 1;exact aw
theorem Qh{t:List Nod}(ht:dU t)(hr:(nod t 0).up=-1):∀ (c k:Nat),c<t.length->k<(AI t c).length->(nod t ((AI t c).getD k 0).toNat).up=if k=0 then -1 else (AI t c).getD (k-1) 0:=by
 intro c;induction c using Nat.strongRecOn with
 | _ c ih =>
   intro k hc hk;rcases ajQ c with h|h
   ·subst h;have e:AI t ((0:Nat):Int)=[0]:=jv hc;rw[e]at hk ⊢;obtain rfl:k=0:=by simpa using hk
    rw[al7 rfl];exact hr
   ·obtain⟨u0,u1⟩:=ht.ok c h hc
    obtain⟨u,hu⟩:=ajO u0;have hul:u<c:=WL
    have hb:=gE ht hc;rw[hu]at hb;have hlen:0<(AI t (u:Int)).length:=by rw[gE ht (show u<t.length by omega)];simp
    by_cases hk2:k<(AI t (u:Int)).length
    ·have:=ih u hul k WL hk2;have g1:(AI t (c:Int)).getD k 0=(AI t (u:Int)).getD k 0:=by rw[hb,alt,amH hk2,<-alt]
     have g2:(AI t (c:Int)).getD (k-1) 0=(AI t (u:Int)).getD (k-1) 0:=by rw[hb,alt,amH WL,<-alt]
     rw[g1,g2];exact this
    ·have hk3:k=(AI t (u:Int)).length:=by rw[hb]at hk;simp at hk;omega
     have g1:(AI t (c:Int)).getD k 0=c:=by rw[hb,alt,amX WL,hk3];simp
     have g2:(AI t (c:Int)).getD (k-1) 0=u:=by
      rw[hb,alt,amH WL,<-alt];have hb2:=gE ht (show u<t.length by omega);have:k-1=(AI t (nod t u).up).length:=by rw[hk3,hb2];simp
      rw[this,hb2,alt,amX (amb _)];simp
     rw[al5 WL,g1,g2,amw,hu]
theorem EJ(t:List Nod)(ht:dU t)(hr:(nod t 0).up=-1)(hb:t.length<=2097152)(i0:Int)(L:Rt):PC Tryz.prog 340 [.agg [nA t],.int .i64 i0,.agg (rtc L)] (.tup [.int .i64 (iY t i0 L).1,.int .i64 (iY t i0 L).2]):=by
 refine ae 23 ?_;have c1:=xj t ht hb i0;have hm:=fun x hx=>gu (i:=i0) (x:=x) ht.ok hx
 have hln:=pF ht.ok i0
 have hup:∀k,k<(AI t i0).length->(nod t ((AI t i0).getD k 0).toNat).up=if k=0 then -1 else (AI t i0).getD (k-1) 0:=fun k hk=>by
  cases hj:isN t i0 with
  |false=>rw[te hj]at hk;simp at hk
  | true =>
    obtain⟨h0,h1⟩:=dR.1 hj;obtain⟨c,rfl⟩:=ajO h0;exact Qh ht hr c k WL hk
 have c2:=H1 L;unfold iY;generalize AI t i0=l at *
 have hg:∀k,k<l.length->∃x:Nat,l.getD k 0=x/\x<t.length:=fun k hk=>by
  have:=hm _ (show l.getD k 0∈l by rw[alt,al6 hk];exact amS _);exact⟨(l.getD k 0).toNat,WL,WL⟩
 by_cases h0:l.length=0
 ·have e:l=[]:=amK h0;subst e;exact aw
 have h1:¬ (l.length:Int)=0:=WL
 by_cases hL:L=rt0
 ·rw [al5 h0, al7 hL]
  rw[au hL]at c2;clear hL;generalize hp:(fun k=>decide ((nod t (l.getD k 0).toNat).blk.payload≠rt0))=p;have hp2:∀k,p k=decide ((nod t (l.getD k 0).toNat).blk.payload≠rt0):=fun k=>by rw[<-hp]
  refine nx fun H=>?_
  refine FO l.length (fun i=>∀j,j<i->p j=false) (fun i=>[(22,.int .i64 i),(9,.dead),(10,.dead)]) (fun i=>[.var [nA t],.var (rtc L)]) (fun j h=>absurd h (aju _)) (fun i h1 hk hw h2=>?_) (fun hk h=>?_)
  ·obtain⟨x,hx,hxl⟩:=hg i h1
   have c3:=H1 (nod t x).blk.payload;have hpi:=hp2 i;rw[hx,amw]at hpi;have hui:=hup i h1;rw[hx,amw]at hui;by_cases q:(nod t x).blk.payload=rt0
   ·have hpf:p i=false:=by rw[hpi];simp[q]
    rw[au q]at c3
    have hk2:∀j,j<i+1->p j=false:=fun j hj=>by
     by_cases hji:j=i
     ·rw[hji];exact hpf
     ·exact hk j WL
    clear hk hp hp2 hpi q;exact aw
   ·rw[Lh h1 (by rw[hpi];simp[q]) hk]
    rw[aA q]at c3;dsimp only;rw[hx,amw,hui];clear hup hui hk hp hp2 hpi hm;by_cases hi0:i=0
    ·subst hi0;have h3:(0:Int)<(l.length:Int):=WL
     exact aw
    ·have hw3:IntKind.i64.wrap ((i:Int)-1)=((i-1:Nat):Int):=by rw[aL WL WL];omega
     have hi1:i-1<l.length:=WL
     have hi2:¬ (i:Int)=0:=WL
     exact aw
  ·have:dW p l.length=none:=by
    cases hf:dW p l.length with
    |none=>rfl
    |some j=>have:=fZ hf;rw[hk j this.1]at this;cases this.2.1
   rw[this];clear hup hk hp hp2 hm hg;exact aw
 ·rw [al5 h0, al5 hL]
  rw[aA hL]at c2;clear hL;generalize hp:(fun k=>decide ((nod t (l.getD k 0).toNat).blk.payload=L))=p;have hp2:∀k,p k=decide ((nod t (l.getD k 0).toNat).blk.payload=L):=fun k=>by rw[<-hp]
  have hw0:IntKind.i64.wrap ((l.length:Int)-2)=((l.length-1:Nat):Int)-1:=by rw[aL WL WL];omega
  refine nx fun H=>?_
  refine Ld (l.length-1) (fun m=>yB p (l.length-1)=yB p m) (fun m v=>[(11,.int .i64 v)]) (fun i=>[.var [nA t],.var (rtc L)]) rfl (fun i h1 hk e1 hw1=>?_) (fun hk=>?_)
  ·obtain⟨x,hx,hxl⟩:=hg i WL
   have hpi:=hp2 i;rw[hx,amw]at hpi;have hi1:i<l.length:=WL
   have hi2:i+1<l.length:=WL
   have hw2:IntKind.i64.wrap ((i:Int)+1)=((i+1:Nat):Int):=af hi1 WL;have e2:=gdn (k:=.i64) hi2;rw[hk];clear hm hup hp hp2 hg hk hw0;by_cases q:(nod t x).blk.payload=L
   ·rw[MZ (by rw[hpi];simp[q])];dsimp only;clear hpi;exact aw
   ·rw[MU (by rw[hpi];simp[q])];clear hpi;exact aw
  ·rw[hk,M0];clear hup hk hp hp2 hm hg;exact aw
def Pq(t:List Nod)(i:Int)(L:Rt)(keep:List Int):List Nod×Int:=
 if (dW (fun k=>eh t (iY t i L).2 (keep.getD k 0)) keep.length).isSome=true then ([],21)
 else if 0<=(iY t i L).1 then (if (fD t (iY t i L).1).2≠0 then ([],(fD t (iY t i L).1).2)else kF (fD t (iY t i L).1).1 (iY t i L).2)
 else kF t (iY t i L).2
theorem dU.raise{t:List Nod}(ht:dU t){i:Int}(h:(fD t i).2=0):dU (fD t i).1/\(fD t i).1.length=t.length:=by
 obtain⟨h1,h2,_⟩:=Hq ht.ok h;refine⟨⟨h1,by rw[h2];exact ht.pos,?_⟩,h2⟩;unfold fD at h ⊢;split at h
 ·rename_i hi;rw[al7 hi];cases hs:tD t (AI t i) 1 2 with
  |none=>rw[hs]at h;cases h
  |some u=>show (nod u 0).up<0;rw[(tC hs 0).1];exact ht.root
 ·cases h
theorem Ut(t:List Nod)(ht:dU t)(hr:(nod t 0).up=-1)(hb:t.length<=2097152)(i0:Int)(L:Rt)(keep:List Int)(cl:Bool)(hl:keep.length<=2097152):
 PC Tryz.prog 278 [.agg [nA t],.int .i64 i0,.agg (rtc L),.sl 1 cl (aH .i64 keep)] (.tup [.agg [nA (Pq t i0 L keep).1],.int .i64 (Pq t i0 L keep).2]):=by
 refine ae 26 ?_;have c1:=EJ t ht hr hb i0 L;unfold Pq;generalize iY t i0 L=R at *;obtain⟨V,C⟩:=R;dsimp only at c1 ⊢;generalize hp:(fun k=>eh t C (keep.getD k 0))=p;have hp2:∀k,p k=eh t C (keep.getD k 0):=fun k=>by rw[<-hp]
 clear hp;refine nx fun H=>?_
 refine FO keep.length (fun i=>∀j,j<i->p j=false) (fun i=>[(25,.int .i64 i),(13,.dead)]) (fun i=>[.var [nA t],.var (rtc L),.var [.sl 0 true []]]) (fun j h=>absurd h (aju _)) (fun i h1 hk hw h2=>?_) (fun hk h=>?_)
 ·have hgd:=gdn (k:=.i64) h1
  have c2:=zW t ht hb C (keep.getD i 0);rw[<-hp2 i]at c2;cases hpi:p i with
  | true =>
    rw[Lh h1 hpi hk];rw[hpi]at c2;clear hk hp2;exact aw
  | false =>
    have hk2:∀j,j<i+1->p j=false:=fun j hj=>by
     by_cases hji:j=i
     ·rw[hji];exact hpi
     ·exact hk j WL
    rw[hpi]at c2;clear hk hp2;exact aw
 ·have:dW p keep.length=none:=by
   cases hf:dW p keep.length with
   |none=>rfl
   |some j=>have:=fZ hf;rw[hk j this.1]at this;cases this.2.1
  rw[this];clear hk hp2 this;by_cases hV:V<0
  ·have c3:=v7 t ht hb C;exact aw
  ·have c3:=sB t ht hb V
   have hT:=fun h=>dU.raise (i:=V) ht h
   generalize fD t V=X at *;obtain⟨u,e⟩:=X;dsimp only at c3 hT ⊢;by_cases he:e=0
   ·subst he;obtain⟨hu,hul⟩:=hT rfl;have c4:=v7 u hu WL C;clear hT;exact aw
   ·clear hT;exact aw
theorem Em(t:List Nod)(ht:dU t)(hr:(nod t 0).up=-1)(hb:t.length<=2097152)(i0:Int)(v:Vdt)(keep:List Int)(cl:Bool)(hl:keep.length<=2097152):
 PC Tryz.prog 193 [.agg [nA t],.int .i64 i0,.agg (cA v),.sl 1 cl (aH .i64 keep)] (.tup [.agg [nA (iT t i0 v keep).1],.int .i64 (iT t i0 v keep).2]):=by
 refine ae 40 ?_;have c1:=sB t ht hb i0;have c2:=Ut t ht hr hb i0 v.latest keep cl hl;have c3:PC Tryz.prog 153 [.agg [nA t]] (.agg [nA t]):=(oE t false hb).pc puA puA;have e:iT t i0 v keep=if isN t i0=false then ([],10)else if v.kind=1 then fD t i0 else if v.kind=3\/v.kind=4 then (t,0)else if v.kind≠2 then ([],2)else Pq t i0 v.latest keep:=rfl
 rw[e];clear e;generalize fD t i0=X at *;generalize Pq t i0 v.latest keep=Y at *;cases hj:isN t i0 with
 | false =>
   have hn:i0<0\/¬i0<0/\(t.length:Int)<=i0:=by
    by_cases h:i0<0
    ·exact .inl h
    ·refine .inr ⟨h,alY.1 fun h2=>?_⟩;rw[dR.2 ⟨WL,h2⟩]at hj;cases hj
   rcases hn with h|⟨h,h2⟩<;>exact aw
 | true =>
   obtain⟨h0,h1⟩:=dR.1 hj;have h2:¬i0<0:=WL
   have h3:¬i0 ≥ (t.length:Int):=WL
   exact aw
theorem PU(d:Req)(l:List Req)(cs:List AV)(ys:List (List AV))(fn:FuncId)(p:Nat->Bool)(hl:l.length<=2097152)(hren:∀k,bZ (rn [0,1,2] (k+3)) cs=cs)(hid:bZ (fun i=>i) cs=cs)(hfz:∀σ,fzL σ [] cs=cs)(hry:∀ρ,bH ρ ys=ys)(hfy:∀σ,dh σ [] ys=ys)
 (hc:∀i,i<l.length->ay Tryz.prog fn [.agg (aP (l.getD i d)),.ptr 0 0] [.var cs,.vec 35 (rows aP l),.vec 35 ys] (.bool (p i)) [.var cs,.vec 35 (rows aP l),.vec 35 ys]):
 ay Tryz.prog 257 [.hs 35 1 0 l.length,.fn (.func fn) [.ptr 0 0]] [.var cs,.vec 35 (rows aP l),.vec 35 ys] (.int .i64 (Cj (dW p l.length))) [.var cs,.vec 35 (rows aP l),.vec 35 ys]:=by
 refine dS 9 ?_;refine nx fun H=>?_
 refine FO l.length (fun i=>∀j,j<i->p j=false) (fun i=>[(8,.int .i64 i),(5,.dead)]) (fun _=>[.var cs,.vec 35 (rows aP l),.vec 35 ys]) (fun j h=>absurd h (aju _)) (fun i h1 hk hw h2=>?_) (fun hk h=>?_)
 ·have c1:=hc i h1
  have hgd:(rows aP l).getD i []=aP (l.getD i d):=aS (f:=aP) d h1;clear hc;refine nx fun H=>?_
  refine aG [0,1,2] (c1) (by(try simp only[go_sem,hren,hry]);try exact evd) (aq.mk' WM (by(try simp only[go_sem,hren,hry]);try exact evd)) ?_;refine evg ?_;cases hpi:p i with
  | true =>
    rw[Lh h1 hpi hk];clear hk;have e1:Cj (some i)=i:=rfl;exact aw
  | false =>
    have hk2:∀j,j<i+1->p j=false:=fun j hj=>by
     by_cases hji:j=i
     ·rw[hji];exact hpi
     ·exact hk j WL
    clear hk;exact aw
 ·have:dW p l.length=none:=by
   cases hf:dW p l.length with
   |none=>rfl
   |some j=>have:=fZ hf;rw[hk j this.1]at this;cases this.2.1
  rw[this];have e1:Cj none=-1:=rfl;clear hk hc this;exact aw
theorem ze(d:Req)(l:List Req)(cs:List AV)(ys:List (List AV))(fn:FuncId)(p:Nat->Bool)(hl:l.length<=2097152)(hren:∀k,bZ (rn [0,1,2] (k+3)) cs=cs)(hid:bZ (fun i=>i) cs=cs)(hfz:∀σ,fzL σ [] cs=cs)(hry:∀ρ,bH ρ ys=ys)(hfy:∀σ,dh σ [] ys=ys)
 (hc:∀A i,i<l.length->ay Tryz.prog fn [.agg (aP (l.getD i d)),.ptr 0 0] [.var cs,.vec 35 (rows aP A),.vec 35 ys] (.bool (p i)) [.var cs,.vec 35 (rows aP A),.vec 35 ys]):
 ∃z:List Req,ay Tryz.prog 175 [.hs 35 1 0 l.length,.fn (.func fn) [.ptr 0 0]] [.var cs,.vec 35 (rows aP l),.vec 35 ys] (.hs 35 1 0 (RZ p l d l.length).length) [.var cs,.vec 35 (rows aP (RZ p l d l.length++z)),.vec 35 ys]:=by
 have c1:=PU d l cs ys fn p hl hren hid hfz hry hfy fun i hi=>hc l i hi
 cases hf:dW p l.length with
 | none =>
   refine⟨[],?_⟩;have hd:RZ p l d l.length=l:=by rw[UQ d (amb _) (fun k hk=>iL hf k hk),ajp]
   rw[hf]at c1;rw[hd,amo];have e1:Cj none=-1:=rfl;clear hc hd;refine dS 8 ?_;refine nx fun H=>?_
   refine aG [0,1,2] (c1) (by(try simp only[go_sem,hren,hry]);try exact evd) (aq.mk' WM (by(try simp only[go_sem,hren,hry]);try exact evd)) ?_;refine evg ?_;exact aw
 | some j =>
   obtain⟨hj,hp,hb⟩:=fZ hf;have hd:RZ p l d (j+1)=l.take j:=by rw[VD,UQ d WL hb];unfold V0;rw[al7 hp]
   have hln:=VN p l d l.length;refine⟨List.replicate (l.length-(RZ p l d l.length).length) ⟨0,rt0,0,0⟩,?_⟩;rw[hf]at c1;have e1:Cj (some j)=j:=rfl;have e0:¬ (j:Int)=-1:=WL
   have hw0:=af hj WL;have q1:(l.take j).length=j:=by simp;try omega
   have q2:l.take j++l.drop j=l:=amF j l;refine dS 8 ?_;refine nx fun H=>?_
   refine aG [0,1,2] (c1) (by(try simp only[go_sem,hren,hry]);try exact evd) (aq.mk' WM (by(try simp only[go_sem,hren,hry]);try exact evd)) ?_;refine evg ?_;refine nx fun H=>?_
   refine az (fun i:Nat=>[(6,.int .i64 i),(5,.int .i64 (RZ p l d i).length),(7,.dead)]) (fun i=>[.var cs,.vec 35 (rows aP (RZ p l d i++l.drop (RZ p l d i).length)),.vec 35 ys]) (fun i=>l.length-i) (fun i=>i<=l.length/\(RZ p l d i).length<i) (j+1) ⟨hj,by rw[hd];omega⟩ ?_ ?_
   ·simp only[hd,q1,q2];exact aw
   clear hd hp hb e0 hw0 c1 e1 q1 q2 hf;rintro i ⟨hi,hi2⟩;by_cases h1:i<l.length
   ·have hs:=VD p l d i
    have hw:=af h1 WL;have h2:(i:Int)<(l.length:Int):=WL
    unfold V0 at hs;generalize RZ p l d i=o at *;have hxl:i<(o++l.drop o.length).length:=by simp;try omega
    have hxk:o.length<(o++l.drop o.length).length:=by simp;try omega
    have hgd:(rows aP (o++l.drop o.length)).getD i []=aP (l.getD i d):=by rw[aS (f:=aP) d hxl,Bw o l d WL h1]
    have hset:(rows aP (o++l.drop o.length)).set o.length (aP (l.getD i d))=rows aP (o++[l.getD i d]++l.drop (o.length+1)):=by
     have:=BE aP (by intro a b;simp[aP]) o l (l.getD i d) d WL;rw[<-this,aS (f:=aP) d hxk,acU (by simp[aP])]
    have hwk:IntKind.i64.wrap ((o.length:Int)+1)=((o.length+1:Nat):Int):=af (show o.length<l.length by omega) WL;have hkd:(o.length:Int)<((l.length:Nat):Int):=WL
    have c2:=hc (o++l.drop o.length) i h1;clear hc;generalize hu:o++l.drop o.length=u at *;refine nx fun H=>?_
    refine aG [0,1,2] (c2) (by(try simp only[go_sem,hren,hry]);try exact evd) (aq.mk' WM (by(try simp only[go_sem,hren,hry]);try exact evd)) ?_;refine evg ?_;cases hpi:p i with
    | true =>
      rw[hpi,al7 rfl]at hs;clear hgd;refine nx fun H=>?_
      refine⟨i+1,⟨h1,by rw[hs];omega⟩,WL,?_⟩;simp only[hs,hu];exact aw
    | false =>
      rw[hpi,al5 WM]at hs;refine nx fun H=>?_
      refine⟨i+1,⟨h1,by rw[hs];simp;omega⟩,WL,?_⟩;rw[hs];have hl1:(o++[l.getD i d]).length=o.length+1:=WM
      exact aw
   ·obtain rfl:i=l.length:=WL
    have h2:¬ (l.length:Int)<(l.length:Int):=WL
    clear hc;generalize RZ p l d l.length=o at *;have htk:List.take o.length (rows aP (o++l.drop o.length))=rows aP o:=by rw[si,WF]
    have hdn:List.drop (o.length+(l.length-o.length)) (rows aP (o++l.drop o.length))=[]:=ajF (by simp;try omega);have han:∀x:List (List AV),x++[]=x:=amo
    have hdl:(l.drop o.length).length=l.length-o.length:=ajJ;have hrr:∀n x,rows aP o++List.replicate n (aP x)=rows aP (o++List.replicate n x):=by simp[rows]
    exact aw
structure Fx(a:AV):Prop where
 r:∀k,ren (rn [0,1,2] (k+3)) a=a
 f:∀σ,fz σ [] a=a
 i:ren (fun i=>i) a=a
theorem Fx.hs1(e o l:Nat):Fx (.hs e 1 o l):=⟨fun k=>rfl,fun σ=>rfl,rfl⟩
theorem Fx.hs2(e o l:Nat):Fx (.hs e 2 o l):=⟨fun k=>rfl,fun σ=>rfl,rfl⟩
theorem tF(s:ap)(hb:s.nodes.length<=2097152)(a b:AV)(tg:Int)(se ov ha:Bool)(la:Cmd)(x:Req)(A B:List Req)(xa:Fx a)(xb:Fx b):
 ay Tryz.prog 174 [.agg (aP x),.ptr 0 0] [.var (aV ⟨s.a,a,b,tg,se,la,ov,ha⟩),.vec 35 (rows aP A),.vec 35 (rows aP B)] (.bool (decide (aj s.nodes x.block<0))) [.var (aV ⟨s.a,a,b,tg,se,la,ov,ha⟩),.vec 35 (rows aP A),.vec 35 (rows aP B)]:=by
 refine dS 4 ?_;have c1:=zU s.nodes x.block hb;have ra:=xa.r;have rb:=xb.r;have fa:=xa.f;have fb:=xb.f;exact aw
theorem zH(t:List Nod)(l:List Req):RZ (fun i=>decide (aj t (l.getD i gT).block<0)) l gT l.length=mm t l:=by
 unfold RZ mm;refine iC fun i o hi=>?_
 unfold V0 kK bm;by_cases h:aj t (l.getD i gT).block<0
 ·rw[al7 (by simpa using h),al5 WL]
 ·rw[al5 (by simpa using h),al7 WL]
theorem xc(s:aI)(h:CpA s):PC Tryz.prog 105 [.agg (aV s.a)] (.agg (aV (mE s).a)):=by
 refine ae 5 ?_;have c1:=gm s h;unfold DU at c1;have hd1:=zH s.sto.nodes s.reqs;have hd2:=zH s.sto.nodes s.rets
 obtain⟨z1,c2⟩:=ze gT s.reqs (aV ⟨s.sto.a,.hs 35 1 0 s.reqs.length,.hs 35 2 0 s.rets.length,s.tag,s.sent,s.last,s.over,s.halt⟩) (rows aP s.rets) 174 _ h.rq (fun k=>by simp only[go_sem];try rfl) (by(try simp only[go_sem]);try rfl) (fun σ=>by(try simp only[go_sem]);try rfl) (fun ρ=>uc ρ _) (fun σ=>wb σ [] _)
  fun A i hi=>tF s.sto h.st.bn _ _ _ _ _ _ _ (s.reqs.getD i gT) A s.rets (.hs1 _ _ _) (.hs2 _ _ _)
 rw[hd1]at c2
 obtain⟨z2,c3⟩:=ze gT s.rets (aV ⟨s.sto.a,.hs 35 2 0 (mm s.sto.nodes s.reqs).length,.hs 35 1 0 s.rets.length,s.tag,s.sent,s.last,s.over,s.halt⟩) (rows aP (mm s.sto.nodes s.reqs++z1)) 174 _ h.ry (fun k=>by simp only[go_sem];try rfl) (by(try simp only[go_sem]);try rfl) (fun σ=>by(try simp only[go_sem]);try rfl) (fun ρ=>uc ρ _) (fun σ=>wb σ [] _)
  fun A i hi=>tF s.sto h.st.bn _ _ _ _ _ _ _ (s.rets.getD i gT) A _ (.hs2 _ _ _) (.hs1 _ _ _)
 rw[hd2]at c3;clear hd1 hd2;unfold mE aI.a;dsimp only;generalize mm s.sto.nodes s.reqs=L1 at *;generalize mm s.sto.nodes s.rets=L2 at *;refine nx fun H=>?_
 refine oce [] c1 ?_;refine nx fun H=>?_
 refine oce [4,2,3] c2 ?_;refine nx fun H=>?_
 refine oce [4,3,2] c3 ?_;have ht:∀l z:List Req,List.take l.length (rows aP (l++z))=rows aP l:=fun l z=>by unfold rows;rw[amN,ajs WM];exact amf WM
 have hl:∀n k:Nat,n<=n+k:=fun n k=>by omega
 exact aw
end Go.Proofs.YtmpddimhleianaaGreat
