/- Joined. -/
import Derived.Test.YtmpddimhleianaaGreatQ1v
import Derived.Test.YtmpddimhleianaaGreatQ4v
import Derived.Test.YtmpddimhleianaaGreatE2v
import Derived.Test.YtmpddimhleianaaGreatO1v
import Derived.Test.YtmpddimhleianaaGreatO7v
import Derived.Test.YtmpddimhleianaaGreatT1v
set_option linter.unusedVariables false
set_option linter.unusedSimpArgs false
set_option maxRecDepth 8000
set_option maxHeartbeats 4000000
namespace Go.Proofs.YtmpddimhleianaaGreat
open Go Go.FH Go.RowKit
theorem MY(l:List Req)(i:Nat)(v:Req)(hi:i<=l.length)(hb:l.length<=2097152):
 aJ Tryz.prog 276 [.hs 35 0 0 l.length,.int .i64 i,.sl 35 true (rows ay [v])] [.vec 35 (rows ay l)] (.hs 35 1 0 (l.length+1)) [.gone,.vec 35 (rows ay (l.take i++v::l.drop i))]:=by
 refine cZ 10 ?_;refine vn 0 af5 af5 af2 af1 (fun m hm=>?_);have hv:(rows ay l).length=l.length:=af1
 have hXl:(rows ay l++List.replicate m (List.replicate 35 AV.any)).length=l.length+m:=af1
 have hX1:List.take i (rows ay l++List.replicate m (List.replicate 35 AV.any))=rows ay (l.take i):=by
  rw[afS (by simp;exact hi)];simp[rows]
 have hX2:List.take (l.length-i) (List.drop i (rows ay l++List.replicate m (List.replicate 35 AV.any)))=rows ay (l.drop i):=by
  rw[adg (by simp;exact hi),afS af1,afD af1];simp[rows]
 have hX3:List.take l.length (rows ay l++List.replicate m (List.replicate 35 AV.any))=rows ay l:=by
  rw[afS af1,afD af1]
 have hF:rows ay l++rows ay [v]=rows ay (l++v::List.drop l.length l):=by simp[rows]
 have ht:(rows ay l).take i=rows ay (l.take i):=by simp[rows]
 have hd:(rows ay l).drop i=rows ay (l.drop i):=by simp[rows]
 have hG:rows ay (l.take i)++rows ay [v]++rows ay (l.drop i)=rows ay (l.take i++v::l.drop i):=by simp[rows]
 have hG2:rows ay (l.take i)++(ay v)::rows ay (l.drop i)=rows ay (l.take i++v::l.drop i):=by simp[rows]
 have R1:=BX (rows ay l) (List.replicate m (List.replicate 35 AV.any)) i (by rw[hv];exact hi);have R2:=BW (rows ay l) (ay ⟨0,rt0,0,0⟩) (ay v) i (by rw[hv];exact hi);rw[hv,ht,hd,ada]at R1;rw[hv,ht,hd,hG2]at R2;rw[show [ay v]=rows ay [v]from rfl]at R2
 have hY:i<l.length->List.take (l.length-i) (List.take (l.length+1-i) (List.drop i (rows ay l++List.replicate m (List.replicate 35 AV.any))))=rows ay (l.drop i):=fun _=>by
  rw[adW,adk af0];exact hX2
 have hYl:0<m->(List.take (l.length+1-i) (List.drop i (rows ay l++List.replicate m (List.replicate 35 AV.any)))).length=l.length+1-i:=fun _=>by simp;omega
 generalize rows ay l++List.replicate m (List.replicate 35 AV.any)=X at *;have k1:(l.length:Int)<=((l.length+m:Nat):Int):=af0
 have k2:(i:Int)<=((l.length:Nat):Int):=af0
 have k3:l.length<=l.length+m:=af0
 refine BQ hXl k1 k2 k3 ?_;refine fk hXl k1 k2 k3 ?_;by_cases q:i=l.length
 ·subst q
  refine bO hXl ?_;by_cases hm0:m=0
  ·subst hm0;have q1:¬l.length+1<=l.length:=af0
   refine gO hXl acR q1 afE hX3 hF ?_;exact abF [0] [0,1]
  ·have q1:l.length+1<=l.length+m:=af0
   generalize hret:am.ret=R;refine fk hXl q1 k3 hX3 ?_;subst hret;refine yE 6 true (rows ay l++rows ay [v]) (X.drop (l.length+1)) af5 af5 ?_;refine aA hF ?_;exact abF [] [0,2]
 have e0:((i:Int)==((l.length:Nat):Int))=false:=by simp;omega
 have hw1:IntKind.i64.wrap ((l.length:Int)+1)=((l.length+1:Nat):Int):=by rw[ar af0 af0];omega
 have hw2:IntKind.i64.wrap ((i:Int)+1)=((i+1:Nat):Int):=by rw[ar af0 af0];omega
 refine iJ hXl e0 ?_;obtain⟨Z,z1,z2,z3⟩:=R2;have m1:min 1 (l.length+1-i)=1:=af0
 have m2:min (l.length-i) (l.length+1-(i+1))=l.length-i:=af0
 have m3:min (l.length+1-i) (l.length+1-(i+1))=l.length-i:=af0
 have t1:List.take 1 (rows ay [v])=rows ay [v]:=rfl;by_cases hm0:m=0
 ·subst hm0;clear R1 hY hYl;have e1:decide (((l.length:Nat):Int)<((l.length+1:Nat):Int))=true:=ax af0;have hw3:IntKind.i64.wrap (((l.length+1:Nat):Int)-(i:Int))=((l.length+1-i:Nat):Int):=by rw[ar af0 af0];omega
  have hs1:i+(l.length+1-i)=l.length+1:=af0
  have hs2:i+(l.length-i)=l.length:=af0
  have hs3:i+1+(l.length+1-(i+1))=l.length+1:=af0
  have hs4:i+1+(l.length-i)=l.length+1:=af0
  have hdl:(l.drop i).length=l.length-i:=af1
  have htn:List.take (l.length-i) (rows ay (l.drop i))=rows ay (l.drop i):=afD af1;have j1:0<l.length+1-i:=af0
  refine lx hXl e0 hw1 acR afE e1 adh ?_;refine aq ?_;repeat(first|refine aM ?_|simp only[go_sem,hXl,e0,hw1,hw2,hw3,hs1,hs2,hs3,j1,hX1,hX2,m1,t1,z1,z2,afH,acR,afE,e1,adh,hdl,m2,htn,hs4,z3])
  exact abF [0] [0,1]
 ·have e1:decide (((l.length+m:Nat):Int)<((l.length+1:Nat):Int))=false:=aD af0;obtain⟨X2,x1,x2,x3,x4⟩:=R1 af0;have hY1:=hY af0;have hYl1:=hYl af0;have r1:i+(l.length+1-i)<=l.length+m:=af0
  have r2:i+1+(l.length+1-(i+1))<=l.length+m:=af0
  have r3:l.length+1<=l.length+m:=af0
  refine gO hXl e0 hw1 k3 e1 adh ?_;refine aI ?_;refine lx hXl e0 hw1 hw2 k3 e1 adh ?_;clear R1 hY hYl;refine aq ?_;generalize hret:am.ret=R;repeat(first|refine aM ?_|simp only[go_sem,hXl,e0,hw1,hw2,k3,e1,adh,r1,r2,r3,hYl1,m3,hY1,x1,x2,x3,x4,m1,t1])
  subst hret;refine yE 6 true (rows ay (l.take i++v::l.drop i)) (X.drop (l.length+1)) af5 (by rw[<-hG];simp[Go.FH.mkr]) ?_;refine gon ?_;exact abF [] [0,1]
theorem QT(l:List Req)(cl:Bool)(x:Req)(i:Nat)(hi:i<=l.length)(hb:l.length<=2097152)(h1:∀j,j<i->fv (aO l j) x=true)(h2:∀j,i<=j->j<l.length->fv (aO l j) x=false):
 ∃f:Bool,PC Tryz.prog 275 [.sl 35 cl (rows ay l),.agg (ay x),.fn (.func 83) []] (.tup [.int .i64 i,.bool f]):=by
 refine⟨decide ((i:Int)<(l.length:Int))&&decide (orI [m0 (aO l i).due x.due,m0 (aO l i).tag x.tag]=0),?_⟩;refine aQ 12 ?_
 have hlt:∀j,(orI [m0 (aO l j).due x.due,m0 (aO l j).tag x.tag]<0)=(fv (aO l j) x=true):=fun j=>by
  have:=MN (aO l j) x;rw[eq_iff_iff,<-Int.not_le];cases hd:fv (aO l j) x<;>rw[hd]at this<;>simp at this ⊢<;>omega
 have hc:=fun j=>Kg (aO l j) x
 generalize hg:(fun j=>orI [m0 (aO l j).due x.due,m0 (aO l j).tag x.tag])=g;have hg2:∀j,orI [m0 (aO l j).due x.due,m0 (aO l j).tag x.tag]=g j:=fun j=>by rw[<-hg]
 clear hg;simp only[hg2]at hlt hc ⊢;clear hg2;refine nx fun H=>?_
 refine aE (fun y:Nat×Nat=>[(9,.int .i64 y.1),(10,.int .i64 y.2),(11,.dead)]) (fun _=>[.var (ay x)]) (fun y=>y.2-y.1) (fun y=>y.1<=i/\i<=y.2/\y.2<=l.length) (0,l.length) ⟨afK _,hi,afE _⟩ ?_ ?_
 ·exact aw
 rintro⟨a,b⟩ ⟨ha,hb1,hb2⟩;dsimp only at ha hb1 hb2;by_cases q:a<b
 ·have e1:(a:Int)<(b:Int):=af0
  obtain⟨h,g1,g2,g3,g4,g5,g6,g7⟩:=uY q hb2 hb;have hh:h<l.length:=af0
  have hgd:=gdq hh;have c1:=hc h;have hth:=hlt h;have h1h:=h1 h;have h2h:=fun hc=>h2 h hc hh
  clear hlt hc h1 h2;generalize g h=R at *;by_cases q2:R<0
  ·have hhi:h<i:=Nat.lt_of_not_le fun hc=>by rw[hth,h2h hc]at q2;cases q2
   clear hth h1h h2h;refine nx fun H=>?_
   exact⟨(h+1,b),⟨hhi,hb1,hb2⟩,by dsimp only;omega,aw⟩
  ·have hhi:i<=h:=aex fun hc=>q2 (hth▸h1h hc)
   clear hth h1h h2h;refine nx fun H=>?_
   exact⟨(a,h),⟨ha,hhi,by dsimp only;omega⟩,by dsimp only;omega,aw⟩
 ·obtain rfl:a=i:=af0
  obtain rfl:b=a:=af0
  have c1:=hc b;clear hlt hc h1 h2;generalize g b=R at *;have e1:¬ (b:Int)<(b:Int):=af0
  by_cases q2:b<l.length
  ·have e2:(b:Int)<(l.length:Int):=af0
   have hgd:=gdq q2;exact aw
  ·have e2:¬ (b:Int)<(l.length:Int):=af0
   exact aw
theorem L9{a b:Req}(h:fv a b=true):fv b a=false:=by
 rw[<-acE];rw[sZ]at h ⊢;omega
theorem VI{l:List Req}(hl:l.Pairwise fun a b=>fv a b=true){x:Req}(hx:∀y∈l,x.tag≠y.tag):∃i,i<=l.length/\(∀j,j<i->fv (aO l j) x=true)/\(∀j,i<=j->j<l.length->fv (aO l j) x=false)/\mA (l++[x]) l.length=l.take i++x::l.drop i:=by
 obtain⟨hs,_⟩:=zd hl hx;obtain⟨p,q,h1,h2,h3,h4⟩:=OT x l [];rw[h2,acH]at hs;rw[h2,acH];subst h1;rw[ac6]at hs;obtain⟨_,_,k3⟩:=hs;refine⟨p.length,af1,fun j hj=>?_,fun j h5 h6=>?_,af1⟩
 ·have e:aO (p++q) j=p[j]:=by unfold aO;rw[afy,afU hj,afz hj];rfl
  rw[e];exact k3 _ (afY _) _ (adX ..)
 ·rw[afB]at h6;have hj:j-p.length<q.length:=af0
  have e:aO (p++q) j=q[j-p.length]:=by unfold aO;rw[afy,acS h5,afz hj];rfl
  rw[e];exact L9 (h3 _ (afY _))
theorem QS(l:List Req)(x:Req)(i:Nat)(hi:i<=l.length)(hb:l.length<=2097152)(h1:∀j,j<i->fv (aO l j) x=true)(h2:∀j,i<=j->j<l.length->fv (aO l j) x=false):
 ∃f:Bool,aJ Tryz.prog 275 [.hs 35 0 0 l.length,.agg (ay x),.fn (.func 83) []] [.vec 35 (rows ay l)] (.tup [.int .i64 i,.bool f]) [.vec 35 (rows ay l)]:=by
 obtain⟨f,hf⟩:=QT l false x i hi hb h1 h2;refine⟨f,aJ.lend rfl ?_⟩;have ht:List.take l.length (rows ay l)=rows ay l:=afD af1;(try simp only[go_sem,ht,afG,afM,acV,adl])
 exact hf
theorem Kw(s:al)(h:CpA s)(r:Req)(ht0:0<=r.tries)(ht1:r.tries<1000000)(hb0:0<=s.sto.cfg.lim.backoff)(hb1:s.sto.cfg.lim.backoff<18446744073709551616)(hs:s.rets.Pairwise fun a b=>fv a b=true)(hx:∀y∈s.rets,r.tag≠y.tag):PC Tryz.prog 191 [.agg (aG s.a),.agg (ay r)] (.agg (aG (gZ s r).a)):=by
 refine aQ 8 ?_;have c1:=nz s h;have c2:=Lw s r.block h.st.bn;have hw:IntKind.i64.wrap (r.tries+1)=r.tries+1:=ar af0 af0;have c3:=Kq (r.tries+1) s.sto.cfg.lim.backoff af0 hb0 hb1;obtain⟨i,p1,p2,p3,p4⟩:=VI hs (x:=iD s r) hx;obtain⟨f,c4⟩:=QS s.rets (iD s r) i p1 h.ry p2 p3;have c5:=MY s.rets i (iD s r) p1 h.ry;unfold gZ;rw[p4];unfold Kj at c1;unfold iD at *;rw[hw]at c4 c5 ⊢;unfold al.a at c2 ⊢;clear p2 p3 p4 hs hx;generalize mJ (r.tries+1) s.sto.cfg.lim.backoff=D at *;refine gon ?_;refine oce [] c1 ?_;cases q:mu s.sto r.block with
 | false =>
   rw[q]at c2;clear c1 c3 c4 c5;rw[afA rfl];exact aw
 | true =>
   rw[q]at c2;rw[afx af1];by_cases q2:s.sto.cfg.lim.retry<=s.rets.length
   ·rw[afA q2];clear c1 c3 c4 c5;exact aw
   ·rw[afx q2];have hl:(s.rets.take i++(⟨r.tag,r.block,r.tries+1,IntKind.u64.wrap (s.sto.now+D)⟩:Req)::s.rets.drop i).length=s.rets.length+1:=by simp;omega
    refine nx fun H=>?_
    refine oce [4] c4 ?_;refine nx fun H=>?_
    refine oce [4] c5 ?_;unfold fw;generalize s.rets.take i++(⟨r.tag,r.block,r.tries+1,IntKind.u64.wrap (s.sto.now+D)⟩:Req)::s.rets.drop i=L at *;rw[<-hl];exact aw
theorem ZK(l:List Nod)(i:Nat)(x:Nod):(rows aT l).set i (aT x)=rows aT (l.set i x):=pY aT l i x
attribute [go_sem] ZK Option.isSome_some Option.getD_some
def LS(t:List Nod)(l:List Int)(a b:Int):List Nod×Int:=if l.length=0 then ([],10)else match qK t l a b with
 |some u=>(u,0)
 |none=>([],21)
theorem Gf(t:List Nod)(hb:t.length<=2097152)(l:List Int)(hl:l.length<=2097152)(hm:∀x∈l,0<=x/\x<t.length)(a b:Int):
 PC Tryz.prog 338 [.agg [nA t],.sl 1 false (ah .i64 l),.int .i64 a,.int .i64 b] (.tup [.agg [nA (LS t l a b).1],.int .i64 (LS t l a b).2]):=by
 refine aQ 22 ?_;unfold LS;by_cases h0:l.length=0
 ·have e:l=[]:=afV h0;subst e;exact aw
 have h1:¬ (l.length:Int)=0:=af0
 have c1:=uT t false hb;have hd:∀k,k<l.length->aH (lR l a b) (some t) k=none->qK t l a b=none:=fun k hk h=>tz h _ af0
 refine nx fun H=>?_
 refine oce [] c1 ?_;refine nx fun H=>?_
 refine oU l.length (fun i=>(aH (lR l a b) (some t) i).isSome=true) (fun i=>[(21,.int .i64 i),(12,.dead),(16,.dead),(18,.dead)]) (fun i=>[.var [nA t],.var [.sl 0 true []],.vec 240 (rows aT ((aH (lR l a b) (some t) i).getD [])),.var [.hs 240 2 0 t.length]]) rfl (fun i h1 hk hw h2=>?_) (fun hk h=>?_)
 ·have hs:=bg (lR l a b) (some t) i
  cases hu:aH (lR l a b) (some t) i with
  |none=>rw[hu]at hk;cases hk
  | some u =>
    have hul:=jD hu;have hxm:=hm _ (show l.getD i 0∈l by rw[afy,afz h1];exact afY _);obtain⟨x,hx⟩:=afF hxm.1;have hxu:x<u.length:=af0
    rw[hu]at hs;simp only[lR,adT,hx,afH]at hs;by_cases q:(nod u x).status=b
    ·rw[afA q]at hs;have:=tz hs l.length h1;unfold qK;exact aw
    ·rw[afx q]at hs;exact aw
 ·cases hu:aH (lR l a b) (some t) l.length with
  |none=>rw[hu]at hk;cases hk
  | some u =>
    have hul:=jD hu;unfold qK;exact aw
theorem Ri{t:List Nod}(ht:bk t)(i:Int):bL t i=LS t (aZ t i) 1 2:=by
 unfold bL LS;cases hj:isN t i with
 |false=>rw[jg hj];rfl
 | true =>
   obtain⟨h0,h1⟩:=ez.1 hj;obtain⟨k,rfl⟩:=afF h0;rw[afA rfl,afx (by rw[nE ht af0];simp)];rfl
theorem P4{t:List Nod}(i:Int):∀x∈ej t i,0<=x/\x<(t.length:Int):=by
 unfold ej;refine dp (fun k (l:List Int)=>∀x∈l,0<=x/\x<(t.length:Int)) af1 t.length (fun k l hk h=>?_) _ (afE _);split
 ·intro x hx;rw[afR,afN]at hx;rcases hx with hx|rfl
  ·exact h x hx
  ·omega
 ·exact h
theorem P3(t:List Nod)(i:Int):(ej t i).length<=t.length:=by
 have:(aH (fun k l=>if bw t i k=true then l++[(k:Int)]else l) [] t.length).length<=0+t.length:=jI (fun k l=>by split<;>simp) t.length;rw[acC]at this;exact this
theorem Tl{t:List Nod}(ht:bk t)(i:Int):fg t i=LS t (ej t i) 2 1:=by
 unfold fg LS;cases hj:isN t i with
 | false =>
   have h0:ej t i=[]:=by
    unfold ej;refine dp (fun _ l=>l=[]) rfl t.length (fun k l _ h=>?_) _ (afE _);rw[vw ht (.inl hj)];exact h
   rw[h0];rfl
 | true =>
   obtain⟨h0,h1⟩:=ez.1 hj;obtain⟨k,rfl⟩:=afF h0
   have hm:(k:Int)∈ej t k:=by
    have:=dp (f:=fun j l=>if bw t k j=true then l++[(j:Int)]else l) (a:=[]) (fun j l=>k<j->(k:Int)∈l) (fun h=>absurd h (acJ _)) t.length (fun j l hj ih hk=>by
     by_cases he:k=j
     ·subst he;rw[afA (by rw[rG ht hj];simp)];simp
     ·split
      ·exact adf _ (ih af0)
      ·exact ih af0) t.length (afE _)
    exact this af0
   rw[afA rfl,afx (by intro h;rw[afV h]at hm;cases hm)];rfl
theorem y9(t:List Nod)(ht:bk t)(hb:t.length<=2097152)(i:Int):PC Tryz.prog 277 [.agg [nA t],.int .i64 i] (.tup [.agg [nA (bL t i).1],.int .i64 (bL t i).2]):=by
 refine aQ 6 ?_;rw[Ri ht];have c1:=CN t ht hb i;have c2:=Gf t hb (aZ t i) (acn (iZ ht.ok i) hb) (fun x hx=>⟨(dL ht.ok hx).1,(dL ht.ok hx).2.2⟩) 1 2;exact aw
theorem CG(t:List Nod)(ht:bk t)(hb:t.length<=2097152)(i:Int):PC Tryz.prog 341 [.agg [nA t],.int .i64 i] (.tup [.agg [nA (fg t i).1],.int .i64 (fg t i).2]):=by
 refine aQ 6 ?_;rw[Tl ht];have c1:=MS t ht hb i;have c2:=Gf t hb (ej t i) (acn (P3 t i) hb) (P4 i) 2 1;exact aw
theorem Vd{t:List Nod}(ht:bk t)(hr:(nod t 0).up=-1):∀ (c k:Nat),c<t.length->k<(aZ t c).length->(nod t ((aZ t c).getD k 0).toNat).up=if k=0 then -1 else (aZ t c).getD (k-1) 0:=by
 intro c;induction c using Nat.strongRecOn with
 | _ c ih =>
   intro k hc hk;rcases acF c with h|h
   ·subst h;have e:aZ t ((0:Nat):Int)=[0]:=gu hc;rw[e]at hk ⊢;obtain rfl:k=0:=by simpa using hk
    rw[afA rfl];exact hr
   ·obtain⟨u0,u1⟩:=ht.ok c h hc
    obtain⟨u,hu⟩:=afF u0;have hul:u<c:=af0
    have hb:=nE ht hc;rw[hu]at hb;have hlen:0<(aZ t (u:Int)).length:=by rw[nE ht (show u<t.length by omega)];simp
    by_cases hk2:k<(aZ t (u:Int)).length
    ·have:=ih u hul k af0 hk2;have g1:(aZ t (c:Int)).getD k 0=(aZ t (u:Int)).getD k 0:=by rw[hb,afy,afU hk2,<-afy]
     have g2:(aZ t (c:Int)).getD (k-1) 0=(aZ t (u:Int)).getD (k-1) 0:=by rw[hb,afy,afU af0,<-afy]
     rw[g1,g2];exact this
    ·have hk3:k=(aZ t (u:Int)).length:=by rw[hb]at hk;simp at hk;omega
     have g1:(aZ t (c:Int)).getD k 0=c:=by rw[hb,afy,acS af0,hk3];simp
     have g2:(aZ t (c:Int)).getD (k-1) 0=u:=by
      rw[hb,afy,afU af0,<-afy];have hb2:=nE ht (show u<t.length by omega);have:k-1=(aZ t (nod t u).up).length:=by rw[hk3,hb2];simp
      rw[this,hb2,afy,acS (afE _)];simp
     rw[afx af0,g1,g2,afH,hu]
theorem KB(t:List Nod)(ht:bk t)(hr:(nod t 0).up=-1)(hb:t.length<=2097152)(i0:Int)(L:Rt):PC Tryz.prog 340 [.agg [nA t],.int .i64 i0,.agg (rtc L)] (.tup [.int .i64 (dh t i0 L).1,.int .i64 (dh t i0 L).2]):=by
 refine aQ 23 ?_;have c1:=CN t ht hb i0;have hm:=fun x hx=>dL (i:=i0) (x:=x) ht.ok hx
 have hln:=iZ ht.ok i0
 have hup:∀k,k<(aZ t i0).length->(nod t ((aZ t i0).getD k 0).toNat).up=if k=0 then -1 else (aZ t i0).getD (k-1) 0:=fun k hk=>by
  cases hj:isN t i0 with
  |false=>rw[jg hj]at hk;simp at hk
  | true =>
    obtain⟨h0,h1⟩:=ez.1 hj;obtain⟨c,rfl⟩:=afF h0;exact Vd ht hr c k af0 hk
 have c2:=gP L;unfold dh;generalize aZ t i0=l at *
 have hg:∀k,k<l.length->∃x:Nat,l.getD k 0=x/\x<t.length:=fun k hk=>by
  have:=hm _ (show l.getD k 0∈l by rw[afy,afz hk];exact afY _);exact⟨(l.getD k 0).toNat,af0,af0⟩
 by_cases h0:l.length=0
 ·have e:l=[]:=afV h0;subst e;exact aw
 have h1:¬ (l.length:Int)=0:=af0
 by_cases hL:L=rt0
 ·rw [afx h0, afA hL]
  rw[ax hL]at c2;clear hL;generalize hp:(fun k=>decide ((nod t (l.getD k 0).toNat).blk.payload≠rt0))=p;have hp2:∀k,p k=decide ((nod t (l.getD k 0).toNat).blk.payload≠rt0):=fun k=>by rw[<-hp]
  refine nx fun H=>?_
  refine oU l.length (fun i=>∀j,j<i->p j=false) (fun i=>[(22,.int .i64 i),(9,.dead),(10,.dead)]) (fun i=>[.var [nA t],.var (rtc L)]) (fun j h=>absurd h (acJ _)) (fun i h1 hk hw h2=>?_) (fun hk h=>?_)
  ·obtain⟨x,hx,hxl⟩:=hg i h1
   have c3:=gP (nod t x).blk.payload;have hpi:=hp2 i;rw[hx,afH]at hpi;have hui:=hup i h1;rw[hx,afH]at hui;by_cases q:(nod t x).blk.payload=rt0
   ·have hpf:p i=false:=by rw[hpi];simp[q]
    rw[ax q]at c3
    have hk2:∀j,j<i+1->p j=false:=fun j hj=>by
     by_cases hji:j=i
     ·rw[hji];exact hpf
     ·exact hk j af0
    clear hk hp hp2 hpi q;exact aw
   ·rw[v7 h1 (by rw[hpi];simp[q]) hk]
    rw[aD q]at c3;dsimp only;rw[hx,afH,hui];clear hup hui hk hp hp2 hpi hm;by_cases hi0:i=0
    ·subst hi0;have h3:(0:Int)<(l.length:Int):=af0
     exact aw
    ·have hw3:IntKind.i64.wrap ((i:Int)-1)=((i-1:Nat):Int):=by rw[ar af0 af0];omega
     have hi1:i-1<l.length:=af0
     have hi2:¬ (i:Int)=0:=af0
     exact aw
  ·have:cm p l.length=none:=by
    cases hf:cm p l.length with
    |none=>rfl
    |some j=>have:=cJ hf;rw[hk j this.1]at this;cases this.2.1
   rw[this];clear hup hk hp hp2 hm hg;exact aw
 ·rw [afx h0, afx hL]
  rw[aD hL]at c2;clear hL;generalize hp:(fun k=>decide ((nod t (l.getD k 0).toNat).blk.payload=L))=p;have hp2:∀k,p k=decide ((nod t (l.getD k 0).toNat).blk.payload=L):=fun k=>by rw[<-hp]
  have hw0:IntKind.i64.wrap ((l.length:Int)-2)=((l.length-1:Nat):Int)-1:=by rw[ar af0 af0];omega
  refine nx fun H=>?_
  refine IQ (l.length-1) (fun m=>wo p (l.length-1)=wo p m) (fun m v=>[(11,.int .i64 v)]) (fun i=>[.var [nA t],.var (rtc L)]) rfl (fun i h1 hk e1 hw1=>?_) (fun hk=>?_)
  ·obtain⟨x,hx,hxl⟩:=hg i af0
   have hpi:=hp2 i;rw[hx,afH]at hpi;have hi1:i<l.length:=af0
   have hi2:i+1<l.length:=af0
   have hw2:IntKind.i64.wrap ((i:Int)+1)=((i+1:Nat):Int):=ae hi1 af0;have e2:=gdn (k:=.i64) hi2;rw[hk];clear hm hup hp hp2 hg hk hw0;by_cases q:(nod t x).blk.payload=L
   ·rw[UD (by rw[hpi];simp[q])];dsimp only;clear hpi;exact aw
   ·rw[UC (by rw[hpi];simp[q])];clear hpi;exact aw
  ·rw[hk,UE];clear hup hk hp hp2 hm hg;exact aw
def Ti(t:List Nod)(i:Int)(L:Rt)(keep:List Int):List Nod×Int:=
 if (cm (fun k=>bw t (dh t i L).2 (keep.getD k 0)) keep.length).isSome=true then ([],21)
 else if 0<=(dh t i L).1 then (if (bL t (dh t i L).1).2≠0 then ([],(bL t (dh t i L).1).2)else fg (bL t (dh t i L).1).1 (dh t i L).2)
 else fg t (dh t i L).2
theorem bk.raise{t:List Nod}(ht:bk t){i:Int}(h:(bL t i).2=0):bk (bL t i).1/\(bL t i).1.length=t.length:=by
 obtain⟨h1,h2,_⟩:=Gm ht.ok h;refine⟨⟨h1,by rw[h2];exact ht.pos,?_⟩,h2⟩;unfold bL at h ⊢;split at h
 ·rename_i hi;rw[afA hi];cases hs:qK t (aZ t i) 1 2 with
  |none=>rw[hs]at h;cases h
  |some u=>show (nod u 0).up<0;rw[(tw hs 0).1];exact ht.root
 ·cases h
theorem QW(t:List Nod)(ht:bk t)(hr:(nod t 0).up=-1)(hb:t.length<=2097152)(i0:Int)(L:Rt)(keep:List Int)(cl:Bool)(hl:keep.length<=2097152):
 PC Tryz.prog 278 [.agg [nA t],.int .i64 i0,.agg (rtc L),.sl 1 cl (ah .i64 keep)] (.tup [.agg [nA (Ti t i0 L keep).1],.int .i64 (Ti t i0 L keep).2]):=by
 refine aQ 26 ?_;have c1:=KB t ht hr hb i0 L;unfold Ti;generalize dh t i0 L=R at *;obtain⟨V,C⟩:=R;dsimp only at c1 ⊢;generalize hp:(fun k=>bw t C (keep.getD k 0))=p;have hp2:∀k,p k=bw t C (keep.getD k 0):=fun k=>by rw[<-hp]
 clear hp;refine nx fun H=>?_
 refine oU keep.length (fun i=>∀j,j<i->p j=false) (fun i=>[(25,.int .i64 i),(13,.dead)]) (fun i=>[.var [nA t],.var (rtc L),.var [.sl 0 true []]]) (fun j h=>absurd h (acJ _)) (fun i h1 hk hw h2=>?_) (fun hk h=>?_)
 ·have hgd:=gdn (k:=.i64) h1
  have c2:=QO t ht hb C (keep.getD i 0);rw[<-hp2 i]at c2;cases hpi:p i with
  | true =>
    rw[v7 h1 hpi hk];rw[hpi]at c2;clear hk hp2;exact aw
  | false =>
    have hk2:∀j,j<i+1->p j=false:=fun j hj=>by
     by_cases hji:j=i
     ·rw[hji];exact hpi
     ·exact hk j af0
    rw[hpi]at c2;clear hk hp2;exact aw
 ·have:cm p keep.length=none:=by
   cases hf:cm p keep.length with
   |none=>rfl
   |some j=>have:=cJ hf;rw[hk j this.1]at this;cases this.2.1
  rw[this];clear hk hp2 this;by_cases hV:V<0
  ·have c3:=CG t ht hb C;exact aw
  ·have c3:=y9 t ht hb V
   have hT:=fun h=>bk.raise (i:=V) ht h
   generalize bL t V=X at *;obtain⟨u,e⟩:=X;dsimp only at c3 hT ⊢;by_cases he:e=0
   ·subst he;obtain⟨hu,hul⟩:=hT rfl;have c4:=CG u hu af0 C;clear hT;exact aw
   ·clear hT;exact aw
theorem Ku(t:List Nod)(ht:bk t)(hr:(nod t 0).up=-1)(hb:t.length<=2097152)(i0:Int)(v:Vdt)(keep:List Int)(cl:Bool)(hl:keep.length<=2097152):
 PC Tryz.prog 193 [.agg [nA t],.int .i64 i0,.agg (dZ v),.sl 1 cl (ah .i64 keep)] (.tup [.agg [nA (dR t i0 v keep).1],.int .i64 (dR t i0 v keep).2]):=by
 refine aQ 40 ?_;have c1:=y9 t ht hb i0;have c2:=QW t ht hr hb i0 v.latest keep cl hl;have c3:PC Tryz.prog 153 [.agg [nA t]] (.agg [nA t]):=(uT t false hb).pc puA puA;have e:dR t i0 v keep=if isN t i0=false then ([],10)else if v.kind=1 then bL t i0 else if v.kind=3\/v.kind=4 then (t,0)else if v.kind≠2 then ([],2)else Ti t i0 v.latest keep:=rfl
 rw[e];clear e;generalize bL t i0=X at *;generalize Ti t i0 v.latest keep=Y at *;cases hj:isN t i0 with
 | false =>
   have hn:i0<0\/¬i0<0/\(t.length:Int)<=i0:=by
    by_cases h:i0<0
    ·exact .inl h
    ·refine .inr ⟨h,ac8.1 fun h2=>?_⟩;rw[ez.2 ⟨af0,h2⟩]at hj;cases hj
   rcases hn with h|⟨h,h2⟩<;>exact aw
 | true =>
   obtain⟨h0,h1⟩:=ez.1 hj;have h2:¬i0<0:=af0
   have h3:¬i0 ≥ (t.length:Int):=af0
   exact aw
theorem T8(d:Req)(l:List Req)(cs:List AV)(ys:List (List AV))(fn:FuncId)(p:Nat->Bool)(hl:l.length<=2097152)(hren:∀k,dN (rn [0,1,2] (k+3)) cs=cs)(hid:dN (fun i=>i) cs=cs)(hfz:∀σ,fzL σ [] cs=cs)(hry:∀ρ,dm ρ ys=ys)(hfy:∀σ,gm σ [] ys=ys)
 (hc:∀i,i<l.length->aJ Tryz.prog fn [.agg (ay (l.getD i d)),.ptr 0 0] [.var cs,.vec 35 (rows ay l),.vec 35 ys] (.bool (p i)) [.var cs,.vec 35 (rows ay l),.vec 35 ys]):
 aJ Tryz.prog 257 [.hs 35 1 0 l.length,.fn (.func fn) [.ptr 0 0]] [.var cs,.vec 35 (rows ay l),.vec 35 ys] (.int .i64 (ng (cm p l.length))) [.var cs,.vec 35 (rows ay l),.vec 35 ys]:=by
 refine cZ 9 ?_;refine nx fun H=>?_
 refine oU l.length (fun i=>∀j,j<i->p j=false) (fun i=>[(8,.int .i64 i),(5,.dead)]) (fun _=>[.var cs,.vec 35 (rows ay l),.vec 35 ys]) (fun j h=>absurd h (acJ _)) (fun i h1 hk hw h2=>?_) (fun hk h=>?_)
 ·have c1:=hc i h1
  have hgd:(rows ay l).getD i []=ay (l.getD i d):=aK (f:=ay) d h1;clear hc;refine nx fun H=>?_
  refine F9 [0,1,2] (c1) (by(try simp only[go_sem,hren,hry]);try exact evd) (iH.mk' af1 (by(try simp only[go_sem,hren,hry]);try exact evd)) ?_;refine evg ?_;cases hpi:p i with
  | true =>
    rw[v7 h1 hpi hk];clear hk;have e1:ng (some i)=i:=rfl;exact aw
  | false =>
    have hk2:∀j,j<i+1->p j=false:=fun j hj=>by
     by_cases hji:j=i
     ·rw[hji];exact hpi
     ·exact hk j af0
    clear hk;exact aw
 ·have:cm p l.length=none:=by
   cases hf:cm p l.length with
   |none=>rfl
   |some j=>have:=cJ hf;rw[hk j this.1]at this;cases this.2.1
  rw[this];have e1:ng none=-1:=rfl;clear hk hc this;exact aw
theorem FD(d:Req)(l:List Req)(cs:List AV)(ys:List (List AV))(fn:FuncId)(p:Nat->Bool)(hl:l.length<=2097152)(hren:∀k,dN (rn [0,1,2] (k+3)) cs=cs)(hid:dN (fun i=>i) cs=cs)(hfz:∀σ,fzL σ [] cs=cs)(hry:∀ρ,dm ρ ys=ys)(hfy:∀σ,gm σ [] ys=ys)
 (hc:∀A i,i<l.length->aJ Tryz.prog fn [.agg (ay (l.getD i d)),.ptr 0 0] [.var cs,.vec 35 (rows ay A),.vec 35 ys] (.bool (p i)) [.var cs,.vec 35 (rows ay A),.vec 35 ys]):
 ∃z:List Req,aJ Tryz.prog 175 [.hs 35 1 0 l.length,.fn (.func fn) [.ptr 0 0]] [.var cs,.vec 35 (rows ay l),.vec 35 ys] (.hs 35 1 0 (SF p l d l.length).length) [.var cs,.vec 35 (rows ay (SF p l d l.length++z)),.vec 35 ys]:=by
 have c1:=T8 d l cs ys fn p hl hren hid hfz hry hfy fun i hi=>hc l i hi
 cases hf:cm p l.length with
 | none =>
   refine⟨[],?_⟩;have hd:SF p l d l.length=l:=by rw[abT d (afE _) (fun k hk=>fh hf k hk),acL]
   rw[hf]at c1;rw[hd,acH];have e1:ng none=-1:=rfl;clear hc hd;refine cZ 8 ?_;refine nx fun H=>?_
   refine F9 [0,1,2] (c1) (by(try simp only[go_sem,hren,hry]);try exact evd) (iH.mk' af1 (by(try simp only[go_sem,hren,hry]);try exact evd)) ?_;refine evg ?_;exact aw
 | some j =>
   obtain⟨hj,hp,hb⟩:=cJ hf;have hd:SF p l d (j+1)=l.take j:=by rw[abX,abT d af0 hb];unfold ab3;rw[afA hp]
   have hln:=ab1 p l d l.length;refine⟨List.replicate (l.length-(SF p l d l.length).length) ⟨0,rt0,0,0⟩,?_⟩;rw[hf]at c1;have e1:ng (some j)=j:=rfl;have e0:¬ (j:Int)=-1:=af0
   have hw0:=ae hj af0;have q1:(l.take j).length=j:=by simp;try omega
   have q2:l.take j++l.drop j=l:=afX j l;refine cZ 8 ?_;refine nx fun H=>?_
   refine F9 [0,1,2] (c1) (by(try simp only[go_sem,hren,hry]);try exact evd) (iH.mk' af1 (by(try simp only[go_sem,hren,hry]);try exact evd)) ?_;refine evg ?_;refine nx fun H=>?_
   refine aE (fun i:Nat=>[(6,.int .i64 i),(5,.int .i64 (SF p l d i).length),(7,.dead)]) (fun i=>[.var cs,.vec 35 (rows ay (SF p l d i++l.drop (SF p l d i).length)),.vec 35 ys]) (fun i=>l.length-i) (fun i=>i<=l.length/\(SF p l d i).length<i) (j+1) ⟨hj,by rw[hd];omega⟩ ?_ ?_
   ·simp only[hd,q1,q2];exact aw
   clear hd hp hb e0 hw0 c1 e1 q1 q2 hf;rintro i ⟨hi,hi2⟩;by_cases h1:i<l.length
   ·have hs:=abX p l d i
    have hw:=ae h1 af0;have h2:(i:Int)<(l.length:Int):=af0
    unfold ab3 at hs;generalize SF p l d i=o at *;have hxl:i<(o++l.drop o.length).length:=by simp;try omega
    have hxk:o.length<(o++l.drop o.length).length:=by simp;try omega
    have hgd:(rows ay (o++l.drop o.length)).getD i []=ay (l.getD i d):=by rw[aK (f:=ay) d hxl,Hz o l d af0 h1]
    have hset:(rows ay (o++l.drop o.length)).set o.length (ay (l.getD i d))=rows ay (o++[l.getD i d]++l.drop (o.length+1)):=by
     have:=HA ay (by intro a b;simp[ay]) o l (l.getD i d) d af0;rw[<-this,aK (f:=ay) d hxk,Dc (by simp[ay])]
    have hwk:IntKind.i64.wrap ((o.length:Int)+1)=((o.length+1:Nat):Int):=ae (show o.length<l.length by omega) af0;have hkd:(o.length:Int)<((l.length:Nat):Int):=af0
    have c2:=hc (o++l.drop o.length) i h1;clear hc;generalize hu:o++l.drop o.length=u at *;refine nx fun H=>?_
    refine F9 [0,1,2] (c2) (by(try simp only[go_sem,hren,hry]);try exact evd) (iH.mk' af1 (by(try simp only[go_sem,hren,hry]);try exact evd)) ?_;refine evg ?_;cases hpi:p i with
    | true =>
      rw[hpi,afA rfl]at hs;clear hgd;refine nx fun H=>?_
      refine⟨i+1,⟨h1,by rw[hs];omega⟩,af0,?_⟩;simp only[hs,hu];exact aw
    | false =>
      rw[hpi,afx af1]at hs;refine nx fun H=>?_
      refine⟨i+1,⟨h1,by rw[hs];simp;omega⟩,af0,?_⟩;rw[hs];have hl1:(o++[l.getD i d]).length=o.length+1:=af1
      exact aw
   ·obtain rfl:i=l.length:=af0
    have h2:¬ (l.length:Int)<(l.length:Int):=af0
    clear hc;generalize SF p l d l.length=o at *;have htk:List.take o.length (rows ay (o++l.drop o.length))=rows ay o:=by rw[pZ,ae7]
    have hdn:List.drop (o.length+(l.length-o.length)) (rows ay (o++l.drop o.length))=[]:=acK (by simp;try omega);have han:∀x:List (List AV),x++[]=x:=acH
    have hdl:(l.drop o.length).length=l.length-o.length:=acT;have hrr:∀n x,rows ay o++List.replicate n (ay x)=rows ay (o++List.replicate n x):=by simp[rows]
    exact aw
structure Fx(a:AV):Prop where
 r:∀k,ren (rn [0,1,2] (k+3)) a=a
 f:∀σ,fz σ [] a=a
 i:ren (fun i=>i) a=a
theorem Fx.hs1(e o l:Nat):Fx (.hs e 1 o l):=⟨fun k=>rfl,fun σ=>rfl,rfl⟩
theorem Fx.hs2(e o l:Nat):Fx (.hs e 2 o l):=⟨fun k=>rfl,fun σ=>rfl,rfl⟩
theorem Bx(s:af)(hb:s.nodes.length<=2097152)(a b:AV)(tg:Int)(se ov ha:Bool)(la:Cmd)(x:Req)(A B:List Req)(xa:Fx a)(xb:Fx b):
 aJ Tryz.prog 174 [.agg (ay x),.ptr 0 0] [.var (aG ⟨s.a,a,b,tg,se,la,ov,ha⟩),.vec 35 (rows ay A),.vec 35 (rows ay B)] (.bool (decide (ab s.nodes x.block<0))) [.var (aG ⟨s.a,a,b,tg,se,la,ov,ha⟩),.vec 35 (rows ay A),.vec 35 (rows ay B)]:=by
 refine cZ 4 ?_;have c1:=dW s.nodes x.block hb;have ra:=xa.r;have rb:=xb.r;have fa:=xa.f;have fb:=xb.f;exact aw
theorem F0(t:List Nod)(l:List Req):SF (fun i=>decide (ab t (l.getD i gU).block<0)) l gU l.length=fZ t l:=by
 unfold SF fZ;refine ow fun i o hi=>?_
 unfold ab3 jS aO;by_cases h:ab t (l.getD i gU).block<0
 ·rw[afA (by simpa using h),afx af0]
 ·rw[afx (by simpa using h),afA af0]
theorem CI(s:al)(h:CpA s):PC Tryz.prog 105 [.agg (aG s.a)] (.agg (aG (fE s).a)):=by
 refine aQ 5 ?_;have c1:=nz s h;unfold Kj at c1;have hd1:=F0 s.sto.nodes s.reqs;have hd2:=F0 s.sto.nodes s.rets
 obtain⟨z1,c2⟩:=FD gU s.reqs (aG ⟨s.sto.a,.hs 35 1 0 s.reqs.length,.hs 35 2 0 s.rets.length,s.tag,s.sent,s.last,s.over,s.halt⟩) (rows ay s.rets) 174 _ h.rq (fun k=>by simp only[go_sem];try rfl) (by(try simp only[go_sem]);try rfl) (fun σ=>by(try simp only[go_sem]);try rfl) (fun ρ=>mN ρ _) (fun σ=>nX σ [] _)
  fun A i hi=>Bx s.sto h.st.bn _ _ _ _ _ _ _ (s.reqs.getD i gU) A s.rets (.hs1 _ _ _) (.hs2 _ _ _)
 rw[hd1]at c2
 obtain⟨z2,c3⟩:=FD gU s.rets (aG ⟨s.sto.a,.hs 35 2 0 (fZ s.sto.nodes s.reqs).length,.hs 35 1 0 s.rets.length,s.tag,s.sent,s.last,s.over,s.halt⟩) (rows ay (fZ s.sto.nodes s.reqs++z1)) 174 _ h.ry (fun k=>by simp only[go_sem];try rfl) (by(try simp only[go_sem]);try rfl) (fun σ=>by(try simp only[go_sem]);try rfl) (fun ρ=>mN ρ _) (fun σ=>nX σ [] _)
  fun A i hi=>Bx s.sto h.st.bn _ _ _ _ _ _ _ (s.rets.getD i gU) A _ (.hs2 _ _ _) (.hs1 _ _ _)
 rw[hd2]at c3;clear hd1 hd2;unfold fE al.a;dsimp only;generalize fZ s.sto.nodes s.reqs=L1 at *;generalize fZ s.sto.nodes s.rets=L2 at *;refine nx fun H=>?_
 refine oce [] c1 ?_;refine nx fun H=>?_
 refine oce [4,2,3] c2 ?_;refine nx fun H=>?_
 refine oce [4,3,2] c3 ?_;have ht:∀l z:List Req,List.take l.length (rows ay (l++z))=rows ay l:=fun l z=>by unfold rows;rw[acu,afS af1];exact afD af1
 have hl:∀n k:Nat,n<=n+k:=fun n k=>by omega
 exact aw
end Go.Proofs.YtmpddimhleianaaGreat
