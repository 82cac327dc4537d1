/- Joined. -/
import Derived.Test.YtflhnmleodkjiaaGreatZ2
set_option linter.unusedVariables false
set_option linter.unusedSimpArgs false
set_option maxRecDepth 8000
set_option maxHeartbeats 4000000
namespace Go.Proofs.YtflhnmleodkjiaaGreat
open Go Go.FH Go.RowKit
theorem IW{c:cU}(hc:Qp c):(ej (iW c).1).length<=8256:=by
 have hg:=HU hc;have hW:=hg.ty.toW hg.valA;have hb:=hc.r.b1
 have e0:(iW c).1.sto=kO c/\(iW c).1.reqs=[]/\(iW c).1.rets=[]:=by
  unfold iW;rw[al7 hc.new];refine⟨pm _,?_,?_⟩
  ·show (io _).1.reqs=[]
   unfold io;split<;>rfl
  ·show (io _).1.rets=[]
   unfold io;split<;>rfl
 obtain⟨e1,e2,e3⟩:=e0;generalize (iW c).1=s at *
 have hT:(lsE pU s.sto.tabs).length<=200:=by
  rw[e1];have ht:=hW.t ⟨⟨0,c.gen⟩,c.bals⟩ (by rw[e1];exact amn.2 rfl);have k1:=eK ht.1;have k2:=dT (n:=c.bals.length) (by omega);have k3:=Gy ht.2.2;dsimp only at k1 k3;refine ams (sY (f:=pU) (c:=112) (m:=1) (kO c).tabs (fun t h=>?_) (amb _) (by decide)) (by decide);rw[show (kO c).tabs=[⟨⟨0,c.gen⟩,c.bals⟩]from rfl]at h;rw[amn.1 h];unfold pU oK;simp only[akC];change (dt ⟨0,c.gen⟩).length+(bF c.bals.length).length+(wx c.bals).length<=_
  omega
 have hW2:AB (⟨⟨s.sto.cfg,s.sto.latest,s.sto.eqv,s.sto.j,s.sto.f,s.sto.early,s.sto.orph,s.sto.nodes,s.sto.now,s.sto.boost,[]⟩,s.reqs,s.rets,s.tag,s.sent,s.last,s.over,s.halt⟩:aI):=⟨hW.l1,hW.l2,hW.l3,hW.l4,hW.l5,hW.l6,hW.c1,hW.c2,hW.c3,hW.c4,hW.v1,hW.v2,hW.j,hW.f,hW.a,hW.o,hW.n,hW.w,(fun t h=>by cases h),hW.q,hW.y,hW.g,hW.m⟩
 have h2:=acW hW2 (n1:=6) (n2:=6) (n3:=0) (n4:=0) (n5:=0) (n6:=1) (n7:=0) (n8:=0) (n9:=0) (by dsimp only;rw[e1];exact hb) (by dsimp only;rw[e1];unfold kO;dsimp only;rw[akH];exact hb) (by dsimp only;rw[e1];exact amb _) (by dsimp only;rw[e1];exact amb _) (by dsimp only;rw[e1];exact amb _) (by dsimp only;rw[e1];exact amb _) (amb _) (by dsimp only;rw[e2];exact amb _) (by dsimp only;rw[e3];exact amb _) (by decide) (by decide) (by decide) (by decide) (by decide) (by decide) (by decide) (by decide) (by decide);unfold ej at h2 ⊢;dsimp only at h2;simp only[akC]at h2 ⊢;omega
theorem Kd{n:Nat}(h1:2<=n)(h2:n<=300){b:List UInt8}(h0:0<b.length)(hb:b.length<=slS n*64):yL (zr (n*64)) 1 b:=
 have hl:(zr (n*64)).length=n*64:=xt _;⟨⟨n,by rw[hl];omega⟩,by decide,by decide,h0,by rw[hl,Nat.mul_div_cancel n (by decide:0<64)];exact hb,by rw[hl];omega⟩
theorem Jb{B:List UInt8}{b:List UInt8}(h:yL B 1 b):yL (dS B 1 b) 2 b:=by
 have hl:=h.len;exact⟨by rw[hl];exact h.s,by decide,by decide,h.b0,by rw[hl];exact h.b1,by rw[hl];exact h.B1⟩
theorem kc:PC Tryz.prog 16 [] (.bool true):=by
 refine pfn 16 Ei ?_;unfold AM;refine bd ?_;obtain⟨c,hc,cc⟩:=L9 [];have hg:=HU hc;have hbl:=IW hc;have c1:=GZ c (by have:=hc.r.b1;omega) fun _=>(bP.new hc.r).r
 obtain⟨k1,k2⟩:=aaB hc;rw[k1]at c1;generalize (iW c).1=s at *;generalize (iW c).2.1=cs at *;obtain⟨N,hN⟩:∃N:Nat,N=260:=⟨_,rfl⟩
 have hN':(N:Int)=260:=by omega
 have d1:=KX N (by omega) (by omega);rw[hN']at d1;have hp:=acV s;have hd:FJ dP (ej s)=(s,0):=hg.dec ag3;have G1:yL (zr (N*64)) 1 (ej s):=Kd (by omega) (by omega) hp (by unfold slS;omega);have G2:=Jb G1;have z0:(zr (N*64)).length=N*64:=xt _;have z1:=G1.len;have z2:=G2.len;have e1:=JT G1 (by rw[hd]);have e2:=JV G1 G2 (by rw[hd]);rw[hd]at e1 e2;have l0:=yx (B:=zr (N*64)) (by omega) (by omega) false 0 0;rw[EH]at l0;have s1:=Iz hg.ty.enc hg.enc.1 (by rw[EH];rfl) G1;have s2:=Iz hg.ty.enc hg.enc.1 (by rw[e1];rfl) G2;have l2:=yx (B:=dS (dS (zr (N*64)) 1 (ej s)) 2 (ej s)) (by omega) (by omega) false 0 0;rw[e2]at l2;have c5:=Fq s hg.ty.sam hg.ty.ql hg.ty.yl;have e5:(((s.sto.nodes.length:Nat):Int)==1)=true:=by rw[k2];rfl
 clear e1 e2 G1 G2 z0 z1 z2 hd hbl;generalize dS (dS (zr (N*64)) 1 (ej s)) 2 (ej s)=B2 at *;generalize dS (zr (N*64)) 1 (ej s)=B1 at *;generalize zr (N*64)=B0 at *;refine gon ?_;refine pG cc ⟨Wk.empty _ _ _,trivial⟩ ⟨trivial,trivial⟩ ?_;refine gon ?_;refine ahG c1 ?_;refine oce [] d1 ?_;refine bk ?_;refine ocg [1,2] l0 ?_;refine ocg [1,2] s1 ?_;refine ocg [1,2] s2 ?_;refine ocg [1,2] l2 ?_;refine am c5 ?_;refine ah e5 ?_;exact ai
theorem pc_SnapshotHeaders(number:Int)(hnu:(Lit.int .u64 number).wf=true)(b:List UInt8)(hb:b.length<=maxLen)(n:Int)(hn:(Lit.int .i64 n).wf=true):PC Tryz.prog 4 [.int .u64 number,.sl 1 false (bts b),.int .i64 n] (.bool true):=by
 refine pfn 8 xo ?_;unfold j0;refine bd ?_;by_cases h:2000<b.length
 ·have h':decide ((b.length:Int) > 2000)=true:=au (by omega);refine aM h' ?_;refine ahG kc ?_;exact ai
 ·have h':decide ((b.length:Int) > 2000)=false:=aA (by omega);obtain⟨r,hr,hr2⟩:=Ci n 65535 (by decide) (by decide);have hu:U64 number:=⟨(bounds_u64 hnu).1,by have:=(bounds_u64 hnu).2;omega⟩;have c1:=C2 hu b false (by omega);have c2:=E3 hu b false (by omega);have c3:=C1 r (by omega);have c4:=ER r (by omega);have e1:∀n:Int,(n==n)=true:=fun n=>by simp
  have e2:(hdr number b==hdr number b)=true:=by simp
  generalize hdr number b=H at *;refine bJ h' ?_;refine ah hr ?_;refine aK (c1) ?_;refine ue ?_;refine aK (c2) ?_;refine ah e2 ?_;refine aK (c3) ?_;refine ue ?_;refine aK (c4) ?_;refine ah e1 ?_;refine aK (kc) ?_;refine gon ?_;exact ai
theorem pc_SnapshotLoads(b:List UInt8)(hb:b.length<=maxLen):PC Tryz.prog 6 [.sl 1 false (bts b)] (.bool true):=by
 refine pfn 5 yP ?_;unfold pd;refine bd ?_;by_cases h:3000<b.length
 ·have h':decide ((b.length:Int) > 3000)=true:=au (by omega);refine aM h' ?_;refine ahG kc ?_;exact ai
 have h':decide ((b.length:Int) > 3000)=false:=aA (by omega);by_cases q:b.length%64=0/\64<=b.length
 ·have d1:=Kr b false q.1 q.2 (by omega);have l1:=Ho (B:=b) (by omega) q.2;refine aF h' ?_;refine oce [] d1 ?_;refine bk ?_;refine agE ?_;refine ocg [0,1] l1 ?_;refine ahG kc ?_;exact ai
 ·have d1:=J3 b false (by omega) (by omega)
  have r1:=Kb b.length;have m1:IntKind.i64.wrap ((((b.length%64:Nat):Int))+(if (b.length:Int)<1 then (b.length:Int)else 1))=(((b.length%64:Nat):Int))+(if (b.length:Int)<1 then (b.length:Int)else 1):=by split<;>exact aL (by omega) (by omega)
  have m2:((((b.length%64:Nat):Int))+(if (b.length:Int)<1 then (b.length:Int)else 1) != 1)=true:=by
   rw[alf];split<;>omega
  refine aF h' ?_;refine am d1 ?_;refine Ff ?_;refine dC r1 m1 m2 ?_;refine ahG kc ?_;exact ai
end Go.Proofs.YtflhnmleodkjiaaGreat
