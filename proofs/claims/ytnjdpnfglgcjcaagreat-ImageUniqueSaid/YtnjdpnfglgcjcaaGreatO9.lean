/- Joined. -/
import Derived.Test.YtnjdpnfglgcjcaaGreatO8
set_option linter.unusedVariables false
set_option linter.unusedSimpArgs false
set_option maxRecDepth 8000
set_option maxHeartbeats 4000000
namespace Go.Proofs.YtnjdpnfglgcjcaaGreat
open Go Go.FH Go.RowKit
theorem pd{α:Type}(d:α){l m:List α}(hn:l.length=m.length)(h:∀k,k<l.length->l.getD k d=m.getD k d):l=m:=by
 refine alJ hn fun i h1 h2=>?_
 have:=h i h1;rw[alt,alt,al6 h1,al6 h2]at this;exact this
theorem ajg(l m:List Vot)(hl:l.length<=2097152)(hm:m.length<=2097152):PC Tryz.prog 132 [.sl 34 false (rows al l),.sl 34 false (rows al m)] (.bool (decide (l=m))):=by
 refine PC.fact 6 DN (by simp) puA puA ?_;unfold rH;refine bd ?_;by_cases hn:l.length=m.length
 case neg=>
  have e0:((l.length:Int) != (m.length:Int))=true:=by rw[alf];omega
  rw[aA (p:=l=m) (fun h=>hn (by rw[h]))];refine aM e0 ?_;exact ai
 have e0:((l.length:Int) != (m.length:Int))=false:=by rw[hn];simp
 refine aF e0 ?_;refine az (fun i:Nat=>[(5,.int .i64 i)]) (fun _=>[]) (fun i=>l.length-i) (fun i=>i<=l.length/\∀k,k<i->l.getD k dL=m.getD k dL) 0 ⟨amc _,fun k hk=>by omega⟩ ?_ ?_
 ·exact ais [] []
 rintro i ⟨hi,hv⟩;refine dp ?_;by_cases h1:i<l.length
 ·have e1:=inT h1
  have hw:=af h1 (by omega);have h2:i<m.length:=by omega
  have hgd:(rows al l).getD i []=al (l.getD i dL):=aS (f:=al) dL h1;have hge:(rows al m).getD i []=al (m.getD i dL):=aS (f:=al) dL h2;by_cases q:l.getD i dL=m.getD i dL
  ·rw[q]at hgd
   refine bw e1 ?_;refine zh hgd hge h2 ?_;refine ah hw ?_;refine⟨i+1,⟨h1,fun k hk=>?_⟩,by omega,?_⟩
   ·rcases Nat.lt_succ_iff_lt_or_eq.1 hk with hk|rfl
    ·exact hv k hk
    ·exact q
   exact ais [] []
  ·rw[aA (p:=l=m) (fun h=>q (by rw[h]))];have e3:=aA q;clear hv q;generalize l.getD i dL=x at *;generalize m.getD i dL=y at *;refine bw e1 ?_;refine nC hgd hge h2 e3 ?_;exact ai
 ·obtain rfl:i=l.length:=by omega
  have e1:=inF (l.length);rw[au (pd dL hn hv)];refine aF e1 ?_;exact ai
theorem dB(l m:List Req)(hl:l.length<=2097152)(hm:m.length<=2097152):PC Tryz.prog 77 [.sl 35 false (rows aP l),.sl 35 false (rows aP m)] (.bool (decide (l=m))):=by
 refine PC.fact 6 vR (by simp) puA puA ?_;unfold mG;refine bd ?_;by_cases hn:l.length=m.length
 case neg=>
  have e0:((l.length:Int) != (m.length:Int))=true:=by rw[alf];omega
  rw[aA (p:=l=m) (fun h=>hn (by rw[h]))];refine aM e0 ?_;exact ai
 have e0:((l.length:Int) != (m.length:Int))=false:=by rw[hn];simp
 refine aF e0 ?_;refine az (fun i:Nat=>[(5,.int .i64 i)]) (fun _=>[]) (fun i=>l.length-i) (fun i=>i<=l.length/\∀k,k<i->l.getD k gT=m.getD k gT) 0 ⟨amc _,fun k hk=>by omega⟩ ?_ ?_
 ·exact ais [] []
 rintro i ⟨hi,hv⟩;refine dp ?_;by_cases h1:i<l.length
 ·have e1:=inT h1
  have hw:=af h1 (by omega);have h2:i<m.length:=by omega
  have hgd:(rows aP l).getD i []=aP (l.getD i gT):=aS (f:=aP) gT h1;have hge:(rows aP m).getD i []=aP (m.getD i gT):=aS (f:=aP) gT h2;by_cases q:l.getD i gT=m.getD i gT
  ·rw[q]at hgd
   refine bw e1 ?_;refine zh hgd hge h2 ?_;refine ah hw ?_;refine⟨i+1,⟨h1,fun k hk=>?_⟩,by omega,?_⟩
   ·rcases Nat.lt_succ_iff_lt_or_eq.1 hk with hk|rfl
    ·exact hv k hk
    ·exact q
   exact ais [] []
  ·rw[aA (p:=l=m) (fun h=>q (by rw[h]))];have e3:=aA q;clear hv q;generalize l.getD i gT=x at *;generalize m.getD i gT=y at *;refine bw e1 ?_;refine nC hgd hge h2 e3 ?_;exact ai
 ·obtain rfl:i=l.length:=by omega
  have e1:=inF (l.length);rw[au (pd gT hn hv)];refine aF e1 ?_;exact ai
theorem ai9(l m:List Nod)(hl:l.length<=2097152)(hm:m.length<=2097152):PC Tryz.prog 134 [.agg [.sl 240 false (rows bB l)],.agg [.sl 240 false (rows bB m)]] (.bool (decide (l=m))):=by
 refine PC.fact 6 OG (by simp) puA puA ?_;unfold AN;refine bd ?_;by_cases hn:l.length=m.length
 case neg=>
  have e0:((l.length:Int) != (m.length:Int))=true:=by rw[alf];omega
  rw[aA (p:=l=m) (fun h=>hn (by rw[h]))];refine aM e0 ?_;exact ai
 have e0:((l.length:Int) != (m.length:Int))=false:=by rw[hn];simp
 refine aF e0 ?_;refine az (fun i:Nat=>[(5,.int .i64 i)]) (fun _=>[.var [.sl 240 false (rows bB l)],.var [.sl 240 false (rows bB m)]]) (fun i=>l.length-i) (fun i=>i<=l.length/\∀k,k<i->l.getD k gr=m.getD k gr) 0 ⟨amc _,fun k hk=>by omega⟩ ?_ ?_
 ·exact ais [] [0,1]
 rintro i ⟨hi,hv⟩;refine dp ?_;by_cases h1:i<l.length
 ·have e1:=inT h1
  have hw:=af h1 (by omega);have h2:i<m.length:=by omega
  have hgd:(rows bB l).getD i []=bB (l.getD i gr):=aS (f:=bB) gr h1;have hge:(rows bB m).getD i []=bB (m.getD i gr):=aS (f:=bB) gr h2;by_cases q:l.getD i gr=m.getD i gr
  ·rw[q]at hgd
   refine bw e1 ?_;refine zh hgd hge h2 ?_;refine ah hw ?_;refine⟨i+1,⟨h1,fun k hk=>?_⟩,by omega,?_⟩
   ·rcases Nat.lt_succ_iff_lt_or_eq.1 hk with hk|rfl
    ·exact hv k hk
    ·exact q
   exact ais [] [0,1]
  ·rw[aA (p:=l=m) (fun h=>q (by rw[h]))];have e3:=aA q;clear hv q;generalize l.getD i gr=x at *;generalize m.getD i gr=y at *;refine bw e1 ?_;refine nC hgd hge h2 e3 ?_;exact ai
 ·obtain rfl:i=l.length:=by omega
  have e1:=inF (l.length);rw[au (pd gr hn hv)];refine aF e1 ?_;exact ai
theorem aje(l m:List aW)(hl:l.length<=2097152)(hm:m.length<=2097152)(hb:∀t∈l,t.bals.length<=2097152)(hb':∀t∈m,t.bals.length<=2097152):PC Tryz.prog 135 [.sl 34 false (rows aW.c l),.sl 34 false (rows aW.c m)] (.bool (decide (l=m))):=by
 refine PC.fact 6 BW (by simp) puA puA ?_;unfold qw;refine bd ?_;by_cases hn:l.length=m.length
 case neg=>
  have e0:((l.length:Int) != (m.length:Int))=true:=by rw[alf];omega
  rw[aA (p:=l=m) (fun h=>hn (by rw[h]))];refine aM e0 ?_;exact ai
 have e0:((l.length:Int) != (m.length:Int))=false:=by rw[hn];simp
 refine aF e0 ?_;refine az (fun i:Nat=>[(5,.int .i64 i)]) (fun _=>[]) (fun i=>l.length-i) (fun i=>i<=l.length/\∀k,k<i->l.getD k default=m.getD k default) 0 ⟨amc _,fun k hk=>by omega⟩ ?_ ?_
 ·exact ais [] []
 rintro i ⟨hi,hv⟩;refine dp ?_;by_cases h1:i<l.length
 ·have e1:=inT h1
  have hw:=af h1 (by omega);have h2:i<m.length:=by omega
  have hgd:(rows aW.c l).getD i []=bS (l.getD i default).a:=aS (f:=aW.c) default h1;have hge:(rows aW.c m).getD i []=bS (m.getD i default).a:=aS (f:=aW.c) default h2
  have c1:PC Tryz.prog 259 [.agg (bS (l.getD i default).a),.agg (bS (m.getD i default).a)] (.bool (decide (l.getD i default=m.getD i default))):=by
   have h3:=hb _ (bK default h1);have h4:=hb' _ (bK default h2);generalize l.getD i default=x at *;generalize m.getD i default=y at *;have:=SG x.a y.a x.bals y.bals false false rfl rfl (by omega) (by omega)
   have he:decide (x.a.cp=y.a.cp/\x.bals=y.bals)=decide (x=y):=by
    obtain⟨a,b⟩:=x;obtain⟨c,d⟩:=y;exact ald.2 ⟨fun ⟨h1,h2⟩=>by rw[show a=c from h1,show b=d from h2],fun h=>by injection h with h1 h2;exact⟨h1,h2⟩⟩
   rw[he]at this;exact this
  by_cases q:l.getD i default=m.getD i default
  ·rw[au q]at c1
   refine bw e1 ?_;refine dC hgd hge h2 ?_;refine aK (c1) ?_;refine dQ ?_;refine ah hw ?_;refine⟨i+1,⟨h1,fun k hk=>?_⟩,by omega,?_⟩
   ·rcases Nat.lt_succ_iff_lt_or_eq.1 hk with hk|rfl
    ·exact hv k hk
    ·exact q
   exact ais [] []
  ·rw[aA q]at c1;rw[aA (p:=l=m) (fun h=>q (by rw[h]))];clear hv q;generalize l.getD i default=x at *;generalize m.getD i default=y at *;refine bw e1 ?_;refine dC hgd hge h2 ?_;refine aK (c1) ?_;refine aX ?_;exact ai
 ·obtain rfl:i=l.length:=by omega
  have e1:=inF (l.length);rw[au (pd default hn hv)];refine aF e1 ?_;exact ai
theorem dS(s t:ap)(hs:afM s)(ht:afM t):PC Tryz.prog 49 [.agg (aE s.a),.agg (aE t.a)] (.bool (decide (s=t))):=by
 refine PC.fact 9 OK (by simp) puA puA ?_;unfold AR;refine bd ?_;have c1:=zn s.cfg.bals t.cfg.bals false false (by have:=hs.bc;omega) (by have:=ht.bc;omega);have c2:=ajg s.latest t.latest hs.bl ht.bl;have c3:=ra s.eqv t.eqv false false (by have:=hs.be;omega) (by have:=ht.be;omega);have c4:=ai9 s.nodes t.nodes hs.bn ht.bn;have c5:=aje s.tabs t.tabs hs.bt ht.bt hs.bb ht.bb;have b1:=hs.ba;have b2:=hs.bv;have b3:=ht.bv;have b4:=hs.bo;clear hs ht;obtain⟨R,hR⟩:∃R,R=decide (s=t):=⟨_,rfl⟩
 rw[<-hR];obtain⟨⟨lim,spe,bo,ttd,gen,bals⟩,la,qv,j,f,ea,rp,no,nw,bs,tb⟩:=s;obtain⟨⟨lim',spe',bo',ttd',gen',bals'⟩,la',qv',j',f',ea',rp',no',nw',bs',tb'⟩:=t;dsimp only at c1 c2 c3 c4 c5 b1 b2 b3 b4;have e0:∀n:Nat,((n:Int) != (n:Int))=false:=fun n=>by simp
 have e00:∀n:Int,(n != n)=false:=fun n=>by simp
 by_cases q:lim=lim'
 case neg=>
  rw[hR,aA (fun h=>q (ajG (fun x:ap=>x.cfg.lim) h))];have e:=aA q;refine fI e0 e00 e ?_;exact ai
 subst q;by_cases q:spe=spe'
 case neg=>
  rw[hR,aA (fun h=>q (ajG (fun x:ap=>x.cfg.spe) h))];have e:(spe != spe')=true:=by rw[alf];exact q
  refine fI e0 e00 e ?_;exact ai
 subst q;by_cases q:bo=bo'
 case neg=>
  rw[hR,aA (fun h=>q (ajG (fun x:ap=>x.cfg.boost) h))];have e:(bo != bo')=true:=by rw[alf];exact q
  refine fI e0 e00 e ?_;exact ai
 subst q;by_cases q:ttd=ttd'
 case neg=>
  rw[hR,aA (fun h=>q (ajG (fun x:ap=>x.cfg.ttd) h))];have e:=aA q;refine fI e0 e00 e ?_;exact ai
 subst q;by_cases q:gen=gen'
 case neg=>
  rw[hR,aA (fun h=>q (ajG (fun x:ap=>x.cfg.gen) h))];have e:=aA q;refine fI e0 e00 e ?_;exact ai
 subst q;by_cases q:bals=bals'
 case neg=>
  rw[hR,aA (fun h=>q (ajG (fun x:ap=>x.cfg.bals) h))];rw[aA q]at c1;refine aZ e0 e00 ?_;refine am c1 ?_;refine aX ?_;exact ai
 subst q;rw[au rfl]at c1;by_cases q:la=la'
 case neg=>
  rw[hR,aA (fun h=>q (ajG (fun x:ap=>x.latest) h))];rw[aA q]at c2;refine aZ e0 e00 ?_;refine am c1 ?_;refine bk ?_;refine am c2 ?_;refine aX ?_;exact ai
 subst q;rw[au rfl]at c2;by_cases q:qv=qv'
 case neg=>
  rw[hR,aA (fun h=>q (ajG (fun x:ap=>x.eqv) h))];rw[aA q]at c3;refine aZ e0 e00 ?_;refine am c1 ?_;refine bk ?_;refine ahG c2 ?_;refine am c3 ?_;refine aX ?_;exact ai
 subst q;rw[au rfl]at c3;by_cases q:(⟨j,f⟩:Pul)=⟨j',f'⟩
 case neg=>
  rw[hR,aA (fun h=>q (ajG (fun x:ap=>(⟨x.j,x.f⟩:Pul)) h))];have e:=aA q;refine aZ e0 e00 ?_;refine am c1 ?_;refine bk ?_;refine ahG c2 ?_;refine am c3 ?_;refine fI e0 e00 e ?_;exact ai
 injection q with qj qf
 subst qj qf;by_cases qea:ea.length=ea'.length
 case neg=>
  rw[hR,aA (fun h=>qea (ajG (fun x:ap=>x.early.length) h))];have e:((ea.length:Int) != (ea'.length:Int))=true:=by rw[alf];omega
  refine aZ e0 e00 ?_;refine am c1 ?_;refine bk ?_;refine ahG c2 ?_;refine am c3 ?_;refine fI e0 e00 e ?_;exact ai
 have eea:((ea.length:Int) != (ea'.length:Int))=false:=by rw[qea];simp
 by_cases qrp:rp.length=rp'.length
 case neg=>
  rw[hR,aA (fun h=>qrp (ajG (fun x:ap=>x.orph.length) h))];have e:((rp.length:Int) != (rp'.length:Int))=true:=by rw[alf];omega
  refine aZ e0 e00 ?_;refine am c1 ?_;refine bk ?_;refine ahG c2 ?_;refine am c3 ?_;refine nC e0 e00 eea e ?_;exact ai
 have erp:((rp.length:Int) != (rp'.length:Int))=false:=by rw[qrp];simp
 by_cases q:no=no'
 case neg=>
  rw[hR,aA (fun h=>q (ajG (fun x:ap=>x.nodes) h))];rw[aA q]at c4;refine aZ e0 e00 ?_;refine am c1 ?_;refine bk ?_;refine ahG c2 ?_;refine am c3 ?_;refine pz e0 e00 eea erp ?_;refine am c4 ?_;refine aX ?_;exact ai
 subst q;rw[au rfl]at c4;by_cases q:nw=nw'
 case neg=>
  rw[hR,aA (fun h=>q (ajG (fun x:ap=>x.now) h))];have e:(nw != nw')=true:=by rw[alf];exact q
  refine aZ e0 e00 ?_;refine am c1 ?_;refine bk ?_;refine ahG c2 ?_;refine am c3 ?_;refine pz e0 e00 eea erp ?_;refine am c4 ?_;refine fI e0 e00 e ?_;exact ai
 subst q;by_cases q:bs=bs'
 case neg=>
  rw[hR,aA (fun h=>q (ajG (fun x:ap=>x.boost) h))];have e:=aA q;refine aZ e0 e00 ?_;refine am c1 ?_;refine bk ?_;refine ahG c2 ?_;refine am c3 ?_;refine pz e0 e00 eea erp ?_;refine am c4 ?_;refine fI e0 e00 e ?_;exact ai
 subst q;by_cases q:tb=tb'
 case neg=>
  rw[hR,aA (fun h=>q (ajG (fun x:ap=>x.tabs) h))];rw[aA q]at c5;refine aZ e0 e00 ?_;refine am c1 ?_;refine bk ?_;refine ahG c2 ?_;refine am c3 ?_;refine pz e0 e00 eea erp ?_;refine am c4 ?_;refine aZ e0 e00 ?_;refine am c5 ?_;refine aX ?_;exact ai
 subst q;rw[au rfl]at c5;refine aZ e0 e00 ?_;refine am c1 ?_;refine bk ?_;refine ahG c2 ?_;refine am c3 ?_;refine pz e0 e00 eea erp ?_;refine am c4 ?_;refine aZ e0 e00 ?_;refine am c5 ?_;refine bk ?_;have r1:ea≠ea'->R=false:=fun h=>by rw[hR];exact aA fun h'=>h (ajG (fun x:ap=>x.early) h')
 have r2:rp≠rp'->R=false:=fun h=>by rw[hR];exact aA fun h'=>h (ajG (fun x:ap=>x.orph) h')
 have r3:ea=ea'->rp=rp'->R=true:=fun h1 h2=>by rw[hR];exact au (by rw[h1,h2])
 clear hR c1 c2 c3 c4 c5;refine az (fun i:Nat=>[(7,.int .i64 i),(5,.dead),(6,.dead)]) (fun _=>[.var (aE (ap.a ⟨⟨lim,spe,bo,ttd,gen,bals⟩,la,qv,j,f,ea,rp,no,nw,bs,tb⟩)),.var (aE (ap.a ⟨⟨lim,spe,bo,ttd,gen,bals⟩,la,qv,j,f,ea',rp',no,nw,bs,tb⟩))]) (fun i=>ea.length-i) (fun i=>i<=ea.length/\∀k,k<i->ea.getD k default=ea'.getD k default) 0 ⟨amc _,fun k hk=>by omega⟩ ?_ ?_
 ·exact ais [] [0,1]
 rintro i ⟨hi,hv⟩;refine dp ?_;by_cases h1:i<ea.length
 ·have e1:=inT h1
  have hw:=af h1 (by omega);have h2:i<ea'.length:=by omega
  have hgd:(rows bp.c ea).getD i []=cy (ea.getD i default).a:=aS (f:=bp.c) default h1;have hge:(rows bp.c ea').getD i []=cy (ea'.getD i default).a:=aS (f:=bp.c) default h2
  have c6:PC Tryz.prog 136 [.agg (cy (ea.getD i default).a),.agg (cy (ea'.getD i default).a)] (.bool (decide (ea.getD i default=ea'.getD i default))):=by
   have h3:=b2 _ (bK default h1);have h4:=b3 _ (bK default h2);generalize ea.getD i default=x at *;generalize ea'.getD i default=y at *;have:=SE x.a y.a x.vals y.vals false false rfl rfl (by omega) (by omega)
   have he:decide (x.a.slot=y.a.slot/\x.a.root=y.a.root/\x.a.target=y.a.target/\x.vals=y.vals)=decide (x=y):=by
    obtain⟨a,b,c,d⟩:=x;obtain⟨a',b',c',d'⟩:=y;exact ald.2 ⟨fun ⟨h1,h2,h3,h4⟩=>by rw[show a=a' from h1,show b=b' from h2,show c=c' from h3,show d=d' from h4],fun h=>by injection h with h1 h2 h3 h4;exact⟨h1,h2,h3,h4⟩⟩
   rw[he]at this;exact this
  by_cases q:ea.getD i default=ea'.getD i default
  ·rw[au q]at c6
   refine bw e1 ?_;refine dC hgd hge h2 ?_;refine aK (c6) ?_;refine dQ ?_;refine ah hw ?_;refine⟨i+1,⟨h1,fun k hk=>?_⟩,by omega,?_⟩
   ·rcases Nat.lt_succ_iff_lt_or_eq.1 hk with hk|rfl
    ·exact hv k hk
    ·exact q
   exact ais [] [0,1]
  ·rw[aA q]at c6;rw[r1 fun h=>q (by rw[h])];refine bw e1 ?_;refine dC hgd hge h2 ?_;refine aK (c6) ?_;refine aX ?_;exact ai
 ·obtain rfl:i=ea.length:=by omega
  have e1:=inF (ea.length);obtain rfl:=pd default qea hv;clear hi h1 hv r1;refine aF e1 ?_;refine az (fun i:Nat=>[(8,.int .i64 i),(5,.dead),(6,.dead)]) (fun _=>[.var (aE (ap.a ⟨⟨lim,spe,bo,ttd,gen,bals⟩,la,qv,j,f,ea,rp,no,nw,bs,tb⟩)),.var (aE (ap.a ⟨⟨lim,spe,bo,ttd,gen,bals⟩,la,qv,j,f,ea,rp',no,nw,bs,tb⟩))]) (fun i=>rp.length-i) (fun i=>i<=rp.length/\∀k,k<i->rp.getD k cw=rp'.getD k cw) 0 ⟨amc _,fun k hk=>by omega⟩ ?_ ?_
  ·exact ais [] [0,1]
  clear e1;rintro i ⟨hi,hv⟩;refine dp ?_;by_cases h1:i<rp.length
  ·have e1:=inT h1
   have hw:=af h1 (by omega);have h2:i<rp'.length:=by omega
   have hgd:(rows aO rp).getD i []=aO (rp.getD i cw):=aS (f:=aO) cw h1;have hge:(rows aO rp').getD i []=aO (rp'.getD i cw):=aS (f:=aO) cw h2;by_cases q:rp.getD i cw=rp'.getD i cw
   ·rw[q]at hgd
    refine bw e1 ?_;refine zh hgd hge h2 ?_;refine ah hw ?_;refine⟨i+1,⟨h1,fun k hk=>?_⟩,by omega,?_⟩
    ·rcases Nat.lt_succ_iff_lt_or_eq.1 hk with hk|rfl
     ·exact hv k hk
     ·exact q
    exact ais [] [0,1]
   ·have e3:=aA q;rw[r2 fun h=>q (by rw[h])];clear hv q;generalize rp.getD i cw=x at *;generalize rp'.getD i cw=y at *;refine bw e1 ?_;refine nC hgd hge h2 e3 ?_;exact ai
  ·obtain rfl:i=rp.length:=by omega
   have e1:=inF (rp.length);rw[r3 rfl (pd cw qrp hv)];refine aF e1 ?_;exact ai
theorem cK(s t:aI)(hs:afM s.sto)(ht:afM t.sto)(h1:s.reqs.length<=2097152)(h2:s.rets.length<=2097152)(h3:t.reqs.length<=2097152)(h4:t.rets.length<=2097152):PC Tryz.prog 19 [.agg (aV s.a),.agg (aV t.a)] (.bool (decide (s=t))):=by
 refine PC.fact 5 OR (by simp) puA puA ?_;unfold AY;refine bd ?_;have c1:=dS s.sto t.sto hs ht;have c2:=dB s.reqs t.reqs h1 h3;have c3:=dB s.rets t.rets h2 h4;clear hs ht h1 h2 h3 h4;obtain⟨R,hR⟩:∃R,R=decide (s=t):=⟨_,rfl⟩
 rw[<-hR];obtain⟨so,rq,ry,tg,sn,la,ov,ha⟩:=s;obtain⟨so',rq',ry',tg',sn',la',ov',ha'⟩:=t;dsimp only at c1 c2 c3;have e0:∀n:Int,(n==n)=true:=fun n=>by simp
 have e1:∀n:Bool,(n==n)=true:=fun n=>by simp
 by_cases q:so=so'
 case neg=>
  rw[hR,aA (fun h=>q (ajG (fun x:aI=>x.sto) h))];rw[aA q]at c1;refine gon ?_;refine ahG c1 ?_;exact ai
 subst q;rw[au rfl]at c1;by_cases q:rq=rq'
 case neg=>
  rw[hR,aA (fun h=>q (ajG (fun x:aI=>x.reqs) h))];rw[aA q]at c2;refine gon ?_;refine ahG c1 ?_;refine ahG c2 ?_;exact ai
 subst q;rw[au rfl]at c2;by_cases q:ry=ry'
 case neg=>
  rw[hR,aA (fun h=>q (ajG (fun x:aI=>x.rets) h))];rw[aA q]at c3;refine gon ?_;refine ahG c1 ?_;refine ahG c2 ?_;refine ahG c3 ?_;exact ai
 subst q;rw[au rfl]at c3;by_cases q:tg=tg'
 case neg=>
  rw[hR,aA (fun h=>q (ajG (fun x:aI=>x.tag) h))];have e:(tg==tg')=false:=by rw[ajL];exact q
  refine gon ?_;refine ahG c1 ?_;refine ahG c2 ?_;refine am c3 ?_;refine dC e0 e1 e ?_;exact ai
 subst q;by_cases q:sn=sn'
 case neg=>
  rw[hR,aA (fun h=>q (ajG (fun x:aI=>x.sent) h))];have e:(sn==sn')=false:=by rw[ajL];exact q
  refine gon ?_;refine ahG c1 ?_;refine ahG c2 ?_;refine am c3 ?_;refine dC e0 e1 e ?_;exact ai
 subst q;by_cases q:la=la'
 case neg=>
  rw[hR,aA (fun h=>q (ajG (fun x:aI=>x.last) h))];have e:=aA q;refine gon ?_;refine ahG c1 ?_;refine ahG c2 ?_;refine am c3 ?_;refine dC e0 e1 e ?_;exact ai
 subst q;by_cases q:ov=ov'
 case neg=>
  rw[hR,aA (fun h=>q (ajG (fun x:aI=>x.over) h))];have e:(ov==ov')=false:=by rw[ajL];exact q
  refine gon ?_;refine ahG c1 ?_;refine ahG c2 ?_;refine am c3 ?_;refine dC e0 e1 e ?_;exact ai
 subst q;by_cases q:ha=ha'
 case neg=>
  rw[hR,aA (fun h=>q (ajG (fun x:aI=>x.halt) h))];have e:(ha==ha')=false:=by rw[ajL];exact q
  refine gon ?_;refine ahG c1 ?_;refine ahG c2 ?_;refine am c3 ?_;refine dC e0 e1 e ?_;exact ai
 subst q;rw[hR,au rfl];clear hR;refine gon ?_;refine ahG c1 ?_;refine ahG c2 ?_;refine am c3 ?_;refine aZ e0 e1 ?_;exact ai
theorem bQ{s t:aI}{i j:Nat}(hs:j6 s i)(ht:j6 t j):(ej s==ej t)=decide (s=t):=by
 rw[ajx];refine ald.2 ⟨fun h=>?_,fun h=>by rw[h]⟩;have h1:=hs.dec ZB;rw[h,ht.dec ZB]at h1;injection h1 with h1
 exact h1.symm
theorem cz(s t:aI)(i j:Nat)(hs:j6 s i)(ht:j6 t j):Tri Tryz.prog 61 0 (fk.tl 3) (PQ [.tmp 6] (.bool true)) ⟨13,[.dead,.dead,.dead,.dead,.dead,.dead,.bool false,.ptr 0 0,.ptr 1 0,.dead,.dead,.dead,.dead],[]⟩ [.var (aV s.a),.var (aV t.a)]:=by
 unfold fk;refine bd ?_;simp only[ab.tl];have c1:=D7 s hs.ty.enc;rw[hs.enc.1,hs.enc.2]at c1;have c2:=D7 t ht.ty.enc;rw[ht.enc.1,ht.enc.2]at c2;have c3:=cK s t hs.ty.sam ht.ty.sam hs.ty.ql hs.ty.yl ht.ty.ql ht.ty.yl;have e0:=bQ hs ht;have c4:=N2;generalize ej s=B at *;generalize ej t=C at *;generalize decide (s=t)=R at *;have e1:(R==R)=true:=by simp
 refine gon ?_;refine ahG c1 ?_;refine ahG c2 ?_;refine aK (c3) ?_;refine aZ e0 e1 ?_;refine aK (c4) ?_;refine gon ?_;exact ai
theorem pc_ImageUnique(l:List Int)(hl:l.length<=maxLen)(hwl:∀z∈l,(Lit.int .i64 z).wf=true)(m:List Int)(hm:m.length<=maxLen)(hwm:∀z∈m,(Lit.int .i64 z).wf=true)(k:Int)(hk:(Lit.int .i64 k).wf=true):PC Tryz.prog 8 [.sl 1 false (aH .i64 l),.sl 1 false (aH .i64 m),.int .i64 k] (.bool true):=by
 have tl:=cz;obtain⟨s,hg,cs⟩:=E3 l;obtain⟨t,ht,ct⟩:=E3 m;obtain⟨w,hw,_⟩:=Ci (fJ .i64 k 1) 16777215 (by decide) (by decide);obtain⟨x,hx,cx⟩:=Z0 s 24 hg.a hg.a.sto.cfg.tt 99 w (by omega) (by decide) (by decide) (by decide);have c7:=XA s 24 hg.a (by decide) x hx.r hx.u;have hg2:=hg.step (by decide) hx;generalize (CL s x).1=t2 at *;generalize (CL s x).2.1=cm at *;generalize (CL s x).2.2=er at *;refine PC.fact 13 px (by simp) puA puA ?_;have hc:fk=.seq fk.hd (.seq (fk.tl 1).hd (.seq (fk.tl 2).hd (fk.tl 3))):=rfl;rw[hc];clear hc;generalize fk.tl 3=cT at *;unfold fk;refine bd ?_;simp only[ab.tl,ab.hd];refine gon ?_;refine ahG cs ?_;refine am ct ?_;by_cases q:lI .i64 k 1=1
 ·have e:(lI .i64 k 1==1)=true:=by rw[q];rfl
  refine bw e ?_;refine ah hw ?_;refine aK (cx) ?_;refine gon ?_;refine aK (c7) ?_;refine gon ?_;refine eg ?_ (tl s t2 _ _ hg hg2);exact ais [] [0,1]
 ·have e:(lI .i64 k 1==1)=false:=by rw[ajL];exact q
  refine aF e ?_;refine eg ?_ (tl s t _ _ hg ht);exact ais [] [0,1]
end Go.Proofs.YtnjdpnfglgcjcaaGreat
