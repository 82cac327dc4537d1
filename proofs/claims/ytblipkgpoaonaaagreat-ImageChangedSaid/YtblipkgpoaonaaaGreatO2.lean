/- Joined. -/
import Derived.Test.YtblipkgpoaonaaaGreatO1
import Derived.Test.YtblipkgpoaonaaaGreatW8
import Derived.Test.YtblipkgpoaonaaaGreatR1
import Derived.Test.YtblipkgpoaonaaaGreatV7
import Derived.Test.YtblipkgpoaonaaaGreatP1
set_option linter.unusedVariables false
set_option linter.unusedSimpArgs false
set_option maxRecDepth 8000
set_option maxHeartbeats 4000000
namespace Go.Proofs.YtblipkgpoaonaaaGreat
open Go Go.FH Go.RowKit
theorem Jv.st{f:FuncId}{xs:List AV}{e bs rest W:List UInt8}(h:Jv f xs e)(hB:bs++(e++rest)=W)(hW:W.length<=140737488355328):∃b,b++rest=W/\ay Tryz.prog f (.hs 1 0 0 bs.length::xs) [.vec 1 (bts bs)] (.hs 1 1 0 b.length) [.gone,.vec 1 (bts b)]:=
 ⟨bs++e,by rw[amd];exact hB,by
  have:=h bs (by have:=ajG List.length hB;simp only[akC]at this;omega);rwa [akC]⟩
theorem App.o{f:FuncId}{xs:List AV}{e:List UInt8}(h:App f xs e):Jv f xs e:=h.own
theorem App.st{f:FuncId}{xs:List AV}{e bs rest W:List UInt8}(h:App f xs e)(hB:bs++(e++rest)=W)(hW:W.length<=140737488355328):∃b,b++rest=W/\ay Tryz.prog f (.hs 1 0 0 bs.length::xs) [.vec 1 (bts bs)] (.hs 1 1 0 b.length) [.gone,.vec 1 (bts b)]:=h.o.st hB hW
theorem agd(x:Blk):i9 x=br x.slot.toNat++(x.root.1++(x.parent.1++(x.payload.1++((cK x.diff).1++((cK x.pdiff).1++(dt x.just++(dt x.fin++(dt x.pul.j++(dt x.pul.f++(fW x.timely++[])))))))))):=by
 simp only[i9,amd,amo]
theorem oJ{n:Int}(h:U64 n):App 78 [.int .u64 n] (iE n):=dd n h.lo h.hi
theorem SH(x:Blk)(hx:NQ x):Jv 85 [.agg (aO x)] (i9 x):=by
 intro bs hb;rw[<-akC];rw[<-akC]at hb;obtain⟨W,hW⟩:∃W,W=bs++i9 x:=⟨_,rfl⟩
 rw[<-hW]at hb ⊢;have h0:bs++i9 x=W:=hW.symm;rw[agd]at h0;obtain⟨b1,h1,p1⟩:=(dd x.slot hx.slot.lo hx.slot.hi).st h0 hb;obtain⟨b2,h2,p2⟩:=(dx x.root).st h1 hb;obtain⟨b3,h3,p3⟩:=(dx x.parent).st h2 hb;obtain⟨b4,h4,p4⟩:=(dx x.payload).st h3 hb;obtain⟨b5,h5,p5⟩:=(sj x.diff).st h4 hb;obtain⟨b6,h6,p6⟩:=(sj x.pdiff).st h5 hb;obtain⟨b7,h7,p7⟩:=(kS x.just hx.just.lo hx.just.hi).st h6 hb;obtain⟨b8,h8,p8⟩:=(kS x.fin hx.fin.lo hx.fin.hi).st h7 hb;obtain⟨b9,h9,p9⟩:=(kS x.pul.j hx.j.lo hx.j.hi).st h8 hb;obtain⟨b10,h10,p10⟩:=(kS x.pul.f hx.f.lo hx.f.hi).st h9 hb;obtain⟨b11,h11,p11⟩:=(jT x.timely).st h10 hb;rw[amo]at h11;subst h11;clear h0 h1 h2 h3 h4 h5 h6 h7 h8 h9 h10 hW hb;refine afn 5 BR ?_;unfold sE;refine bd ?_;refine gon ?_;refine dsg [0] p1 ?_;refine dsg [2] p2 ?_;refine dsg [3] p3 ?_;refine dsg [4] p4 ?_;refine dsg [5] p5 ?_;refine dsg [6] p6 ?_;refine dsg [7] p7 ?_;refine dsg [8] p8 ?_;refine dsg [9] p9 ?_;refine dsg [10] p10 ?_;refine dsg [11] p11 ?_;exact ahY [] [0,12]
theorem jp(n:Int)(h:fR n):Jv 77 [.int .i64 n] (iE n):=by
 intro bs hb;have p1:=(dd n h.1 (by have:=h.2;omega)).own bs hb;have hw:IntKind.u64.wrap n=n:=aN h.1 (by have:=h.2;omega);refine dS 5 ?_;refine ah hw ?_;refine ocg [0] p1 ?_;exact ahY [] [0,1]
theorem acS(n:Int)(h:fR n):ay Tryz.prog 77 [.sl 0 true [],.int .i64 n] [] (.hs 1 0 0 (iE n).length) [.vec 1 (bts (iE n))]:=by
 have p1:=(dd n h.1 (by have:=h.2;omega)).nil (by have:=dT (n:=n.toNat) (by have:=h.1;have:=h.2;omega);omega);have hw:IntKind.u64.wrap n=n:=aN h.1 (by have:=h.2;omega);unfold iE;refine dS 5 ?_;refine ah hw ?_;refine ocg [] p1 ?_;exact ahY [] [0]
theorem dM{α:Type}(f:α->List UInt8)(l:List α)(d:α){i:Nat}(h:i<l.length):(l.drop i).flatMap f=f (l.getD i d)++(l.drop (i+1)).flatMap f:=by
 rw[amG h,List.flatMap_cons,alt,al6 h];rfl
theorem ND(l:List Req)(hl:l.length<=1099511627776)(hu:∀r∈l,U64 r.tag/\fR r.tries/\U64 r.due):Jv 87 [.sl 35 false (rows aP l)] (lsE mZ l):=by
 intro bs hb;rw[<-akC];rw[<-akC]at hb;obtain⟨W,hW⟩:∃W,W=bs++lsE mZ l:=⟨_,rfl⟩
 rw[<-hW]at hb ⊢;have h0:bs++lsE mZ l=W:=hW.symm;clear hW;unfold lsE at h0;obtain⟨b1,h1,p1⟩:=(jp ((l.length:Nat):Int) ⟨NB,NB⟩).st (by unfold iE;rw[amw];exact h0) hb;refine dS 6 ?_;refine gon ?_;refine ocg [0] p1 ?_;refine az (fun x:Nat×List UInt8=>[(5,.int .i64 x.1),(0,.hs 1 1 0 x.2.length)]) (fun x=>[.gone,.vec 1 (bts x.2)]) (fun x=>l.length-x.1) (fun x=>x.1<=l.length/\x.2++(l.drop x.1).flatMap mZ=W) (0,b1) ⟨amc _,h1⟩ ?_ ?_
 ·exact ais [] [0,1]
 clear h0 h1 p1;rintro⟨i,b⟩ ⟨hi,hB⟩;dsimp only at hi hB ⊢;refine dp ?_;by_cases h1:i<l.length
 ·have e1:=inT h1;have hw:=af h1 NB;have hgd:(rows aP l).getD i []=aP (bm l i):=aS (f:=aP) gT h1;obtain⟨u1,u2,u3⟩:=hu (bm l i) (bK _ h1);rw[dM mZ l gT h1]at hB;change b++(mZ (bm l i)++_)=W at hB
  generalize bm l i=r at *;unfold mZ at hB;simp only[amd]at hB;obtain⟨b2,g2,p2⟩:=(oJ u1).st hB hb;obtain⟨b3,g3,p3⟩:=(dx r.block).st g2 hb;obtain⟨b4,g4,p4⟩:=(jp r.tries u2).st g3 hb;obtain⟨b5,g5,p5⟩:=(oJ u3).st g4 hb;clear hB g2 g3 g4;refine bw e1 ?_;refine ah hgd ?_;refine dse [1] p2 ?_;refine ah hgd ?_;refine dse [2] p3 ?_;refine ah hgd ?_;refine dse [3] p4 ?_;refine ah hgd ?_;refine dse [4] p5 ?_;refine aZ hgd hw ?_;refine⟨(i+1,b5),⟨h1,g5⟩,by dsimp only;omega,?_⟩;exact ais [] [0,5]
 ·obtain rfl:i=l.length:=NB
  have e1:=inF (l.length);rw[amB,amU,amo]at hB;subst hB;refine aF e1 ?_;exact ahY [] [0,1]
def eE(s:aI):List UInt8:=fW s.over++fW s.halt
def eD(s:aI):List UInt8:=(if s.sent=true then QO s.last else [])++eE s
def eC(s:aI):List UInt8:=iE s.tag++(fW s.sent++eD s)
def eB(s:aI):List UInt8:=lsE mZ s.reqs++(lsE mZ s.rets++eC s)
def eA(s:aI):List UInt8:=iE s.sto.now++(s.sto.boost.1++(lsE pU s.sto.tabs++eB s))
def e9(s:aI):List UInt8:=lsE rZ s.sto.nodes++eA s
def e8(s:aI):List UInt8:=lsE i9 s.sto.orph++e9 s
def e7(s:aI):List UInt8:=lsE sC s.sto.early++e8 s
def e6(s:aI):List UInt8:=dt s.sto.j++(dt s.sto.f++e7 s)
def e5(s:aI):List UInt8:=lsE iE s.sto.eqv++e6 s
def e4(s:aI):List UInt8:=lsE rd s.sto.latest++e5 s
theorem abp(n:Nat):br n=iE (n:Int):=by unfold iE;rw[amw]
theorem Aj(n:Nat)(h:n<=1099511627776):Jv 77 [.int .i64 (n:Int)] (br n):=by
 have:=jp (n:Int) ⟨NB,NB⟩;rwa [<-abp]at this
structure Dk(s:aI):Prop where
 w:(ej s).length<=1099511627776
theorem Dk.ls{s:aI}(h:Dk s):s.sto.cfg.bals.length<=1099511627776/\s.sto.latest.length<=1099511627776/\s.sto.eqv.length<=1099511627776/\s.sto.early.length<=1099511627776/\s.sto.orph.length<=1099511627776/\s.sto.nodes.length<=1099511627776/\s.sto.tabs.length<=1099511627776/\s.reqs.length<=1099511627776/\s.rets.length<=1099511627776:=by
 have hl:=h.w;unfold ej at hl;simp only[akC,vt]at hl;have b1:=fG DU s.sto.cfg.bals;have b2:=fG Tu s.sto.latest;have b3:=fG DU s.sto.eqv;have b4:=fG QD s.sto.early;have b5:=fG H3 s.sto.orph;have b6:=fG RO s.sto.nodes;have b7:=fG Tw s.sto.tabs;have b8:=fG CN s.reqs;have b9:=fG CN s.rets;omega
theorem pC{α:Type}(f:α->List UInt8)(l:List α)(e:List UInt8):lsE f l++e=br l.length++(l.flatMap f++e):=by unfold lsE;rw[amd]
theorem w20(s:aI)(h:AB s)(hl:Dk s)(b W:List UInt8)(hW:W.length<=140737488355328)(hB:b++eD s=W):Tri Tryz.prog 334 0 (ae.tl 20) (PQ [.tmp 2] (.sl 1 false (bts W))) ⟨16,[.dead,.ptr 0 0,.sl 0 true [],.ptr 1 0,.hs 1 2 0 b.length,.dead,.dead,.dead,.dead,.dead,.dead,.dead,.dead,.dead,.dead,.dead],[]⟩ [.var (aV s.a),.var (bW s.sto.cfg.a),.vec 1 (bts b)]:=by
 obtain⟨l1,l2,l3,l4,l5,l6,l7,l8,l9⟩:=hl.ls;unfold ae;refine bd ?_;simp only[ab.tl];unfold eD eE at hB;by_cases q:s.sent=true
 ·rw[al7 q]at hB;unfold QO at hB;simp only[amd]at hB;obtain⟨b1,h1,p1⟩:=(dx s.last.head).st hB hW;obtain⟨b2,h2,p2⟩:=(dx s.last.safe).st h1 hW;obtain⟨b3,h3,p3⟩:=(dx s.last.fin).st h2 hW;obtain⟨b4,h4,p4⟩:=(jT s.over).st h3 hW;obtain⟨b5,h5,p5⟩:=(jT s.halt).st (rest:=[]) (by rw[amo];exact h4) hW;rw[amo]at h5;subst h5;clear hB h1 h2 h3 h4;refine aM q ?_;refine dsg [2] p1 ?_;refine dsg [3] p2 ?_;refine dsg [4] p3 ?_;refine dsg [5] p4 ?_;refine dsg [6] p5 ?_;exact ai
 ·rw[al5 q,amD]at hB;have q':s.sent=false:=by simpa using q
  obtain⟨b4,h4,p4⟩:=(jT s.over).st hB hW;obtain⟨b5,h5,p5⟩:=(jT s.halt).st (rest:=[]) (by rw[amo];exact h4) hW;rw[amo]at h5;subst h5;clear hB h4;refine aF q' ?_;refine dsg [2] p4 ?_;refine dsg [3] p5 ?_;exact ai
theorem w17(s:aI)(h:AB s)(hl:Dk s)(b W:List UInt8)(hW:W.length<=140737488355328)(hB:b++(s.sto.tabs.flatMap pU++eB s)=W):Tri Tryz.prog 334 0 (ae.tl 17) (PQ [.tmp 2] (.sl 1 false (bts W))) ⟨16,[.dead,.ptr 0 0,.sl 0 true [],.ptr 1 0,.hs 1 2 0 b.length,.dead,.dead,.dead,.dead,.dead,.dead,.dead,.dead,.dead,.dead,.dead],[]⟩ [.var (aV s.a),.var (bW s.sto.cfg.a),.vec 1 (bts b)]:=by
 obtain⟨l1,l2,l3,l4,l5,l6,l7,l8,l9⟩:=hl.ls;have tl:=w20 s h hl;have hc:ae.tl 17=.seq (ae.tl 17).hd (.seq (ae.tl 18).hd (.seq (ae.tl 19).hd (ae.tl 20))):=rfl;rw[hc];clear hc;generalize ae.tl 20=cT at *;unfold ae;refine bd ?_;simp only[ab.tl,ab.hd];refine gon ?_;refine az (fun x:Nat×List UInt8=>[(13,.int .i64 x.1),(4,.hs 1 2 0 x.2.length),(14,.dead),(15,.dead)]) (fun x=>[.var (aV s.a),.var (bW s.sto.cfg.a),.vec 1 (bts x.2)]) (fun x=>s.sto.tabs.length-x.1) (fun x=>x.1<=s.sto.tabs.length/\x.2++((s.sto.tabs.drop x.1).flatMap pU++eB s)=W) (0,b) ⟨amc _,hB⟩ ?_ ?_
 ·exact ais [] [0,1,2]
 clear hB;rintro⟨i,b⟩ ⟨hi,hB⟩;dsimp only at hi hB ⊢;refine dp ?_;by_cases h1:i<s.sto.tabs.length
 ·have e1:=inT h1;have hw:=af h1 NB;have hgd:(rows aW.c s.sto.tabs).getD i []=cx (s.sto.tabs.getD i default).a:=aS (f:=aW.c) default h1;rw[dM pU s.sto.tabs default h1,amd]at hB;have hm:s.sto.tabs.getD i default∈s.sto.tabs:=bK _ h1;obtain⟨u1,u2,u3⟩:=h.t _ hm;generalize hT:s.sto.tabs.getD i default=t at *;have p0:=SJ t.a t.bals false ⟨u1,rfl,u3,NB⟩;rw[al5 NB,al5 NB]at p0;change b++(oK t.a t.bals++_)=W at hB
  rw[<-amd]at hB;have hlb:(b++oK t.a t.bals).length<=W.length:=by rw[<-hB];simp
  obtain⟨bN,hbN⟩:∃bN,bN=b++oK t.a t.bals:=⟨_,rfl⟩
  have hap:b++oK t.a t.bals=bN:=hbN.symm;have hN:=hB;rw[<-hbN]at hN hlb;have hln:b.length+(oK t.a t.bals).length=bN.length:=by rw[hbN,akC]
  clear hB hbN;generalize oK t.a t.bals=e at *;refine bw e1 ?_;refine ah hgd ?_;refine am p0 ?_;refine aZ hap hln ?_;refine ah hw ?_;refine⟨(i+1,bN),⟨h1,hN⟩,by dsimp only;omega,?_⟩;exact ais [] [0,1,3]
 ·obtain rfl:i=s.sto.tabs.length:=NB
  have e1:=inF (s.sto.tabs.length);rw[amB,amU,amD]at hB;refine bJ e1 ?_;unfold eB at hB;have p1:=(ND s.reqs NB h.q);have p2:=(ND s.rets NB h.y);obtain⟨b1,h1,p1⟩:=p1.st hB hW;obtain⟨b2,h2,p2⟩:=p2.st h1 hW;unfold eC at h2;obtain⟨b3,h3,p3⟩:=(oJ h.g).st h2 hW;obtain⟨b4,h4,p4⟩:=(jT s.sent).st h3 hW;have tl:=tl b4 W hW h4;clear hB h1 h2 h3 h4;refine gon ?_;refine dsg [2] p1 ?_;refine dsg [3] p2 ?_;refine dsg [4] p3 ?_;refine dsg [5] p4 ?_;refine eg ?_ tl;exact ais [] [0,1,6]
theorem w15(s:aI)(h:AB s)(hl:Dk s)(b W:List UInt8)(hW:W.length<=140737488355328)(hB:b++(s.sto.nodes.flatMap rZ++eA s)=W):Tri Tryz.prog 334 0 (ae.tl 15) (PQ [.tmp 2] (.sl 1 false (bts W))) ⟨16,[.dead,.ptr 0 0,.sl 0 true [],.ptr 1 0,.hs 1 2 0 b.length,.dead,.dead,.dead,.dead,.dead,.dead,.dead,.dead,.dead,.dead,.dead],[]⟩ [.var (aV s.a),.var (bW s.sto.cfg.a),.vec 1 (bts b)]:=by
 obtain⟨l1,l2,l3,l4,l5,l6,l7,l8,l9⟩:=hl.ls;have tl:=w17 s h hl;have hc:ae.tl 15=.seq (ae.tl 15).hd (.seq (ae.tl 16).hd (ae.tl 17)):=rfl;rw[hc];clear hc;generalize ae.tl 17=cT at *;unfold ae;refine bd ?_;simp only[ab.tl,ab.hd];refine gon ?_;refine az (fun x:Nat×List UInt8=>[(12,.int .i64 x.1),(4,.hs 1 2 0 x.2.length)]) (fun x=>[.var (aV s.a),.var (bW s.sto.cfg.a),.vec 1 (bts x.2)]) (fun x=>s.sto.nodes.length-x.1) (fun x=>x.1<=s.sto.nodes.length/\x.2++((s.sto.nodes.drop x.1).flatMap rZ++eA s)=W) (0,b) ⟨amc _,hB⟩ ?_ ?_
 ·exact ais [] [0,1,2]
 clear hB;rintro⟨i,b⟩ ⟨hi,hB⟩;dsimp only at hi hB ⊢;refine dp ?_;by_cases h1:i<s.sto.nodes.length
 ·have e1:=inT h1;have hw:=af h1 NB;have hgd:(rows bB s.sto.nodes).getD i []=bB (s.sto.nodes.getD i gr):=aS (f:=bB) gr h1;rw[dM rZ s.sto.nodes gr h1,amd]at hB;have hm:s.sto.nodes.getD i gr∈s.sto.nodes:=bK _ h1;obtain⟨u1,u2,u3⟩:=h.n _ hm;have hup:IntKind.i64.wrap ((s.sto.nodes.getD i gr).up+1)=(s.sto.nodes.getD i gr).up+1:=aL (by have:=u2.1;omega) (by have:=u2.2;omega);generalize s.sto.nodes.getD i gr=n at *;unfold rZ at hB;simp only[amd]at hB;obtain⟨b2,g2,p2⟩:=(SH n.blk u1.u).st hB hW;obtain⟨b3,g3,p3⟩:=(jp (n.up+1) u2).st g2 hW;obtain⟨bN,hN,p4⟩:=(jp n.status u3).st g3 hW;clear hB g2 g3;refine bw e1 ?_;refine ah hgd ?_;refine dse [2] p2 ?_;refine aZ hgd hup ?_;refine dse [3] p3 ?_;refine ah hgd ?_;refine dse [4] p4 ?_;refine ah hw ?_;refine⟨(i+1,bN),⟨h1,hN⟩,by dsimp only;omega,?_⟩;exact ais [] [0,1,5]
 ·obtain rfl:i=s.sto.nodes.length:=NB
  have e1:=inF (s.sto.nodes.length);rw[amB,amU,amD]at hB;refine bJ e1 ?_;unfold eA at hB;obtain⟨b1,h1,p1⟩:=(oJ h.w).st hB hW;obtain⟨b2,h2,p2⟩:=(dx s.sto.boost).st h1 hW;rw[pC]at h2;obtain⟨b3,h3,p3⟩:=(Aj s.sto.tabs.length NB).st h2 hW;have tl:=tl b3 W hW h3;clear hB h1 h2 h3;refine gon ?_;refine dsg [2] p1 ?_;refine dsg [3] p2 ?_;refine dsg [4] p3 ?_;refine eg ?_ tl;exact ais [] [0,1,5]
theorem w13(s:aI)(h:AB s)(hl:Dk s)(b W:List UInt8)(hW:W.length<=140737488355328)(hB:b++(s.sto.orph.flatMap i9++e9 s)=W):Tri Tryz.prog 334 0 (ae.tl 13) (PQ [.tmp 2] (.sl 1 false (bts W))) ⟨16,[.dead,.ptr 0 0,.sl 0 true [],.ptr 1 0,.hs 1 2 0 b.length,.dead,.dead,.dead,.dead,.dead,.dead,.dead,.dead,.dead,.dead,.dead],[]⟩ [.var (aV s.a),.var (bW s.sto.cfg.a),.vec 1 (bts b)]:=by
 obtain⟨l1,l2,l3,l4,l5,l6,l7,l8,l9⟩:=hl.ls;have tl:=w15 s h hl;have hc:ae.tl 13=.seq (ae.tl 13).hd (.seq (ae.tl 14).hd (ae.tl 15)):=rfl;rw[hc];clear hc;generalize ae.tl 15=cT at *;unfold ae;refine bd ?_;simp only[ab.tl,ab.hd];refine gon ?_;refine az (fun x:Nat×List UInt8=>[(11,.int .i64 x.1),(4,.hs 1 2 0 x.2.length)]) (fun x=>[.var (aV s.a),.var (bW s.sto.cfg.a),.vec 1 (bts x.2)]) (fun x=>s.sto.orph.length-x.1) (fun x=>x.1<=s.sto.orph.length/\x.2++((s.sto.orph.drop x.1).flatMap i9++e9 s)=W) (0,b) ⟨amc _,hB⟩ ?_ ?_
 ·exact ais [] [0,1,2]
 clear hB;rintro⟨i,b⟩ ⟨hi,hB⟩;dsimp only at hi hB ⊢;refine dp ?_;by_cases h1:i<s.sto.orph.length
 ·have e1:=inT h1;have hw:=af h1 NB;have hgd:(rows aO s.sto.orph).getD i []=aO (s.sto.orph.getD i cw):=aS (f:=aO) cw h1;rw[dM i9 s.sto.orph cw h1,amd]at hB;have hm:s.sto.orph.getD i cw∈s.sto.orph:=bK _ h1;have u1:=h.o _ hm;generalize s.sto.orph.getD i cw=n at *;obtain⟨bN,hN,p2⟩:=(SH n u1.u).st hB hW;clear hB;refine bw e1 ?_;refine ah hgd ?_;refine oce [2] p2 ?_;refine ah hw ?_;refine⟨(i+1,bN),⟨h1,hN⟩,by dsimp only;omega,?_⟩;exact ais [] [0,1,3]
 ·obtain rfl:i=s.sto.orph.length:=NB
  have e1:=inF (s.sto.orph.length);rw[amB,amU,amD]at hB;refine bJ e1 ?_;unfold e9 at hB;rw[pC]at hB;obtain⟨b1,h1,p1⟩:=(Aj s.sto.nodes.length NB).st hB hW;have tl:=tl b1 W hW h1;clear hB h1;refine gon ?_;refine ocg [2] p1 ?_;refine eg ?_ tl;exact ais [] [0,1,3]
theorem w11(s:aI)(h:AB s)(hl:Dk s)(b W:List UInt8)(hW:W.length<=140737488355328)(hB:b++(s.sto.early.flatMap sC++e8 s)=W):Tri Tryz.prog 334 0 (ae.tl 11) (PQ [.tmp 2] (.sl 1 false (bts W))) ⟨16,[.dead,.ptr 0 0,.sl 0 true [],.ptr 1 0,.hs 1 2 0 b.length,.dead,.dead,.dead,.dead,.dead,.dead,.dead,.dead,.dead,.dead,.dead],[]⟩ [.var (aV s.a),.var (bW s.sto.cfg.a),.vec 1 (bts b)]:=by
 obtain⟨l1,l2,l3,l4,l5,l6,l7,l8,l9⟩:=hl.ls;have tl:=w13 s h hl;have hc:ae.tl 11=.seq (ae.tl 11).hd (.seq (ae.tl 12).hd (ae.tl 13)):=rfl;rw[hc];clear hc;generalize ae.tl 13=cT at *;unfold ae;refine bd ?_;simp only[ab.tl,ab.hd];refine gon ?_;refine az (fun x:Nat×List UInt8=>[(8,.int .i64 x.1),(4,.hs 1 2 0 x.2.length),(9,.dead),(10,.dead)]) (fun x=>[.var (aV s.a),.var (bW s.sto.cfg.a),.vec 1 (bts x.2)]) (fun x=>s.sto.early.length-x.1) (fun x=>x.1<=s.sto.early.length/\x.2++((s.sto.early.drop x.1).flatMap sC++e8 s)=W) (0,b) ⟨amc _,hB⟩ ?_ ?_
 ·exact ais [] [0,1,2]
 clear hB;rintro⟨i,b⟩ ⟨hi,hB⟩;dsimp only at hi hB ⊢;refine dp ?_;by_cases h1:i<s.sto.early.length
 ·have e1:=inT h1;have hw:=af h1 NB;have hgd:(rows bp.c s.sto.early).getD i []=cy (s.sto.early.getD i default).a:=aS (f:=bp.c) default h1;rw[dM sC s.sto.early default h1,amd]at hB;have hm:s.sto.early.getD i default∈s.sto.early:=bK _ h1;obtain⟨u1,u2,u3⟩:=h.a _ hm;have u4:=C5 (n:=1024) u3;generalize hT:s.sto.early.getD i default=t at *;have p0:=SI t.a t.vals false rfl NB u1 u2;rw[al7 u3,u3]at p0;unfold sC at hB;have hx:(oW t.a t.vals).length<=W.length:=by rw[<-hB];unfold uD;simp only[akC];omega
  obtain⟨bN,hN,p2⟩:=(Vi (oW t.a t.vals) false NB).st hB hW;clear hB;generalize oW t.a t.vals=e at *;refine bw e1 ?_;refine ah hgd ?_;refine ahG p0 ?_;refine oce [2] p2 ?_;refine ah hw ?_;refine⟨(i+1,bN),⟨h1,hN⟩,by dsimp only;omega,?_⟩;exact ais [] [0,1,3]
 ·obtain rfl:i=s.sto.early.length:=NB
  have e1:=inF (s.sto.early.length);rw[amB,amU,amD]at hB;refine bJ e1 ?_;unfold e8 at hB;rw[pC]at hB;obtain⟨b1,h1,p1⟩:=(Aj s.sto.orph.length NB).st hB hW;have tl:=tl b1 W hW h1;clear hB h1;refine gon ?_;refine ocg [2] p1 ?_;refine eg ?_ tl;exact ais [] [0,1,3]
theorem w9(s:aI)(h:AB s)(hl:Dk s)(b W:List UInt8)(hW:W.length<=140737488355328)(hB:b++(s.sto.eqv.flatMap iE++e6 s)=W):Tri Tryz.prog 334 0 (ae.tl 9) (PQ [.tmp 2] (.sl 1 false (bts W))) ⟨16,[.dead,.ptr 0 0,.sl 0 true [],.ptr 1 0,.hs 1 2 0 b.length,.dead,.dead,.dead,.dead,.dead,.dead,.dead,.dead,.dead,.dead,.dead],[]⟩ [.var (aV s.a),.var (bW s.sto.cfg.a),.vec 1 (bts b)]:=by
 obtain⟨l1,l2,l3,l4,l5,l6,l7,l8,l9⟩:=hl.ls;have tl:=w11 s h hl;have hc:ae.tl 9=.seq (ae.tl 9).hd (.seq (ae.tl 10).hd (ae.tl 11)):=rfl;rw[hc];clear hc;generalize ae.tl 11=cT at *;unfold ae;refine bd ?_;simp only[ab.tl,ab.hd];refine gon ?_;refine az (fun x:Nat×List UInt8=>[(7,.int .i64 x.1),(4,.hs 1 2 0 x.2.length)]) (fun x=>[.var (aV s.a),.var (bW s.sto.cfg.a),.vec 1 (bts x.2)]) (fun x=>s.sto.eqv.length-x.1) (fun x=>x.1<=s.sto.eqv.length/\x.2++((s.sto.eqv.drop x.1).flatMap iE++e6 s)=W) (0,b) ⟨amc _,hB⟩ ?_ ?_
 ·exact ais [] [0,1,2]
 clear hB;rintro⟨i,b⟩ ⟨hi,hB⟩;dsimp only at hi hB ⊢;refine dp ?_;by_cases h1:i<s.sto.eqv.length
 ·have e1:=inT h1;have hw:=af h1 NB;have hgd:(aH .i64 s.sto.eqv).getD i []=[.int .i64 (s.sto.eqv.getD i 0)]:=gdn (k:=.i64) h1;rw[dM iE s.sto.eqv 0 h1,amd]at hB;have hm:s.sto.eqv.getD i 0∈s.sto.eqv:=bK _ h1;have u1:=h.v2 _ hm;generalize s.sto.eqv.getD i 0=n at *;obtain⟨bN,hN,p2⟩:=(jp n u1).st hB hW;clear hB;refine bw e1 ?_;refine ah hgd ?_;refine oce [2] p2 ?_;refine ah hw ?_;refine⟨(i+1,bN),⟨h1,hN⟩,by dsimp only;omega,?_⟩;exact ais [] [0,1,3]
 ·obtain rfl:i=s.sto.eqv.length:=NB
  have e1:=inF (s.sto.eqv.length);rw[amB,amU,amD]at hB;refine bJ e1 ?_;unfold e6 at hB;obtain⟨b1,h1,p1⟩:=(kS s.sto.j h.j.lo h.j.hi).st hB hW;obtain⟨b2,h2,p2⟩:=(kS s.sto.f h.f.lo h.f.hi).st h1 hW;unfold e7 at h2;rw[pC]at h2;obtain⟨b3,h3,p3⟩:=(Aj s.sto.early.length NB).st h2 hW;have tl:=tl b3 W hW h3;clear hB h1 h2 h3;refine gon ?_;refine dsg [2] p1 ?_;refine dsg [3] p2 ?_;refine dsg [4] p3 ?_;refine eg ?_ tl;exact ais [] [0,1,5]
theorem w7(s:aI)(h:AB s)(hl:Dk s)(b W:List UInt8)(hW:W.length<=140737488355328)(hB:b++(s.sto.latest.flatMap rd++e5 s)=W):Tri Tryz.prog 334 0 (ae.tl 7) (PQ [.tmp 2] (.sl 1 false (bts W))) ⟨16,[.dead,.ptr 0 0,.sl 0 true [],.ptr 1 0,.hs 1 2 0 b.length,.dead,.dead,.dead,.dead,.dead,.dead,.dead,.dead,.dead,.dead,.dead],[]⟩ [.var (aV s.a),.var (bW s.sto.cfg.a),.vec 1 (bts b)]:=by
 obtain⟨l1,l2,l3,l4,l5,l6,l7,l8,l9⟩:=hl.ls;have tl:=w9 s h hl;have hc:ae.tl 7=.seq (ae.tl 7).hd (.seq (ae.tl 8).hd (ae.tl 9)):=rfl;rw[hc];clear hc;generalize ae.tl 9=cT at *;unfold ae;refine bd ?_;simp only[ab.tl,ab.hd];refine gon ?_;refine az (fun x:Nat×List UInt8=>[(6,.int .i64 x.1),(4,.hs 1 2 0 x.2.length)]) (fun x=>[.var (aV s.a),.var (bW s.sto.cfg.a),.vec 1 (bts x.2)]) (fun x=>s.sto.latest.length-x.1) (fun x=>x.1<=s.sto.latest.length/\x.2++((s.sto.latest.drop x.1).flatMap rd++e5 s)=W) (0,b) ⟨amc _,hB⟩ ?_ ?_
 ·exact ais [] [0,1,2]
 clear hB;rintro⟨i,b⟩ ⟨hi,hB⟩;dsimp only at hi hB ⊢;refine dp ?_;by_cases h1:i<s.sto.latest.length
 ·have e1:=inT h1
  have hw:=af h1 NB;have hgd:(rows al s.sto.latest).getD i []=al (s.sto.latest.getD i dL):=aS (f:=al) dL h1;rw[dM rd s.sto.latest dL h1,amd]at hB;have hm:s.sto.latest.getD i dL∈s.sto.latest:=bK _ h1;obtain⟨u1,u2⟩:=h.v1 _ hm;generalize s.sto.latest.getD i dL=v at *;unfold rd at hB;simp only[amd]at hB;obtain⟨b1,g1,p1⟩:=(jT v.has).st hB hW;by_cases q:v.has=true
  ·rw[al7 q]at g1;simp only[amd]at g1;obtain⟨b2,g2,p2⟩:=(oJ u1).st g1 hW;obtain⟨bN,hN,p3⟩:=(dx v.root).st g2 hW;clear hB g1 g2;refine bw e1 ?_;refine ah hgd ?_;refine oce [2] p1 ?_;refine mQ hgd q ?_;refine ah hgd ?_;refine dse [3] p2 ?_;refine ah hgd ?_;refine dse [4] p3 ?_;refine ah hw ?_;refine⟨(i+1,bN),⟨h1,hN⟩,by dsimp only;omega,?_⟩;exact ais [] [0,1,5]
  ·rw[al5 q,amD]at g1;have q':v.has=false:=by simpa using q
   clear hB;refine bw e1 ?_;refine ah hgd ?_;refine oce [2] p1 ?_;refine fp hgd q' ?_;refine ah hw ?_;refine⟨(i+1,b1),⟨h1,g1⟩,by dsimp only;omega,?_⟩;exact ais [] [0,1,3]
 ·obtain rfl:i=s.sto.latest.length:=NB
  have e1:=inF (s.sto.latest.length);rw[amB,amU,amD]at hB;refine bJ e1 ?_;unfold e5 at hB;rw[pC]at hB;obtain⟨b1,h1,p1⟩:=(Aj s.sto.eqv.length NB).st hB hW;have tl:=tl b1 W hW h1;clear hB h1;refine gon ?_;refine ocg [2] p1 ?_;refine eg ?_ tl;exact ais [] [0,1,3]
theorem w5(s:aI)(h:AB s)(hl:Dk s)(b W:List UInt8)(hW:W.length<=140737488355328)(hB:b++(s.sto.cfg.bals.flatMap iE++e4 s)=W):Tri Tryz.prog 334 0 (ae.tl 5) (PQ [.tmp 2] (.sl 1 false (bts W))) ⟨16,[.dead,.ptr 0 0,.sl 0 true [],.ptr 1 0,.hs 1 2 0 b.length,.dead,.dead,.dead,.dead,.dead,.dead,.dead,.dead,.dead,.dead,.dead],[]⟩ [.var (aV s.a),.var (bW s.sto.cfg.a),.vec 1 (bts b)]:=by
 obtain⟨l1,l2,l3,l4,l5,l6,l7,l8,l9⟩:=hl.ls;have tl:=w7 s h hl;have hc:ae.tl 5=.seq (ae.tl 5).hd (.seq (ae.tl 6).hd (ae.tl 7)):=rfl;rw[hc];clear hc;generalize ae.tl 7=cT at *;unfold ae;refine bd ?_;simp only[ab.tl,ab.hd];refine gon ?_;refine az (fun x:Nat×List UInt8=>[(5,.int .i64 x.1),(4,.hs 1 2 0 x.2.length)]) (fun x=>[.var (aV s.a),.var (bW s.sto.cfg.a),.vec 1 (bts x.2)]) (fun x=>s.sto.cfg.bals.length-x.1) (fun x=>x.1<=s.sto.cfg.bals.length/\x.2++((s.sto.cfg.bals.drop x.1).flatMap iE++e4 s)=W) (0,b) ⟨amc _,hB⟩ ?_ ?_
 ·exact ais [] [0,1,2]
 clear hB;rintro⟨i,b⟩ ⟨hi,hB⟩;dsimp only at hi hB ⊢;refine dp ?_;by_cases h1:i<s.sto.cfg.bals.length
 ·have e1:=inT h1;have hw:=af h1 NB;have hgd:(aH .u64 s.sto.cfg.bals).getD i []=[.int .u64 (s.sto.cfg.bals.getD i 0)]:=gdn (k:=.u64) h1;rw[dM iE s.sto.cfg.bals 0 h1,amd]at hB;have hm:s.sto.cfg.bals.getD i 0∈s.sto.cfg.bals:=bK _ h1;have u1:=h.c4 _ hm;generalize s.sto.cfg.bals.getD i 0=n at *;obtain⟨bN,hN,p2⟩:=(oJ u1).st hB hW;clear hB;refine bw e1 ?_;refine ah hgd ?_;refine oce [2] p2 ?_;refine ah hw ?_;refine⟨(i+1,bN),⟨h1,hN⟩,by dsimp only;omega,?_⟩;exact ais [] [0,1,3]
 ·obtain rfl:i=s.sto.cfg.bals.length:=NB
  have e1:=inF (s.sto.cfg.bals.length);rw[amB,amU,amD]at hB;refine bJ e1 ?_;unfold e4 at hB;rw[pC]at hB;obtain⟨b1,h1,p1⟩:=(Aj s.sto.latest.length NB).st hB hW;have tl:=tl b1 W hW h1;clear hB h1;refine gon ?_;refine ocg [2] p1 ?_;refine eg ?_ tl;exact ais [] [0,1,3]
theorem VF(s:aI)(h:AB s)(hl:Dk s):PC Tryz.prog 29 [.agg (aV s.a)] (.sl 1 false (bts (ej s))):=by
 obtain⟨l1,l2,l3,l4,l5,l6,l7,l8,l9⟩:=hl.ls;have tl:=w5 s h hl;refine pfn 16 KE ?_;have hc:ae=.seq ae.hd (.seq (ae.tl 1).hd (.seq (ae.tl 2).hd (.seq (ae.tl 3).hd (.seq (ae.tl 4).hd (ae.tl 5))))):=rfl;rw[hc];clear hc;generalize ae.tl 5=cT at *;unfold ae;refine bd ?_;simp only[ab.tl,ab.hd];have hW:(ej s).length<=140737488355328:=by have:=hl.w;omega
 obtain⟨W,hWd⟩:∃W,W=ej s:=⟨_,rfl⟩
 rw[<-hWd]at hW ⊢;have hB:vt s.sto.cfg++e4 s=W:=by rw[hWd];rfl
 clear hWd;unfold vt YF at hB;simp only[amd]at hB;rw[pC]at hB;have p1:=acS s.sto.cfg.lim.node h.l1;obtain⟨b2,h2,p2⟩:=(jp s.sto.cfg.lim.orph h.l2).st hB hW;obtain⟨b3,h3,p3⟩:=(jp s.sto.cfg.lim.early h.l3).st h2 hW;obtain⟨b4,h4,p4⟩:=(jp s.sto.cfg.lim.table h.l4).st h3 hW;obtain⟨b5,h5,p5⟩:=(jp s.sto.cfg.lim.retry h.l5).st h4 hW;obtain⟨b6,h6,p6⟩:=(oJ h.l6).st h5 hW;obtain⟨b7,h7,p7⟩:=(oJ h.c1).st h6 hW;obtain⟨b8,h8,p8⟩:=(oJ h.c2).st h7 hW;obtain⟨b9,h9,p9⟩:=(sj s.sto.cfg.ttd).st h8 hW;obtain⟨b10,h10,p10⟩:=(dx s.sto.cfg.gen).st h9 hW;obtain⟨b11,h11,p11⟩:=(Aj s.sto.cfg.bals.length NB).st h10 hW;have tl:=tl b11 W hW h11;clear hB h2 h3 h4 h5 h6 h7 h8 h9 h10 h11;refine gon ?_;refine dsg [] p1 ?_;refine dsg [2] p2 ?_;refine dsg [3] p3 ?_;refine dsg [4] p4 ?_;refine dsg [5] p5 ?_;refine dsg [6] p6 ?_;refine dsg [7] p7 ?_;refine dsg [8] p8 ?_;refine dsg [9] p9 ?_;refine dsg [10] p10 ?_;refine dsg [11] p11 ?_;refine eg ?_ tl;exact ais [] [0,1,12]
def jZ(s:aI):List Req:=s.reqs++s.rets
def isY(s:aI)(i:Nat):Bool:=decide ((i:Int) ≥ ((s.reqs.length:Nat):Int))
def okA(s:aI)(i:Nat):Prop:=Z6 s (bm (jZ s) i) (if isY s i=true then 1 else 0)/\isY s i=decide ((bm (jZ s) i).due ≥ 1)/\∀k,k<i->(bm (jZ s) k).tag≠(bm (jZ s) i).tag
theorem zz{s:aI}{i:Nat}(h:i<s.reqs.length):bm (jZ s) i=bm s.reqs i:=by
 unfold bm jZ;rw[alt,amH h,<-alt]
theorem Dm{s:aI}{i:Nat}:bm (jZ s) (s.reqs.length+i)=bm s.rets i:=by
 unfold bm jZ;rw[alt,amX NB,alt];congr 3;omega
theorem rY{l:List Req}{n:Int}{k:Nat}(hk:k<=l.length):n∈(l.take k).map (·.tag)↔∃i,i<k/\(bm l i).tag=n:=by
 rw[amV];constructor
 ·rintro⟨r,hr,h⟩;obtain⟨i,hi,he⟩:=ajt.1 hr;refine⟨i,NB,?_⟩;unfold bm;rw[alt,al6 NB];rw[<-h,<-he];rfl
 ·rintro⟨i,hi,h⟩;refine⟨bm l i,ajt.2 ⟨i,NB,?_⟩,h⟩;unfold bm;rw[alt,al6 NB];rfl
theorem Zs{s:aI}(hd:∀r∈s.reqs,0<=r.due):pN s↔(∀i,i<s.reqs.length+s.rets.length->okA s i)/\(∀i,0<i->i<s.reqs.length->(bm s.reqs (i-1)).tag<(bm s.reqs i).tag)/\∀i,0<i->i<s.rets.length->gC (bm s.rets (i-1)) (bm s.rets i)=true:=by
 have all_len:s.reqs.map (·.tag)=(s.reqs.take s.reqs.length).map (·.tag):=by rw[ajp]
 constructor
 ·rintro⟨h1,h2⟩
  refine⟨fun i hi=>?_,fun i h0 hi=>(h1 i hi).1.resolve_left NB,fun i h0 hi=>(h2 i hi).1.resolve_left NB⟩;by_cases hq:i<s.reqs.length
  ·have hy:isY s i=false:=aA NB;obtain⟨_,g2,g3,g4⟩:=h1 i hq;unfold okA;rw[zz hq,hy];refine⟨g3,(aA NB).symm,fun k hk he=>g4 ((rY NB).2 ⟨k,hk,?_⟩)⟩;rw[<-he,zz NB]
  ·obtain⟨j,rfl⟩:∃j,i=s.reqs.length+j:=⟨i-s.reqs.length,NB⟩
   have hy:isY s (s.reqs.length+j)=true:=au NB;obtain⟨_,g2,g3,g4⟩:=h2 j NB;rw[amm,not_or]at g4;unfold okA;rw[Dm,hy];refine⟨g3,(au g2).symm,fun k hk he=>?_⟩;by_cases hk2:k<s.reqs.length
   ·rw[all_len]at g4;exact g4.1 ((rY (amb _)).2 ⟨k,hk2,by rw[<-he,zz hk2]⟩)
   ·obtain⟨m,rfl⟩:∃m,k=s.reqs.length+m:=⟨k-s.reqs.length,NB⟩
    exact g4.2 ((rY NB).2 ⟨m,NB,by rw[<-he,Dm]⟩)
 ·rintro⟨h1,h2,h3⟩
  refine⟨fun i hi=>?_,fun i hi=>?_⟩
  ·have hy:isY s i=false:=aA NB
   obtain⟨g1,g2,g3⟩:=h1 i NB;rw[zz hi,hy]at g1 g2;have hm:bm s.reqs i∈s.reqs:=pM hi;have:=hd _ hm;refine⟨?_,?_,g1,fun hc=>?_⟩
   ·by_cases h0:i=0
    ·exact .inl h0
    ·exact .inr (h2 i NB hi)
   ·have:=aky g2.symm;omega
   ·obtain⟨k,hk,he⟩:=(rY NB).1 hc;exact g3 k hk (by rw[zz NB,he,zz hi])
  ·have hy:isY s (s.reqs.length+i)=true:=au NB
   obtain⟨g1,g2,g3⟩:=h1 (s.reqs.length+i) NB;rw[Dm,hy]at g1 g2;refine⟨?_,aks g2.symm,g1,fun hc=>?_⟩
   ·by_cases h0:i=0
    ·exact .inl h0
    ·exact .inr (h3 i NB hi)
   ·rcases amm.1 hc with hc|hc
    ·rw[all_len]at hc;obtain⟨k,hk,he⟩:=(rY (amb _)).1 hc;exact g3 k NB (by rw[zz hk,he,Dm])
    ·obtain⟨k,hk,he⟩:=(rY NB).1 hc;exact g3 (s.reqs.length+k) NB (by rw[Dm,he,Dm])
theorem Zz (s : aI) (hn : s.sto.nodes.length <= 2097152) (hq : s.reqs.length <= 2097152) (hy : s.rets.length <= 2097152) (hd : ∀ r ∈ s.reqs, 0 <= r.due) (R : Int) (hv1 : pN s -> R = 0) (hv2 : ¬ pN s -> R = 2) : Tri Tryz.prog 183 0 (dm.tl 3) (PQ [.tmp 2] (.int .i64 R)) ⟨14, [.dead, .ptr 0 0, .int .i64 0, .int .i64 0, .dead, .dead, .dead, .dead, .dead, .dead, .dead, .dead, .dead, .dead], []⟩ [.var (aV s.a)] := by
 unfold dm;refine bd ?_;simp only[ab.tl];rw[Zs hd]at hv1 hv2;have hap:rows aP s.reqs++rows aP s.rets=rows aP (jZ s):=by unfold rows jZ;rw[amN]
 have hla:(jZ s).length=s.reqs.length+s.rets.length:=by unfold jZ;rw[akC]
 refine gon ?_;refine az (fun i:Nat=>[(5,.int .i64 i),(4,.hs 35 1 0 (s.reqs.length+s.rets.length))]) (fun i=>[.var (aV s.a),.vec 35 (rows aP (jZ s))]) (fun i=>s.reqs.length+s.rets.length-i) (fun i=>i<=s.reqs.length+s.rets.length/\∀k,k<i->okA s k) 0 ⟨amc _,fun k hk=>absurd hk (aju k)⟩ ?_ ?_
 ·rw[<-hap];exact ais [] [0,2]
 rintro i ⟨hi,hk0⟩;refine dp ?_;by_cases h1:i<s.reqs.length+s.rets.length
 ·have e1:=inT h1
  have hw:=af h1 NB;have hgd:(rows aP (jZ s)).getD i []=aP (bm (jZ s) i):=aS (f:=aP) gT NB;have hxl:i<(jZ s).length:=NB
  have hR:¬okA s i->R=2:=fun hn=>hv2 fun h=>hn (h.1 i h1)
  obtain⟨C,hC⟩:∃C:Prop,C=okA s i:=⟨_,rfl⟩
  have hI:okA s i->C:=by rw[hC];exact id
  have c1:=cC s.sto.nodes (bm (jZ s) i).block hn;have hin:∀k,k<i->(rows aP (jZ s)).getD k []=aP (bm (jZ s) k)/\k<(jZ s).length:=fun k hk=>⟨aS (f:=aP) gT NB,NB⟩
  unfold okA at hR hI;unfold isY at hR hI;generalize hr0:bm (jZ s) i=r at *;unfold Z6 at hR hI;generalize aj s.sto.nodes r.block=D at *;refine bw e1 ?_;refine aZ hgd hxl ?_;generalize hL:decide ((i:Int) ≥ ((s.reqs.length:Nat):Int))=L at *;refine xT (fun t=>[(7,.int .i64 (if t=true then 1 else 0))]) (fun _=>[.var (aV s.a),.vec 35 (rows aP (jZ s)),.var (aP r)]) (fun hT=>?_) (fun hF=>?_) ?_
  ·subst hT;refine gon ?_;exact ais [] [0,1,2]
  ·subst hF;refine gon ?_;exact ais [] [0,1,2]
  generalize hlow:(if L=true then (1:Int)else 0)=low at *;(try simp only[dE,dr,amx,amy])
  by_cases q1:r.tag<1
  ·have k1:=au q1;have:=hR fun h=>by have:=h.1.1;omega
   subst this;refine aM k1 ?_;exact ai
  have k1:=aA q1;by_cases q2:s.tag<=r.tag
  ·have k2:decide (r.tag ≥ s.tag)=true:=au q2;have:=hR fun h=>by have:=h.1.2.1;omega
   subst this;refine cH k1 k2 ?_;exact ai
  have k2:decide (r.tag ≥ s.tag)=false:=aA q2;by_cases q3:r.tries<low
  ·have k3:=au q3;have:=hR fun h=>by have:=h.1.2.2.1;omega
   subst this;refine fI k1 k2 k3 ?_;exact ai
  have k3:=aA q3;by_cases q4:1099511627776<r.tries
  ·have k4:decide (r.tries > 1099511627776)=true:=au q4;have:=hR fun h=>by have:=h.1.2.2.2.1;omega
   subst this;refine nC k1 k2 k3 k4 ?_;exact ai
  have k4:decide (r.tries > 1099511627776)=false:=aA q4;generalize hDu:decide (r.due ≥ 1)=Du at *;by_cases q5:L=Du
  case neg=>
   have k5:(L != Du)=true:=by simp[q5]
   have k5':(L==Du)=false:=by simp[q5]
   have:=hR fun h=>q5 h.2.1
   subst this;refine jj k1 k2 k3 k4 hDu k5 k5' ?_;refine agF ?_;exact ai
  have k5:(L != Du)=false:=by simp[q5]
  have k5':(L==Du)=true:=by simp[q5]
  by_cases q6:D<0
  ·have k6:=au q6;have:=hR fun h=>by have:=h.1.2.2.2.2;omega
   subst this;refine jj k1 k2 k3 k4 hDu k5 k5' ?_;refine am c1 ?_;refine aM k6 ?_;exact ai
  have k6:=aA q6;refine jj k1 k2 k3 k4 hDu k5 k5' ?_;refine am c1 ?_;refine aF k6 ?_;refine az (fun k:Nat=>[(9,.int .i64 k)]) (fun k=>[.var (aV s.a),.vec 35 (rows aP (jZ s)),.var (aP r)]) (fun k=>i-k) (fun k=>k<=i/\∀j,j<k->(bm (jZ s) j).tag≠r.tag) 0 ⟨amc _,fun k hk=>absurd hk (aju k)⟩ ?_ ?_
  ·exact ais [] [0,1,2]
  rintro k ⟨hk,hkn⟩;refine dp ?_;by_cases h2:k<i
  ·have e2:decide ((k:Int)<(i:Int))=true:=au NB
   have hw2:IntKind.i64.wrap ((k:Int)+1)=((k+1:Nat):Int):=af h2 NB;obtain⟨g1,g2⟩:=hin k h2;by_cases q7:(bm (jZ s) k).tag=r.tag
   ·have k7:((bm (jZ s) k).tag==r.tag)=true:=by simp[q7]
    have:=hR fun h=>h.2.2 k h2 q7
    subst this;generalize bm (jZ s) k=x at *;refine bw e2 ?_;refine fI g1 g2 k7 ?_;exact ai
   ·have k7:((bm (jZ s) k).tag==r.tag)=false:=by simp[q7]
    have hnx:∀j,j<k+1->(bm (jZ s) j).tag≠r.tag:=fun j hj=>by
     by_cases hjk:j=k
     ·subst hjk;exact q7
     ·exact hkn j NB
    generalize bm (jZ s) k=x at *;refine bw e2 ?_;refine zh g1 g2 k7 ?_;refine ah hw2 ?_;refine⟨k+1,⟨h2,hnx⟩,NB,?_⟩;exact ais [] [0,1,2]
  ·obtain rfl:k=i:=NB
   have e2:decide ((k:Int)<(k:Int))=false:=aA NB;refine bJ e2 ?_;refine ah hw ?_;refine⟨k+1,⟨h1,fun j hj=>?_⟩,NB,?_⟩
   ·by_cases hjk:j=k
    ·subst hjk;rw[<-hC];exact hI ⟨⟨NB,NB,NB,NB,NB⟩,q5,hkn⟩
    ·exact hk0 j NB
   ·exact ais [] [0,1]
 ·obtain rfl:i=s.reqs.length+s.rets.length:=NB
  have e1:=inF (s.reqs.length+s.rets.length);refine aF e1 ?_;refine az (fun i:Nat=>[(10,.int .i64 i),(4,.dead)]) (fun i=>[.var (aV s.a)]) (fun i=>s.reqs.length-i) (fun i=>1<=i/\∀k,0<k->k<i->k<s.reqs.length->(bm s.reqs (k-1)).tag<(bm s.reqs k).tag) 1 ⟨amb _,fun k h0 hk=>NB⟩ ?_ ?_
  ·exact ais [] [0]
  clear e1 hi;rintro i ⟨hi,hs0⟩;refine dp ?_;by_cases h1:i<s.reqs.length
  ·have e1:=inT h1
   have hw:=af h1 NB;have hw1:IntKind.i64.wrap ((i:Int)-1)=((i-1:Nat):Int):=by rw[aL NB NB];omega
   have hgd:(rows aP s.reqs).getD i []=aP (bm s.reqs i):=aS (f:=aP) gT h1;have hgp:(rows aP s.reqs).getD (i-1) []=aP (bm s.reqs (i-1)):=aS (f:=aP) gT NB;have hlt:i-1<s.reqs.length:=NB
   have hltI:((i-1:Nat):Int)<((s.reqs.length:Nat):Int):=NB
   by_cases q1:(bm s.reqs (i-1)).tag<(bm s.reqs i).tag
   ·have k1:decide ((bm s.reqs i).tag<=(bm s.reqs (i-1)).tag)=false:=aA NB
    have hnx:∀k,0<k->k<i+1->k<s.reqs.length->(bm s.reqs (k-1)).tag<(bm s.reqs k).tag:=fun k h0 hk hl=>by
     by_cases hki:k=i
     ·subst hki;exact q1
     ·exact hs0 k h0 NB hl
    generalize bm s.reqs (i-1)=p at *;generalize bm s.reqs i=r at *;refine bw e1 ?_;refine eV hgd hgp hw1 hlt hltI k1 ?_;refine aB ?_;refine ah hw ?_;refine⟨i+1,⟨NB,hnx⟩,NB,?_⟩;exact ais [] [0]
   ·have k1:decide ((bm s.reqs i).tag<=(bm s.reqs (i-1)).tag)=true:=au NB;have:=hv2 fun h=>q1 (h.2.1 i NB h1)
    subst this;generalize bm s.reqs (i-1)=p at *;generalize bm s.reqs i=r at *;refine bw e1 ?_;refine eV hgd hgp hw1 hlt hltI k1 ?_;refine agF ?_;exact ai
  ·have e1:decide ((i:Int)<((s.reqs.length:Nat):Int))=false:=aA NB
   have hs1:∀k,0<k->k<s.reqs.length->(bm s.reqs (k-1)).tag<(bm s.reqs k).tag:=fun k h0 hk=>hs0 k h0 NB hk
   refine aF e1 ?_;refine az (fun i:Nat=>[(11,.int .i64 i),(4,.dead)]) (fun i=>[.var (aV s.a)]) (fun i=>s.rets.length-i) (fun i=>1<=i/\∀k,0<k->k<i->k<s.rets.length->gC (bm s.rets (k-1)) (bm s.rets k)=true) 1 ⟨amb _,fun k h0 hk=>NB⟩ ?_ ?_
   ·exact ais [] [0]
   clear e1 hi h1 hs0;rintro i ⟨hi,hs0⟩;refine dp ?_;by_cases h1:i<s.rets.length
   ·have e1:=inT h1
    have hw:=af h1 NB;have hw1:IntKind.i64.wrap ((i:Int)-1)=((i-1:Nat):Int):=by rw[aL NB NB];omega
    have hgd:(rows aP s.rets).getD i []=aP (bm s.rets i):=aS (f:=aP) gT h1;have hgp:(rows aP s.rets).getD (i-1) []=aP (bm s.rets (i-1)):=aS (f:=aP) gT NB;have hlt:i-1<s.rets.length:=NB
    have hltI:((i-1:Nat):Int)<((s.rets.length:Nat):Int):=NB
    have hbad:¬gC (bm s.rets (i-1)) (bm s.rets i)=true->R=2:=fun hn=>hv2 fun h=>hn (h.2.2 i NB h1)
    have hnx:gC (bm s.rets (i-1)) (bm s.rets i)=true->∀k,0<k->k<i+1->k<s.rets.length->gC (bm s.rets (k-1)) (bm s.rets k)=true:=fun q1 k h0 hk hl=>by
     by_cases hki:k=i
     ·subst hki;exact q1
     ·exact hs0 k h0 NB hl
    generalize bm s.rets (i-1)=p at *;generalize bm s.rets i=r at *;unfold gC at hbad hnx;by_cases q1:r.due<p.due
    ·have k1:=au q1;have:=hbad (by simp;omega);subst this;refine bw e1 ?_;refine eV hgd hgp hw1 hlt hltI k1 ?_;refine agF ?_;exact ai
    have k1:=aA q1;by_cases q2:r.due=p.due
    ·have k2:(r.due==p.due)=true:=by simp[q2]
     by_cases q3:r.tag<=p.tag
     ·have k3:=au q3;have:=hbad (by simp;omega);subst this;refine bw e1 ?_;refine mP hgd hgp hw1 hlt hltI k1 k2 k3 ?_;refine agF ?_;exact ai
     ·have k3:=aA q3;have hnx:=hnx (by simp;omega);refine bw e1 ?_;refine mP hgd hgp hw1 hlt hltI k1 k2 k3 ?_;refine aB ?_;refine ah hw ?_;refine⟨i+1,⟨NB,hnx⟩,NB,?_⟩;exact ais [] [0]
    ·have k2:(r.due==p.due)=false:=by simp[q2]
     have hnx:=hnx (by simp;omega);refine bw e1 ?_;refine jj hgd hgp hw1 hlt hltI k1 k2 ?_;refine aB ?_;refine ah hw ?_;refine⟨i+1,⟨NB,hnx⟩,NB,?_⟩;exact ais [] [0]
   ·have e1:decide ((i:Int)<((s.rets.length:Nat):Int))=false:=aA NB;have:=hv1 ⟨hk0,hs1,fun k h0 hk=>hs0 k h0 NB hk⟩;subst this;refine aF e1 ?_;exact ai
theorem Ve(s:aI)(hr:Qw s.sto)(hnw:U64 s.sto.now)(hq:s.reqs.length<=2097152)(hy:s.rets.length<=2097152)(hd:∀r∈s.reqs,0<=r.due):PC Tryz.prog 28 [.agg (aV s.a)] (.int .i64 (valA s)):=by
 have hend:=Zz s hr.bn hq hy hd;refine pfn 14 DH ?_;have hc:dm=.seq dm.hd (.seq (dm.tl 1).hd (.seq (dm.tl 2).hd (dm.tl 3))):=rfl;rw[hc];clear hc;generalize dm.tl 3=cT at *;unfold dm;refine bd ?_;simp only[ab.tl,ab.hd];have c1:=Zy s.sto hr hnw;unfold valA;generalize oL s.sto=V at *;by_cases q1:V=0
 case neg=>
  have e1:(V != 0)=true:=by simp[q1]
  rw[al7 q1];refine gon ?_;refine am c1 ?_;refine aM e1 ?_;exact ai
 subst q1;rw[al5 NE];refine gon ?_;refine am c1 ?_;refine dQ ?_;obtain⟨R,hR0⟩:∃R,R=LP s:=⟨_,rfl⟩
 rw[<-hR0];unfold LP at hR0;by_cases q2:s.tag<1
 ·have e2:=au q2;rw[al7 (.inl q2)]at hR0;subst hR0;refine aM e2 ?_;exact ai
 have e2:=aA q2;by_cases q3:s.sto.cfg.lim.retry<s.rets.length
 ·have e3:decide (((s.rets.length:Nat):Int) > s.sto.cfg.lim.retry)=true:=au q3;rw[al7 (.inr (.inl q3))]at hR0;subst hR0;refine cH e2 e3 ?_;exact ai
 have e3:decide (((s.rets.length:Nat):Int) > s.sto.cfg.lim.retry)=false:=aA q3;by_cases q4:s.sent=false/\s.last≠fS
 ·have e4:=q4.1;have e5:decide (s.last=(⟨rt0,rt0,rt0⟩:Cmd))=false:=aA q4.2;rw[al7 (.inr (.inr q4))]at hR0;subst hR0;repeat(first|refine bY ?_|simp only[go_sem,e2,e3,e4,e5])
  refine agF ?_;exact ai
 have hn:¬ (s.tag<1\/s.sto.cfg.lim.retry<s.rets.length\/(s.sent=false/\s.last≠fS)):=fun h=>h.elim q2 fun h=>h.elim q3 q4
 rw[al5 hn]at hR0;have hv1:pN s->R=0:=fun h=>by rw[hR0,al7 h]
 have hv2:¬pN s->R=2:=fun h=>by rw[hR0,al5 h]
 clear hR0;have hend:=hend R hv1 hv2;by_cases q5:s.sent=true
 ·refine wg e2 e3 q5 ?_;refine eg ?_ hend;exact ais [] [0]
 ·have e4:s.sent=false:=by simpa using q5
  have e5:decide (s.last=(⟨rt0,rt0,rt0⟩:Cmd))=true:=au (alC fun h=>q4 ⟨e4,h⟩);repeat(first|refine bY ?_|simp only[go_sem,e2,e3,e4,e5])
  refine agE ?_;refine eg ?_ hend;exact ais [] [0]
end Go.Proofs.YtblipkgpoaonaaaGreat
