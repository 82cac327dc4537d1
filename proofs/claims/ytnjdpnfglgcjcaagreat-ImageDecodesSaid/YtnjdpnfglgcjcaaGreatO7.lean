/-
 My texts Ya, Yb, joined.
-/
import Derived.Test.YtnjdpnfglgcjcaaGreatO6
import Derived.Test.YtnjdpnfglgcjcaaGreatP5
set_option linter.unusedVariables false
set_option linter.unusedSimpArgs false
set_option maxRecDepth 8000
set_option maxHeartbeats 4000000
namespace Go.Proofs.YtnjdpnfglgcjcaaGreat
open Go Go.FH Go.RowKit
structure fH(s:aI)(n T:Int):Prop where
 t0:1<=s.tag
 t1:s.tag<=T
 q1:s.reqs.Pairwise fun a b=>a.tag<b.tag
 q2:∀r∈s.reqs,1<=r.tag/\r.tag<s.tag/\r.due=0/\0<=r.tries/\r.tries<=n
 y1:s.rets.Pairwise fun a b=>gC a b=true
 y2:∀r∈s.rets,1<=r.tag/\r.tag<s.tag/\1<=r.due/\r.due<18446744073709551616/\1<=r.tries/\r.tries<=n
 y3:∀r∈s.reqs,∀y∈s.rets,r.tag≠y.tag
 y4:s.rets.Pairwise fun a b=>a.tag≠b.tag
 yl:(s.rets.length:Int)<=s.sto.cfg.lim.retry
 sn:s.sent=false->s.last=fS
 bo:0<=s.sto.cfg.boost
structure kV(s:aI):Prop where
 q:∀r∈s.reqs,0<=aj s.sto.nodes r.block
 y:∀r∈s.rets,0<=aj s.sto.nodes r.block
theorem fH.sub{s t:aI}{n T:Int}(h:fH s n T)(e:t.tag=s.tag)(a:t.reqs.Sublist s.reqs)(b:t.rets.Sublist s.rets)(c:t.sto.cfg=s.sto.cfg)(d:t.sent=s.sent/\t.last=s.last):fH t n T:=by
 have:=h.yl;refine⟨by rw[e];exact h.t0,by rw[e];exact h.t1,h.q1.sublist a,fun r f=>?_,h.y1.sublist b,fun r f=>?_,fun r f y g=>h.y3 r (a.subset f) y (b.subset g),h.y4.sublist b,by grind,by rw[d.1,d.2];exact h.sn,by rw[c];exact h.bo⟩
 ·rw[e];exact h.q2 r (a.subset f)
 ·rw[e];exact h.y2 r (b.subset f)
theorem fH.le{s:aI}{n m T U:Int}(h:fH s n T)(b:n<=m)(c:T<=U):fH s m U:=
 ⟨h.t0,by have:=h.t1;omega,h.q1,fun r a=>by have:=h.q2 r a;omega,h.y1,fun r a=>by have:=h.y2 r a;omega,h.y3,h.y4,h.yl,h.sn,h.bo⟩
theorem sk{l:List Req}{k:Nat}(h:k<l.length):l.take (k+1)=l.take k++[bm l k]:=by
 unfold bm;rw[List.take_succ_eq_append_getElem h,E3,Fh h];rfl
theorem rX(t:List Nod)(l:List Req):(lK t l).Sublist l/\∀r∈lK t l,0<=aj t r.block:=by
 have c:=er (f:=gQ t l) (a:=[]) (fun k o=>o.Sublist (l.take k)/\∀r∈o,0<=aj t r.block) ⟨alL _,fun r h=>by grind⟩ l.length (fun k o e g=>by
  rw[sk e];unfold gQ;split
  ·grind
  grind) _ (ait _)
 rw[ajp]at c;exact c
theorem fH.drop{s:aI}{n T:Int}(h:fH s n T):fH (nQ s) n T/\kV (nQ s):=
 ⟨h.sub rfl (rX _ _).1 (rX _ _).1 rfl ⟨rfl,rfl⟩,(rX _ _).2,(rX _ _).2⟩
theorem fH.open1{s:aI}{n T:Int}(h:fH s n T)(i:T<1099511627776)(r:Rt){k:Int}(j:0<=k)(l:k<=n):fH (Ai s r k) n (T+1)/\(Ai s r k).tag=s.tag+1:=by
 have a:=h.t0;have b:=h.t1;have g:IntKind.u64.wrap (s.tag+1)=s.tag+1:=aN (by omega) (by omega);refine⟨⟨?_,?_,?_,?_,h.y1,?_,?_,h.y4,h.yl,h.sn,h.bo⟩,g⟩
 ·show 1<=IntKind.u64.wrap (s.tag+1);omega
 ·show IntKind.u64.wrap (s.tag+1)<=_;omega
 ·show (s.reqs++[_]).Pairwise _
  rw[ajw];refine⟨h.q1,List.pairwise_singleton _ _,fun x c y e=>?_⟩;rw[aiE]at e;subst e;exact(h.q2 x c).2.1
 ·intro x c;show _/\x.tag<IntKind.u64.wrap (s.tag+1)/\_
  rcases aiH.1 c with c|c
  ·have:=h.q2 x c;omega
  grind
 ·intro x c;show _/\x.tag<IntKind.u64.wrap (s.tag+1)/\_
  have:=h.y2 x c;omega
 ·intro x c y e
  rcases aiH.1 c with c|c
  ·exact h.y3 x c y e
  ·have:=h.y2 y e;grind
theorem kV.open1{s:aI}(h:kV s){r:Rt}(b:Cz s.sto r=true)(k:Int):kV (Ai s r k):=by
 unfold Cz at b;simp only[aiB,aiA]at b;refine⟨fun x a=>?_,h.y⟩;rcases aiH.1 a with a|a
 ·exact h.q x a
 ·rw[aiE]at a;subst a;exact b.1
theorem fH.opens{s:aI}{n T:Int}(h:fH s n T)(d:kV s)(e:0<=n)(l:List Rt)(g:T+l.length<1099511627776):fH (tc s l) n (T+l.length)/\kV (tc s l):=by
 refine er (f:=iw l) (a:=s) (fun k t=>fH t n (T+k)/\kV t) ⟨h.le (aiJ _) (by omega),d⟩ l.length (fun k t i c=>?_) _ (ait _);unfold iw;split
 ·rename_i q;exact⟨(c.1.open1 (by omega) _ (aiJ _) e).1.le (aiJ _) (by omega),c.2.open1 q _⟩
 ·exact⟨c.1.le (aiJ _) (by omega),c.2⟩
theorem fH.due{s:aI}{n T:Int}(h:fH s n T)(hf:kV s)(hT:T+s.rets.length<1099511627776):fH (Oy s) n (T+s.rets.length)/\kV (Oy s):=by
 have hret:∀k,k<s.rets.length->bm s.rets k∈s.rets:=fun k hk=>pM hk
 have h0:fH (gi s []) n (T+(0:Nat)):=(h.sub (t:=gi s []) rfl (ajD _) (alL _) rfl ⟨rfl,rfl⟩).le (aiJ _) (by omega)
 have key:=er (f:=qT s.rets) (a:=gi s []) (fun k t=>fH t n (T+k)/\kV t/\t.sto=s.sto/\t.rets.Sublist (s.rets.take k)/\s.tag<=t.tag/\∀r∈t.reqs,r∈s.reqs\/s.tag<=r.tag)
  ⟨h0,⟨hf.q,fun r hr=>by cases hr⟩,rfl,alL _,aiJ _,fun r hr=>.inl hr⟩ s.rets.length (fun k t hk ⟨a,b,c,d,e,f⟩=>by
  have hx:=hret k hk;have d2:t.rets.Sublist (s.rets.take (k+1)):=by grind
  unfold qT;split
  ·have d1:(t.rets++[bm s.rets k]).Sublist (s.rets.take (k+1)):=by rw[sk hk];grind
   have d3:=d1.trans (List.take_sublist _ _);have h9:=d3.length_le;refine⟨⟨a.t0,by have:=a.t1;show t.tag<=_;omega,a.q1,a.q2,h.y1.sublist d3,fun r hr=>?_,fun r hr y hy=>?_,h.y4.sublist d3,?_,a.sn,a.bo⟩,⟨b.q,fun r hr=>?_⟩,c,d1,e,f⟩
   ·have:=h.y2 r (d3.subset hr);show _/\r.tag<t.tag/\_
    omega
   ·have h1:=h.y2 y (d3.subset hy);rcases f r hr with h2|h2
    ·exact h.y3 r h2 y (d3.subset hy)
    omega
   ·have:=h.yl;show ((t.rets++[_]).length:Int)<=t.sto.cfg.lim.retry
    rw[c];omega
   ·show 0<=aj t.sto.nodes r.block
    rw[c];exact hf.y r (d3.subset hr)
  ·split
   ·rename_i q;have hy:=h.y2 _ hx;obtain⟨o1,o2⟩:=a.open1 (by omega) (bm s.rets k).block (k:=(bm s.rets k).tries) (by omega) (by omega);refine⟨o1.le (aiJ _) (by omega),b.open1 q _,c,d2,by rw[o2];omega,fun r hr=>?_⟩;rcases aiH.1 hr with hr|hr
    ·exact f r hr
    ·rw[aiE]at hr;subst hr;exact .inr e
   ·exact⟨a.le (aiJ _) (by omega),b,c,d2,e,f⟩) _ (ait _)
 exact⟨key.1,key.2.1⟩
theorem Mw{b:Int}(g:b<18446744073709551616):∀ (f:Nat) (d:Int),1<=d->d<=b->1<=qS b f d/\qS b f d<=b
 |0,d,c,e=>⟨c,e⟩
 | f + 1, d, c, e => by
   unfold qS;have h:IntKind.u64.wrap (b-d)=b-d:=aN (by omega) (by omega);split
   ·omega
   ·rw[aN (by omega) (by omega)];exact Mw g f _ (by omega) (by omega)
theorem X8{t b:Int}(d:1<=b)(c:b<18446744073709551616):1<=vx t b/\vx t b<=b:=by
 unfold vx;rw[Fw (by omega)];exact Mw c _ _ (by omega) d
theorem MA{a b:Req}:gC a b=true↔a.due<b.due\/(a.due=b.due/\a.tag<b.tag):=by unfold gC;simp
theorem aeB(x:Req):∀ (a z:List Req),∃p q,a=p++q/\nS (a++x::z) a.length=p++x::(q++z)/\(∀y∈q,gC x y=true)/\(∀y,p.getLast?=some y->gC x y=false):=by
 intro a;induction hn:a.length generalizing a with
 | zero =>
   obtain rfl:=ai3 hn;exact fun z=>⟨[],[],rfl,rfl,fun y hy=>(by grind),fun y hy=>(by grind)⟩
 | succ n ih =>
   rcases List.eq_nil_or_concat a with rfl|⟨a,y,rfl⟩
   ·grind
   intro z;rw[List.concat_eq_append]at hn ⊢;rw[E4,ajr]at hn;obtain rfl:a.length=n:=by omega
   have e1:bm (a++[y]++x::z) (a.length+1)=x:=by unfold bm;simp
   have e2:bm (a++[y]++x::z) a.length=y:=by unfold bm;simp
   unfold nS;rw[e1,e2];by_cases h:gC x y=true
   ·rw[Fy h];have e3:((a++[y]++x::z).set (a.length+1) y).set a.length x=a++x::(y::z):=by simp
    rw[e3];obtain⟨p,q,h1,h2,h3,h4⟩:=ih a rfl (y::z);refine⟨p,q++[y],by grind,by grind,fun w hw=>?_,h4⟩;rcases aiH.1 hw with hw|hw
    ·grind
    grind
   ·rw[Fw h]
    exact⟨a++[y],[],by simp,by simp,fun w hw=>(by grind),fun w hw=>by
     grind⟩
theorem SN{l:List Req}(g:l.Pairwise fun a b=>gC a b=true){x:Req}(t:∀y∈l,x.tag≠y.tag):(nS (l++[x]) l.length).Pairwise (fun a b=>gC a b=true)/\(nS (l++[x]) l.length).Perm (x::l):=by
 obtain⟨p,q,j,m,k,v⟩:=aeB x l [];rw[m,aiF];subst j;refine⟨?_,List.perm_middle⟩;rw[ajw]at g ⊢;obtain⟨f,o,A⟩:=g;refine⟨f,aj8.2 ⟨k,o⟩,fun y e z h=>?_⟩;rcases ajo.1 h with rfl|h
 ·-- y stands before z=x
  obtain⟨w,r⟩:∃w,p.getLast?=some w:=by
   grind
  obtain⟨B,rfl⟩:=List.getLast?_eq_some_iff.1 r
  have s:gC w z=true:=by
   have:=t w (by simp);have u:¬ (gC z w=true):=by grind
   rw[MA]at u ⊢;omega
  rcases aiH.1 e with e|e
  ·have n:=(ajw.1 f).2.2 y e w (by simp);rw[MA]at s n ⊢;omega
  grind
 grind
theorem fH.later{s:aI}{n T:Int}(h:fH s n T)(hf:kV s)(hn:n<1099511627776)(hw:0<=s.sto.now/\s.sto.now<=1099511627776)(hb:1<=s.sto.cfg.lim.backoff/\s.sto.cfg.lim.backoff<=1048576){r:Req}(h1:1<=r.tag)(h2:r.tag<s.tag)(h3:0<=r.tries)(h4:r.tries<=n)(h5:∀x∈s.reqs,x.tag≠r.tag)(h6:∀x∈s.rets,r.tag≠x.tag):
 fH (lO s r) (n+1) T/\kV (lO s r):=by
 unfold lO;split
 ·exact⟨h.le (by omega) (aiJ _),hf⟩
 rename_i ho;split
 ·exact⟨(h.sub (t:=⟨s.sto,s.reqs,s.rets,s.tag,s.sent,s.last,true,s.halt⟩) rfl (ajD _) (ajD _) rfl ⟨rfl,rfl⟩).le (by omega) (aiJ _),hf.q,hf.y⟩
 have hd:=X8 (t:=IntKind.i64.wrap (r.tries+1)) hb.1 (by omega);have e1:(jC s r).tag=r.tag:=rfl;have e3:(jC s r).tries=r.tries+1:=aL (by omega) (by omega);have e4:(jC s r).due=s.sto.now+vx (IntKind.i64.wrap (r.tries+1)) s.sto.cfg.lim.backoff:=aN (by omega) (by omega);obtain⟨k1,k2⟩:=SN h.y1 (x:=jC s r) (by grind);have hm:∀y,y∈nS (s.rets++[jC s r]) s.rets.length->y=jC s r\/y∈s.rets:=fun y hy=>ajo.1 (k2.mem_iff.1 hy)
 have hlen:=k2.length_eq;rw[acv]at hlen;have h':=h.le (show n<=n+1 by omega) (aiJ T);refine⟨⟨h.t0,h.t1,h.q1,h'.q2,k1,fun y hy=>?_,fun x hx y hy=>?_,?_,by show ((nS (s.rets++[jC s r]) s.rets.length).length:Int)<=s.sto.cfg.lim.retry;omega,h.sn,h.bo⟩,hf.q,fun y hy=>?_⟩
 ·rcases hm y hy with rfl|hy
  ·show _/\(jC s r).tag<s.tag/\_
   omega
  ·exact h'.y2 y hy
 ·rcases hm y hy with rfl|hy
  ·exact h5 x hx
  ·exact h.y3 x hx y hy
 ·refine(k2.pairwise_iff (fun {a b} h=>alU h)).2 (aj8.2 ⟨fun y hy=>?_,h.y4⟩);grind
 ·rcases hm y hy with rfl|hy
  ·show 0<=aj s.sto.nodes r.block
   unfold Cz at ho;grind
  ·exact hf.y y hy
theorem NK(l:List Req)(k:Nat):(xt l k).Sublist l:=by
 unfold xt;conv=>rhs;rw[<-ai0 k l]
 grind
theorem fH.mat{s:aI}{n T:Int}(h:fH s n T)(f:kV s){v:Vdt}(m:(bQ s v).2.2=0):
 fH (bQ s v).2.1 n T/\kV (bQ s v).2.1/\(bQ s v).1∈s.reqs/\(∀x∈(bQ s v).2.1.reqs,x.tag≠(bQ s v).1.tag)/\(bQ s v).2.1.rets=s.rets/\(bQ s v).2.1.tag=s.tag:=by
 unfold bQ at *;split at m
 ·rename_i k j
  have b:=(fZ j).1;have o:=pM b;refine⟨h.sub rfl (NK _ _) (ajD _) rfl ⟨rfl,rfl⟩,⟨fun r l=>f.q r ((NK _ _).subset l),f.y⟩,o,fun x a=>?_,rfl,rfl⟩;have d:=h.q1;rw[<-ai0 (k+1) s.reqs,sk b,ajw,ajw]at d;rcases aiH.1 a with a|a
  ·have:=d.1.2.2 x a (bm s.reqs k) (by simp);dsimp only;omega
  ·have:=d.2.2 (bm s.reqs k) (by simp) x a;dsimp only;omega
 grind
theorem adu{s:ap}{a:bp}(h:(oa s a).2=0):(oa s a).1.cfg=s.cfg/\(oa s a).1.nodes=s.nodes:=by
 unfold oa at *;by_cases d:(fC s a).2≠0
 ·grind
 rw[Fw d]at h ⊢;split
 ·exact⟨rfl,rfl⟩
 split
 ·grind
 ·exact⟨rfl,rfl⟩
theorem ZJ{s:ap}{x:fe}(h:(fK s x).2=0):(fK s x).1.cfg=s.cfg/\(fK s x).1.nodes=s.nodes:=by
 unfold fK at *;split at h
 ·omega
 rename_i q;rw[Fw q];split at h
 ·omega
 rename_i c;rw[Fw c];exact⟨rfl,rfl⟩
theorem aet{s:ap}{t:aW}(h:(lQ s t).2=0):(lQ s t).1.cfg=s.cfg/\(lQ s t).1.nodes=s.nodes:=by
 unfold lQ at *;split at h
 ·omega
 rename_i q;rw[Fw q];split at h
 ·omega
 rename_i e;rw[Fw e];split at h
 ·omega
 rename_i d;rw[Fw d];exact⟨rfl,rfl⟩
theorem fH.same{s:aI}{n T:Int}(h:fH s n T){t:ap}(hc:t.cfg=s.sto.cfg):fH (fw s t) n T:=h.sub rfl (ajD _) (ajD _) hc ⟨rfl,rfl⟩
theorem kV.same{s:aI}(h:kV s){t:ap}(b:∀r,aj t.nodes r=aj s.sto.nodes r):kV (fw s t):=⟨fun r a=>by show 0<=aj t.nodes _;rw[b];exact h.q r a,fun r a=>by show 0<=aj t.nodes _;rw[b];exact h.y r a⟩
theorem Cu{c:cU}(h:ib c=0):1<=c.lim.backoff/\c.lim.backoff<=1048576:=by
 unfold ib at h;constructor
 ·omega
 omega
theorem TN(s:ap):(boostV s).cfg=s.cfg/\(boostV s).nodes=s.nodes:=by unfold boostV;split<;>exact⟨rfl,rfl⟩
theorem fH.verd{s:aI}{n T:Int}(h:fH s n T)(e:kV s)(C:n<1000000)(p:StV s.sto)(w:0<=s.sto.now){v:Vdt}(o:(jW s v).2=0\/(jW s v).2=21):fH (jW s v).1 (n+1) T/\kV (jW s v).1:=by
 have u:=h.le (show n<=n+1 by omega) (aiJ T);unfold jW at *;by_cases A:(bQ s v).2.2≠0
 ·grind
 rw[Fw A]at o ⊢;have j:=xH (s:=s) (v:=v) (by omega);obtain⟨l,m,g,z,B,D⟩:=h.mat e (v:=v) (by omega);by_cases i:v.kind=3\/v.kind=4
 ·rw[Fy i];have d:=h.q2 _ g;exact l.later m (by omega) (by rw[j];exact⟨w,p.w.nm⟩) (by rw[j];exact Cu p.w.ne) d.1 (by omega) d.2.2.2.1 d.2.2.2.2 z (by rw[B];exact fun x y=>h.y3 _ g x y)
 rw[Fw i]at o ⊢;by_cases c:(Go.Proofs.YtnjdpnfglgcjcaaGreat.judgeV (bQ s v).2.1.sto (bQ s v).1.block v).2≠0
 ·rw[Fy c];exact⟨u.sub rfl (ajD _) (ajD _) rfl ⟨rfl,rfl⟩,e.q,e.y⟩
 rw[Fw c];unfold judgeV at *;have q:=Cl (show (gP (bQ s v).2.1.sto.nodes _ v _).2=0 by simpa using c);have t:=TN (dD (bQ s v).2.1.sto (gP (bQ s v).2.1.sto.nodes (aj (bQ s v).2.1.sto.nodes (bQ s v).1.block) v [aj (bQ s v).2.1.sto.nodes (bQ s v).2.1.sto.j.rt,aj (bQ s v).2.1.sto.nodes (bQ s v).2.1.sto.f.rt]).1);exact⟨(l.le (by omega) (aiJ T)).same t.1,m.same fun r=>by rw[t.2];exact DS q.1 (fun k=>(q.2 k).2) r⟩
theorem fH.perf{s:aI}{i:Nat}{n T:Int}(h:fH s n T)(hf:kV s)(hn:0<=n)(hn2:n<1000000)(hT:T<1000000)(hI:fQ s i)(hV:StV s.sto){x:VOp}(hx:OpR x)(h2:(eW s x).2=0\/(eW s x).2=21):fH (eW s x).1 (n+1) (T+10)/\kV (eW s x).1:=by
 have h':=h.le (show n<=n+1 by omega) (show T<=T+10 by omega);unfold eW at *;by_cases q1:x.kind=1
 ·rw[Fy q1]at h2 ⊢
  by_cases q:(fk s.sto).2=0
  ·rw[Fy q];have d:=(h.same (t:=(fk s.sto).1) (Jn q).c).drop;have hl:(nQ (fw s (fk s.sto).1)).rets.length<=3:=aiK (rX _ _).1.length_le hI.yl;have e:=d.1.due d.2 (by omega);exact⟨e.1.le (by omega) (by omega),e.2⟩
  ·rw[Fw q]at h2;exact absurd h2 (by intro h5;rcases h5 with h5|h5;exact q h5;exact C0 _ h5)
 rw[Fw q1]at h2 ⊢;by_cases q2:x.kind=2
 ·rw[Fy q2]at h2 ⊢
  by_cases q:(di s.sto x.blk).2.2=0
  ·rw[Fy q];have d:=(h.same (t:=(di s.sto x.blk).1) (EH q).c).drop;have hl:=(hI.sto.block (hx.blk.up (aix i)) q).2;have e:=d.1.opens d.2 hn (di s.sto x.blk).2.1 (by omega);exact⟨e.1.le (by omega) (by omega),e.2⟩
  ·rw[Fw q]at h2;exact absurd h2 (by intro h5;rcases h5 with h5|h5;exact q h5;exact uL _ _ h5)
 rw[Fw q2]at h2 ⊢;by_cases q3:x.kind=3
 ·rw[Fy q3]at h2 ⊢;have e:=adu (h2.resolve_right (GV _ _));exact⟨h'.same e.1,hf.same fun r=>by grind⟩
 rw[Fw q3]at h2 ⊢;by_cases q4:x.kind=4
 ·rw[Fy q4]at h2 ⊢;have e:=ZJ (h2.resolve_right (xo _ _));exact⟨h'.same e.1,hf.same fun r=>by grind⟩
 rw[Fw q4]at h2 ⊢;by_cases q5:x.kind=5
 ·rw[Fy q5]at h2 ⊢;have e:=aet (h2.resolve_right (IL _ _));exact⟨h'.same e.1,hf.same fun r=>by grind⟩
 rw[Fw q5]at h2 ⊢;by_cases q6:x.kind=6
 ·rw[Fy q6]at h2 ⊢;have e:=h.verd hf hn2 hV hI.sto.nw.1.lo h2;exact⟨e.1.le (aiJ _) (by omega),e.2⟩
 grind
theorem fH.emit{s:aI}{n T:Int}(h:fH s n T)(a:kV s):fH (io s).1 n T/\kV (io s).1:=by
 unfold io;split
 ·grind
 ·exact⟨⟨h.t0,h.t1,h.q1,h.q2,h.y1,h.y2,h.y3,h.y4,h.yl,(fun h=>by grind),h.bo⟩,a.q,a.y⟩
theorem fH.step{s:aI}{i:Nat}{n T:Int}(h:fH s n T)(d:kV s)(c:0<=n)(a:n<1000000)(f:T<1000000)(g:fQ s i)(j:StV s.sto){x:VOp}(k:OpR x):fH (jq s x).1 (n+1) (T+10)/\kV (jq s x).1:=by
 have p:=h.le (show n<=n+1 by omega) (show T<=T+10 by omega);unfold jq;split
 ·grind
 ·split
  ·grind
  ·split
   ·rename_i m;exact h.perf d c a f g j k (.inr m)
   ·split
    ·grind
    ·have e:=h.perf d c a f g j k (.inl (by omega));exact e.1.emit e.2
theorem Is{l:List Req}(h:l.Pairwise fun a b=>a.tag≠b.tag){k:Nat}(e:k<l.length):(bm l k).tag∉(l.take k).map (·.tag):=by
 have f:=h;rw[<-ai0 (k+1) l,sk e,ajw,ajw]at f;grind
theorem WI{l:List Req}{R:Req->Req->Prop}(h:l.Pairwise R){k:Nat}(b:k<l.length):k=0\/R (bm l (k-1)) (bm l k):=by
 rcases ajQ k with c|c
 ·omega
 ·have d:=ajW.1 h (k-1) k (by omega) b (by omega);unfold bm;grind
theorem agH{s:aI}{n T:Int}(h:fH s n T)(i:kV s)(r:n<=1099511627776):LP s=0:=by
 unfold LP
 have m:pN s:=by
  refine⟨fun k d=>?_,fun k d=>?_⟩
  ·have e:=pM d;have c:=h.q2 _ e;refine⟨WI h.q1 d,c.2.2.1,⟨c.1,c.2.1,c.2.2.2.1,by omega,i.q _ e⟩,Is (h.q1.imp fun h=>by omega) d⟩
  ·have e:=pM d
   have c:=h.y2 _ e;refine⟨WI h.y1 d,c.2.2.1,⟨c.1,c.2.1,c.2.2.2.2.1,by omega,i.y _ e⟩,fun f=>?_⟩;rcases aiH.1 f with f|f
   ·obtain⟨y,o,l⟩:=ai1.1 f;exact h.y3 y o _ e l
   ·exact Is h.y4 d f
 have a:=h.t0;have b:=h.yl;rw[Fw (by rintro (q|q|⟨p,j⟩);omega;omega;exact j (h.sn p)),Fy m]
theorem WdG.u{w:Wd}(h:WdG w):WdU w:=h
theorem agD{s:aI}{i:Nat}{n T:Int}(c:fQ s i)(m:StV s.sto)(o:qP s.sto)(h:fH s n T):GQ s:=by
 have I:=c.sto;have d:=Cu m.w.ne;have z:=c.rq;have A:=I.ii;have B:=I.spe;refine⟨ahn I o,⟨by omega,by omega⟩,⟨by omega,by omega⟩,?_,I.cfg.tt,I.lv,I.uj,fun a l=>⟨(I.av a l).slot,(I.av a l).ep⟩,fun b d=>⟨(I.uo b d).u,(I.uo b d).df,(I.uo b d).pf⟩,fun n g=>⟨(I.un n g).u,(I.un n g).df,(I.un n g).pf⟩,I.nw.1,fun t k=>⟨(I.tb t k).ep,by have:=(I.tb t k).len;omega⟩,by omega,by have:=c.yl;omega,fun r e=>?_,fun r e=>?_,c.tg⟩
 ·have y:s.sto.cfg.boost<=100:=by
   have:=m.w.ne;unfold ib at this;by_cases q:100<s.sto.cfg.boost
   ·omega
   omega
  exact⟨h.bo,by omega⟩
 ·have:=h.q2 r e;exact⟨c.ut r e,⟨by omega,by omega⟩⟩
 ·have C:=h.y2 r e;have:=c.tg.hi;exact⟨⟨by omega,by omega⟩,⟨by omega,by omega⟩⟩
structure j6(s:aI)(i:Nat):Prop where
 a:fQ s i
 v:StV s.sto
 b:qP s.sto
 n:s.sto.now<=(i:Int)
 w:fH s i (1+10*i)
 f:kV s
theorem j6.step{s:aI}{i:Nat}(h:j6 s i)(c:i<30){x:VOp}(a:OpG x):j6 (jq s x).1 (i+1):=by
 have d:=h.w.step h.f (by omega) (by omega) (by omega) h.a h.v a.r;refine⟨h.a.step c a.r,h.v.step h.a.sto a.r,h.b.step fun y b=>by have:=a.u.tab.all y b;exact⟨this.lo,this.hi⟩,by have:=abK h.a.sto.nw.1 x;have:=h.n;omega,?_,d.2⟩;grind
theorem HU{c:cU}(b:Qp c):j6 (iW c).1 0:=by
 have j:∀x∈c.bals,0<=x/\x<18446744073709551616:=fun x h=>by have:=b.bu x h;omega
 have e:=Mh b;unfold iW at e ⊢;rw[Fy b.new]at e ⊢
 have d:(0:Int)<=c.lim.retry:=by
  have:=b.new;unfold ib at this;by_cases q:wit c.lim.retry 0 256=false
  ·grind
  ·unfold wit at q;simp at q;omega
 have g:fH ⟨kO c,[],[],1,false,fS,false,false⟩ (0:Nat) (1+10*(0:Nat)):=⟨aiJ _,aiJ _,List.Pairwise.nil,fun r d=>(by grind),List.Pairwise.nil,fun r d=>(by grind),fun r d=>(by simp),List.Pairwise.nil,d,fun _=>rfl,b.bo⟩;have f:kV ⟨kO c,[],[],1,false,fS,false,false⟩:=⟨fun r d=>(by grind),fun r d=>(by grind)⟩;refine⟨e,?_,?_,?_,(g.emit f).1,(g.emit f).2⟩
 ·exact StV.new b.new
 ·exact⟨fun t i=>by rw[aiE.1 i];omega,j⟩
 ·exact aiJ _
theorem j6.up{s:aI}{i k:Nat}(h:j6 s i)(b:i<=k)(a:k<=30):j6 s k:=⟨h.a.up b a,h.v,h.b,by have:=h.n;omega,h.w.le (by omega) (by omega),h.f⟩
theorem j6.valA{s:aI}{i:Nat}(h:j6 s i):valA s=0:=by
 have b:oL s.sto=0:=by
  have:=h.a.sto.cfg.ln;exact h.v.val (by omega) h.a.sto.uf h.a.sto.nw.1
 unfold Go.Proofs.YtnjdpnfglgcjcaaGreat.valA;rw[Fw (by omega)];exact agH h.w h.f (by have:=h.a.sto.ii;omega)
theorem j6.ty{s:aI}{i:Nat}(h:j6 s i):GQ s:=agD h.a h.v h.b h.w
theorem j6.len{s:aI}{i:Nat}(h:j6 s i):(ej s).length<=200000:=by
 have I:=h.a.sto;have c:=I.ii;have d:=h.a.rq;have f:=I.qq;have g:=I.ll;have b:=I.cfg.b1;have e:=acW (h.ty.toW h.valA) b (by omega:s.sto.latest.length<=6) (by omega:s.sto.eqv.length<=300) I.aa I.oo I.nn I.tt (by omega:s.reqs.length<=300) h.a.yl (by simp) (by simp) (by simp) (by simp) (by simp) (by simp) (by simp) (by simp) (by simp);omega
theorem j6.enc{s:aI}{i:Nat}(h:j6 s i):pn s=0/\Dt s=ej s:=by
 have a:pn s=0:=by
  have:=h.len;unfold pn;rw[Fw (by rw[h.valA];simp),Fw (by omega)]
 exact⟨a,by unfold Dt;grind⟩
theorem j6.dec{s:aI}{i:Nat}(h:j6 s i){d:Rdr}(hd:adn d):FJ d (ej s)=(s,0):=X7 hd (ae8 h.ty h.enc.1) h.enc.1
end Go.Proofs.YtnjdpnfglgcjcaaGreat
