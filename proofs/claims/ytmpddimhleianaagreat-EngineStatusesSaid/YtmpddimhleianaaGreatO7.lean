/- Joined. -/
import Derived.Test.YtmpddimhleianaaGreatO5
import Derived.Test.YtmpddimhleianaaGreatU1
import Derived.Test.YtmpddimhleianaaGreatP5
import Derived.Test.YtmpddimhleianaaGreatT6
set_option linter.unusedVariables false
set_option linter.unusedSimpArgs false
set_option maxRecDepth 8000
set_option maxHeartbeats 4000000
namespace Go.Proofs.YtmpddimhleianaaGreat
open Go Go.FH Go.RowKit
structure fH(s:aI)(n T:Int):Prop where
 t0:1<=s.tag
 t1:s.tag<=T
 q1:s.reqs.Pairwise fun a b=>a.tag<b.tag
 q2:∀r∈s.reqs,1<=r.tag/\r.tag<s.tag/\r.due=0/\0<=r.tries/\r.tries<=n
 y1:s.rets.Pairwise fun a b=>gC a b=true
 y2:∀r∈s.rets,1<=r.tag/\r.tag<s.tag/\1<=r.due/\r.due<18446744073709551616/\1<=r.tries/\r.tries<=n
 y3:∀r∈s.reqs,∀y∈s.rets,r.tag≠y.tag
 y4:s.rets.Pairwise fun a b=>a.tag≠b.tag
 yl:(s.rets.length:Int)<=s.sto.cfg.lim.retry
 sn:s.sent=false->s.last=fS
 bo:0<=s.sto.cfg.boost
structure kV(s:aI):Prop where
 q:∀r∈s.reqs,0<=aj s.sto.nodes r.block
 y:∀r∈s.rets,0<=aj s.sto.nodes r.block
theorem fH.sub{s t:aI}{n T:Int}(h:fH s n T)(e:t.tag=s.tag)(a:t.reqs.Sublist s.reqs)(b:t.rets.Sublist s.rets)(c:t.sto.cfg=s.sto.cfg)(d:t.sent=s.sent/\t.last=s.last):fH t n T:=by
 have:=h.yl;refine⟨by rw[e];exact h.t0,by rw[e];exact h.t1,h.q1.sublist a,fun r f=>?_,h.y1.sublist b,fun r f=>?_,fun r f y g=>h.y3 r (a.subset f) y (b.subset g),h.y4.sublist b,WO,by rw[d.1,d.2];exact h.sn,by rw[c];exact h.bo⟩
 ·rw[e];exact h.q2 r (a.subset f)
 ·rw[e];exact h.y2 r (b.subset f)
theorem fH.le{s:aI}{n m T U:Int}(h:fH s n T)(b:n<=m)(c:T<=U):fH s m U:=
 ⟨h.t0,by have:=h.t1;omega,h.q1,fun r a=>by have:=h.q2 r a;omega,h.y1,fun r a=>by have:=h.y2 r a;omega,h.y3,h.y4,h.yl,h.sn,h.bo⟩
theorem sk{l:List Req}{k:Nat}(h:k<l.length):l.take (k+1)=l.take k++[bm l k]:=by
 unfold bm;rw[List.take_succ_eq_append_getElem h,alt,al6 h];rfl
theorem nG(t:List Nod)(l:List Req):(mm t l).Sublist l/\∀r∈mm t l,0<=aj t r.block:=by
 have c:=Yy (f:=kK t l) (a:=[]) (fun k o=>o.Sublist (l.take k)/\∀r∈o,0<=aj t r.block) ⟨alL _,fun r h=>WO⟩ l.length (fun k o e g=>by
  rw[sk e];unfold kK;split
  ·grind
  grind) _ (amb _)
 rw[ajp]at c;exact c
theorem fH.drop{s:aI}{n T:Int}(h:fH s n T):fH (mE s) n T/\kV (mE s):=
 ⟨h.sub rfl (nG _ _).1 (nG _ _).1 rfl ⟨rfl,rfl⟩,(nG _ _).2,(nG _ _).2⟩
theorem fH.open1{s:aI}{n T:Int}(h:fH s n T)(i:T<1099511627776)(r:Rt){k:Int}(j:0<=k)(l:k<=n):fH (nH s r k) n (T+1)/\(nH s r k).tag=s.tag+1:=by
 have a:=h.t0;have b:=h.t1;have g:IntKind.u64.wrap (s.tag+1)=s.tag+1:=aN WL WL;refine⟨⟨?_,?_,?_,?_,h.y1,?_,?_,h.y4,h.yl,h.sn,h.bo⟩,g⟩
 ·show 1<=IntKind.u64.wrap (s.tag+1);omega
 ·show IntKind.u64.wrap (s.tag+1)<=_;omega
 ·show (s.reqs++[_]).Pairwise _
  rw[ajw];refine⟨h.q1,List.pairwise_singleton _ _,fun x c y e=>?_⟩;rw[amn]at e;subst e;exact(h.q2 x c).2.1
 ·intro x c;show _/\x.tag<IntKind.u64.wrap (s.tag+1)/\_
  rcases amm.1 c with c|c
  ·have:=h.q2 x c;omega
  grind
 ·intro x c;show _/\x.tag<IntKind.u64.wrap (s.tag+1)/\_
  have:=h.y2 x c;omega
 ·intro x c y e
  rcases amm.1 c with c|c
  ·exact h.y3 x c y e
  ·have:=h.y2 y e;grind
theorem kV.open1{s:aI}(h:kV s){r:Rt}(b:Cz s.sto r=true)(k:Int):kV (nH s r k):=by
 unfold Cz at b;simp only[amk,amg]at b;refine⟨fun x a=>?_,h.y⟩;rcases amm.1 a with a|a
 ·exact h.q x a
 ·rw[amn]at a;subst a;exact b.1
theorem fH.opens{s:aI}{n T:Int}(h:fH s n T)(d:kV s)(e:0<=n)(l:List Rt)(g:T+l.length<1099511627776):fH (nK s l) n (T+l.length)/\kV (nK s l):=by
 refine Yy (f:=mq l) (a:=s) (fun k t=>fH t n (T+k)/\kV t) ⟨h.le (amr _) WL,d⟩ l.length (fun k t i c=>?_) _ (amb _);unfold mq;split
 ·rename_i q;exact⟨(c.1.open1 WL _ (amr _) e).1.le (amr _) WL,c.2.open1 q _⟩
 ·exact⟨c.1.le (amr _) WL,c.2⟩
theorem fH.due{s:aI}{n T:Int}(h:fH s n T)(hf:kV s)(hT:T+s.rets.length<1099511627776):fH (zQ s) n (T+s.rets.length)/\kV (zQ s):=by
 have hret:∀k,k<s.rets.length->bm s.rets k∈s.rets:=fun k hk=>pM hk
 have h0:fH (gi s []) n (T+(0:Nat)):=(h.sub (t:=gi s []) rfl (ajD _) (alL _) rfl ⟨rfl,rfl⟩).le (amr _) WL
 have key:=Yy (f:=oZ s.rets) (a:=gi s []) (fun k t=>fH t n (T+k)/\kV t/\t.sto=s.sto/\t.rets.Sublist (s.rets.take k)/\s.tag<=t.tag/\∀r∈t.reqs,r∈s.reqs\/s.tag<=r.tag)
  ⟨h0,⟨hf.q,fun r hr=>by cases hr⟩,rfl,alL _,amr _,fun r hr=>.inl hr⟩ s.rets.length (fun k t hk ⟨a,b,c,d,e,f⟩=>by
  have hx:=hret k hk;have d2:t.rets.Sublist (s.rets.take (k+1)):=WO
  unfold oZ;split
  ·have d1:(t.rets++[bm s.rets k]).Sublist (s.rets.take (k+1)):=by rw[sk hk];grind
   have d3:=d1.trans (List.take_sublist _ _);have h9:=d3.length_le;refine⟨⟨a.t0,by have:=a.t1;show t.tag<=_;omega,a.q1,a.q2,h.y1.sublist d3,fun r hr=>?_,fun r hr y hy=>?_,h.y4.sublist d3,?_,a.sn,a.bo⟩,⟨b.q,fun r hr=>?_⟩,c,d1,e,f⟩
   ·have:=h.y2 r (d3.subset hr);show _/\r.tag<t.tag/\_
    omega
   ·have h1:=h.y2 y (d3.subset hy);rcases f r hr with h2|h2
    ·exact h.y3 r h2 y (d3.subset hy)
    omega
   ·have:=h.yl;show ((t.rets++[_]).length:Int)<=t.sto.cfg.lim.retry
    rw[c];omega
   ·show 0<=aj t.sto.nodes r.block
    rw[c];exact hf.y r (d3.subset hr)
  ·split
   ·rename_i q;have hy:=h.y2 _ hx;obtain⟨o1,o2⟩:=a.open1 WL (bm s.rets k).block (k:=(bm s.rets k).tries) WL WL;refine⟨o1.le (amr _) WL,b.open1 q _,c,d2,by rw[o2];omega,fun r hr=>?_⟩;rcases amm.1 hr with hr|hr
    ·exact f r hr
    ·rw[amn]at hr;subst hr;exact .inr e
   ·exact⟨a.le (amr _) WL,b,c,d2,e,f⟩) _ (amb _)
 exact⟨key.1,key.2.1⟩
theorem yQ{b:Int}(g:b<18446744073709551616):∀ (f:Nat) (d:Int),1<=d->d<=b->1<=qS b f d/\qS b f d<=b
 |0,d,c,e=>⟨c,e⟩
 | f + 1, d, c, e => by
   unfold qS;have h:IntKind.u64.wrap (b-d)=b-d:=aN WL WL;split
   ·omega
   ·rw[aN WL WL];exact yQ g f _ WL WL
theorem G0{t b:Int}(d:1<=b)(c:b<18446744073709551616):1<=vx t b/\vx t b<=b:=by
 unfold vx;rw[al5 WL];exact yQ c _ _ WL d
theorem yS{a b:Req}:gC a b=true↔a.due<b.due\/(a.due=b.due/\a.tag<b.tag):=by unfold gC;simp
theorem LY(x:Req):∀ (a z:List Req),∃p q,a=p++q/\nS (a++x::z) a.length=p++x::(q++z)/\(∀y∈q,gC x y=true)/\(∀y,p.getLast?=some y->gC x y=false):=by
 intro a;induction hn:a.length generalizing a with
 | zero =>
   obtain rfl:=amK hn;exact fun z=>⟨[],[],rfl,rfl,fun y hy=>WO,fun y hy=>WO⟩
 | succ n ih =>
   rcases List.eq_nil_or_concat a with rfl|⟨a,y,rfl⟩
   ·grind
   intro z;rw[List.concat_eq_append]at hn ⊢;rw[akC,ajr]at hn;obtain rfl:a.length=n:=WL
   have e1:bm (a++[y]++x::z) (a.length+1)=x:=by unfold bm;simp
   have e2:bm (a++[y]++x::z) a.length=y:=by unfold bm;simp
   unfold nS;rw[e1,e2];by_cases h:gC x y=true
   ·rw[al7 h];have e3:((a++[y]++x::z).set (a.length+1) y).set a.length x=a++x::(y::z):=WM
    rw[e3];obtain⟨p,q,h1,h2,h3,h4⟩:=ih a rfl (y::z);refine⟨p,q++[y],WO,WO,fun w hw=>?_,h4⟩;rcases amm.1 hw with hw|hw
    ·grind
    grind
   ·rw[al5 h]
    exact⟨a++[y],[],WM,WM,fun w hw=>WO,fun w hw=>by
     grind⟩
theorem Db{l:List Req}(g:l.Pairwise fun a b=>gC a b=true){x:Req}(t:∀y∈l,x.tag≠y.tag):(nS (l++[x]) l.length).Pairwise (fun a b=>gC a b=true)/\(nS (l++[x]) l.length).Perm (x::l):=by
 obtain⟨p,q,j,m,k,v⟩:=LY x l [];rw[m,amo];subst j;refine⟨?_,List.perm_middle⟩;rw[ajw]at g ⊢;obtain⟨f,o,A⟩:=g;refine⟨f,aj8.2 ⟨k,o⟩,fun y e z h=>?_⟩;rcases ajo.1 h with rfl|h
 ·-- y stands before z=x
  obtain⟨w,r⟩:∃w,p.getLast?=some w:=by
   grind
  obtain⟨B,rfl⟩:=List.getLast?_eq_some_iff.1 r
  have s:gC w z=true:=by
   have:=t w WM;have u:¬ (gC z w=true):=WO
   rw[yS]at u ⊢;omega
  rcases amm.1 e with e|e
  ·have n:=(ajw.1 f).2.2 y e w WM;rw[yS]at s n ⊢;omega
  grind
 grind
theorem fH.later{s:aI}{n T:Int}(h:fH s n T)(hf:kV s)(hn:n<1099511627776)(hw:0<=s.sto.now/\s.sto.now<=1099511627776)(hb:1<=s.sto.cfg.lim.backoff/\s.sto.cfg.lim.backoff<=1048576){r:Req}(h1:1<=r.tag)(h2:r.tag<s.tag)(h3:0<=r.tries)(h4:r.tries<=n)(h5:∀x∈s.reqs,x.tag≠r.tag)(h6:∀x∈s.rets,r.tag≠x.tag):
 fH (lO s r) (n+1) T/\kV (lO s r):=by
 unfold lO;split
 ·exact⟨h.le WL (amr _),hf⟩
 rename_i ho;split
 ·exact⟨(h.sub (t:=⟨s.sto,s.reqs,s.rets,s.tag,s.sent,s.last,true,s.halt⟩) rfl (ajD _) (ajD _) rfl ⟨rfl,rfl⟩).le WL (amr _),hf.q,hf.y⟩
 have hd:=G0 (t:=IntKind.i64.wrap (r.tries+1)) hb.1 WL;have e1:(jC s r).tag=r.tag:=rfl;have e3:(jC s r).tries=r.tries+1:=aL WL WL;have e4:(jC s r).due=s.sto.now+vx (IntKind.i64.wrap (r.tries+1)) s.sto.cfg.lim.backoff:=aN WL WL;obtain⟨k1,k2⟩:=Db h.y1 (x:=jC s r) WO;have hm:∀y,y∈nS (s.rets++[jC s r]) s.rets.length->y=jC s r\/y∈s.rets:=fun y hy=>ajo.1 (k2.mem_iff.1 hy)
 have hlen:=k2.length_eq;rw[al8]at hlen;have h':=h.le (show n<=n+1 by omega) (amr T);refine⟨⟨h.t0,h.t1,h.q1,h'.q2,k1,fun y hy=>?_,fun x hx y hy=>?_,?_,by show ((nS (s.rets++[jC s r]) s.rets.length).length:Int)<=s.sto.cfg.lim.retry;omega,h.sn,h.bo⟩,hf.q,fun y hy=>?_⟩
 ·rcases hm y hy with rfl|hy
  ·show _/\(jC s r).tag<s.tag/\_
   omega
  ·exact h'.y2 y hy
 ·rcases hm y hy with rfl|hy
  ·exact h5 x hx
  ·exact h.y3 x hx y hy
 ·refine(k2.pairwise_iff (fun {a b} h=>alU h)).2 (aj8.2 ⟨fun y hy=>?_,h.y4⟩);grind
 ·rcases hm y hy with rfl|hy
  ·show 0<=aj s.sto.nodes r.block
   unfold Cz at ho;grind
  ·exact hf.y y hy
theorem zC(l:List Req)(k:Nat):(qh l k).Sublist l:=by
 unfold qh;conv=>rhs;rw[<-amF k l]
 grind
theorem fH.mat{s:aI}{n T:Int}(h:fH s n T)(f:kV s){v:Vdt}(m:(cz s v).2.2=0):
 fH (cz s v).2.1 n T/\kV (cz s v).2.1/\(cz s v).1∈s.reqs/\(∀x∈(cz s v).2.1.reqs,x.tag≠(cz s v).1.tag)/\(cz s v).2.1.rets=s.rets/\(cz s v).2.1.tag=s.tag:=by
 unfold cz at *;split at m
 ·rename_i k j
  have b:=(fZ j).1;have o:=pM b;refine⟨h.sub rfl (zC _ _) (ajD _) rfl ⟨rfl,rfl⟩,⟨fun r l=>f.q r ((zC _ _).subset l),f.y⟩,o,fun x a=>?_,rfl,rfl⟩;have d:=h.q1;rw[<-amF (k+1) s.reqs,sk b,ajw,ajw]at d;rcases amm.1 a with a|a
  ·have:=d.1.2.2 x a (bm s.reqs k) WM;dsimp only;omega
  ·have:=d.2.2 (bm s.reqs k) WM x a;dsimp only;omega
 grind
theorem KI{s:ap}{a:bp}(h:(mA s a).2=0):(mA s a).1.cfg=s.cfg/\(mA s a).1.nodes=s.nodes:=by
 unfold mA at *;by_cases d:(cm s a).2≠0
 ·grind
 rw[al5 d]at h ⊢;split
 ·exact⟨rfl,rfl⟩
 split
 ·grind
 ·exact⟨rfl,rfl⟩
theorem HB{s:ap}{x:fe}(h:(ik s x).2=0):(ik s x).1.cfg=s.cfg/\(ik s x).1.nodes=s.nodes:=by
 unfold ik at *;split at h
 ·omega
 rename_i q;rw[al5 q];split at h
 ·omega
 rename_i c;rw[al5 c];exact⟨rfl,rfl⟩
theorem LS{s:ap}{t:aW}(h:(kY s t).2=0):(kY s t).1.cfg=s.cfg/\(kY s t).1.nodes=s.nodes:=by
 unfold kY at *;split at h
 ·omega
 rename_i q;rw[al5 q];split at h
 ·omega
 rename_i e;rw[al5 e];split at h
 ·omega
 rename_i d;rw[al5 d];exact⟨rfl,rfl⟩
theorem fH.same{s:aI}{n T:Int}(h:fH s n T){t:ap}(hc:t.cfg=s.sto.cfg):fH (ij s t) n T:=h.sub rfl (ajD _) (ajD _) hc ⟨rfl,rfl⟩
theorem kV.same{s:aI}(h:kV s){t:ap}(b:∀r,aj t.nodes r=aj s.sto.nodes r):kV (ij s t):=⟨fun r a=>by show 0<=aj t.nodes _;rw[b];exact h.q r a,fun r a=>by show 0<=aj t.nodes _;rw[b];exact h.y r a⟩
theorem Cu{c:cU}(h:ib c=0):1<=c.lim.backoff/\c.lim.backoff<=1048576:=by
 unfold ib at h;constructor
 ·omega
 omega
theorem Dz(s:ap):(boostV s).cfg=s.cfg/\(boostV s).nodes=s.nodes:=by unfold boostV;split<;>exact⟨rfl,rfl⟩
theorem fH.verd{s:aI}{n T:Int}(h:fH s n T)(e:kV s)(C:n<1000000)(p:StV s.sto)(w:0<=s.sto.now){v:Vdt}(o:(ky s v).2=0\/(ky s v).2=21):fH (ky s v).1 (n+1) T/\kV (ky s v).1:=by
 have u:=h.le (show n<=n+1 by omega) (amr T);unfold ky at *;by_cases A:(cz s v).2.2≠0
 ·grind
 rw[al5 A]at o ⊢;have j:=qj (s:=s) (v:=v) WL;obtain⟨l,m,g,z,B,D⟩:=h.mat e (v:=v) WL;by_cases i:v.kind=3\/v.kind=4
 ·rw[al7 i];have d:=h.q2 _ g;exact l.later m WL (by rw[j];exact⟨w,p.w.nm⟩) (by rw[j];exact Cu p.w.ne) d.1 WL d.2.2.2.1 d.2.2.2.2 z (by rw[B];exact fun x y=>h.y3 _ g x y)
 rw[al5 i]at o ⊢;by_cases c:(Go.Proofs.YtmpddimhleianaaGreat.judgeV (cz s v).2.1.sto (cz s v).1.block v).2≠0
 ·rw[al7 c];exact⟨u.sub rfl (ajD _) (ajD _) rfl ⟨rfl,rfl⟩,e.q,e.y⟩
 rw[al5 c];unfold judgeV at *;have q:=sN (show (iT (cz s v).2.1.sto.nodes _ v _).2=0 by simpa using c);have t:=Dz (dD (cz s v).2.1.sto (iT (cz s v).2.1.sto.nodes (aj (cz s v).2.1.sto.nodes (cz s v).1.block) v [aj (cz s v).2.1.sto.nodes (cz s v).2.1.sto.j.rt,aj (cz s v).2.1.sto.nodes (cz s v).2.1.sto.f.rt]).1);exact⟨(l.le WL (amr T)).same t.1,m.same fun r=>by rw[t.2];exact tT q.1 (fun k=>(q.2 k).2) r⟩
theorem fH.perf{s:aI}{i:Nat}{n T:Int}(h:fH s n T)(hf:kV s)(hn:0<=n)(hn2:n<1000000)(hT:T<1000000)(hI:fQ s i)(hV:StV s.sto){x:VOp}(hx:OpR x)(h2:(ia s x).2=0\/(ia s x).2=21):fH (ia s x).1 (n+1) (T+10)/\kV (ia s x).1:=by
 have h':=h.le (show n<=n+1 by omega) (show T<=T+10 by omega);unfold ia at *;by_cases q1:x.kind=1
 ·rw[al7 q1]at h2 ⊢
  by_cases q:(gp s.sto).2=0
  ·rw[al7 q];have d:=(h.same (t:=(gp s.sto).1) (xN q).c).drop;have hl:(mE (ij s (gp s.sto).1)).rets.length<=3:=ams (nG _ _).1.length_le hI.yl;have e:=d.1.due d.2 WL;exact⟨e.1.le WL WL,e.2⟩
  ·rw[al5 q]at h2;exact absurd h2 (by intro h5;rcases h5 with h5|h5;exact q h5;exact tG _ h5)
 rw[al5 q1]at h2 ⊢;by_cases q2:x.kind=2
 ·rw[al7 q2]at h2 ⊢
  by_cases q:(di s.sto x.blk).2.2=0
  ·rw[al7 q];have d:=(h.same (t:=(di s.sto x.blk).1) (uB q).c).drop;have hl:=(hI.sto.block (hx.blk.up (amc i)) q).2;have e:=d.1.opens d.2 hn (di s.sto x.blk).2.1 WL;exact⟨e.1.le WL WL,e.2⟩
  ·rw[al5 q]at h2;exact absurd h2 (by intro h5;rcases h5 with h5|h5;exact q h5;exact jE _ _ h5)
 rw[al5 q2]at h2 ⊢;by_cases q3:x.kind=3
 ·rw[al7 q3]at h2 ⊢;have e:=KI (h2.resolve_right (vC _ _));exact⟨h'.same e.1,hf.same fun r=>WO⟩
 rw[al5 q3]at h2 ⊢;by_cases q4:x.kind=4
 ·rw[al7 q4]at h2 ⊢;have e:=HB (h2.resolve_right (qg _ _));exact⟨h'.same e.1,hf.same fun r=>WO⟩
 rw[al5 q4]at h2 ⊢;by_cases q5:x.kind=5
 ·rw[al7 q5]at h2 ⊢;have e:=LS (h2.resolve_right (vP _ _));exact⟨h'.same e.1,hf.same fun r=>WO⟩
 rw[al5 q5]at h2 ⊢;by_cases q6:x.kind=6
 ·rw[al7 q6]at h2 ⊢;have e:=h.verd hf hn2 hV hI.sto.nw.1.lo h2;exact⟨e.1.le (amr _) WL,e.2⟩
 grind
theorem fH.emit{s:aI}{n T:Int}(h:fH s n T)(a:kV s):fH (io s).1 n T/\kV (io s).1:=by
 unfold io;split
 ·grind
 ·exact⟨⟨h.t0,h.t1,h.q1,h.q2,h.y1,h.y2,h.y3,h.y4,h.yl,(fun h=>WO),h.bo⟩,a.q,a.y⟩
theorem fH.step{s:aI}{i:Nat}{n T:Int}(h:fH s n T)(d:kV s)(c:0<=n)(a:n<1000000)(f:T<1000000)(g:fQ s i)(j:StV s.sto){x:VOp}(k:OpR x):fH (kl s x).1 (n+1) (T+10)/\kV (kl s x).1:=by
 have p:=h.le (show n<=n+1 by omega) (show T<=T+10 by omega);unfold kl;split
 ·grind
 ·split
  ·grind
  ·split
   ·rename_i m;exact h.perf d c a f g j k (.inr m)
   ·split
    ·grind
    ·have e:=h.perf d c a f g j k (.inl WL);exact e.1.emit e.2
theorem Is{l:List Req}(h:l.Pairwise fun a b=>a.tag≠b.tag){k:Nat}(e:k<l.length):(bm l k).tag∉(l.take k).map (·.tag):=by
 have f:=h;rw[<-amF (k+1) l,sk e,ajw,ajw]at f;grind
theorem WI{l:List Req}{R:Req->Req->Prop}(h:l.Pairwise R){k:Nat}(b:k<l.length):k=0\/R (bm l (k-1)) (bm l k):=by
 rcases ajQ k with c|c
 ·omega
 ·have d:=ajW.1 h (k-1) k WL b WL;unfold bm;grind
theorem agH{s:aI}{n T:Int}(h:fH s n T)(i:kV s)(r:n<=1099511627776):LP s=0:=by
 unfold LP
 have m:pN s:=by
  refine⟨fun k d=>?_,fun k d=>?_⟩
  ·have e:=pM d;have c:=h.q2 _ e;refine⟨WI h.q1 d,c.2.2.1,⟨c.1,c.2.1,c.2.2.2.1,WL,i.q _ e⟩,Is (h.q1.imp fun h=>WL) d⟩
  ·have e:=pM d
   have c:=h.y2 _ e;refine⟨WI h.y1 d,c.2.2.1,⟨c.1,c.2.1,c.2.2.2.2.1,WL,i.y _ e⟩,fun f=>?_⟩;rcases amm.1 f with f|f
   ·obtain⟨y,o,l⟩:=amV.1 f;exact h.y3 y o _ e l
   ·exact Is h.y4 d f
 have a:=h.t0;have b:=h.yl;rw[al5 (by rintro (q|q|⟨p,j⟩);omega;omega;exact j (h.sn p)),al7 m]
theorem agD{s:aI}{i:Nat}{n T:Int}(c:fQ s i)(m:StV s.sto)(o:qP s.sto)(h:fH s n T):GQ s:=by
 have I:=c.sto;have d:=Cu m.w.ne;have z:=c.rq;have A:=I.ii;have B:=I.spe;refine⟨ahn I o,⟨WL,WL⟩,⟨WL,WL⟩,?_,I.cfg.tt,I.lv,I.uj,fun a l=>⟨(I.av a l).slot,(I.av a l).ep⟩,fun b d=>⟨(I.uo b d).u,(I.uo b d).df,(I.uo b d).pf⟩,fun n g=>⟨(I.un n g).u,(I.un n g).df,(I.un n g).pf⟩,I.nw.1,fun t k=>⟨(I.tb t k).ep,by have:=(I.tb t k).len;omega⟩,WL,by have:=c.yl;omega,fun r e=>?_,fun r e=>?_,c.tg⟩
 ·have y:s.sto.cfg.boost<=100:=by
   have:=m.w.ne;unfold ib at this;by_cases q:100<s.sto.cfg.boost
   ·omega
   omega
  exact⟨h.bo,WL⟩
 ·have:=h.q2 r e;exact⟨c.ut r e,⟨WL,WL⟩⟩
 ·have C:=h.y2 r e;have:=c.tg.hi;exact⟨⟨WL,WL⟩,⟨WL,WL⟩⟩
structure j6(s:aI)(i:Nat):Prop where
 a:fQ s i
 v:StV s.sto
 b:qP s.sto
 n:s.sto.now<=(i:Int)
 w:fH s i (1+10*i)
 f:kV s
theorem j6.stepE{s:aI}{i:Nat}(h:j6 s i)(hi:i<40){x:VOp}(hx:OpE x):j6 (kl s x).1 (i+1):=by
 have hw:=h.w.step h.f WL WL WL h.a h.v hx.r;refine⟨h.a.step hi hx.r,h.v.step h.a.sto hx.r,h.b.step fun y hy=>by have:=hx.u.tab.all y hy;exact⟨this.lo,this.hi⟩,by have:=Jt h.a.sto.nw.1 x;have:=h.n;omega,?_,hw.2⟩;exact hw.1.le WL WL
theorem j6.step{s:aI}{i:Nat}(h:j6 s i)(hi:i<40){x:VOp}(hx:OpG x):j6 (kl s x).1 (i+1):=h.stepE hi hx.e
theorem HU{c:cU}(b:Qp c):j6 (iW c).1 0:=by
 have j:∀x∈c.bals,0<=x/\x<18446744073709551616:=fun x h=>by have:=b.bu x h;omega
 have e:=Mh b;unfold iW at e ⊢;rw[al7 b.new]at e ⊢
 have d:(0:Int)<=c.lim.retry:=by
  have:=b.new;unfold ib at this;by_cases q:wit c.lim.retry 0 256=false
  ·grind
  ·unfold wit at q;simp at q;omega
 have g:fH ⟨kO c,[],[],1,false,fS,false,false⟩ (0:Nat) (1+10*(0:Nat)):=⟨amr _,amr _,List.Pairwise.nil,fun r d=>WO,List.Pairwise.nil,fun r d=>WO,fun r d=>WM,List.Pairwise.nil,d,fun _=>rfl,b.bo⟩;have f:kV ⟨kO c,[],[],1,false,fS,false,false⟩:=⟨fun r d=>WO,fun r d=>WO⟩;refine⟨e,?_,?_,?_,(g.emit f).1,(g.emit f).2⟩
 ·exact StV.new b.new
 ·exact⟨fun t i=>by rw[amn.1 i];omega,j⟩
 ·exact amr _
theorem j6.up{s:aI}{i k:Nat}(h:j6 s i)(b:i<=k)(a:k<=40):j6 s k:=⟨h.a.up b a,h.v,h.b,by have:=h.n;omega,h.w.le WL WL,h.f⟩
theorem EW(l:List Int):∃s:aI,j6 s 24/\PC Tryz.prog 18 [.sl 1 false (aH .i64 l)] (.agg (aV s.a)):=by
 obtain⟨s,⟨h,i,d,k⟩,c⟩:=Dd (fun i s=>j6 s i) (fun c j=>HU j) (fun s i x n d h e=>h.step WL e) l;exact⟨s,k.up d WL,c⟩
theorem j6.valA{s:aI}{i:Nat}(h:j6 s i):valA s=0:=by
 have b:oL s.sto=0:=by
  have:=h.a.sto.cfg.ln;exact h.v.val WL h.a.sto.uf h.a.sto.nw.1
 unfold Go.Proofs.YtmpddimhleianaaGreat.valA;rw[al5 WL];exact agH h.w h.f (by have:=h.a.sto.ii;omega)
theorem j6.ty{s:aI}{i:Nat}(h:j6 s i):GQ s:=agD h.a h.v h.b h.w
theorem j6.len{s:aI}{i:Nat}(h:j6 s i):(ej s).length<=200000:=by
 have I:=h.a.sto;have c:=I.ii;have d:=h.a.rq;have f:=I.qq;have g:=I.ll;have b:=I.cfg.b1;have e:=acW (h.ty.toW h.valA) b (by omega:s.sto.latest.length<=6) (by omega:s.sto.eqv.length<=2400) I.aa I.oo I.nn I.tt (by omega:s.reqs.length<=400) h.a.yl WM WM WM WM WM WM WM WM WM;omega
theorem j6.enc{s:aI}{i:Nat}(h:j6 s i):pn s=0/\Dt s=ej s:=by
 have a:pn s=0:=by
  have:=h.len;unfold pn;rw[al5 (by rw[h.valA];simp),al5 WL]
 exact⟨a,by unfold Dt;grind⟩
theorem j6.e{s:aI}{i:Nat}(h:j6 s i):afO s:=ae8 h.ty h.enc.1
end Go.Proofs.YtmpddimhleianaaGreat
