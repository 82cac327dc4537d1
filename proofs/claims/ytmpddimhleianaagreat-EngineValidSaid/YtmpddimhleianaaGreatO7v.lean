/- Joined. -/
import Derived.Test.YtmpddimhleianaaGreatO5v
import Derived.Test.YtmpddimhleianaaGreatU1v
import Derived.Test.YtmpddimhleianaaGreatP5v
import Derived.Test.YtmpddimhleianaaGreatT6v
set_option linter.unusedVariables false
set_option linter.unusedSimpArgs false
set_option maxRecDepth 8000
set_option maxHeartbeats 4000000
namespace Go.Proofs.YtmpddimhleianaaGreat
open Go Go.FH Go.RowKit
structure fV(s:al)(n T:Int):Prop where
 t0:1<=s.tag
 t1:s.tag<=T
 q1:s.reqs.Pairwise fun a b=>a.tag<b.tag
 q2:∀r∈s.reqs,1<=r.tag/\r.tag<s.tag/\r.due=0/\0<=r.tries/\r.tries<=n
 y1:s.rets.Pairwise fun a b=>fv a b=true
 y2:∀r∈s.rets,1<=r.tag/\r.tag<s.tag/\1<=r.due/\r.due<18446744073709551616/\1<=r.tries/\r.tries<=n
 y3:∀r∈s.reqs,∀y∈s.rets,r.tag≠y.tag
 y4:s.rets.Pairwise fun a b=>a.tag≠b.tag
 yl:(s.rets.length:Int)<=s.sto.cfg.lim.retry
 sn:s.sent=false->s.last=jB
 bo:0<=s.sto.cfg.boost
structure kl(s:al):Prop where
 q:∀r∈s.reqs,0<=ab s.sto.nodes r.block
 y:∀r∈s.rets,0<=ab s.sto.nodes r.block
theorem fV.sub{s t:al}{n T:Int}(h:fV s n T)(e:t.tag=s.tag)(a:t.reqs.Sublist s.reqs)(b:t.rets.Sublist s.rets)(c:t.sto.cfg=s.sto.cfg)(d:t.sent=s.sent/\t.last=s.last):fV t n T:=by
 have:=h.yl;refine⟨by rw[e];exact h.t0,by rw[e];exact h.t1,h.q1.sublist a,fun r f=>?_,h.y1.sublist b,fun r f=>?_,fun r f y g=>h.y3 r (a.subset f) y (b.subset g),h.y4.sublist b,af3,by rw[d.1,d.2];exact h.sn,by rw[c];exact h.bo⟩
 ·rw[e];exact h.q2 r (a.subset f)
 ·rw[e];exact h.y2 r (b.subset f)
theorem fV.le{s:al}{n m T U:Int}(h:fV s n T)(b:n<=m)(c:T<=U):fV s m U:=
 ⟨h.t0,by have:=h.t1;omega,h.q1,fun r a=>by have:=h.q2 r a;omega,h.y1,fun r a=>by have:=h.y2 r a;omega,h.y3,h.y4,h.yl,h.sn,h.bo⟩
theorem tE{l:List Req}{k:Nat}(h:k<l.length):l.take (k+1)=l.take k++[aO l k]:=by
 unfold aO;rw[List.take_succ_eq_append_getElem h,afy,afz h];rfl
theorem nB(t:List Nod)(l:List Req):(fZ t l).Sublist l/\∀r∈fZ t l,0<=ab t r.block:=by
 have c:=dp (f:=jS t l) (a:=[]) (fun k o=>o.Sublist (l.take k)/\∀r∈o,0<=ab t r.block) ⟨aff _,fun r h=>af3⟩ l.length (fun k o e g=>by
  rw[tE e];unfold jS;split
  ·grind
  grind) _ (afE _)
 rw[acL]at c;exact c
theorem fV.drop{s:al}{n T:Int}(h:fV s n T):fV (fE s) n T/\kl (fE s):=
 ⟨h.sub rfl (nB _ _).1 (nB _ _).1 rfl ⟨rfl,rfl⟩,(nB _ _).2,(nB _ _).2⟩
theorem fV.open1{s:al}{n T:Int}(h:fV s n T)(i:T<1099511627776)(r:Rt){k:Int}(j:0<=k)(l:k<=n):fV (jo s r k) n (T+1)/\(jo s r k).tag=s.tag+1:=by
 have a:=h.t0;have b:=h.t1;have g:IntKind.u64.wrap (s.tag+1)=s.tag+1:=aC af0 af0;refine⟨⟨?_,?_,?_,?_,h.y1,?_,?_,h.y4,h.yl,h.sn,h.bo⟩,g⟩
 ·show 1<=IntKind.u64.wrap (s.tag+1);omega
 ·show IntKind.u64.wrap (s.tag+1)<=_;omega
 ·show (s.reqs++[_]).Pairwise _
  rw[ac6];refine⟨h.q1,List.pairwise_singleton _ _,fun x c y e=>?_⟩;rw[afN]at e;subst e;exact(h.q2 x c).2.1
 ·intro x c;show _/\x.tag<IntKind.u64.wrap (s.tag+1)/\_
  rcases afR.1 c with c|c
  ·have:=h.q2 x c;omega
  grind
 ·intro x c;show _/\x.tag<IntKind.u64.wrap (s.tag+1)/\_
  have:=h.y2 x c;omega
 ·intro x c y e
  rcases afR.1 c with c|c
  ·exact h.y3 x c y e
  ·have:=h.y2 y e;grind
theorem kl.open1{s:al}(h:kl s){r:Rt}(b:mu s.sto r=true)(k:Int):kl (jo s r k):=by
 unfold mu at b;simp only[afL,afJ]at b;refine⟨fun x a=>?_,h.y⟩;rcases afR.1 a with a|a
 ·exact h.q x a
 ·rw[afN]at a;subst a;exact b.1
theorem fV.opens{s:al}{n T:Int}(h:fV s n T)(d:kl s)(e:0<=n)(l:List Rt)(g:T+l.length<1099511627776):fV (jT s l) n (T+l.length)/\kl (jT s l):=by
 refine dp (f:=fX l) (a:=s) (fun k t=>fV t n (T+k)/\kl t) ⟨h.le (afT _) af0,d⟩ l.length (fun k t i c=>?_) _ (afE _);unfold fX;split
 ·rename_i q;exact⟨(c.1.open1 af0 _ (afT _) e).1.le (afT _) af0,c.2.open1 q _⟩
 ·exact⟨c.1.le (afT _) af0,c.2⟩
theorem fV.due{s:al}{n T:Int}(h:fV s n T)(hf:kl s)(hT:T+s.rets.length<1099511627776):fV (tK s) n (T+s.rets.length)/\kl (tK s):=by
 have hret:∀k,k<s.rets.length->aO s.rets k∈s.rets:=fun k hk=>lc hk
 have h0:fV (fw s []) n (T+(0:Nat)):=(h.sub (t:=fw s []) rfl (adD _) (aff _) rfl ⟨rfl,rfl⟩).le (afT _) af0
 have key:=dp (f:=oD s.rets) (a:=fw s []) (fun k t=>fV t n (T+k)/\kl t/\t.sto=s.sto/\t.rets.Sublist (s.rets.take k)/\s.tag<=t.tag/\∀r∈t.reqs,r∈s.reqs\/s.tag<=r.tag)
  ⟨h0,⟨hf.q,fun r hr=>by cases hr⟩,rfl,aff _,afT _,fun r hr=>.inl hr⟩ s.rets.length (fun k t hk ⟨a,b,c,d,e,f⟩=>by
  have hx:=hret k hk;have d2:t.rets.Sublist (s.rets.take (k+1)):=af3
  unfold oD;split
  ·have d1:(t.rets++[aO s.rets k]).Sublist (s.rets.take (k+1)):=by rw[tE hk];grind
   have d3:=d1.trans (List.take_sublist _ _);have h9:=d3.length_le;refine⟨⟨a.t0,by have:=a.t1;show t.tag<=_;omega,a.q1,a.q2,h.y1.sublist d3,fun r hr=>?_,fun r hr y hy=>?_,h.y4.sublist d3,?_,a.sn,a.bo⟩,⟨b.q,fun r hr=>?_⟩,c,d1,e,f⟩
   ·have:=h.y2 r (d3.subset hr);show _/\r.tag<t.tag/\_
    omega
   ·have h1:=h.y2 y (d3.subset hy);rcases f r hr with h2|h2
    ·exact h.y3 r h2 y (d3.subset hy)
    omega
   ·have:=h.yl;show ((t.rets++[_]).length:Int)<=t.sto.cfg.lim.retry
    rw[c];omega
   ·show 0<=ab t.sto.nodes r.block
    rw[c];exact hf.y r (d3.subset hr)
  ·split
   ·rename_i q;have hy:=h.y2 _ hx;obtain⟨o1,o2⟩:=a.open1 af0 (aO s.rets k).block (k:=(aO s.rets k).tries) af0 af0;refine⟨o1.le (afT _) af0,b.open1 q _,c,d2,by rw[o2];omega,fun r hr=>?_⟩;rcases afR.1 hr with hr|hr
    ·exact f r hr
    ·rw[afN]at hr;subst hr;exact .inr e
   ·exact⟨a.le (afT _) af0,b,c,d2,e,f⟩) _ (afE _)
 exact⟨key.1,key.2.1⟩
theorem FE{b:Int}(g:b<18446744073709551616):∀ (f:Nat) (d:Int),1<=d->d<=b->1<=mI b f d/\mI b f d<=b
 |0,d,c,e=>⟨c,e⟩
 | f + 1, d, c, e => by
   unfold mI;have h:IntKind.u64.wrap (b-d)=b-d:=aC af0 af0;split
   ·omega
   ·rw[aC af0 af0];exact FE g f _ af0 af0
theorem P0{t b:Int}(d:1<=b)(c:b<18446744073709551616):1<=mJ t b/\mJ t b<=b:=by
 unfold mJ;rw[afx af0];exact FE c _ _ af0 d
theorem sZ{a b:Req}:fv a b=true↔a.due<b.due\/(a.due=b.due/\a.tag<b.tag):=by unfold fv;simp
theorem OT(x:Req):∀ (a z:List Req),∃p q,a=p++q/\mA (a++x::z) a.length=p++x::(q++z)/\(∀y∈q,fv x y=true)/\(∀y,p.getLast?=some y->fv x y=false):=by
 intro a;induction hn:a.length generalizing a with
 | zero =>
   obtain rfl:=afV hn;exact fun z=>⟨[],[],rfl,rfl,fun y hy=>af3,fun y hy=>af3⟩
 | succ n ih =>
   rcases List.eq_nil_or_concat a with rfl|⟨a,y,rfl⟩
   ·grind
   intro z;rw[List.concat_eq_append]at hn ⊢;rw[afB,ad0]at hn;obtain rfl:a.length=n:=af0
   have e1:aO (a++[y]++x::z) (a.length+1)=x:=by unfold aO;simp
   have e2:aO (a++[y]++x::z) a.length=y:=by unfold aO;simp
   unfold mA;rw[e1,e2];by_cases h:fv x y=true
   ·rw[afA h];have e3:((a++[y]++x::z).set (a.length+1) y).set a.length x=a++x::(y::z):=af1
    rw[e3];obtain⟨p,q,h1,h2,h3,h4⟩:=ih a rfl (y::z);refine⟨p,q++[y],af3,af3,fun w hw=>?_,h4⟩;rcases afR.1 hw with hw|hw
    ·grind
    grind
   ·rw[afx h]
    exact⟨a++[y],[],af1,af1,fun w hw=>af3,fun w hw=>by
     grind⟩
theorem zd{l:List Req}(g:l.Pairwise fun a b=>fv a b=true){x:Req}(t:∀y∈l,x.tag≠y.tag):(mA (l++[x]) l.length).Pairwise (fun a b=>fv a b=true)/\(mA (l++[x]) l.length).Perm (x::l):=by
 obtain⟨p,q,j,m,k,v⟩:=OT x l [];rw[m,acH];subst j;refine⟨?_,List.perm_middle⟩;rw[ac6]at g ⊢;obtain⟨f,o,A⟩:=g;refine⟨f,ac5.2 ⟨k,o⟩,fun y e z h=>?_⟩;rcases acW.1 h with rfl|h
 ·-- y stands before z=x
  obtain⟨w,r⟩:∃w,p.getLast?=some w:=by
   grind
  obtain⟨B,rfl⟩:=List.getLast?_eq_some_iff.1 r
  have s:fv w z=true:=by
   have:=t w af1;have u:¬ (fv z w=true):=af3
   rw[sZ]at u ⊢;omega
  rcases afR.1 e with e|e
  ·have n:=(ac6.1 f).2.2 y e w af1;rw[sZ]at s n ⊢;omega
  grind
 grind
theorem fV.later{s:al}{n T:Int}(h:fV s n T)(hf:kl s)(hn:n<1099511627776)(hw:0<=s.sto.now/\s.sto.now<=1099511627776)(hb:1<=s.sto.cfg.lim.backoff/\s.sto.cfg.lim.backoff<=1048576){r:Req}(h1:1<=r.tag)(h2:r.tag<s.tag)(h3:0<=r.tries)(h4:r.tries<=n)(h5:∀x∈s.reqs,x.tag≠r.tag)(h6:∀x∈s.rets,r.tag≠x.tag):
 fV (gZ s r) (n+1) T/\kl (gZ s r):=by
 unfold gZ;split
 ·exact⟨h.le af0 (afT _),hf⟩
 rename_i ho;split
 ·exact⟨(h.sub (t:=⟨s.sto,s.reqs,s.rets,s.tag,s.sent,s.last,true,s.halt⟩) rfl (adD _) (adD _) rfl ⟨rfl,rfl⟩).le af0 (afT _),hf.q,hf.y⟩
 have hd:=P0 (t:=IntKind.i64.wrap (r.tries+1)) hb.1 af0;have e1:(iD s r).tag=r.tag:=rfl;have e3:(iD s r).tries=r.tries+1:=ar af0 af0;have e4:(iD s r).due=s.sto.now+mJ (IntKind.i64.wrap (r.tries+1)) s.sto.cfg.lim.backoff:=aC af0 af0;obtain⟨k1,k2⟩:=zd h.y1 (x:=iD s r) af3;have hm:∀y,y∈mA (s.rets++[iD s r]) s.rets.length->y=iD s r\/y∈s.rets:=fun y hy=>acW.1 (k2.mem_iff.1 hy)
 have hlen:=k2.length_eq;rw[afG]at hlen;have h':=h.le (show n<=n+1 by omega) (afT T);refine⟨⟨h.t0,h.t1,h.q1,h'.q2,k1,fun y hy=>?_,fun x hx y hy=>?_,?_,by show ((mA (s.rets++[iD s r]) s.rets.length).length:Int)<=s.sto.cfg.lim.retry;omega,h.sn,h.bo⟩,hf.q,fun y hy=>?_⟩
 ·rcases hm y hy with rfl|hy
  ·show _/\(iD s r).tag<s.tag/\_
   omega
  ·exact h'.y2 y hy
 ·rcases hm y hy with rfl|hy
  ·exact h5 x hx
  ·exact h.y3 x hx y hy
 ·refine(k2.pairwise_iff (fun {a b} h=>afv h)).2 (ac5.2 ⟨fun y hy=>?_,h.y4⟩);grind
 ·rcases hm y hy with rfl|hy
  ·show 0<=ab s.sto.nodes r.block
   unfold mu at ho;grind
  ·exact hf.y y hy
theorem GT(l:List Req)(k:Nat):(mC l k).Sublist l:=by
 unfold mC;conv=>rhs;rw[<-afX k l]
 grind
theorem fV.mat{s:al}{n T:Int}(h:fV s n T)(f:kl s){v:Vdt}(m:(aL s v).2.2=0):
 fV (aL s v).2.1 n T/\kl (aL s v).2.1/\(aL s v).1∈s.reqs/\(∀x∈(aL s v).2.1.reqs,x.tag≠(aL s v).1.tag)/\(aL s v).2.1.rets=s.rets/\(aL s v).2.1.tag=s.tag:=by
 unfold aL at *;split at m
 ·rename_i k j
  have b:=(cJ j).1;have o:=lc b;refine⟨h.sub rfl (GT _ _) (adD _) rfl ⟨rfl,rfl⟩,⟨fun r l=>f.q r ((GT _ _).subset l),f.y⟩,o,fun x a=>?_,rfl,rfl⟩;have d:=h.q1;rw[<-afX (k+1) s.reqs,tE b,ac6,ac6]at d;rcases afR.1 a with a|a
  ·have:=d.1.2.2 x a (aO s.reqs k) af1;dsimp only;omega
  ·have:=d.2.2 (aO s.reqs k) af1 x a;dsimp only;omega
 grind
theorem WF{s:af}{a:aX}(h:(kH s a).2=0):(kH s a).1.cfg=s.cfg/\(kH s a).1.nodes=s.nodes:=by
 unfold kH at *;by_cases d:(ei s a).2≠0
 ·grind
 rw[afx d]at h ⊢;split
 ·exact⟨rfl,rfl⟩
 split
 ·grind
 ·exact⟨rfl,rfl⟩
theorem RP{s:af}{x:gi}(h:(d7 s x).2=0):(d7 s x).1.cfg=s.cfg/\(d7 s x).1.nodes=s.nodes:=by
 unfold d7 at *;split at h
 ·omega
 rename_i q;rw[afx q];split at h
 ·omega
 rename_i c;rw[afx c];exact⟨rfl,rfl⟩
theorem XW{s:af}{t:aB}(h:(iL s t).2=0):(iL s t).1.cfg=s.cfg/\(iL s t).1.nodes=s.nodes:=by
 unfold iL at *;split at h
 ·omega
 rename_i q;rw[afx q];split at h
 ·omega
 rename_i e;rw[afx e];split at h
 ·omega
 rename_i d;rw[afx d];exact⟨rfl,rfl⟩
theorem fV.same{s:al}{n T:Int}(h:fV s n T){t:af}(hc:t.cfg=s.sto.cfg):fV (cy s t) n T:=h.sub rfl (adD _) (adD _) hc ⟨rfl,rfl⟩
theorem kl.same{s:al}(h:kl s){t:af}(b:∀r,ab t.nodes r=ab s.sto.nodes r):kl (cy s t):=⟨fun r a=>by show 0<=ab t.nodes _;rw[b];exact h.q r a,fun r a=>by show 0<=ab t.nodes _;rw[b];exact h.y r a⟩
theorem qE{c:cI}(h:gF c=0):1<=c.lim.backoff/\c.lim.backoff<=1048576:=by
 unfold gF at h;constructor
 ·omega
 omega
theorem LN(s:af):(boostV s).cfg=s.cfg/\(boostV s).nodes=s.nodes:=by unfold boostV;split<;>exact⟨rfl,rfl⟩
theorem fV.verd{s:al}{n T:Int}(h:fV s n T)(e:kl s)(C:n<1000000)(p:StV s.sto)(w:0<=s.sto.now){v:Vdt}(o:(eg s v).2=0\/(eg s v).2=21):fV (eg s v).1 (n+1) T/\kl (eg s v).1:=by
 have u:=h.le (show n<=n+1 by omega) (afT T);unfold eg at *;by_cases A:(aL s v).2.2≠0
 ·grind
 rw[afx A]at o ⊢;have j:=j8 (s:=s) (v:=v) af0;obtain⟨l,m,g,z,B,D⟩:=h.mat e (v:=v) af0;by_cases i:v.kind=3\/v.kind=4
 ·rw[afA i];have d:=h.q2 _ g;exact l.later m af0 (by rw[j];exact⟨w,p.w.nm⟩) (by rw[j];exact qE p.w.ne) d.1 af0 d.2.2.2.1 d.2.2.2.2 z (by rw[B];exact fun x y=>h.y3 _ g x y)
 rw[afx i]at o ⊢;by_cases c:(Go.Proofs.YtmpddimhleianaaGreat.judgeV (aL s v).2.1.sto (aL s v).1.block v).2≠0
 ·rw[afA c];exact⟨u.sub rfl (adD _) (adD _) rfl ⟨rfl,rfl⟩,e.q,e.y⟩
 rw[afx c];unfold judgeV at *;have q:=pN (show (dR (aL s v).2.1.sto.nodes _ v _).2=0 by simpa using c);have t:=LN (bQ (aL s v).2.1.sto (dR (aL s v).2.1.sto.nodes (ab (aL s v).2.1.sto.nodes (aL s v).1.block) v [ab (aL s v).2.1.sto.nodes (aL s v).2.1.sto.j.rt,ab (aL s v).2.1.sto.nodes (aL s v).2.1.sto.f.rt]).1);exact⟨(l.le af0 (afT T)).same t.1,m.same fun r=>by rw[t.2];exact tc q.1 (fun k=>(q.2 k).2) r⟩
theorem fV.perf{s:al}{i:Nat}{n T:Int}(h:fV s n T)(hf:kl s)(hn:0<=n)(hn2:n<1000000)(hT:T<1000000)(hI:fT s i)(hV:StV s.sto){x:VOp}(hx:OpR x)(h2:(de s x).2=0\/(de s x).2=21):fV (de s x).1 (n+1) (T+10)/\kl (de s x).1:=by
 have h':=h.le (show n<=n+1 by omega) (show T<=T+10 by omega);unfold de at *;by_cases q1:x.kind=1
 ·rw[afA q1]at h2 ⊢
  by_cases q:(dF s.sto).2=0
  ·rw[afA q];have d:=(h.same (t:=(dF s.sto).1) (Dn q).c).drop;have hl:(fE (cy s (dF s.sto).1)).rets.length<=3:=acn (nB _ _).1.length_le hI.yl;have e:=d.1.due d.2 af0;exact⟨e.1.le af0 af0,e.2⟩
  ·rw[afx q]at h2;exact absurd h2 (by intro h5;rcases h5 with h5|h5;exact q h5;exact qM _ h5)
 rw[afx q1]at h2 ⊢;by_cases q2:x.kind=2
 ·rw[afA q2]at h2 ⊢
  by_cases q:(bR s.sto x.blk).2.2=0
  ·rw[afA q];have d:=(h.same (t:=(bR s.sto x.blk).1) (yC q).c).drop;have hl:=(hI.sto.block (hx.blk.up (afK i)) q).2;have e:=d.1.opens d.2 hn (bR s.sto x.blk).2.1 af0;exact⟨e.1.le af0 af0,e.2⟩
  ·rw[afx q]at h2;exact absurd h2 (by intro h5;rcases h5 with h5|h5;exact q h5;exact nM _ _ h5)
 rw[afx q2]at h2 ⊢;by_cases q3:x.kind=3
 ·rw[afA q3]at h2 ⊢;have e:=WF (h2.resolve_right (uR _ _));exact⟨h'.same e.1,hf.same fun r=>af3⟩
 rw[afx q3]at h2 ⊢;by_cases q4:x.kind=4
 ·rw[afA q4]at h2 ⊢;have e:=RP (h2.resolve_right (oh _ _));exact⟨h'.same e.1,hf.same fun r=>af3⟩
 rw[afx q4]at h2 ⊢;by_cases q5:x.kind=5
 ·rw[afA q5]at h2 ⊢;have e:=XW (h2.resolve_right (vd _ _));exact⟨h'.same e.1,hf.same fun r=>af3⟩
 rw[afx q5]at h2 ⊢;by_cases q6:x.kind=6
 ·rw[afA q6]at h2 ⊢;have e:=h.verd hf hn2 hV hI.sto.nw.1.lo h2;exact⟨e.1.le (afT _) af0,e.2⟩
 grind
theorem fV.emit{s:al}{n T:Int}(h:fV s n T)(a:kl s):fV (dC s).1 n T/\kl (dC s).1:=by
 unfold dC;split
 ·grind
 ·exact⟨⟨h.t0,h.t1,h.q1,h.q2,h.y1,h.y2,h.y3,h.y4,h.yl,(fun h=>af3),h.bo⟩,a.q,a.y⟩
theorem fV.step{s:al}{i:Nat}{n T:Int}(h:fV s n T)(d:kl s)(c:0<=n)(a:n<1000000)(f:T<1000000)(g:fT s i)(j:StV s.sto){x:VOp}(k:OpR x):fV (bV s x).1 (n+1) (T+10)/\kl (bV s x).1:=by
 have p:=h.le (show n<=n+1 by omega) (show T<=T+10 by omega);unfold bV;split
 ·grind
 ·split
  ·grind
  ·split
   ·rename_i m;exact h.perf d c a f g j k (.inr m)
   ·split
    ·grind
    ·have e:=h.perf d c a f g j k (.inl af0);exact e.1.emit e.2
theorem Cy{l:List Req}(h:l.Pairwise fun a b=>a.tag≠b.tag){k:Nat}(e:k<l.length):(aO l k).tag∉(l.take k).map (·.tag):=by
 have f:=h;rw[<-afX (k+1) l,tE e,ac6,ac6]at f;grind
theorem OP{l:List Req}{R:Req->Req->Prop}(h:l.Pairwise R){k:Nat}(b:k<l.length):k=0\/R (aO l (k-1)) (aO l k):=by
 rcases acF k with c|c
 ·omega
 ·have d:=acY.1 h (k-1) k af0 b af0;unfold aO;grind
theorem aae{s:al}{n T:Int}(h:fV s n T)(i:kl s)(r:n<=1099511627776):Lo s=0:=by
 unfold Lo
 have m:uC s:=by
  refine⟨fun k d=>?_,fun k d=>?_⟩
  ·have e:=lc d;have c:=h.q2 _ e;refine⟨OP h.q1 d,c.2.2.1,⟨c.1,c.2.1,c.2.2.2.1,af0,i.q _ e⟩,Cy (h.q1.imp fun h=>af0) d⟩
  ·have e:=lc d
   have c:=h.y2 _ e;refine⟨OP h.y1 d,c.2.2.1,⟨c.1,c.2.1,c.2.2.2.2.1,af0,i.y _ e⟩,fun f=>?_⟩;rcases afR.1 f with f|f
   ·obtain⟨y,o,l⟩:=acz.1 f;exact h.y3 y o _ e l
   ·exact Cy h.y4 d f
 have a:=h.t0;have b:=h.yl;rw[afx (by rintro (q|q|⟨p,j⟩);omega;omega;exact j (h.sn p)),afA m]
theorem Z4{s:al}{i:Nat}{n T:Int}(c:fT s i)(m:StV s.sto)(o:o0 s.sto)(h:fV s n T):DC s:=by
 have I:=c.sto;have d:=qE m.w.ne;have z:=c.rq;have A:=I.ii;have B:=I.spe;refine⟨Wm I o,⟨af0,af0⟩,⟨af0,af0⟩,?_,I.cfg.tt,I.lv,I.uj,fun a l=>⟨(I.av a l).slot,(I.av a l).ep⟩,fun b d=>⟨(I.uo b d).u,(I.uo b d).df,(I.uo b d).pf⟩,fun n g=>⟨(I.un n g).u,(I.un n g).df,(I.un n g).pf⟩,I.nw.1,fun t k=>⟨(I.tb t k).ep,by have:=(I.tb t k).len;omega⟩,af0,by have:=c.yl;omega,fun r e=>?_,fun r e=>?_,c.tg⟩
 ·have y:s.sto.cfg.boost<=100:=by
   have:=m.w.ne;unfold gF at this;by_cases q:100<s.sto.cfg.boost
   ·omega
   omega
  exact⟨h.bo,af0⟩
 ·have:=h.q2 r e;exact⟨c.ut r e,⟨af0,af0⟩⟩
 ·have C:=h.y2 r e;have:=c.tg.hi;exact⟨⟨af0,af0⟩,⟨af0,af0⟩⟩
structure dJ(s:al)(i:Nat):Prop where
 a:fT s i
 v:StV s.sto
 b:o0 s.sto
 n:s.sto.now<=(i:Int)
 w:fV s i (1+10*i)
 f:kl s
theorem dJ.stepE{s:al}{i:Nat}(h:dJ s i)(hi:i<40){x:VOp}(hx:OpE x):dJ (bV s x).1 (i+1):=by
 have hw:=h.w.step h.f af0 af0 af0 h.a h.v hx.r;refine⟨h.a.step hi hx.r,h.v.step h.a.sto hx.r,h.b.step fun y hy=>by have:=hx.u.tab.all y hy;exact⟨this.lo,this.hi⟩,by have:=UT h.a.sto.nw.1 x;have:=h.n;omega,?_,hw.2⟩;exact hw.1.le af0 af0
theorem dJ.step{s:al}{i:Nat}(h:dJ s i)(hi:i<40){x:VOp}(hx:OpG x):dJ (bV s x).1 (i+1):=h.stepE hi hx.e
theorem uX{c:cI}(b:uL c):dJ (eh c).1 0:=by
 have j:∀x∈c.bals,0<=x/\x<18446744073709551616:=fun x h=>by have:=b.bu x h;omega
 have e:=Fj b;unfold eh at e ⊢;rw[afA b.new]at e ⊢
 have d:(0:Int)<=c.lim.retry:=by
  have:=b.new;unfold gF at this;by_cases q:wit c.lim.retry 0 256=false
  ·grind
  ·unfold wit at q;simp at q;omega
 have g:fV ⟨eG c,[],[],1,false,jB,false,false⟩ (0:Nat) (1+10*(0:Nat)):=⟨afT _,afT _,List.Pairwise.nil,fun r d=>af3,List.Pairwise.nil,fun r d=>af3,fun r d=>af1,List.Pairwise.nil,d,fun _=>rfl,b.bo⟩;have f:kl ⟨eG c,[],[],1,false,jB,false,false⟩:=⟨fun r d=>af3,fun r d=>af3⟩;refine⟨e,?_,?_,?_,(g.emit f).1,(g.emit f).2⟩
 ·exact StV.new b.new
 ·exact⟨fun t i=>by rw[afN.1 i];omega,j⟩
 ·exact afT _
theorem dJ.up{s:al}{i k:Nat}(h:dJ s i)(b:i<=k)(a:k<=40):dJ s k:=⟨h.a.up b a,h.v,h.b,by have:=h.n;omega,h.w.le af0 af0,h.f⟩
theorem Dd(l:List Int):∃s:al,dJ s 24/\PC Tryz.prog 18 [.sl 1 false (ah .i64 l)] (.agg (aG s.a)):=by
 obtain⟨s,⟨h,i,d,k⟩,c⟩:=zh (fun i s=>dJ s i) (fun c j=>uX j) (fun s i x n d h e=>h.step af0 e) l;exact⟨s,k.up d af0,c⟩
theorem dJ.valA{s:al}{i:Nat}(h:dJ s i):valA s=0:=by
 have b:oz s.sto=0:=by
  have:=h.a.sto.cfg.ln;exact h.v.val af0 h.a.sto.uf h.a.sto.nw.1
 unfold Go.Proofs.YtmpddimhleianaaGreat.valA;rw[afx af0];exact aae h.w h.f (by have:=h.a.sto.ii;omega)
theorem dJ.ty{s:al}{i:Nat}(h:dJ s i):DC s:=Z4 h.a h.v h.b h.w
theorem dJ.len{s:al}{i:Nat}(h:dJ s i):(pp s).length<=200000:=by
 have I:=h.a.sto;have c:=I.ii;have d:=h.a.rq;have f:=I.qq;have g:=I.ll;have b:=I.cfg.b1;have e:=V8 (h.ty.toW h.valA) b (by omega:s.sto.latest.length<=6) (by omega:s.sto.eqv.length<=2400) I.aa I.oo I.nn I.tt (by omega:s.reqs.length<=400) h.a.yl af1 af1 af1 af1 af1 af1 af1 af1 af1;omega
theorem dJ.enc{s:al}{i:Nat}(h:dJ s i):P9 s=0/\aaD s=pp s:=by
 have a:P9 s=0:=by
  have:=h.len;unfold P9;rw[afx (by rw[h.valA];simp),afx af0]
 exact⟨a,by unfold aaD;grind⟩
theorem dJ.e{s:al}{i:Nat}(h:dJ s i):aav s:=YA h.ty h.enc.1
end Go.Proofs.YtmpddimhleianaaGreat
