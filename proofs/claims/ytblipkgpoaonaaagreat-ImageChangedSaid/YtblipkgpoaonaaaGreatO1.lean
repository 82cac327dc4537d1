/- Joined. -/
import Derived.Test.YtblipkgpoaonaaaGreatV1
import Derived.Test.YtblipkgpoaonaaaGreatV6
import Derived.Test.YtblipkgpoaonaaaGreatT6
import Derived.Test.YtblipkgpoaonaaaGreatR1
import Derived.Test.YtblipkgpoaonaaaGreatW3
import Derived.Test.YtblipkgpoaonaaaGreatT1
set_option linter.unusedVariables false
set_option linter.unusedSimpArgs false
set_option maxRecDepth 8000
set_option maxHeartbeats 4000000
namespace Go.Proofs.YtblipkgpoaonaaaGreat
open Go Go.FH
structure Mn{α:Type}(r:RR α):Prop where
 z:∀ {bs e},(r bs e).2.2=0->e=0
 m:∀ {bs:List UInt8},(r bs 0).2.2=0->∀t,r (bs++t) 0=((r bs 0).1,(r bs 0).2.1++t,0)
def rt1{α:Type}(v:α):RR α:=fun bs e=>(v,bs,e)
def rb{α β:Type}(r:RR α)(f:α->RR β):RR β:=fun bs e=>f (r bs e).1 (r bs e).2.1 (r bs e).2.2
theorem Vc{α:Type}(v:α):Mn (rt1 v):=⟨fun h=>h,fun _ t=>rfl⟩
theorem Mn.rb{α β:Type}{r:RR α}{f:α->RR β}(d:Mn r)(b:∀a,Mn (f a)):Mn (rb r f):=by
 refine⟨fun h=>d.z ((b _).z h),fun {bs} h t=>?_⟩;have c:(r bs 0).2.2=0:=(b _).z h;have e:=d.m c t;unfold Go.Proofs.YtblipkgpoaonaaaGreat.rb at *;rw[c]at h ⊢;rw[e];exact(b _).m h t
theorem IV(t:List UInt8):∀ (l:List UInt8) (i:Nat) (v:Int),(fO l i v).2.2=0->fO (l++t) i v=fO l i v/\(fO l i v).2.1<=i+l.length
 | [],_,_,h=>by simp[fO]at h
 | b :: l, i, v, h => by
   rw[amI];simp only[fO]at h ⊢;split
   ·simp
   ·rename_i d
    rw[al5 d]at h;split
    ·grind
    ·rename_i c;rw[al5 c]at h;have:=IV t l (i+1) _ h;grind
theorem Zw{bs:List UInt8}(t:List UInt8)(h:(iN bs).2.2=0):iN (bs++t)=iN bs/\(iN bs).2.1<=bs.length:=by
 unfold iN at *;rw[ajU];have:=IV (t.take (10-bs.length)) (bs.take 10) 0 0 h;grind
theorem pL(m:Int):Mn (fun bs e=>aR bs e m):=by
 refine⟨fun {bs e} h=>?_,fun {bs} h t=>?_⟩
 ·by_cases b:e=0
  ·omega
  ·simp only[aR,ajT,b,amu,amt]at h
 ·simp only[aR,ajT,amp,amj]at h ⊢
  split at h
  ·rename_i c;have d:=Zw t c;grind
  grind
theorem ab7:Mn fE:=by
 refine⟨fun {bs e} h=>?_,fun {bs} h t=>?_⟩
 ·by_cases c:e=0
  ·omega
  ·simp only[fE,ajT,c,amu,amt]at h
 ·cases bs with
  |nil=>simp[fE]at h
  | cons b r =>
    simp only[fE]at h ⊢;split at h
    ·grind
    grind
theorem pK:Mn pp:=by
 refine⟨fun {bs e} h=>?_,fun {bs} h t=>?_⟩
 ·by_cases b:e=0
  ·omega
  ·simp only[pp,ajT,b,amu,amt]at h
 ·simp only[pp]at h ⊢;split at h
  ·grind
  grind
theorem acf:Mn gE:=⟨fun h=>pK.z h,fun {bs} h t=>by unfold gE at *;rw[pK.m h t]⟩
theorem agt:Mn rCp:=by
 have a:Mn (rb (fun bs e=>aR bs e bU) fun s=>rb pp fun r=>rt1 (⟨s,r⟩:Cp)):=(pL _).rb fun _=>pK.rb fun _=>Vc _
 have d:∀bs e,(rCp bs e).2.2=0->rCp bs e=(rb (fun bs e=>aR bs e bU) fun s=>rb pp fun r=>rt1 (⟨s,r⟩:Cp)) bs e:=fun bs e h=>by
  unfold rCp at *;split at h
  ·grind
  ·rename_i c;rw[al5 c];rfl
 have i:∀bs e,((rb (fun bs e=>aR bs e bU) fun s=>rb pp fun r=>rt1 (⟨s,r⟩:Cp)) bs e).2.2=0->rCp bs e=(rb (fun bs e=>aR bs e bU) fun s=>rb pp fun r=>rt1 (⟨s,r⟩:Cp)) bs e:=fun bs e h=>by
  unfold rCp;rw[al5 (fun c=>c h)];rfl
 refine⟨fun {bs e} h=>a.z (by rw[<-d bs e h];omega),fun {bs} h t=>?_⟩;have f:=d bs 0 h;rw[f]at h;have g:=a.m h t;grind
theorem CH:∀ (n:Nat) (b:List Int),Mn (gm n b)
 |0,b=>Vc b
 | n + 1, b => by
   refine⟨fun {bs e} h=>?_,fun {bs} h t=>?_⟩
   ·by_cases f:e=0
    ·omega
    ·rw[gm,al7 f]at h;omega
   ·rw[gm,al5 NC]at h;rw[gm,gm,al5 NC,al5 NC];have c:=(CH n _).z h;have d:=(pL bU).m c t;rw[d,c];rw[c]at h;exact(CH n _).m h t
theorem WM:Mn mV:=(show Mn (rb (fun bs e=>aR bs e bU) fun s=>rb pp fun r=>rb (fun bs e=>aR bs e 1024) fun n=>rb (gm n.toNat []) fun l=>rt1 ((⟨s,r⟩:Cp),l))from (pL _).rb fun _=>pK.rb fun _=>(pL _).rb fun _=>(CH _ _).rb fun _=>Vc _)
end Go.Proofs.YtblipkgpoaonaaaGreat
namespace Go.Proofs.YtblipkgpoaonaaaGreat
open Go Go.FH Go.RowKit
def iE(n:Int):List UInt8:=br n.toNat
def lsE{α:Type}(f:α->List UInt8)(l:List α):List UInt8:=br l.length++l.flatMap f
def YF(x:Lim):List UInt8:=iE x.node++(iE x.orph++(iE x.early++(iE x.table++(iE x.retry++iE x.backoff))))
def vt(c:cU):List UInt8:=YF c.lim++(iE c.spe++(iE c.boost++((cK c.ttd).1++(c.gen.1++lsE iE c.bals))))
def rd(v:Vot):List UInt8:=fW v.has++if v.has=true then iE v.ep++v.root.1 else []
def sC(a:bp):List UInt8:=uD (oW a.a a.vals)
def rZ(n:Nod):List UInt8:=i9 n.blk++(iE (n.up+1)++iE n.status)
def pU(t:aW):List UInt8:=oK t.a t.bals
def mZ(r:Req):List UInt8:=iE r.tag++(r.block.1++(iE r.tries++iE r.due))
def QO(c:Cmd):List UInt8:=c.head.1++(c.safe.1++c.fin.1)
def ej(s:aI):List UInt8:=vt s.sto.cfg++(lsE rd s.sto.latest++(lsE iE s.sto.eqv++(dt s.sto.j++(dt s.sto.f++(lsE sC s.sto.early++(lsE i9 s.sto.orph++(lsE rZ s.sto.nodes++(iE s.sto.now++(s.sto.boost.1++(lsE pU s.sto.tabs
 ++ (lsE mZ s.reqs++(lsE mZ s.rets++(iE s.tag++(fW s.sent++((if s.sent=true then QO s.last else [])++(fW s.over++fW s.halt))))))))))))))))
def rLp{α:Type}(one:RR α):Nat->List α->RR (List α)
 |0,acc=>rt1 acc
 |n+1,acc=>fun bs e=>if e≠0 then (acc,bs,e)else rLp one n (acc++[(one bs e).1]) (one bs e).2.1 (one bs e).2.2
def rLs{α:Type}(cnt:RR Int)(one:RR α):RR (List α):=rb cnt fun n=>rLp one n.toNat []
abbrev rN:RR Int:=fun bs e=>aR bs e bU
structure Rdr where
 C:RR Int
 W:RR Int
 A:RR bp
 B:RR Blk
 T:RR aW
def Y6(W:RR Int):RR Lim:=rb W fun a=>rb W fun b=>rb W fun c=>rb W fun d=>rb W fun r=>rb rN fun k=>rt1 ⟨a,b,c,d,r,k⟩
def O9(d:Rdr):RR cU:=rb (Y6 d.W) fun lim=>rb rN fun spe=>rb rN fun boost=>rb gE fun ttd=>rb pp fun gen=>rb (rLs d.C rN) fun bals=>rt1 ⟨lim,spe,boost,ttd,gen,bals⟩
def Gg:RR Vot:=rb fE fun h=>if h=true then rb rN fun e=>rb pp fun r=>rt1 ⟨true,e,r⟩else rt1 dL
def KS(d:Rdr):RR Nod:=rb d.B fun b=>rb d.W fun u=>rb d.W fun s=>rt1 ⟨b,u-1,s⟩
def zY(d:Rdr):RR Req:=rb rN fun t=>rb pp fun b=>rb d.W fun k=>rb rN fun u=>rt1 ⟨t,b,k,u⟩
def Sf:RR Cmd:=rb pp fun h=>rb pp fun s=>rb pp fun f=>rt1 ⟨h,s,f⟩
def Es(d:Rdr):RR aI:=rb (O9 d) fun cfg=>rb (rLs d.C Gg) fun latest=>rb (rLs d.C d.W) fun eqv=>rb rCp fun j=>rb rCp fun f=>rb (rLs d.C d.A) fun early=>rb (rLs d.C d.B) fun orph=>rb (rLs d.C (KS d)) fun nodes=>rb rN fun now=>rb pp fun boost=>rb (rLs d.C d.T) fun tabs=>
 rb (rLs d.C (zY d)) fun reqs=>rb (rLs d.C (zY d)) fun rets=>rb rN fun tag=>rb fE fun sent=>rb (if sent=true then Sf else rt1 fS) fun last=>rb fE fun over=>rb fE fun halt=>
 rt1 ⟨⟨cfg,latest,eqv,j,f,early,orph,nodes,now,boost,tabs⟩,reqs,rets,tag,sent,last,over,halt⟩
structure gZ{α:Type}(r:RR α)(enc:List UInt8)(v:α):Prop where
 f:∀t,r (enc++t) 0=(v,t,0)
theorem SA{α:Type}(v:α):gZ (rt1 v) [] v:=⟨fun t=>rfl⟩
theorem gZ.rb{α β:Type}{r:RR α}{f:α->RR β}{b a:List UInt8}{v:α}{w:β}(c:gZ r b v)(d:gZ (f v) a w):gZ (rb r f) (b++a) w:=⟨fun t=>by
 unfold Go.Proofs.YtblipkgpoaonaaaGreat.rb;rw[amd,c.f];exact d.f t⟩
theorem gZ.rb1{α β:Type}{r:RR α}{f:α->β}{a:List UInt8}{v:α}(c:gZ r a v):gZ (Go.Proofs.YtblipkgpoaonaaaGreat.rb r fun x=>rt1 (f x)) a (f v):=⟨fun t=>by
 unfold Go.Proofs.YtblipkgpoaonaaaGreat.rb;rw[c.f];rfl⟩
theorem Sg{α:Type}{one:RR α}{f:α->List UInt8}:∀ (l c:List α),(∀a∈l,gZ one (f a) a)->gZ (rLp one l.length c) (l.flatMap f) (c++l)
 | [],c,_=>⟨fun t=>by rw[amo];rfl⟩
 | a :: l, c, h => ⟨fun t => by
   have i:=(h a akj).f (l.flatMap f++t);show rLp one (l.length+1) c ((f a++l.flatMap f)++t) 0=_
   rw[show rLp one (l.length+1) c=fun bs e=>if e≠0 then (c,bs,e)else rLp one l.length (c++[(one bs e).1]) (one bs e).2.1 (one bs e).2.2 from rfl];have:=(Sg l (c++[a]) fun b g=>h b (amM _ g)).f t;grind⟩
theorem kR{α:Type}{c:RR Int}{one:RR α}{f:α->List UInt8}{l:List α}(d:gZ c (br l.length) l.length)(h:∀a∈l,gZ one (f a) a):gZ (rLs c one) (lsE f l) l:=by
 have:=Sg (one:=one) l [] h;exact d.rb NF
theorem oE{n:Int}(h:U64 n):gZ rN (iE n) n:=⟨CJ h⟩
theorem zX(r:Rt):gZ pp r.1 r:=⟨Gz r⟩
theorem ab8{c:Cp}(h:U64 c.ep):gZ rCp (dt c) c:=⟨xM h⟩
theorem ID(x:Bool):gZ fE (fW x) x:=⟨(IE x).full⟩
theorem agu{a:Wd}(ha:∀n∈a.1,0<=n/\n<18446744073709551616):gZ gE (cK a).1 a:=⟨(Aa a ha).full⟩
def Xq(r:RR Int)(m:Int):Prop:=∀n,0<=n->n<=m->gZ r (iE n) n
theorem acI{m:Int}(hm:m<18446744073709551616):Xq (fun bs e=>aR bs e m) m:=fun n h0 h1=>⟨GA h0 h1 hm⟩
abbrev WdU(a:Wd):Prop:=∀n∈a.1,0<=n/\n<18446744073709551616
abbrev fR(n:Int):Prop:=0<=n/\n<=1099511627776
structure Dh(b:Blk):Prop where
 u:NQ b
 d:WdU b.diff
 p:WdU b.pdiff
structure AB(s:aI):Prop where
 l1:fR s.sto.cfg.lim.node
 l2:fR s.sto.cfg.lim.orph
 l3:fR s.sto.cfg.lim.early
 l4:fR s.sto.cfg.lim.table
 l5:fR s.sto.cfg.lim.retry
 l6:U64 s.sto.cfg.lim.backoff
 c1:U64 s.sto.cfg.spe
 c2:U64 s.sto.cfg.boost
 c3:WdU s.sto.cfg.ttd
 c4:∀n∈s.sto.cfg.bals,U64 n
 v1:∀v∈s.sto.latest,U64 v.ep/\(v.has=false->v=dL)
 v2:∀n∈s.sto.eqv,fR n
 j:U64 s.sto.j.ep
 f:U64 s.sto.f.ep
 a:∀a∈s.sto.early,U64 a.slot/\U64 a.target.ep/\cE a.vals 1024=0
 o:∀b∈s.sto.orph,Dh b
 n:∀n∈s.sto.nodes,Dh n.blk/\fR (n.up+1)/\fR n.status
 w:U64 s.sto.now
 t:∀t∈s.sto.tabs,U64 t.cp.ep/\t.bals.length<=1024/\∀n∈t.bals,U64 n
 q:∀r∈s.reqs,U64 r.tag/\fR r.tries/\U64 r.due
 y:∀r∈s.rets,U64 r.tag/\fR r.tries/\U64 r.due
 g:U64 s.tag
 m:s.sent=false->s.last=fS
structure afO(s:aI):Prop extends AB s where
 len:(ej s).length<=1048576
theorem Re{α:Type}{f:α->List UInt8}(h:∀a,0<(f a).length):∀l:List α,l.length<=(l.flatMap f).length
 | []=>amb _
 | a :: l => by
   have:=Re h l;grind
theorem fG{α:Type}{f:α->List UInt8}(h:∀a,0<(f a).length)(l:List α):l.length<=(lsE f l).length:=by
 unfold lsE;have:=Re h l;grind
structure adn(d:Rdr):Prop where
 C:Xq d.C 1048576
 W:Xq d.W 1099511627776
 A:∀a:bp,U64 a.slot->U64 a.target.ep->cE a.vals 1024=0->gZ d.A (sC a) a
 B:∀b,Dh b->gZ d.B (i9 b) b
 T:∀t:aW,U64 t.cp.ep->t.bals.length<=1024->(∀n∈t.bals,U64 n)->gZ d.T (pU t) t
theorem DU(n:Int):0<(iE n).length:=sp _
theorem H3(b:Blk):0<(i9 b).length:=by
 unfold i9;grind
theorem Tu(v:Vot):0<(rd v).length:=by
 unfold rd fW;grind
theorem QD(a:bp):0<(sC a).length:=by
 unfold sC uD;have:=sp (oW a.a a.vals).length;grind
theorem RO(n:Nod):0<(rZ n).length:=by
 have:=H3 n.blk;unfold rZ;grind
theorem Tw(t:aW):0<(pU t).length:=by
 unfold pU oK;have:=sp t.bals.length;grind
theorem CN(r:Req):0<(mZ r).length:=by
 unfold mZ;grind
theorem Zc{v:Vot}(h:U64 v.ep/\(v.has=false->v=dL)):gZ Gg (rd v) v:=by
 obtain⟨c,d⟩:=h;obtain⟨e,f,r⟩:=v;unfold Gg rd;cases e with
 | true =>
   refine(ID true).rb ?_;rw[al7 rfl,al7 rfl];exact(oE c).rb ((zX r).rb1)
 | false =>
   refine(ID false).rb ?_;rw[d rfl];exact SA _
theorem Y8{d:Rdr}(hd:adn d){s:aI}(h:afO s):gZ (Es d) (ej s) s:=by
 have hl:=h.len
 have hc:∀n:Nat,n<=1048576->gZ d.C (br n) n:=fun n hn=>by
  have:=hd.C n NB NB;unfold iE at this;rwa [amw]at this
 unfold ej at hl;simp only[akC,vt]at hl;have b1:=fG DU s.sto.cfg.bals;have b2:=fG Tu s.sto.latest;have b3:=fG DU s.sto.eqv;have b4:=fG QD s.sto.early;have b5:=fG H3 s.sto.orph;have b6:=fG RO s.sto.nodes;have b7:=fG Tw s.sto.tabs;have b8:=fG CN s.reqs;have b9:=fG CN s.rets
 have hlim:gZ (Y6 d.W) (YF s.sto.cfg.lim) s.sto.cfg.lim:=by
  unfold Y6 YF;refine(hd.W _ h.l1.1 h.l1.2).rb ?_;refine(hd.W _ h.l2.1 h.l2.2).rb ?_;refine(hd.W _ h.l3.1 h.l3.2).rb ?_;refine(hd.W _ h.l4.1 h.l4.2).rb ?_;refine(hd.W _ h.l5.1 h.l5.2).rb ?_;exact(oE h.l6).rb1
 have hcfg:gZ (O9 d) (vt s.sto.cfg) s.sto.cfg:=by
  unfold O9 vt;refine hlim.rb ?_;refine(oE h.c1).rb ?_;refine(oE h.c2).rb ?_;refine(agu h.c3).rb ?_;refine(zX _).rb ?_;have hb:=kR (f:=iE) (hc s.sto.cfg.bals.length NB) fun n hn=>oE (h.c4 n hn)
  exact hb.rb1
 have hreq:∀r:Req,U64 r.tag/\fR r.tries/\U64 r.due->gZ (zY d) (mZ r) r:=fun r ⟨h1,h2,h3⟩=>by
  unfold zY mZ;refine(oE h1).rb ?_;refine(zX _).rb ?_;refine(hd.W _ h2.1 h2.2).rb ?_;exact(oE h3).rb1
 have hnod:∀n:Nod,Dh n.blk/\fR (n.up+1)/\fR n.status->gZ (KS d) (rZ n) n:=fun n ⟨h1,h2,h3⟩=>by
  unfold KS rZ;refine(hd.B _ h1).rb ?_;refine(hd.W _ h2.1 h2.2).rb ?_;have:=(hd.W _ h3.1 h3.2).rb1 (f:=fun s=>(⟨n.blk,n.up+1-1,s⟩:Nod));rw[show n.up+1-1=n.up by omega]at this ⊢;exact this
 have hlast:gZ (if s.sent=true then Sf else rt1 fS) (if s.sent=true then QO s.last else []) s.last:=by
  by_cases hs:s.sent=true
  ·rw[al7 hs,al7 hs];unfold Sf QO;refine(zX _).rb ?_;refine(zX _).rb ?_;exact(zX _).rb1
  ·rw[al5 hs,al5 hs,h.m (by simpa using hs)];exact SA _
 have k1:=kR (hc _ NB) fun v hv=>Zc (h.v1 v hv)
 have k2:=kR (f:=iE) (hc s.sto.eqv.length NB) fun n hn=>hd.W _ (h.v2 n hn).1 (h.v2 n hn).2
 have k3:=kR (hc _ NB) fun a ha=>hd.A a (h.a a ha).1 (h.a a ha).2.1 (h.a a ha).2.2
 have k4:=kR (hc _ NB) fun b hb=>hd.B b (h.o b hb)
 have k5:=kR (hc _ NB) fun n hn=>hnod n (h.n n hn)
 have k6:=kR (hc _ NB) fun t ht=>hd.T t (h.t t ht).1 (h.t t ht).2.1 (h.t t ht).2.2
 have k7:=kR (hc _ NB) fun r hr=>hreq r (h.q r hr)
 have k8:=kR (hc _ NB) fun r hr=>hreq r (h.y r hr)
 unfold Es ej;refine hcfg.rb ?_;refine k1.rb ?_;refine k2.rb ?_;refine(ab8 h.j).rb ?_;refine(ab8 h.f).rb ?_;refine k3.rb ?_;refine k4.rb ?_;refine k5.rb ?_;refine(oE h.w).rb ?_;refine(zX _).rb ?_;refine k6.rb ?_;refine k7.rb ?_;refine k8.rb ?_;refine(oE h.g).rb ?_;refine(ID _).rb ?_;refine hlast.rb ?_;refine(ID _).rb ?_;have e:=(ID s.halt).rb1 (f:=fun halt=>(⟨⟨s.sto.cfg,s.sto.latest,s.sto.eqv,s.sto.j,s.sto.f,s.sto.early,s.sto.orph,s.sto.nodes,s.sto.now,s.sto.boost,s.sto.tabs⟩,s.reqs,s.rets,s.tag,s.sent,s.last,s.over,halt⟩:aI));exact e
def mtg(T:List Int):List (List AV):=mns .u64 (T.map fun n=>(n,true))
theorem RJ(n:Int)(T:List Int):lT none (.int .u64 n) (mtg T)=some (T.findIdx? fun x=>x==n):=by
 unfold mtg;rw[In,List.findIdx?_map];rfl
theorem agk{n:Int}{T:List Int}(h:n∉T):lT none (.int .u64 n) (mtg T)=some none:=by
 rw[RJ,List.findIdx?_eq_none_iff.2 fun x hx=>by rw[ajL];rintro rfl;exact h hx]
theorem ad2{n:Int}{T:List Int}(h:n∈T):∃j,lT none (.int .u64 n) (mtg T)=some (some j)/\((mtg T).getD j []).getD 1 .dead=.bool true:=by
 rw[RJ];cases hf:T.findIdx? fun x=>x==n with
 | none =>
   rw[List.findIdx?_eq_none_iff]at hf;have:=hf n h;simp at this
 | some j =>
   obtain⟨hj,_,_⟩:=ak4.1 hf;exact⟨j,rfl,by unfold mtg;rw[ad0 _ _ _ (by simpa using hj)];simp⟩
theorem abH(T:List Int)(n:Int):mtg T++[[.int .u64 n,.bool true]]=mtg (T++[n]):=by simp[mtg,mns]
theorem Qt(T:List Int):fy (mtg T):=GN _ _
theorem Zk(ρ:Nat->Nat)(T:List Int):bH ρ (mtg T)=mtg T:=(Qt T).ren ρ
theorem abd(σ:St)(zs:List Nat)(T:List Int):dh σ zs (mtg T)=mtg T:=(Qt T).fz σ zs
attribute [go_sem] Zk abd abH
def Z6(s:aI)(r:Req)(least:Int):Prop:=1<=r.tag/\r.tag<s.tag/\least<=r.tries/\r.tries<=1099511627776/\0<=aj s.sto.nodes r.block
def okQ(s:aI)(k:Nat):Prop:=(k=0\/(bm s.reqs (k-1)).tag<(bm s.reqs k).tag)/\(bm s.reqs k).due=0/\Z6 s (bm s.reqs k) 0/\(bm s.reqs k).tag∉(s.reqs.take k).map (·.tag)
def okY(s:aI)(k:Nat):Prop:=(k=0\/gC (bm s.rets (k-1)) (bm s.rets k)=true)/\1<=(bm s.rets k).due/\Z6 s (bm s.rets k) 1/\(bm s.rets k).tag∉s.reqs.map (·.tag)++(s.rets.take k).map (·.tag)
instance (s:aI) (r:Req) (n:Int):Decidable (Z6 s r n):=by unfold Z6;infer_instance
instance (s:aI) (k:Nat):Decidable (okQ s k):=by unfold okQ;infer_instance
instance (s:aI) (k:Nat):Decidable (okY s k):=by unfold okY;infer_instance
def pN(s:aI):Prop:=(∀k,k<s.reqs.length->okQ s k)/\∀k,k<s.rets.length->okY s k
instance (s:aI):Decidable (pN s):=by unfold pN;infer_instance
def LP(s:aI):Int:=if s.tag<1\/s.sto.cfg.lim.retry<s.rets.length\/(s.sent=false/\s.last≠fS)then 2 else if pN s then 0 else 2
def valA(s:aI):Int:=if oL s.sto≠0 then oL s.sto else LP s
def zR(s:aI)(r:Req)(least:Int)(T:List Int):Bool:=decide (1<=r.tag/\r.tag<s.tag/\r.tag∉T/\least<=r.tries/\r.tries<=1099511627776)
theorem yd(s:aI)(hn:s.sto.nodes.length<=2097152)(r:Req)(least:Int)(T:List Int):
 ay Tryz.prog 169 [.agg (aV s.a),.agg (aP r),.int .i64 least,.mp 0] [.map (mtg T)] (.bool (zR s r least T&&decide (0<=aj s.sto.nodes r.block))) [.map (mtg (if zR s r least T=true then T++[r.tag]else T))]:=by
 refine dS 9 ?_;have c1:=zU s.sto.nodes r.block hn;generalize aj s.sto.nodes r.block=D at *;unfold zR;by_cases q1:r.tag<1
 ·have e1:=au q1;rw[aA (p:=(1<=r.tag/\_)) (fun h=>NB),ajq,al5 NE];refine aM e1 ?_;exact ahY [] [0]
 have e1:=aA q1;by_cases q2:s.tag<=r.tag
 ·have e2:decide (r.tag ≥ s.tag)=true:=au q2;rw[aA (p:=(1<=r.tag/\_)) (fun h=>NB),ajq,al5 NE];refine cH e1 e2 ?_;exact ahY [] [0]
 have e2:decide (r.tag ≥ s.tag)=false:=aA q2;by_cases q3:r.tag∈T
 ·obtain⟨j,j1,j2⟩:=ad2 q3;rw[aA (p:=(1<=r.tag/\_)) (fun h=>h.2.2.1 q3),ajq,al5 NE];refine nC e1 e2 j1 j2 ?_;exact ahY [] [0]
 have j1:=agk q3;by_cases q4:r.tries<least
 ·have e4:=au q4;rw[aA (p:=(1<=r.tag/\_)) (fun h=>NB),ajq,al5 NE];repeat(first|refine bY ?_|simp only[go_sem,e1,e2,j1,e4])
  refine agF ?_;exact ahY [] [0]
 have e4:=aA q4;by_cases q5:1099511627776<r.tries
 ·have e5:decide (r.tries > 1099511627776)=true:=au q5;have e5':decide (1099511627776<r.tries)=true:=au q5;rw[aA (p:=(1<=r.tag/\_)) (fun h=>NB),ajq,al5 NE];repeat(first|refine bY ?_|simp only[go_sem,e1,e2,j1,e4,e5,e5'])
  refine agF ?_;exact ahY [] [0]
 have e5:decide (r.tries > 1099511627776)=false:=aA q5;have e5':decide (1099511627776<r.tries)=false:=aA q5;rw[au (p:=(1<=r.tag/\_)) ⟨NB,NB,q3,NB,NB⟩,am2,al7 rfl];repeat(first|refine bY ?_|simp only[go_sem,e1,e2,j1,e4,e5,e5'])
 refine aB ?_;refine ah j1 ?_;refine ahG c1 ?_;exact ahY [] [0]
theorem abZ(a b:Req):decide (orI [xX a.due b.due,xX a.tag b.tag] ≥ 0)=!gC a b:=by
 unfold gC;simp only[orI,xX];rcases Int.lt_trichotomy a.due b.due with h|h|h
 ·simp[h]
 ·rcases Int.lt_trichotomy a.tag b.tag with g|g|g
  ·simp[h,g,alW]
  ·simp[h,g,alW]
  ·simp[h,g,alW,alY.2 (ala g)]
 ·simp[h,alY.2 (ala h),show ¬a.due=b.due by omega]
theorem ab0(a b:Req):PC Tryz.prog 170 [.agg (aP a),.agg (aP b)] (.int .i64 (orI [xX a.due b.due,xX a.tag b.tag])):=by
 refine cD 5 ?_;have c1:=EL a.due b.due;have c2:=EL a.tag b.tag;have c3:=WD [xX a.due b.due,xX a.tag b.tag] true NC;refine gon ?_;refine aK (c1) ?_;refine gon ?_;refine aK (c2) ?_;refine gon ?_;refine aK (c3) ?_;refine gon ?_;exact ai
theorem YZ (s : aI) (hr : Qw s.sto) (hq : s.reqs.length <= 2097152) (hy : s.rets.length <= 2097152) (R : Int) (hv1 : pN s -> R = 0) (hv2 : ¬ pN s -> R = 2) : Tri Tryz.prog 112 0 (cZ.tl 3) (PQ [.tmp 2] (.int .i64 R)) ⟨82, [.dead, .ptr 0 0, .int .i64 0, .int .i64 0, .dead, .dead, .dead, .dead, .dead, .dead, .dead, .dead, .dead, .dead, .dead, .dead, .dead, .dead, .dead, .dead, .dead, .dead, .dead, .dead, .dead, .dead, .dead, .dead, .dead, .dead, .dead, .dead, .dead, .dead, .dead, .dead, .dead, .dead, .dead, .dead, .dead, .dead, .dead, .dead, .dead, .dead, .dead, .dead, .dead, .dead, .dead, .dead, .dead, .dead, .dead, .dead, .dead, .dead, .dead, .dead, .dead, .dead, .dead, .dead, .dead, .dead, .dead, .dead, .dead, .dead, .dead, .dead, .dead, .dead, .dead, .dead, .dead, .dead, .dead, .dead, .dead, .dead], []⟩ [.var (aV s.a)] := by
 unfold cZ;refine bd ?_;simp only[ab.tl];refine gon ?_;refine az (fun i:Nat=>[(44,.int .i64 i)]) (fun i=>[.var (aV s.a),.map (mtg ((s.reqs.take i).map (·.tag)))]) (fun i=>s.reqs.length-i) (fun i=>i<=s.reqs.length/\∀k,k<i->okQ s k) 0 ⟨amc _,fun k hk=>absurd hk (aju k)⟩ ?_ ?_
 ·rw[akk,amR,show mtg []=[]from rfl];exact ais [] [0,1]
 rintro i ⟨hi,hk0⟩;refine dp ?_;by_cases h1:i<s.reqs.length
 ·have e1 := inT h1
  have hw:=af h1 NB;have hgd:(rows aP s.reqs).getD i []=aP (bm s.reqs i):=aS (f:=aP) gT h1
  have hps:(s.reqs.take (i+1)).map (·.tag)=(s.reqs.take i).map (·.tag)++[(bm s.reqs i).tag]:=by
   rw[amY,al6 h1,amN];unfold bm;rw[alt,al6 h1];rfl
  have hR:¬okQ s i->R=2:=fun hn=>hv2 fun h=>hn (h.1 i h1)
  obtain⟨C,hC⟩:∃C:Prop,C=okQ s i:=⟨_,rfl⟩
  have hI:okQ s i->C:=by rw[hC];exact id
  unfold okQ at hR hI;have c2:=yd s hr.bn (bm s.reqs i) 0 ((s.reqs.take i).map (·.tag));by_cases hz0:i=0
  ·have e0:decide ((i:Int) > 0)=false:=aA NB
   have e0':decide (0<(i:Int))=false:=aA NB;have hz:i=0\/(bm s.reqs (i-1)).tag<(bm s.reqs i).tag:=.inl hz0;generalize hT:(s.reqs.take i).map (·.tag)=T at *;generalize hr0:bm s.reqs i=r at *;refine bw e1 ?_;by_cases q2:r.due=0
   case neg=>
    have e2:(r.due != 0)=true:=by simp[q2]
    have:=hR fun h=>q2 h.2.1
    subst this;refine eU e1 e0 e0' hgd e2 ?_;refine agF ?_;exact ai
   have e2:(r.due != 0)=false:=by simp[q2]
   by_cases q3:(zR s r 0 T&&decide (0<=aj s.sto.nodes r.block))=true
   ·have q4:=q3
    rw[amk]at q4;have q5:=q4.1;unfold zR at q5;rw[amg]at q4 q5;rw[q3,al7 q4.1]at c2;refine eU e1 e0 e0' hgd e2 ?_;refine dce [1] c2 ?_;refine dQ ?_;refine ah hw ?_;refine⟨i+1,⟨h1,fun k hk=>?_⟩,NB,?_⟩
    ·by_cases hki:k=i
     ·subst hki;rw[<-hC];exact hI ⟨hz,q2,⟨q5.1,q5.2.1,q5.2.2.2.1,q5.2.2.2.2,q4.2⟩,q5.2.2.1⟩
     ·exact hk0 k NB
    ·rw[hps];exact ais [] [0,1]
   ·have:=hR fun h=>q3 (by
     obtain⟨_,_,⟨u1,u2,u3,u4,u5⟩,u6⟩:=h;rw[amk,amg];refine⟨?_,u5⟩;unfold zR;exact au ⟨u1,u2,u6,u3,u4⟩)
    subst this;rw[amZ]at q3;rw[q3]at c2;refine eU e1 e0 e0' hgd e2 ?_;refine dce [1] c2 ?_;refine aX ?_;exact ai
  have e0:decide ((i:Int) > 0)=true:=au NB;have e0':decide (0<(i:Int))=true:=au NB;have hw1:IntKind.i64.wrap ((i:Int)-1)=((i-1:Nat):Int):=by rw[aL NB NB];omega
  have hgp:(rows aP s.reqs).getD (i-1) []=aP (bm s.reqs (i-1)):=aS (f:=aP) gT NB;have hlt:i-1<s.reqs.length:=NB
  have hltI:((i-1:Nat):Int)<((s.reqs.length:Nat):Int):=NB
  generalize hp0:bm s.reqs (i-1)=p at *;generalize hT:(s.reqs.take i).map (·.tag)=T at *;generalize hr0:bm s.reqs i=r at *;refine bw e1 ?_;by_cases q1:p.tag<r.tag
  case neg=>
   have e3:decide (r.tag<=p.tag)=true:=au NB;have:=hR fun h=>q1 (h.1.resolve_left hz0)
   subst this;refine VU e1 e0 e0' hgd hw1 hgp hlt hltI e3 ?_;refine agF ?_;exact ai
  have e3:decide (r.tag<=p.tag)=false:=aA NB;have hz:i=0\/p.tag<r.tag:=.inr q1;by_cases q2:r.due=0
  case neg=>
   have e2:(r.due != 0)=true:=by simp[q2]
   have:=hR fun h=>q2 h.2.1
   subst this;refine Ul e1 e0 e0' hgd hw1 hgp hlt hltI e3 e2 ?_;refine agF ?_;exact ai
  have e2:(r.due != 0)=false:=by simp[q2]
  by_cases q3:(zR s r 0 T&&decide (0<=aj s.sto.nodes r.block))=true
  ·have q4:=q3
   rw[amk]at q4;have q5:=q4.1;unfold zR at q5;rw[amg]at q4 q5;rw[q3,al7 q4.1]at c2;refine Ul e1 e0 e0' hgd hw1 hgp hlt hltI e3 e2 ?_;refine dce [1] c2 ?_;refine dQ ?_;refine ah hw ?_;refine⟨i+1,⟨h1,fun k hk=>?_⟩,NB,?_⟩
   ·by_cases hki:k=i
    ·subst hki;rw[<-hC];exact hI ⟨hz,q2,⟨q5.1,q5.2.1,q5.2.2.2.1,q5.2.2.2.2,q4.2⟩,q5.2.2.1⟩
    ·exact hk0 k NB
   ·rw[hps];exact ais [] [0,1]
  ·have:=hR fun h=>q3 (by
    obtain⟨_,_,⟨u1,u2,u3,u4,u5⟩,u6⟩:=h;rw[amk,amg];refine⟨?_,u5⟩;unfold zR;exact au ⟨u1,u2,u6,u3,u4⟩)
   subst this;rw[amZ]at q3;rw[q3]at c2;refine Ul e1 e0 e0' hgd hw1 hgp hlt hltI e3 e2 ?_;refine dce [1] c2 ?_;refine aX ?_;exact ai
 ·obtain rfl:i=s.reqs.length:=NB
  have e1:=inF s.reqs.length;have hQ:=hk0;rw[ajp];refine aF e1 ?_;refine az (fun i:Nat=>[(81,.int .i64 i)]) (fun i=>[.var (aV s.a),.map (mtg (s.reqs.map (·.tag)++(s.rets.take i).map (·.tag)))]) (fun i=>s.rets.length-i) (fun i=>i<=s.rets.length/\∀k,k<i->okY s k) 0 ⟨amc _,fun k hk=>absurd hk (aju k)⟩ ?_ ?_
  ·rw[akk,amR,amo];exact ais [] [0,1]
  rintro i ⟨hi,hk0⟩;refine dp ?_;by_cases h1:i<s.rets.length
  ·have e1 := inT h1
   have hw:=af h1 NB;have hgd:(rows aP s.rets).getD i []=aP (bm s.rets i):=aS (f:=aP) gT h1
   have hps:s.reqs.map (·.tag)++(s.rets.take (i+1)).map (·.tag)=s.reqs.map (·.tag)++(s.rets.take i).map (·.tag)++[(bm s.rets i).tag]:=by
    rw[amY,al6 h1,amN];unfold bm;rw[alt,al6 h1];rw[amd];rfl
   have hR:¬okY s i->R=2:=fun hn=>hv2 fun h=>hn (h.2 i h1)
   obtain⟨C,hC⟩:∃C:Prop,C=okY s i:=⟨_,rfl⟩
   have hI:okY s i->C:=by rw[hC];exact id
   unfold okY at hR hI;have c2:=yd s hr.bn (bm s.rets i) 1 (s.reqs.map (·.tag)++(s.rets.take i).map (·.tag));by_cases hz0:i=0
   ·have e0:decide ((i:Int) > 0)=false:=aA NB
    have e0':decide (0<(i:Int))=false:=aA NB;have hz:i=0\/gC (bm s.rets (i-1)) (bm s.rets i)=true:=.inl hz0;generalize hT:s.reqs.map (·.tag)++(s.rets.take i).map (·.tag)=T at *;generalize hr0:bm s.rets i=r at *;refine bw e1 ?_;by_cases q2:r.due<1
    ·have e2:=au q2;have:=hR fun h=>absurd h.2.1 NB
     subst this;refine eU e1 e0 e0' hgd e2 ?_;refine agF ?_;exact ai
    have e2:=aA q2;by_cases q3:(zR s r 1 T&&decide (0<=aj s.sto.nodes r.block))=true
    ·have q4:=q3
     rw[amk]at q4;have q5:=q4.1;unfold zR at q5;rw[amg]at q4 q5;rw[q3,al7 q4.1]at c2;refine eU e1 e0 e0' hgd e2 ?_;refine dce [1] c2 ?_;refine dQ ?_;refine ah hw ?_;refine⟨i+1,⟨h1,fun k hk=>?_⟩,NB,?_⟩
     ·by_cases hki:k=i
      ·subst hki;rw[<-hC];exact hI ⟨hz,NB,⟨q5.1,q5.2.1,q5.2.2.2.1,q5.2.2.2.2,q4.2⟩,q5.2.2.1⟩
      ·exact hk0 k NB
     ·rw[hps];exact ais [] [0,1]
    ·have:=hR fun h=>q3 (by
      obtain⟨_,_,⟨u1,u2,u3,u4,u5⟩,u6⟩:=h;rw[amk,amg];refine⟨?_,u5⟩;unfold zR;exact au ⟨u1,u2,u6,u3,u4⟩)
     subst this;rw[amZ]at q3;rw[q3]at c2;refine eU e1 e0 e0' hgd e2 ?_;refine dce [1] c2 ?_;refine aX ?_;exact ai
   have e0:decide ((i:Int) > 0)=true:=au NB;have e0':decide (0<(i:Int))=true:=au NB;have hw1:IntKind.i64.wrap ((i:Int)-1)=((i-1:Nat):Int):=by rw[aL NB NB];omega
   have hgp:(rows aP s.rets).getD (i-1) []=aP (bm s.rets (i-1)):=aS (f:=aP) gT NB;have hlt:i-1<s.rets.length:=NB
   have hltI:((i-1:Nat):Int)<((s.rets.length:Nat):Int):=NB
   have c3:=ab0 (bm s.rets (i-1)) (bm s.rets i);generalize hp0:bm s.rets (i-1)=p at *;generalize hT:s.reqs.map (·.tag)++(s.rets.take i).map (·.tag)=T at *;generalize hr0:bm s.rets i=r at *;refine bw e1 ?_;by_cases q1:gC p r=true
   case neg=>
    have e3:=abZ p r;rw[amZ]at q1;rw[q1]at e3;have:=hR fun h=>absurd (h.1.resolve_left hz0) (by rw[q1];decide)
    subst this;generalize orI [xX p.due r.due,xX p.tag r.tag]=O at *;refine mP e1 e0 e0' hgd hw1 hgp hlt hltI ?_;refine aK (c3) ?_;refine aM e3 ?_;exact ai
   have e3:=abZ p r;rw[q1]at e3;have hz:i=0\/gC p r=true:=.inr q1;generalize orI [xX p.due r.due,xX p.tag r.tag]=O at *;by_cases q2:r.due<1
   ·have e2:=au q2;have:=hR fun h=>absurd h.2.1 NB
    subst this;refine mP e1 e0 e0' hgd hw1 hgp hlt hltI ?_;refine aK (c3) ?_;refine cH e3 e2 ?_;exact ai
   have e2:=aA q2;by_cases q3:(zR s r 1 T&&decide (0<=aj s.sto.nodes r.block))=true
   ·have q4:=q3
    rw[amk]at q4;have q5:=q4.1;unfold zR at q5;rw[amg]at q4 q5;rw[q3,al7 q4.1]at c2;refine mP e1 e0 e0' hgd hw1 hgp hlt hltI ?_;refine aK (c3) ?_;refine aZ e3 e2 ?_;refine dce [1] c2 ?_;refine dQ ?_;refine ah hw ?_;refine⟨i+1,⟨h1,fun k hk=>?_⟩,NB,?_⟩
    ·by_cases hki:k=i
     ·subst hki;rw[<-hC];exact hI ⟨hz,NB,⟨q5.1,q5.2.1,q5.2.2.2.1,q5.2.2.2.2,q4.2⟩,q5.2.2.1⟩
     ·exact hk0 k NB
    ·rw[hps];exact ais [] [0,1]
   ·have:=hR fun h=>q3 (by
     obtain⟨_,_,⟨u1,u2,u3,u4,u5⟩,u6⟩:=h;rw[amk,amg];refine⟨?_,u5⟩;unfold zR;exact au ⟨u1,u2,u6,u3,u4⟩)
    subst this;rw[amZ]at q3;rw[q3]at c2;refine mP e1 e0 e0' hgd hw1 hgp hlt hltI ?_;refine aK (c3) ?_;refine aZ e3 e2 ?_;refine dce [1] c2 ?_;refine aX ?_;exact ai
  ·obtain rfl:i=s.rets.length:=NB
   have e1:=inF s.rets.length;have:=hv1 ⟨hQ,hk0⟩;subst this;refine aF e1 ?_;exact ai
theorem UX(s:aI)(hr:Qw s.sto)(hq:s.reqs.length<=2097152)(hy:s.rets.length<=2097152):PC Tryz.prog 73 [.agg (aV s.a)] (.int .i64 (valA s)):=by
 have hend:=YZ s hr hq hy;refine pfn 82 BE ?_;have hc:cZ=.seq cZ.hd (.seq (cZ.tl 1).hd (.seq (cZ.tl 2).hd (cZ.tl 3))):=rfl;rw[hc];clear hc;generalize cZ.tl 3=cT at *;unfold cZ;refine bd ?_;simp only[ab.tl,ab.hd];have c1:=YY s.sto hr;unfold valA;generalize oL s.sto=V at *;by_cases q1:V=0
 case neg=>
  have e1:(V != 0)=true:=by simp[q1]
  rw[al7 q1];refine gon ?_;refine am c1 ?_;refine aM e1 ?_;exact ai
 subst q1;rw[al5 NE];refine gon ?_;refine am c1 ?_;refine dQ ?_;obtain⟨R,hR0⟩:∃R,R=LP s:=⟨_,rfl⟩
 rw[<-hR0];unfold LP at hR0;by_cases q2:s.tag<1
 ·have e2:=au q2;rw[al7 (.inl q2)]at hR0;subst hR0;refine aM e2 ?_;exact ai
 have e2:=aA q2;by_cases q3:s.sto.cfg.lim.retry<s.rets.length
 ·have e3:decide (((s.rets.length:Nat):Int) > s.sto.cfg.lim.retry)=true:=au q3;rw[al7 (.inr (.inl q3))]at hR0;subst hR0;refine cH e2 e3 ?_;exact ai
 have e3:decide (((s.rets.length:Nat):Int) > s.sto.cfg.lim.retry)=false:=aA q3;by_cases q4:s.sent=false/\s.last≠fS
 ·have e4:=q4.1;have e5:decide (s.last=(⟨rt0,rt0,rt0⟩:Cmd))=false:=aA q4.2;rw[al7 (.inr (.inr q4))]at hR0;subst hR0;repeat(first|refine bY ?_|simp only[go_sem,e2,e3,e4,e5])
  refine agF ?_;exact ai
 have hn:¬ (s.tag<1\/s.sto.cfg.lim.retry<s.rets.length\/(s.sent=false/\s.last≠fS)):=fun h=>h.elim q2 fun h=>h.elim q3 q4
 rw[al5 hn]at hR0;have hv1:pN s->R=0:=fun h=>by rw[hR0,al7 h]
 have hv2:¬pN s->R=2:=fun h=>by rw[hR0,al5 h]
 clear hR0;have hend:=hend R hv1 hv2;by_cases q5:s.sent=true
 ·refine wg e2 e3 q5 ?_;refine eg ?_ hend;exact ais [] [0]
 ·have e4:s.sent=false:=by simpa using q5
  have e5:decide (s.last=(⟨rt0,rt0,rt0⟩:Cmd))=true:=au (alC fun h=>q4 ⟨e4,h⟩);repeat(first|refine bY ?_|simp only[go_sem,e2,e3,e4,e5])
  refine agE ?_;refine eg ?_ hend;exact ais [] [0]
end Go.Proofs.YtblipkgpoaonaaaGreat
