/- Joined. -/
import Derived.Test.YtflhnmleodkjiaaGreatP4
import Derived.Test.YtflhnmleodkjiaaGreatU2
import Derived.Test.YtflhnmleodkjiaaGreatP1
set_option linter.unusedVariables false
set_option linter.unusedSimpArgs false
namespace Go.Proofs.YtflhnmleodkjiaaGreat
open Go Go.FH Go.RowKit
theorem pm(s:aI):(io s).1.sto=s.sto:=by unfold io;grind
theorem StV.new{c:cU}(h:ib c=0):StV (kO c):=by
 have hp:=Iq h
 have hz:ib c=0/\(1:Int)<=c.lim.node/\0<=c.lim.orph/\0<=c.lim.early/\(1:Int)<=c.lim.table/\c.gen≠rt0/\gh ⟨⟨0,c.gen⟩,c.bals⟩ c.bals.length=0:=by
  refine⟨h,?_⟩;unfold ib at h;by_cases q1:c.spe<1
  ·omega
  rw[al5 q1]at h;by_cases q2:64<c.spe
  ·omega
  rw[al5 q2]at h;by_cases q3:100<c.boost
  ·omega
  rw[al5 q3]at h;by_cases q4:1024<(c.bals.length:Int)
  ·omega
  rw[al5 q4]at h;by_cases q5:wit c.lim.node 1 4096=false
  ·grind
  rw[al5 q5]at h;by_cases q6:wit c.lim.orph 0 64=false
  ·grind
  rw[al5 q6]at h;by_cases q7:wit c.lim.early 0 256=false
  ·grind
  rw[al5 q7]at h;by_cases q8:wit c.lim.table 1 64=false
  ·grind
  rw[al5 q8]at h;by_cases q9:wit c.lim.retry 0 256=false
  ·grind
  rw[al5 q9]at h;by_cases q10:c.lim.backoff<1
  ·omega
  rw[al5 q10]at h;by_cases q11:1048576<c.lim.backoff
  ·omega
  rw[al5 q11]at h;by_cases q12:c.gen=rt0
  ·grind
  rw[al5 q12]at h;unfold wit at q5 q6 q7 q8;grind
 obtain⟨_,n1,n2,n3,n4,hg,hv⟩:=hz;have one:∀i,i<(kO c).nodes.length->i=0:=fun i hi=>by have:i<1:=hi;omega
 have hfind:aj (kO c).nodes c.gen=0:=by
  have h1:=lH (t:=(kO c).nodes) (k:=0) (r:=c.gen) alj rfl;obtain⟨h2,_⟩:=dO h1;have:=one _ h2;omega
 have hst:dk 0 c.spe=(0,0):=by
  unfold dk vy;rw[au hp.1,au hp.2];show Ip 0 c.spe=_
  unfold Ip;rw[al5]
  ·rw[Int.zero_mul];rfl
  ·rintro⟨h1,h2⟩;have:Int.tdiv 18446744073709551615 c.spe=18446744073709551615 / c.spe:=ajC (by decide);rw[Dg]at h2;omega
 have tr:TrV (kO c).nodes:=⟨alj,fun i hi=>by rw[one i hi];exact⟨show (0:Int)<=1 by decide,show (1:Int)<=2 by decide⟩,rfl,fun i h0 hi=>by have:=one i hi;omega,fun i j hij hj=>by have:=one j hj;omega,fun i h0 hi=>by have:=one i hi;omega,fun i h0 hi=>by have:=one i hi;omega,
  fun i h0 hi=>by have:=one i hi;omega,fun i h0 hi=>by have:=one i hi;omega,fun i hi _=>by rw[one i hi];rfl⟩
 have hep:∀n,dg (kO c) n=IntKind.u64.wrap (Int.tdiv n c.spe):=fun _=>rfl
 have he0:dg (kO c) 0=0:=by rw[hep,Int.zero_tdiv];rfl
 refine⟨⟨h,tr,n1,n2,n3,n4,rfl,?_,?_,amr _,⟨_,amn.2 rfl,rfl⟩,⟨fun t ht=>?_,by show List.Pairwise _ [_];simp⟩,by show (List.replicate _ _).length=_;simp;rfl,fun v hv hh=>?_,.inl rfl,.inl rfl,by show (0:Int)<=_;decide,?_,?_,fun n hn=>?_,fun a ha=>(by cases ha),fun b hb=>(by cases hb),List.Pairwise.nil⟩,fun b hb=>(by cases hb)⟩
 ·show 0<=aj (kO c).nodes c.gen
  rw[hfind];exact amr _
 ·show (nod (kO c).nodes (aj (kO c).nodes c.gen).toNat).status≠2
  rw[hfind];show (1:Int)≠2;decide
 ·rw[amn.1 ht];exact hv
 ·rw[akX hv]
 ·show (0:Int)<=dg (kO c) 0
  rw[he0];exact amr _
 ·show (dk 0 c.spe).2=0/\(0:Int)<=(dk 0 c.spe).1
  rw[hst];exact⟨rfl,amr _⟩
 ·rw[amn.1 hn];refine⟨amr _,?_⟩;unfold pY;show (decide ((0:Int)<=0)&&decide ((0:Int)<=0)&&decide ((0:Int)<=0)&&decide ((0:Int)<=0)&&decide ((0:Int)<=dg (kO c) 0))=true
  rw[he0];rfl
structure nr(s u:ap):Prop where
 c:u.cfg=s.cfg
 t:∀x∈u.tabs,x∈s.tabs
 n:u.now=s.now
 j:s.j.ep<=u.j.ep
 f:s.f.ep<=u.f.ep
structure qP(s:ap):Prop where
 tb:∀t∈s.tabs,∀x∈t.bals,0<=x/\x<18446744073709551616
 cb:∀x∈s.cfg.bals,0<=x/\x<18446744073709551616
theorem ahn{s:ap}{i:Nat}(h:bP s i)(d:qP s):Qw s:=by
 have b:=h.r;exact⟨b.bn,b.bl,b.be,b.bt,b.bb,d.tb,b.bo,b.ba,fun a f=>by have:=(h.av a f).len;omega,by have:=h.cfg.b1;omega,d.cb,h.uf⟩
theorem StV.valC{s:ap}(h:StV s):uK s:=by
 refine⟨h.w.fr,h.w.jf,h.w.ji,h.w.fj,?_,?_,?_,h.w.bo,h.w.nm,h.w.je,?_,?_,?_⟩
 ·obtain⟨t,h1,h2⟩:=h.w.tj;rw[<-h2];exact Xc h1
 ·refine B9.2 fun i _ hi=>?_
  have hi:i<s.tabs.length:=by omega
  unfold pR;rw[al5,al5 (fun hh=>hh (h.w.tv.1 _ (bK _ hi)))];rintro⟨h0,h1⟩;have h2:=ajW.1 h.w.tv.2 (i-1) i (by omega) hi (by omega);unfold tab at h1;grind
 ·rw [au h.w.ll, am2]
  have hn:dW (fun i=>!(vot s.latest i).has&&decide (vot s.latest i≠dL)) s.latest.length=none:=by
   cases hf:dW (fun i=>!(vot s.latest i).has&&decide (vot s.latest i≠dL)) s.latest.length with
   |none=>rfl
   | some k =>
     obtain⟨h1,h2,_⟩:=fZ hf;simp only[amk,aku,amg]at h2;exact absurd (h.w.lv _ (bK _ h1) h2.1) h2.2
  rw[hn];rcases h.w.qv with h1|h1
  ·grind
  grind
 ·unfold jA da;rw[show ((0:Int).toNat)=0 from rfl,au h.w.ea.2,alo]
 ·have hn:dW (fun i=>decide (s.now<(nod s.nodes i).blk.slot) || !pY s (nod s.nodes i).blk) s.nodes.length=none:=by
   cases hf:dW (fun i=>decide (s.now<(nod s.nodes i).blk.slot) || !pY s (nod s.nodes i).blk) s.nodes.length with
   |none=>rfl
   | some k =>
     obtain⟨h1,h2,_⟩:=fZ hf;obtain⟨h3,h4⟩:=h.w.nd _ (Cw h1);grind
  rw[hn];rfl
 ·unfold zV;rw[amk,amg,amg];refine⟨B9.2 fun i _ hi=>h.w.av _ (bK _ (by omega)),B9.2 fun i _ hi=>?_⟩;have hi:i<s.orph.length:=by omega
  have hm:dn s.orph i∈s.orph:=bK _ hi;obtain⟨a1,a2,a3,a4,a5⟩:=h.w.ob _ hm;refine ab1 a1 (by omega) (by have:=h.op _ hm;omega) a3 (by omega) (by omega) (fun hh=>?_);obtain⟨b,hb,he⟩:=amV.1 hh;obtain⟨k,hk,hk2⟩:=ajt.1 hb;have:=ajW.1 h.w.od k i (by omega) hi (by omega);rw[hk2]at this;unfold dn at he;grind
theorem StV.val{s:ap}(h:StV s)(c:s.cfg.lim.node<=4096)(b:U64 s.f.ep)(a:U64 s.now):oL s=0:=
 (ac4 h.w.ne (h.w.tree.statV (by have:=h.w.z1;omega)) (by have:=h.w.z1;omega) (by have:=h.w.z2;omega) (by have:=h.w.z3;omega) (by have:=h.w.z4;omega) b a).1 h.valC
end Go.Proofs.YtflhnmleodkjiaaGreat
