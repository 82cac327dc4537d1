/-
 My texts Lu, Lq, Lr, Ls, Lt, joined.
-/
import Derived.Test.YtkgimpdgncakjaaGreatV5
import Derived.Test.YtkgimpdgncakjaaGreatV3
import Derived.Test.YtkgimpdgncakjaaGreatV2
namespace Go.Proofs.YtkgimpdgncakjaaGreat
open Go Go.FH Go.RowKit
set_option linter.unusedVariables false
set_option linter.unusedSimpArgs false
def eI_(s:ah_)(x:dl_):ah_×Int:=
 if evE x.a x.fst.vals x.snd.vals s.cfg.bals.length≠0 then (fV_,evE x.a x.fst.vals x.snd.vals s.cfg.bals.length)
 else if IntKind.i64.wrap ((tz_ s.eqv (fp_ x.fst.vals x.snd.vals x.fst.vals.length)).length-s.eqv.length)=0 then (fV_,9)else (RY_ s (tz_ s.eqv (fp_ x.fst.vals x.snd.vals x.fst.vals.length)),0)
def dS_(s:aG_)(t:ah_):aG_:=⟨t,s.reqs,s.rets,s.tag,s.sent,s.last,s.over,s.halt⟩
def Qr_(s:aG_)(l:List Req):aG_:=⟨s.sto,l,s.rets,s.tag,s.sent,s.last,s.over,s.halt⟩
def et_(s:aG_)(l:List Req):aG_:=⟨s.sto,s.reqs,l,s.tag,s.sent,s.last,s.over,s.halt⟩
def dx_(l:List Req)(i:Nat):Req:=l.getD i pA_
def vR_(s:ah_)(r:Rt):Bool:=decide (0≤af_ s.nodes r)&&decide ((nod s.nodes (af_ s.nodes r).toNat).status=0)
def oT_(s:aG_)(r:Rt)(tries:Int):aG_:=⟨s.sto,s.reqs++[⟨s.tag,r,tries,0⟩],s.rets,IntKind.u64.wrap (s.tag+1),s.sent,s.last,s.over,s.halt⟩
def fs_(l:List Rt)(i:Nat)(s:aG_):aG_:=if vR_ s.sto (l.getD i rt0)=true then oT_ s (l.getD i rt0) 0 else s
def rU_(s:aG_)(l:List Rt):aG_:=av_ (fs_ l) s l.length
def fe_(t:List Nod)(l:List Req)(i:Nat)(o:List Req):List Req:=if 0≤af_ t (dx_ l i).block then o++[dx_ l i]else o
def iS_(t:List Nod)(l:List Req):List Req:=av_ (fe_ t l) [] l.length
def mz_(s:aG_):aG_:=⟨s.sto,iS_ s.sto.nodes s.reqs,iS_ s.sto.nodes s.rets,s.tag,s.sent,s.last,s.over,s.halt⟩
def pi_(b:Int):Nat→Int→Int
 |0,d=>d
 |f+1,d=>if IntKind.u64.wrap (b-d)≤d then b else pi_ b f (IntKind.u64.wrap (2*d))
def AZ_(tries b:Int):Int:=if b=0 then 0 else pi_ b (tries-1).toNat 1
def Ml_(a b:Req):Bool:=decide (a.due<b.due) || (decide (a.due=b.due)&&decide (a.tag<b.tag))
def oY_(l:List Req):Nat→List Req
 |0=>l
 |k+1=>if Ml_ (dx_ l (k+1)) (dx_ l k)=true then oY_ ((l.set (k+1) (dx_ l k)).set k (dx_ l (k+1))) k else l
def rO_(s:aG_)(r:Req):Req:=⟨r.tag,r.block,IntKind.i64.wrap (r.tries+1),IntKind.u64.wrap (s.sto.now+AZ_ (IntKind.i64.wrap (r.tries+1)) s.sto.cfg.lim.backoff)⟩
def kT_(s:aG_)(r:Req):aG_:=
 if vR_ s.sto r.block=false then s else if s.sto.cfg.lim.retry≤s.rets.length then ⟨s.sto,s.reqs,s.rets,s.tag,s.sent,s.last,true,s.halt⟩
 else et_ s (oY_ (s.rets++[rO_ s r]) s.rets.length)
def kM_(l:List Req)(i:Nat)(s:aG_):aG_:=if s.sto.now<(dx_ l i).due then et_ s (s.rets++[dx_ l i])else if vR_ s.sto (dx_ l i).block=true then oT_ s (dx_ l i).block (dx_ l i).tries else s
def Jz_(s:aG_):aG_:=av_ (kM_ s.rets) (et_ s []) s.rets.length
def Ii_(s:ah_):Rt:=if 0≤af_ s.nodes s.j.rt∧(nod s.nodes (af_ s.nodes s.j.rt).toNat).status=1 then s.j.rt else rt0
def Js_(s:ah_):Cmd:=⟨(nod s.nodes (vt_ s).toNat).blk.root,Ii_ s,s.f.rt⟩
def hq_(s:aG_):aG_×List Cmd:=if s.sent=true∧s.last=Js_ s.sto then (s,[])else (⟨s.sto,s.reqs,s.rets,s.tag,true,Js_ s.sto,s.over,s.halt⟩,[Js_ s.sto])
def Fk_:aG_:=⟨fV_,[],[],0,false,rs_,false,false⟩
def jK_(c:bu_):aG_×List Cmd×Int:=if eR_ c=0 then ((hq_ ⟨dn_ c,[],[],1,false,rs_,false,false⟩).1,(hq_ ⟨dn_ c,[],[],1,false,rs_,false,false⟩).2,0)else (Fk_,[],eR_ c)
def rh_(l:List Req)(i:Nat):List Req:=l.take i++l.drop (i+1)
def bX_(s:aG_)(v:Vdt):Req×aG_×Int:=match bD_ (fun i=>decide ((dx_ s.reqs i).tag=v.tag)) s.reqs.length with
 |some i=>(dx_ s.reqs i,Qr_ s (rh_ s.reqs i),0)
 |none=>(pA_,Fk_,23)
def boostV(s:ah_):ah_:=if 0≤af_ s.nodes s.boost∧(nod s.nodes (af_ s.nodes s.boost).toNat).status=2 then withB s rt0 else s
def judgeV(s:ah_)(r:Rt)(v:Vdt):List Nod×Int:=fd_ s.nodes (af_ s.nodes r) v [af_ s.nodes s.j.rt,af_ s.nodes s.f.rt]
def jG_(s:aG_)(v:Vdt):aG_×Int:=
 if (bX_ s v).2.2≠0 then (s,(bX_ s v).2.2)else if v.kind=3∨v.kind=4 then (kT_ (bX_ s v).2.1 (bX_ s v).1,0)
 else if (judgeV (bX_ s v).2.1.sto (bX_ s v).1.block v).2≠0 then (⟨s.sto,s.reqs,s.rets,s.tag,s.sent,s.last,s.over,true⟩,21)
 else (dS_ (bX_ s v).2.1 (boostV (ck_ (bX_ s v).2.1.sto (judgeV (bX_ s v).2.1.sto (bX_ s v).1.block v).1)),0)
def es_(s:aG_)(x:VOp):aG_×Int:=
 if x.kind=1 then (if (dF_ s.sto).2=0 then (Jz_ (mz_ (dS_ s (dF_ s.sto).1)),0)else (dS_ s (dF_ s.sto).1,(dF_ s.sto).2))
 else if x.kind=2 then (if (co_ s.sto x.blk).2.2=0 then (rU_ (mz_ (dS_ s (co_ s.sto x.blk).1)) (co_ s.sto x.blk).2.1,0)else (dS_ s (co_ s.sto x.blk).1,(co_ s.sto x.blk).2.2))
 else if x.kind=3 then (dS_ s (kH_ s.sto x.att).1,(kH_ s.sto x.att).2)else if x.kind=4 then (dS_ s (eI_ s.sto x.slg).1,(eI_ s.sto x.slg).2)
 else if x.kind=5 then (dS_ s (ne_ s.sto x.tab).1,(ne_ s.sto x.tab).2)else if x.kind=6 then jG_ s x.vdt else (s,2)
def toV(x:VOp):OpV:=⟨x.kind,x.blk,(x.att.slot,x.att.root,x.att.target,x.att.vals),((x.slg.fst.src,x.slg.fst.tgt,x.slg.fst.root,x.slg.fst.vals),(x.slg.snd.src,x.slg.snd.tgt,x.slg.snd.root,x.slg.snd.vals)),(x.tab.cp,x.tab.bals),x.vdt,x.write,x.keep⟩
def jb_(s:aG_)(x:VOp):aG_×List Cmd×Int:=
 if s.halt=true then (s,[],22)else if vOp (toV x)≠0 then (s,[],vOp (toV x))
 else if (es_ s x).2=21 then ((es_ s x).1,[],21)else if (es_ s x).2≠0 then (s,[],(es_ s x).2)
 else ((hq_ (es_ s x).1).1,(hq_ (es_ s x).1).2,0)
end Go.Proofs.YtkgimpdgncakjaaGreat
namespace Go.Proofs.YtkgimpdgncakjaaGreat
open Go Go.FH Go.RowKit
set_option linter.unusedVariables false
set_option linter.unusedSimpArgs false
set_option maxRecDepth 8000
set_option maxHeartbeats 4000000
theorem LW_(s:ah_)(h:StR s)(a b j0 f0:Cp)(R:Bool)(hR:R=kV_ s a b):Tri Tryz.prog 118 0 (bp_.tl 4) (PQ [.cell 6 true 33,.cell 7 true 33,.tmp 8] (.tup [.agg (cpC (bif R then a else cp0)),.agg (cpC (bif R then b else cp0)),.bool R])) ⟨13,[.agg (ak_ s.a),.agg (cpC j0),.agg (cpC f0),.ptr 0 0,.ptr 1 0,.ptr 2 0,.ptr 3 0,.ptr 4 0,.bool false,.ptr 5 0,.ptr 6 0,.dead,.dead],[]⟩ [.var (ak_ s.a),.var (cpC j0),.var (cpC f0),.var (cpC cp0),.var (cpC cp0),.var (cpC a),.var (cpC b)]:=by
 unfold bp_;refine bd ?_;simp only[ad_.tl];have c1:=bg_ s.nodes a.rt h.bn;have c2:=bg_ s.nodes b.rt h.bn;have b1:=cH_ s.nodes a.rt;have b2:=cH_ s.nodes b.rt;unfold kV_ at hR;generalize af_ s.nodes a.rt=I at *;generalize af_ s.nodes b.rt=K at *;try refine aa_ ?_
 refine ao_ (c1) ?_;try refine aa_ ?_
 refine ao_ (c2) ?_;by_cases q1:I<0
 ·have e1:decide (I<0)=true:=decide_eq_true q1;rw[decide_eq_false (show ¬0≤I by omega)]at hR;obtain rfl:R=false:=hR;repeat(first|refine aa_ ?_|simp only[go_sem,e1])
  refine Ri_ ?_
  exact ae_
 have e1:decide (I<0)=false:=decide_eq_false q1;rw[decide_eq_true (show 0≤I by omega)]at hR;by_cases q2:K<0
 ·have e2:decide (K<0)=true:=decide_eq_true q2;rw[decide_eq_false (show ¬0≤K by omega)]at hR;obtain rfl:R=false:=hR;repeat(first|refine aa_ ?_|simp only[go_sem,e1,e2])
  refine Ri_ ?_
  exact ae_
 have e2:decide (K<0)=false:=decide_eq_false q2;rw[decide_eq_true (show 0≤K by omega)]at hR;have hg1:=bR_ (t:=s.nodes) (i:=I.toNat) (by omega);have hg2:=bR_ (t:=s.nodes) (i:=K.toNat) (by omega);by_cases q3:(nod s.nodes I.toNat).status=2
 ·have e3:((nod s.nodes I.toNat).status==2)=true:=by simp[q3]
  rw[decide_eq_false (show ¬ (nod s.nodes I.toNat).status≠2 by simp[q3])]at hR;obtain rfl:R=false:=hR;repeat(first|refine aa_ ?_|simp only[go_sem,e1,e2,hg1,hg2,e3])
  refine Ri_ ?_
  exact ae_
 have e3:((nod s.nodes I.toNat).status==2)=false:=by simp[q3]
 rw[decide_eq_true (show (nod s.nodes I.toNat).status≠2 from q3)]at hR;by_cases q4:(nod s.nodes K.toNat).status=2
 ·have e4:((nod s.nodes K.toNat).status==2)=true:=by simp[q4]
  rw[decide_eq_false (show ¬ (nod s.nodes K.toNat).status≠2 by simp[q4])]at hR;obtain rfl:R=false:=hR;repeat(first|refine aa_ ?_|simp only[go_sem,e1,e2,e3,hg1,hg2,e4])
  refine Ri_ ?_
  exact ae_
 have e4:((nod s.nodes K.toNat).status==2)=false:=by simp[q4]
 rw[decide_eq_true (show (nod s.nodes K.toNat).status≠2 from q4)]at hR;repeat(first|refine aa_ ?_|simp only[go_sem,e1,e2,e3,e4,hg1,hg2])
 have k4:=pj_ s I a.ep (by omega) (by omega);generalize fz_ s I a.ep=V4 at *;refine ao_ (k4) ?_;cases V4 with
 | false =>
   obtain rfl:R=false:=hR;try refine aa_ ?_
   refine Ri_ ?_
   exact ae_
 | true =>
   repeat(first|refine aa_ ?_|simp only[go_sem,e1,e2,e3,e4,hg1,hg2])
   have k5:=pj_ s K b.ep (by omega) (by omega);generalize fz_ s K b.ep=V5 at *;refine ao_ (k5) ?_;cases V5 with
   | false =>
     obtain rfl:R=false:=hR;try refine aa_ ?_
     refine Ri_ ?_
     exact ae_
   | true =>
     repeat(first|refine aa_ ?_|simp only[go_sem,e1,e2,e3,e4,hg1,hg2])
     have k6:=pS_ s.nodes h.tree.ok h.bn K I;generalize bN_ s.nodes K I=V6 at *;refine ao_ (k6) ?_;cases V6 with
     | false =>
       obtain rfl:R=false:=hR;try refine aa_ ?_
       refine Ri_ ?_
       exact ae_
     | true =>
       by_cases q8:a.ep<b.ep
       ·have e8:decide (a.ep<b.ep)=true:=decide_eq_true q8;rw[decide_eq_false (show ¬b.ep≤a.ep by omega)]at hR;obtain rfl:R=false:=hR;repeat(first|refine aa_ ?_|simp only[go_sem,e1,e2,e3,e4,hg1,hg2,e8])
        refine Ri_ ?_
        exact ae_
       have e8:decide (a.ep<b.ep)=false:=decide_eq_false q8;rw[decide_eq_true (show b.ep≤a.ep by omega)]at hR;repeat(first|refine aa_ ?_|simp only[go_sem,e1,e2,e3,e4,e8,hg1,hg2])
       have k8:=dI_ s s.now h.spe;generalize aT_ s s.now=E at *;refine ao_ (k8) ?_;by_cases q9:E<a.ep
       ·have e9:decide (E<a.ep)=true:=decide_eq_true q9;rw[decide_eq_false (show ¬a.ep≤E by omega)]at hR;obtain rfl:R=false:=hR;repeat(first|refine aa_ ?_|simp only[go_sem,e1,e2,e3,e4,e8,hg1,hg2,e9])
        refine Ri_ ?_
        exact ae_
       have e9:decide (E<a.ep)=false:=decide_eq_false q9;rw[decide_eq_true (show a.ep≤E by omega)]at hR;repeat(first|refine aa_ ?_|simp only[go_sem,e1,e2,e3,e4,e8,e9,hg1,hg2])
       have k9:=ih_ s.tabs a h.bt;generalize bU_ s.tabs a=F at *;refine ao_ (k9) ?_;by_cases q10:F<0
       ·have e10:decide (F<0)=true:=decide_eq_true q10;rw[decide_eq_false (show ¬0≤F by omega)]at hR;obtain rfl:R=false:=hR;repeat(first|refine aa_ ?_|simp only[go_sem,e1,e2,e3,e4,e8,e9,hg1,hg2,e10])
        refine Ri_ ?_
        exact ae_
       have e10:decide (F<0)=false:=decide_eq_false q10;rw[decide_eq_true (show 0≤F by omega)]at hR;obtain rfl:R=true:=hR;repeat(first|refine aa_ ?_|simp only[go_sem,e1,e2,e3,e4,e8,e9,e10,hg1,hg2])
       refine Rh_ ?_
       exact ae_
theorem Jc_(s:ah_)(h:StR s)(j f:Cp):PC Tryz.prog 123 [.agg (ak_ s.a),.agg (cpC j),.agg (cpC f)] (.tup [.agg (cpC (bif kV_ s (cf_ s.j j) (cf_ s.f f)then cf_ s.j j else cp0)),.agg (cpC (bif kV_ s (cf_ s.j j) (cf_ s.f f)then cf_ s.f f else cp0)),.bool (kV_ s (cf_ s.j j) (cf_ s.f f))]):=by
 have tl:=LW_ s h (cf_ s.j j) (cf_ s.f f) j f _ rfl;refine PC.fact 13 qu_ (by simp) puA puA ?_;have hc:bp_=.seq bp_.hd (.seq (bp_.tl 1).hd (.seq (bp_.tl 2).hd (.seq (bp_.tl 3).hd (bp_.tl 4)))):=rfl;rw[hc];clear hc;generalize bp_.tl 4=cT at *;unfold bp_;refine bd ?_;simp only[ad_.tl,ad_.hd];have m1:cf_ s.j j=if s.j.ep<j.ep then j else s.j:=rfl
 have m2:cf_ s.f f=if s.f.ep<f.ep then f else s.f:=rfl
 by_cases q1:s.j.ep<j.ep
 ·have e1:decide (s.j.ep<j.ep)=true:=decide_eq_true q1
  rw[if_pos q1]at m1;by_cases q2:s.f.ep<f.ep
  ·have e2:decide (s.f.ep<f.ep)=true:=decide_eq_true q2;rw[if_pos q2]at m2;rw[m1,m2]at tl ⊢;repeat(first|refine aa_ ?_|simp only[go_sem,e1])
   refine ac_ ?_;repeat(first|refine aa_ ?_|simp only[go_sem,e2])
   refine Ri_ ?_
   refine bE_ ?_ tl;exact SN_ [] [0,1,2,3,4,5,6]
  ·have e2:decide (s.f.ep<f.ep)=false:=decide_eq_false q2;rw[if_neg q2]at m2;rw[m1,m2]at tl ⊢;repeat(first|refine aa_ ?_|simp only[go_sem,e1])
   refine ac_ ?_;repeat(first|refine aa_ ?_|simp only[go_sem,e2])
   refine Rh_ ?_
   refine bE_ ?_ tl;exact SN_ [] [0,1,2,3,4,5,6]
 ·have e1:decide (s.j.ep<j.ep)=false:=decide_eq_false q1
  rw[if_neg q1]at m1;by_cases q2:s.f.ep<f.ep
  ·have e2:decide (s.f.ep<f.ep)=true:=decide_eq_true q2;rw[if_pos q2]at m2;rw[m1,m2]at tl ⊢;repeat(first|refine aa_ ?_|simp only[go_sem,e1])
   refine ab_ ?_;repeat(first|refine aa_ ?_|simp only[go_sem,e2])
   refine Ri_ ?_
   refine bE_ ?_ tl;exact SN_ [] [0,1,2,3,4,5,6]
  ·have e2:decide (s.f.ep<f.ep)=false:=decide_eq_false q2;rw[if_neg q2]at m2;rw[m1,m2]at tl ⊢;repeat(first|refine aa_ ?_|simp only[go_sem,e1])
   refine ab_ ?_;repeat(first|refine aa_ ?_|simp only[go_sem,e2])
   refine Rh_ ?_
   refine bE_ ?_ tl;exact SN_ [] [0,1,2,3,4,5,6]
theorem Ms_(σ:St)(zs:List Nat)(l:List Cp):eQ_ σ zs (rows cpC l)=rows cpC l:=dH_.fz σ zs (bt_ fun x _=>dK_ x)
theorem Kz_(ρ:Nat→Nat)(l:List Cp):cg_ ρ (rows cpC l)=rows cpC l:=dH_.ren ρ (bt_ fun x _=>dK_ x)
attribute [local go_sem] Ms_ Kz_
theorem JM_(s:ah_)(b:Blk)(h:StR s):PC Tryz.prog 154 [.agg (ak_ s.a),.agg (ap_ b)] (.bool (qD_ s b)):=by
 refine PC.fact 12 Bg_ (by simp) puA puA ?_;unfold qc_;refine bd ?_;have c1:=bg_ s.nodes b.parent h.bn;have c2:=qT_ s b h.spe;unfold qD_;generalize af_ s.nodes b.parent=P at *;generalize jj_ s b=O at *;obtain⟨R,hR2⟩:∃R,R=(bD_ (fun k=>!ks_ s b P ((cps b).getD k cp0)) 4).isNone:=⟨_,rfl⟩
 rw[←hR2];try refine aa_ ?_
 refine So_ c1 ?_
 by_cases q1:P<0
 ·have e1:decide (P<0)=true:=decide_eq_true q1;rw[decide_eq_false (show ¬0≤P by omega)];repeat(first|refine aa_ ?_|simp only[go_sem,e1])
  refine Ri_ ?_
  exact ae_
 have e1:decide (P<0)=false:=decide_eq_false q1;rw[decide_eq_true (show 0≤P by omega)];repeat(first|refine aa_ ?_|simp only[go_sem,e1])
 refine Rh_ ?_
 refine aj_ c2 ?_;cases O with
 | false =>
   try refine aa_ ?_
   refine Ri_ ?_
   exact ae_
 | true =>
   try refine aa_ ?_
   have hrc:[cpC b.just,cpC b.fin,cpC b.pul.j,cpC b.pul.f]=rows cpC (cps b):=rfl;refine ab_ ?_;repeat(first|refine aa_ ?_|simp only[go_sem,hrc])
   refine an_ (fun i:Nat=>[(7,.int .i64 i)]) (fun _=>[.var (ak_ s.a),.var (ap_ b)]) (fun i=>4-i) (fun i=>i≤4∧R=(dV_ (fun k=>!ks_ s b P ((cps b).getD k cp0)) (4-i) i).isNone) 0 ⟨Nat.zero_le _,hR2⟩ ?_ ?_
   ·exact SN_ [] [0,1]
   clear hR2;rintro i ⟨hi,hn⟩;rw[hn];refine cJ_ ?_;by_cases h1:i<4
   ·have e1:=inT h1
    have hw:=ag_ h1 (by omega);have hgd:(rows cpC (cps b)).getD i []=cpC ((cps b).getD i cp0):=aA_ (f:=cpC) cp0 (by exact h1);have hlen:(cps b).length=4:=rfl;have e1':decide ((i:Int)<4)=true:=decide_eq_true (by omega);have hfit:ks_ s b P ((cps b).getD i cp0)=(decide (((cps b).getD i cp0).ep≤s.f.ep) || (if (bw_ s ((cps b).getD i cp0).ep).1<b.slot then decide (0≤atT s.nodes P (bw_ s ((cps b).getD i cp0).ep).1)&&decide ((nod s.nodes (atT s.nodes P (bw_ s ((cps b).getD i cp0).ep).1).toNat).blk.root=((cps b).getD i cp0).rt)else decide (b.root=((cps b).getD i cp0).rt))):=rfl;have hT:ks_ s b P ((cps b).getD i cp0)=true→(dV_ (fun k=>!ks_ s b P ((cps b).getD k cp0)) (4-i) i)=dV_ (fun k=>!ks_ s b P ((cps b).getD k cp0)) (4-(i+1)) (i+1):=fun hv=>fC_ h1 (by show (!ks_ s b P ((cps b).getD i cp0))=false;rw[hv];rfl)
    have hF:ks_ s b P ((cps b).getD i cp0)=false→(dV_ (fun k=>!ks_ s b P ((cps b).getD k cp0)) (4-i) i).isNone=false:=fun hv=>by rw[fD_ h1 (by show (!ks_ s b P ((cps b).getD i cp0))=true;rw[hv];rfl)];rfl
    have c3:=fS_ s ((cps b).getD i cp0).ep;generalize dV_ (fun k=>!ks_ s b P ((cps b).getD k cp0)) (4-i) i=X at *;generalize hX2:dV_ (fun k=>!ks_ s b P ((cps b).getD k cp0)) (4-(i+1)) (i+1)=X2 at *;generalize (cps b).getD i cp0=c at *;generalize ks_ s b P c=V at *;generalize bw_ s c.ep=st at *;obtain⟨st1,st2⟩:=st;dsimp only at c3 hfit;have c4:=AA_ s.nodes h.tree.ok h.bn P st1;have b4:=LI_ h.tree.ok P st1;generalize atT s.nodes P st1=A at *;repeat(first|refine aa_ ?_|simp only[go_sem,e1,e1',hlen])
    refine ac_ ?_;repeat(first|refine aa_ ?_|simp only[go_sem,hgd,hlen])
    by_cases q2:c.ep≤s.f.ep
    ·have e2:decide (c.ep≤s.f.ep)=true:=decide_eq_true q2;rw[e2]at hfit;rw[hT hfit];repeat(first|refine aa_ ?_|simp only[go_sem,e2])
     refine ac_ ?_;repeat(first|refine aa_ ?_|simp only[go_sem,hw])
     refine⟨i+1,⟨h1,by rw[←hX2];rfl⟩,by omega,?_⟩;exact SN_ [] [0,1]
    have e2:decide (c.ep≤s.f.ep)=false:=decide_eq_false q2;rw[e2,Bool.false_or]at hfit;repeat(first|refine aa_ ?_|simp only[go_sem,e2])
    refine ab_ ?_;repeat(first|refine aa_ ?_|simp only[go_sem,hgd,hlen])
    refine ao_ (c3) ?_;try refine aa_ ?_
    by_cases q3:st1<b.slot
    ·have e3:decide (st1<b.slot)=true:=decide_eq_true q3
     rw[if_pos q3]at hfit;repeat(first|refine aa_ ?_|simp only[go_sem,e3])
     refine Ri_ ?_
     refine So_ c4 ?_
     by_cases q4:A<0
     ·have e4:decide (A<0)=true:=decide_eq_true q4;rw[decide_eq_false (show ¬0≤A by omega)]at hfit;rw[hF hfit];repeat(first|refine aa_ ?_|simp only[go_sem,e4])
      refine Ri_ ?_
      exact ae_
     have e4:decide (A<0)=false:=decide_eq_false q4;rw[decide_eq_true (show 0≤A by omega),Bool.true_and]at hfit;have hgn:=bR_ (t:=s.nodes) (i:=A.toNat) (by omega);repeat(first|refine aa_ ?_|simp only[go_sem,e4])
     refine ab_ ?_;repeat(first|refine aa_ ?_|simp only[go_sem,hgn,hgd,hlen])
     by_cases q5:(nod s.nodes A.toNat).blk.root=c.rt
     ·have e5:decide ((nod s.nodes A.toNat).blk.root=c.rt)=true:=decide_eq_true q5;rw[e5]at hfit;rw[hT hfit];repeat(first|refine aa_ ?_|simp only[go_sem,e5])
      refine ab_ ?_;repeat(first|refine aa_ ?_|simp only[go_sem,hw])
      refine⟨i+1,⟨h1,by rw[←hX2];rfl⟩,by omega,?_⟩;exact SN_ [] [0,1]
     ·have e5:decide ((nod s.nodes A.toNat).blk.root=c.rt)=false:=decide_eq_false q5;rw[e5]at hfit;rw[hF hfit];repeat(first|refine aa_ ?_|simp only[go_sem,e5])
      refine Ri_ ?_
      exact ae_
    ·have e3:decide (st1<b.slot)=false:=decide_eq_false q3
     rw[if_neg q3]at hfit;repeat(first|refine aa_ ?_|simp only[go_sem,e3])
     refine ab_ ?_;repeat(first|refine aa_ ?_|simp only[go_sem,hgd,hlen])
     by_cases q5:b.root=c.rt
     ·have e5:decide (b.root=c.rt)=true:=decide_eq_true q5;rw[e5]at hfit;rw[hT hfit];repeat(first|refine aa_ ?_|simp only[go_sem,e5])
      refine ab_ ?_;repeat(first|refine aa_ ?_|simp only[go_sem,hw])
      refine⟨i+1,⟨h1,by rw[←hX2];rfl⟩,by omega,?_⟩;exact SN_ [] [0,1]
     ·have e5:decide (b.root=c.rt)=false:=decide_eq_false q5;rw[e5]at hfit;rw[hF hfit];repeat(first|refine aa_ ?_|simp only[go_sem,e5])
      refine Ri_ ?_
      exact ae_
   ·obtain rfl:i=4:=by omega
    have e1:=inF (4);have hz:dV_ (fun k=>!ks_ s b P ((cps b).getD k cp0)) (4-4) 4=none:=fB_ _ 4;rw[hz];have hlen:(cps b).length=4:=rfl;repeat(first|refine aa_ ?_|simp only[go_sem,e1,hlen])
    refine Rh_ ?_
    exact ae_
theorem sw_(s:ah_)(b:Blk)(h:StR s):PC Tryz.prog 84 [.agg (ak_ s.a),.agg (ap_ b)] (.int .i64 (bC_ s b)):=by
 refine PC.fact 87 pp_ (by simp) puA puA ?_;unfold iF_;refine bd ?_;have c1:=fS_ s s.f.ep;have c2:=Gs_ s b.root h;have c3:=bg_ s.nodes b.parent h.bn;have c4:=JM_ s b h;have b3:=cH_ s.nodes b.parent;obtain⟨R,hc⟩:∃R,R=bC_ s b:=⟨_,rfl⟩
 rw[←hc];unfold bC_ at hc;generalize bw_ s s.f.ep=st at *;obtain⟨st1,st2⟩:=st;dsimp only at c1 hc;generalize gL_ s b.root=N at *;generalize af_ s.nodes b.parent=P at *;generalize qD_ s b=T at *;try refine aa_ ?_
 refine So_ c1 ?_
 by_cases q1:b.root=rt0
 ·have e1:decide (b.root=rt0)=true:=decide_eq_true q1;rw[if_pos q1]at hc;subst hc;repeat(first|refine aa_ ?_|simp only[go_sem,e1])
  refine Ri_ ?_
  exact ae_
 have e1:decide (b.root=rt0)=false:=decide_eq_false q1;rw[if_neg q1]at hc;repeat(first|refine aa_ ?_|simp only[go_sem,e1])
 refine Rh_ ?_
 refine aj_ c2 ?_;cases N with
 | true =>
   rw[if_pos rfl]at hc;subst hc;try refine aa_ ?_
   refine Ri_ ?_
   exact ae_
 | false =>
   rw[if_neg (by simp)]at hc;try refine aa_ ?_
   refine Rh_ ?_
   by_cases q3:s.now<b.slot
   ·have e3:decide (s.now<b.slot)=true:=decide_eq_true q3;rw[if_pos q3]at hc;subst hc;repeat(first|refine aa_ ?_|simp only[go_sem,e3])
    refine Ri_ ?_
    exact ae_
   have e3:decide (s.now<b.slot)=false:=decide_eq_false q3;rw[if_neg q3]at hc;repeat(first|refine aa_ ?_|simp only[go_sem,e3])
   refine Rh_ ?_
   by_cases q4:b.slot≤st1
   ·have e4:decide (b.slot≤st1)=true:=decide_eq_true q4;rw[if_pos q4]at hc;subst hc;repeat(first|refine aa_ ?_|simp only[go_sem,e4])
    refine Ri_ ?_
    exact ae_
   have e4:decide (b.slot≤st1)=false:=decide_eq_false q4;rw[if_neg q4]at hc;repeat(first|refine aa_ ?_|simp only[go_sem,e4])
   refine Rh_ ?_
   refine So_ c3 ?_
   by_cases q5:P<0
   ·have e5:decide (P<0)=true:=decide_eq_true q5;rw[if_pos q5]at hc;subst hc;repeat(first|refine aa_ ?_|simp only[go_sem,e5])
    refine Ri_ ?_
    exact ae_
   have e5:decide (P<0)=false:=decide_eq_false q5;rw[if_neg q5]at hc;have hg:=bR_ (t:=s.nodes) (i:=P.toNat) (by omega);repeat(first|refine aa_ ?_|simp only[go_sem,e5])
   refine ab_ ?_;repeat(first|refine aa_ ?_|simp only[go_sem,hg])
   by_cases q6:b.slot≤(nod s.nodes P.toNat).blk.slot
   ·have e6:decide (b.slot≤(nod s.nodes P.toNat).blk.slot)=true:=decide_eq_true q6;rw[if_pos q6]at hc;subst hc;repeat(first|refine aa_ ?_|simp only[go_sem,e6])
    refine Ri_ ?_
    exact ae_
   have e6:decide (b.slot≤(nod s.nodes P.toNat).blk.slot)=false:=decide_eq_false q6;rw[if_neg q6]at hc;repeat(first|refine aa_ ?_|simp only[go_sem,e6])
   refine ab_ ?_;repeat(first|refine aa_ ?_|simp only[go_sem,hg])
   by_cases q7:(nod s.nodes P.toNat).status=2
   ·have e7:((nod s.nodes P.toNat).status==2)=true:=by simp[q7]
    rw[if_pos q7]at hc;subst hc;repeat(first|refine aa_ ?_|simp only[go_sem,e7])
    refine Ri_ ?_
    exact ae_
   have e7:((nod s.nodes P.toNat).status==2)=false:=by simp[q7]
   rw[if_neg q7]at hc;repeat(first|refine aa_ ?_|simp only[go_sem,e7])
   refine ab_ ?_;repeat(first|refine aa_ ?_|simp only[go_sem,hg])
   refine aj_ c4 ?_;cases T with
   | false =>
     rw[if_pos rfl]at hc;subst hc;try refine aa_ ?_
     refine Ri_ ?_
     exact ae_
   | true =>
     rw[if_neg (by simp)]at hc;have c5:=Gh_ s.cfg.ttd (nod s.nodes P.toNat).blk b;generalize vj_ s.cfg.ttd (nod s.nodes P.toNat).blk b=M at *;try refine aa_ ?_
     refine ab_ ?_;repeat(first|refine aa_ ?_|simp only[go_sem,hg])
     refine ao_ (c5) ?_;cases M with
     | false =>
       rw[if_pos rfl]at hc;subst hc;try refine aa_ ?_
       refine Ri_ ?_
       exact ae_
     | true =>
       rw[if_neg (by simp)]at hc;try refine aa_ ?_
       refine Rh_ ?_
       by_cases q8:s.cfg.lim.node≤(s.nodes.length:Int)
       ·have e8:decide ((s.nodes.length:Int) ≥ s.cfg.lim.node)=true:=decide_eq_true q8;have e9:decide (s.cfg.lim.node≤(s.nodes.length:Int))=true:=decide_eq_true q8;rw[if_pos q8]at hc;subst hc;repeat(first|refine aa_ ?_|simp only[go_sem,e8,e9])
        refine Ri_ ?_
        exact ae_
       ·have e8:decide ((s.nodes.length:Int) ≥ s.cfg.lim.node)=false:=decide_eq_false q8;have e9:decide (s.cfg.lim.node≤(s.nodes.length:Int))=false:=decide_eq_false q8;rw[if_neg q8]at hc;subst hc;repeat(first|refine aa_ ?_|simp only[go_sem,e8,e9])
        refine Rh_ ?_
        exact ae_
theorem nw_(l:List Blk)(a:Int):∀k,(av_ (iQ_ l a) [] k).length≤k
 |0=>Nat.le_refl _
 | k + 1 => by
   rw[bi_];have h1:=nw_ l a k;unfold iQ_ at *;split
   ·simp only[List.length_append,List.length_cons,List.length_nil];omega
   ·omega
theorem ie_(l:List au_)(e:Int):∀t∈cY_ l e,t∈l:=by
 unfold cY_;refine dG_ (f:=fun i o=>if e≤(tab l i).cp.ep then o++[tab l i]else o) (a:=[]) (fun _ o=>∀t∈o,t∈l) (by simp) l.length (fun i o hi ho=>?_) _ (Nat.le_refl _);split
 ·intro t ht;rw[List.mem_append,List.mem_singleton]at ht;rcases ht with ht|rfl
  ·exact ho t ht
  ·unfold tab;rw[List.getD_eq_getElem?_getD,List.getElem?_eq_getElem hi];exact List.getElem_mem hi
 ·exact ho
theorem id_(l:List au_)(e:Int):(cY_ l e).length≤l.length:=by
 have:=hC_ (f:=fun i o=>if e≤(tab l i).cp.ep then o++[tab l i]else o) (a:=([]:List au_)) (fun i o=>by split<;>simp) l.length;unfold cY_;simpa using this
theorem Bz_{s:ah_}{a b:Cp}(h:kV_ s a b=true):0≤af_ s.nodes a.rt∧0≤af_ s.nodes b.rt∧bN_ s.nodes (af_ s.nodes b.rt) (af_ s.nodes a.rt)=true:=by
 unfold kV_ at h;simp only[Bool.and_eq_true,decide_eq_true_eq]at h;exact⟨h.1.1.1.1.1.1.1.1.1,h.1.1.1.1.1.1.1.1.2,h.1.1.1.2⟩
theorem StR.upd{s:ah_}(h:StR s)(j f:Cp):StR (ch_ s j f):=by
 unfold ch_;split
 ·exact h
 ·rename_i hm
  have hm:kV_ s (cf_ s.j j) (cf_ s.f f)=true:=by simpa using hm
  obtain⟨h1,h2,h3⟩:=Bz_ hm;have hd:=id_ s.tabs (cf_ s.j j).ep;have hb:∀t∈cY_ s.tabs (cf_ s.j j).ep,t.bals.length≤1000000:=fun t ht=>h.bb t (ie_ _ _ t ht)
  split
  ·exact⟨h.tree,h.spe,h.bn,h.bl,h.be,Nat.le_trans hd h.bt,hb,h.bo,h.ba,h.nl,h.ll,h1⟩
  ·have hf:=cn_ h2;have hl:=kX_ h.tree (af_ s.nodes (cf_ s.f f).rt);refine⟨h.tree.prune h2 (by omega),h.spe,Nat.le_trans hl h.bn,h.bl,h.be,Nat.le_trans hd h.bt,hb,Nat.le_trans (nw_ _ _ _) h.bo,h.ba,h.nl,h.ll,?_⟩;exact nd_ h.tree h1 h3
def qK_(l:List Blk)(a:Int)(k:Nat):List Blk:=av_ (iQ_ l a) [] k
theorem OL_(l:List Blk)(a:Int)(k:Nat):qK_ l a (k+1)=iQ_ l a k (qK_ l a k):=rfl
theorem PY_(s:ah_)(j f a b:Cp)(T1:List Nod)(r:Rt)(D:List au_)(hbo:s.orph.length≤1000000):
 Tri Tryz.prog 104 0 (bd_.tl 9) (PQ [.cell 6 true 150] (.agg (ak_ (⟨s.cfg,s.latest,s.eqv,a,b,s.early,qK_ s.orph (bw_ s b.ep).1 s.orph.length,T1,s.now,r,D⟩:ah_).a)))
  ⟨15,[.agg (ak_ s.a),.agg (cpC j),.agg (cpC f),.ptr 0 0,.ptr 1 0,.ptr 2 0,.ptr 3 0,.ptr 4 0,.ptr 5 0,.bool true,.bool true,.dead,.dead,.dead,.dead],[]⟩
  [.var (ak_ (⟨s.cfg,s.latest,s.eqv,a,b,s.early,s.orph,T1,s.now,r,D⟩:ah_).a),.var (cpC j),.var (cpC f),.var (ak_ eW_),.var (cpC a),.var (cpC b)]:=by
 unfold bd_;refine bd ?_;simp only[ad_.tl];have c6:PC Tryz.prog 126 [.agg (ak_ (⟨s.cfg,s.latest,s.eqv,a,b,s.early,s.orph,T1,s.now,r,D⟩:ah_).a),.int .u64 b.ep] (.tup [.int .u64 (bw_ s b.ep).1,.bool (bw_ s b.ep).2]):=fS_ ⟨s.cfg,s.latest,s.eqv,a,b,s.early,s.orph,T1,s.now,r,D⟩ b.ep;generalize bw_ s b.ep=st at *;obtain⟨st1,st2⟩:=st;dsimp only at c6 ⊢;try refine aa_ ?_
 refine So_ c6 ?_
 refine de_ 13 238 ?_;simp only[go_sem];have hz:qK_ s.orph st1 0=[]:=rfl;refine an_ (fun i:Nat=>[(14,.int .i64 i),(13,.hs 238 6 0 (qK_ s.orph st1 i).length)]) (fun i=>[.var (ak_ (⟨s.cfg,s.latest,s.eqv,a,b,s.early,s.orph,T1,s.now,r,D⟩:ah_).a),.var (cpC j),.var (cpC f),.var (ak_ eW_),.var (cpC a),.var (cpC b),.vec 238 (rows ap_ (qK_ s.orph st1 i))]) (fun i=>s.orph.length-i) (fun i=>i≤s.orph.length) 0 (Nat.zero_le _) ?_ ?_
 ·rw[hz];exact SN_ [] [0,1,2,3,4,5,6]
 intro i hi;refine cJ_ ?_;by_cases h1:i<s.orph.length
 ·have e1:=inT h1
  have hw:=ag_ h1 (by omega);have hgd:(rows ap_ s.orph).getD i []=ap_ (bF_ s.orph i):=aA_ (f:=ap_) cF_ h1;have hs:=OL_ s.orph st1 i;have hli:(qK_ s.orph st1 i).length≤i:=nw_ s.orph st1 i;generalize qK_ s.orph st1 i=acc at *;have hc:iQ_ s.orph st1 i acc=if st1<(bF_ s.orph i).slot then acc++[bF_ s.orph i]else acc:=rfl
  have hr:rows ap_ acc++[ap_ (bF_ s.orph i)]=rows ap_ (acc++[bF_ s.orph i]):=bB_ ap_ acc (bF_ s.orph i);repeat(first|refine aa_ ?_|simp only[go_sem,e1])
  refine ac_ ?_;repeat(first|refine aa_ ?_|simp only[go_sem,hgd])
  by_cases q:st1<(bF_ s.orph i).slot
  ·have e2:decide ((bF_ s.orph i).slot > st1)=true:=decide_eq_true q;have e3:decide (st1<(bF_ s.orph i).slot)=true:=decide_eq_true q;rw[if_pos q]at hc;repeat(first|refine aa_ ?_|simp only[go_sem,e2,e3])
   refine ac_ ?_;repeat(first|refine aa_ ?_|simp only[go_sem,hgd,hr,hw])
   refine⟨i+1,h1,by omega,?_⟩;rw[hs,hc];exact SN_ [] [0,1,2,3,4,5,7]
  ·have e2:decide ((bF_ s.orph i).slot > st1)=false:=decide_eq_false q;have e3:decide (st1<(bF_ s.orph i).slot)=false:=decide_eq_false q;rw[if_neg q]at hc;repeat(first|refine aa_ ?_|simp only[go_sem,e2,e3])
   refine ab_ ?_;repeat(first|refine aa_ ?_|simp only[go_sem,hw])
   refine⟨i+1,h1,by omega,?_⟩;rw[hs,hc];exact SN_ [] [0,1,2,3,4,5,6]
 ·obtain rfl:i=s.orph.length:=by omega
  have e1:=inF (s.orph.length);generalize qK_ s.orph st1 s.orph.length=acc;have ht:List.take acc.length (rows ap_ acc)=rows ap_ acc:=List.take_of_length_le (by simp);repeat(first|refine aa_ ?_|simp only[go_sem,e1])
  refine ab_ ?_;repeat(first|refine aa_ ?_|simp only[go_sem,ht])
  exact ae_
theorem wC_(s:ah_)(j f:Cp)(h:StR s):PC Tryz.prog 45 [.agg (ak_ s.a),.agg (cpC j),.agg (cpC f)] (.agg (ak_ (ch_ s j f).a)):=by
 have tl:=PY_ s j f;refine PC.fact 15 uZ_ (by simp) puA puA ?_;have hc:bd_=.seq bd_.hd (.seq (bd_.tl 1).hd (.seq (bd_.tl 2).hd (.seq (bd_.tl 3).hd (.seq (bd_.tl 4).hd (.seq (bd_.tl 5).hd (.seq (bd_.tl 6).hd (.seq (bd_.tl 7).hd (.seq (bd_.tl 8).hd (bd_.tl 9))))))))):=rfl;rw[hc];clear hc;generalize bd_.tl 9=cT at *;unfold bd_;refine bd ?_;simp only[ad_.tl,ad_.hd];have c1:=Jc_ s h j f;obtain⟨U,hU⟩:∃U,U=ch_ s j f:=⟨_,rfl⟩
 rw[←hU];unfold ch_ at hU;generalize cf_ s.j j=a at *;generalize cf_ s.f f=b at *;generalize hm:kV_ s a b=M at *;try refine aa_ ?_
 refine aj_ c1 ?_;cases M with
 | false =>
   rw[if_pos rfl]at hU;subst hU;try refine aa_ ?_
   refine Ri_ ?_
   exact ae_
 | true =>
   rw[if_neg (by simp)]at hU;obtain⟨m1,m2,m3⟩:=Bz_ hm;have c2:=xp_ s.tabs a.ep h.bt;generalize cY_ s.tabs a.ep=D at *;try refine aa_ ?_
   refine Rh_ ?_
   refine So_ c2 ?_
   by_cases q:b=s.f
   ·have e1:decide (b=s.f)=true:=decide_eq_true q;rw[if_pos q]at hU;subst hU;repeat(first|refine aa_ ?_|simp only[go_sem,e1])
    refine Ri_ ?_
    exact ae_
   ·have e1:decide (b=s.f)=false:=decide_eq_false q
    rw[if_neg q]at hU;have hbd:=cH_ s.nodes b.rt;have c3:=bg_ s.nodes b.rt h.bn;have c4:=GO_ s.nodes h.tree.ok (af_ s.nodes b.rt) h.bn (by simp only[isN,Bool.and_eq_true,decide_eq_true_eq];omega);have hl:=kX_ h.tree (af_ s.nodes b.rt);have hbn:=h.bn;have hbo:=h.bo;generalize af_ s.nodes b.rt=K at *;generalize ce_ s.nodes K=T at *;obtain⟨T1,T2⟩:=T;dsimp only at hU c4 hl;have c5:=bg_ T1 s.boost (by omega);generalize af_ T1 s.boost=B at *;have tl:=fun r=>tl a b T1 r D h.bo
    repeat(first|refine aa_ ?_|simp only[go_sem,e1])
    refine Rh_ ?_
    refine ao_ (c3) ?_;try refine aa_ ?_
    refine ao_ (c4) ?_;try refine aa_ ?_
    refine So_ c5 ?_
    by_cases q2:B<0
    ·have e2:decide (B<0)=true:=decide_eq_true q2;rw[if_pos q2]at hU;subst hU;repeat(first|refine aa_ ?_|simp only[go_sem,e2])
     refine Ri_ ?_
     refine bE_ ?_ (tl rt0);exact SN_ [] [0,1,2,3,4,5]
    ·have e2:decide (B<0)=false:=decide_eq_false q2;rw[if_neg q2]at hU;subst hU;repeat(first|refine aa_ ?_|simp only[go_sem,e2])
     refine Rh_ ?_
     refine bE_ ?_ (tl s.boost);exact SN_ [] [0,1,2,3,4,5]
theorem Fn_(n lo hi:Int):PC Tryz.prog 139 [.int .i64 n,.int .i64 lo,.int .i64 hi] (.bool (wit n lo hi)):=by
 refine PC.fact 7 vb_ (by simp) puA puA ?_;unfold mm_;refine bd ?_;unfold wit;by_cases h0:lo≤n
 ·have e0:decide (n ≥ lo)=true:=decide_eq_true h0;have e1:decide (lo≤n)=true:=decide_eq_true h0;repeat(first|refine aa_ ?_|simp only[go_sem,e0,e1])
  exact ae_
 ·have e0:decide (n ≥ lo)=false:=decide_eq_false h0;have e1:decide (lo≤n)=false:=decide_eq_false h0;repeat(first|refine aa_ ?_|simp only[go_sem,e0,e1])
  exact ae_
theorem FD_(s:ah_)(a:aD_)(h:StR s)(N:Int)(R:Bool×Int)
 (hR:R=if af_ s.nodes a.root<0∨af_ s.nodes a.target.rt<0 then (false,10)else if a.slot<(nod s.nodes (af_ s.nodes a.root).toNat).blk.slot then (false,14)
  else if atT s.nodes (af_ s.nodes a.root) (bw_ s a.target.ep).1≠af_ s.nodes a.target.rt then (false,19)else (decide (s.now≤a.slot),0)):
 Tri Tryz.prog 99 0 (aL_.tl 4) (PQ [.tmp 4,.tmp 5] (.tup [.bool R.1,.int .i64 R.2])) ⟨12,[.agg (ak_ s.a),.agg (bl_ a.a),.ptr 0 0,.ptr 1 0,.bool false,.int .i64 0,.int .i64 0,.int .u64 N,.dead,.dead,.dead,.dead],[]⟩ [.var (ak_ s.a),.var (bl_ a.a)]:=by
 unfold aL_;refine bd ?_;simp only[ad_.tl];have c4:=bg_ s.nodes a.root h.bn;have c5:=bg_ s.nodes a.target.rt h.bn;have c6:=fS_ s a.target.ep;have b4:=cH_ s.nodes a.root;have b5:=cH_ s.nodes a.target.rt;generalize af_ s.nodes a.root=I at *;generalize af_ s.nodes a.target.rt=G at *;generalize bw_ s a.target.ep=st at *;obtain⟨st1,st2⟩:=st;dsimp only at c6 hR;have c7:=AA_ s.nodes h.tree.ok h.bn I st1;generalize atT s.nodes I st1=A at *;try refine aa_ ?_
 refine ao_ (c4) ?_;try refine aa_ ?_
 refine ao_ (c5) ?_;by_cases q1:I<0
 ·have e1:decide (I<0)=true:=decide_eq_true q1;rw[if_pos (.inl q1)]at hR;subst hR;repeat(first|refine aa_ ?_|simp only[go_sem,e1])
  refine Ri_ ?_
  exact ae_
 have e1:decide (I<0)=false:=decide_eq_false q1;by_cases q2:G<0
 ·have e2:decide (G<0)=true:=decide_eq_true q2;rw[if_pos (.inr q2)]at hR;subst hR;repeat(first|refine aa_ ?_|simp only[go_sem,e1,e2])
  refine Ri_ ?_
  exact ae_
 have e2:decide (G<0)=false:=decide_eq_false q2;rw[if_neg (fun h=>h.elim q1 q2)]at hR;have hg:=bR_ (t:=s.nodes) (i:=I.toNat) (by omega);repeat(first|refine aa_ ?_|simp only[go_sem,e1,e2])
 refine ab_ ?_;repeat(first|refine aa_ ?_|simp only[go_sem,hg])
 by_cases q3:a.slot<(nod s.nodes I.toNat).blk.slot
 ·have e3:decide ((nod s.nodes I.toNat).blk.slot > a.slot)=true:=decide_eq_true q3;have e4:decide (a.slot<(nod s.nodes I.toNat).blk.slot)=true:=decide_eq_true q3;rw[if_pos q3]at hR;subst hR;repeat(first|refine aa_ ?_|simp only[go_sem,e3,e4])
  refine Ri_ ?_
  exact ae_
 have e3:decide ((nod s.nodes I.toNat).blk.slot > a.slot)=false:=decide_eq_false q3;have e4:decide (a.slot<(nod s.nodes I.toNat).blk.slot)=false:=decide_eq_false q3;rw[if_neg q3]at hR;repeat(first|refine aa_ ?_|simp only[go_sem,e3,e4])
 refine Rh_ ?_
 refine So_ c6 ?_
 refine aj_ c7 ?_;by_cases q4:A=G
 case neg=>
  have e5:(A != G)=true:=by simp[q4]
  rw[if_pos q4]at hR;subst hR;repeat(first|refine aa_ ?_|simp only[go_sem,e5])
  refine Ri_ ?_
  exact ae_
 have e5:(A != G)=false:=by simp[q4]
 rw[if_neg (by simp[q4])]at hR;repeat(first|refine aa_ ?_|simp only[go_sem,e5])
 refine ab_ ?_;by_cases q5:s.now≤a.slot
 ·have e6:decide (a.slot ≥ s.now)=true:=decide_eq_true q5;have e7:decide (s.now≤a.slot)=true:=decide_eq_true q5;rw[e7]at hR;subst hR;repeat(first|refine aa_ ?_|simp only[go_sem,e6,e7])
  exact ae_
 ·have e6:decide (a.slot ≥ s.now)=false:=decide_eq_false q5;have e7:decide (s.now≤a.slot)=false:=decide_eq_false q5;rw[e7]at hR;subst hR;repeat(first|refine aa_ ?_|simp only[go_sem,e6,e7])
  exact ae_
theorem sv_(s:ah_)(a:aD_)(h:StR s)(ha:a.vals.length≤1000000):PC Tryz.prog 46 [.agg (ak_ s.a),.agg (bl_ a.a)] (.tup [.bool (cm_ s a).1,.int .i64 (cm_ s a).2]):=by
 have tl:=FD_ s a h;obtain⟨R,hc⟩:∃R,R=cm_ s a:=⟨_,rfl⟩
 rw[←hc];unfold cm_ at hc;have c0:=kB_ s;have c1:=dX_ a.vals false s.cfg.bals.length (by omega);have c2:=dI_ s s.now h.spe;have c3:=dI_ s a.slot h.spe;refine PC.fact 12 jM_ (by simp) puA puA ?_;have hc:aL_=.seq aL_.hd (.seq (aL_.tl 1).hd (.seq (aL_.tl 2).hd (.seq (aL_.tl 3).hd (aL_.tl 4)))):=rfl;rw[hc];clear hc;generalize aL_.tl 4=cT at *;unfold aL_;refine bd ?_;simp only[ad_.tl,ad_.hd]
 generalize hY:(if af_ s.nodes a.root<0∨af_ s.nodes a.target.rt<0 then ((false,10):Bool×Int)else if a.slot<(nod s.nodes (af_ s.nodes a.root).toNat).blk.slot then (false,14)
  else if atT s.nodes (af_ s.nodes a.root) (bw_ s a.target.ep).1≠af_ s.nodes a.target.rt then (false,19)else (decide (s.now≤a.slot),0))=Y at *
 generalize cd_ a.vals s.cfg.bals.length=V at *;generalize aT_ s s.now=N at *;generalize aT_ s a.slot=S at *;try refine aa_ ?_
 refine ao_ (c0) ?_;try refine aa_ ?_
 refine ao_ (c1) ?_;try refine aa_ ?_
 by_cases q1:V=0
 case neg=>
  have e1:(V != 0)=true:=by simp[q1]
  rw[if_pos q1]at hc;subst hc;repeat(first|refine aa_ ?_|simp only[go_sem,e1])
  refine Ri_ ?_
  exact ae_
 have e1:(V != 0)=false:=by simp[q1]
 rw[if_neg (by simp[q1])]at hc;repeat(first|refine aa_ ?_|simp only[go_sem,e1])
 refine Rh_ ?_
 refine So_ c2 ?_
 refine ao_ (c3) ?_;subst q1;have fail:(a.target.ep≠S∨(a.target.ep≠N∧(N=0∨a.target.ep≠IntKind.u64.wrap (N-1))))→R=(false,18):=fun hq=>by rw[hc,if_pos hq]
 have pass:¬ (a.target.ep≠S∨(a.target.ep≠N∧(N=0∨a.target.ep≠IntKind.u64.wrap (N-1))))→R=Y:=fun hq=>by rw[hc,if_neg hq]
 clear hc;by_cases q2:a.target.ep=S
 case neg=>
  have e2:(a.target.ep != S)=true:=by simp[q2]
  obtain rfl:=fail (.inl q2);repeat(first|refine aa_ ?_|simp only[go_sem,e2])
  refine Ri_ ?_
  exact ae_
 have e2:(a.target.ep != S)=false:=by simp[q2]
 by_cases q3:a.target.ep=N
 ·have e3:(a.target.ep != N)=false:=by simp[q3]
  have tl:=tl N R (pass (by rintro (h|h);exact h q2;exact h.1 q3));repeat(first|refine aa_ ?_|simp only[go_sem,e2,e3])
  refine Rh_ ?_
  refine bE_ ?_ tl;exact SN_ [] [0,1]
 have e3:(a.target.ep != N)=true:=by simp[q3]
 by_cases q4:N=0
 ·have e4:(N==0)=true:=by simp[q4]
  obtain rfl:=fail (.inr ⟨q3,.inl q4⟩);repeat(first|refine aa_ ?_|simp only[go_sem,e2,e3,e4])
  refine Ri_ ?_
  exact ae_
 have e4:(N==0)=false:=by simp[q4]
 by_cases q5:a.target.ep=IntKind.u64.wrap (N-1)
 ·have e5:(a.target.ep != IntKind.u64.wrap (N-1))=false:=by rw[←q5];simp
  have tl:=tl N R (pass (by rintro (h|h);exact h q2;rcases h.2 with h|h;exact q4 h;exact h q5));repeat(first|refine aa_ ?_|simp only[go_sem,e2,e3,e4,e5])
  refine Rh_ ?_
  refine bE_ ?_ tl;exact SN_ [] [0,1]
 ·have e5:(a.target.ep != IntKind.u64.wrap (N-1))=true:=by rw[bne_iff_ne];exact q5
  obtain rfl:=fail (.inr ⟨q3,.inr q5⟩);repeat(first|refine aa_ ?_|simp only[go_sem,e2,e3,e4,e5])
  refine Ri_ ?_
  exact ae_
theorem CY_(s:ah_)(a:aD_)(h:StR s)(ha:a.vals.length≤1000000)(hj:∀j∈a.vals,0≤j∧j<s.latest.length):PC Tryz.prog 47 [.agg (ak_ s.a),.agg (bl_ a.a)] (.agg (ak_ (castIn s a).a)):=by
 refine PC.fact 5 mG_ (by simp) puA puA ?_;unfold iE_;refine bd ?_;have c1:=yX_ s.latest a.target.ep a.root a.vals h.bl ha hj;unfold castIn;generalize su_ s.latest a.target.ep a.root a.vals=C at *;obtain⟨C1,C2⟩:=C;dsimp only at c1 ⊢;try refine aa_ ?_
 refine So_ c1 ?_
 exact ae_
end Go.Proofs.YtkgimpdgncakjaaGreat
