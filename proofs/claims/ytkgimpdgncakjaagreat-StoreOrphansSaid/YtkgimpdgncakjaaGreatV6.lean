/-
 My texts Lu, Lq, Lr, Ls, Lt, joined.
-/
import Derived.Test.YtkgimpdgncakjaaGreatV5
import Derived.Test.YtkgimpdgncakjaaGreatV3
import Derived.Test.YtkgimpdgncakjaaGreatV2
namespace Go.Proofs.YtkgimpdgncakjaaGreat
open Go Go.FH Go.RowKit
set_option linter.unusedVariables false
set_option linter.unusedSimpArgs false
def iT_(s:ai_)(x:dm_):ai_×Int:=
 if evE x.a x.fst.vals x.snd.vals s.cfg.bals.length≠0 then (dd_,evE x.a x.fst.vals x.snd.vals s.cfg.bals.length)
 else if IntKind.i64.wrap ((EA_ s.eqv (gy_ x.fst.vals x.snd.vals x.fst.vals.length)).length-s.eqv.length)=0 then (dd_,9)else (Se_ s (EA_ s.eqv (gy_ x.fst.vals x.snd.vals x.fst.vals.length)),0)
def eG_(s:aH_)(t:ai_):aH_:=⟨t,s.reqs,s.rets,s.tag,s.sent,s.last,s.over,s.halt⟩
def QC_(s:aH_)(l:List Req):aH_:=⟨s.sto,l,s.rets,s.tag,s.sent,s.last,s.over,s.halt⟩
def eH_(s:aH_)(l:List Req):aH_:=⟨s.sto,s.reqs,l,s.tag,s.sent,s.last,s.over,s.halt⟩
def dr_(l:List Req)(i:Nat):Req:=l.getD i pv_
def vX_(s:ai_)(r:Rt):Bool:=decide (0≤ak_ s.nodes r)&&decide ((nod s.nodes (ak_ s.nodes r).toNat).status=0)
def oM_(s:aH_)(r:Rt)(tries:Int):aH_:=⟨s.sto,s.reqs++[⟨s.tag,r,tries,0⟩],s.rets,IntKind.u64.wrap (s.tag+1),s.sent,s.last,s.over,s.halt⟩
def ge_(l:List Rt)(i:Nat)(s:aH_):aH_:=if vX_ s.sto (l.getD i rt0)=true then oM_ s (l.getD i rt0) 0 else s
def GL_(s:aH_)(l:List Rt):aH_:=aw_ (ge_ l) s l.length
def fb_(t:List Nod)(l:List Req)(i:Nat)(o:List Req):List Req:=if 0≤ak_ t (dr_ l i).block then o++[dr_ l i]else o
def iJ_(t:List Nod)(l:List Req):List Req:=aw_ (fb_ t l) [] l.length
def uL_(s:aH_):aH_:=⟨s.sto,iJ_ s.sto.nodes s.reqs,iJ_ s.sto.nodes s.rets,s.tag,s.sent,s.last,s.over,s.halt⟩
def pc_(b:Int):Nat→Int→Int
 |0,d=>d
 |f+1,d=>if IntKind.u64.wrap (b-d)≤d then b else pc_ b f (IntKind.u64.wrap (2*d))
def Be_(tries b:Int):Int:=if b=0 then 0 else pc_ b (tries-1).toNat 1
def Mu_(a b:Req):Bool:=decide (a.due<b.due) || (decide (a.due=b.due)&&decide (a.tag<b.tag))
def oQ_(l:List Req):Nat→List Req
 |0=>l
 |k+1=>if Mu_ (dr_ l (k+1)) (dr_ l k)=true then oQ_ ((l.set (k+1) (dr_ l k)).set k (dr_ l (k+1))) k else l
def rN_(s:aH_)(r:Req):Req:=⟨r.tag,r.block,IntKind.i64.wrap (r.tries+1),IntKind.u64.wrap (s.sto.now+Be_ (IntKind.i64.wrap (r.tries+1)) s.sto.cfg.lim.backoff)⟩
def vG_(s:aH_)(r:Req):aH_:=
 if vX_ s.sto r.block=false then s else if s.sto.cfg.lim.retry≤s.rets.length then ⟨s.sto,s.reqs,s.rets,s.tag,s.sent,s.last,true,s.halt⟩
 else eH_ s (oQ_ (s.rets++[rN_ s r]) s.rets.length)
def mw_(l:List Req)(i:Nat)(s:aH_):aH_:=if s.sto.now<(dr_ l i).due then eH_ s (s.rets++[dr_ l i])else if vX_ s.sto (dr_ l i).block=true then oM_ s (dr_ l i).block (dr_ l i).tries else s
def QT_(s:aH_):aH_:=aw_ (mw_ s.rets) (eH_ s []) s.rets.length
def Io_(s:ai_):Rt:=if 0≤ak_ s.nodes s.j.rt∧(nod s.nodes (ak_ s.nodes s.j.rt).toNat).status=1 then s.j.rt else rt0
def Jw_(s:ai_):Cmd:=⟨(nod s.nodes (vy_ s).toNat).blk.root,Io_ s,s.f.rt⟩
def mx_(s:aH_):aH_×List Cmd:=if s.sent=true∧s.last=Jw_ s.sto then (s,[])else (⟨s.sto,s.reqs,s.rets,s.tag,true,Jw_ s.sto,s.over,s.halt⟩,[Jw_ s.sto])
def Fr_:aH_:=⟨dd_,[],[],0,false,ru_,false,false⟩
def kB_(c:bD_):aH_×List Cmd×Int:=if hy_ c=0 then ((mx_ ⟨el_ c,[],[],1,false,ru_,false,false⟩).1,(mx_ ⟨el_ c,[],[],1,false,ru_,false,false⟩).2,0)else (Fr_,[],hy_ c)
def rg_(l:List Req)(i:Nat):List Req:=l.take i++l.drop (i+1)
def dq_(s:aH_)(v:Vdt):Req×aH_×Int:=match ca_ (fun i=>decide ((dr_ s.reqs i).tag=v.tag)) s.reqs.length with
 |some i=>(dr_ s.reqs i,QC_ s (rg_ s.reqs i),0)
 |none=>(pv_,Fr_,23)
def boostV(s:ai_):ai_:=if 0≤ak_ s.nodes s.boost∧(nod s.nodes (ak_ s.nodes s.boost).toNat).status=2 then withB s rt0 else s
def BE_(s:ai_)(r:Rt)(v:Vdt):List Nod×Int:=gA_ s.nodes (ak_ s.nodes r) v [ak_ s.nodes s.j.rt,ak_ s.nodes s.f.rt]
def rj_(s:aH_)(v:Vdt):aH_×Int:=
 if (dq_ s v).2.2≠0 then (s,(dq_ s v).2.2)else if v.kind=3∨v.kind=4 then (vG_ (dq_ s v).2.1 (dq_ s v).1,0)
 else if (BE_ (dq_ s v).2.1.sto (dq_ s v).1.block v).2≠0 then (⟨s.sto,s.reqs,s.rets,s.tag,s.sent,s.last,s.over,true⟩,21)
 else (eG_ (dq_ s v).2.1 (boostV (ch_ (dq_ s v).2.1.sto (BE_ (dq_ s v).2.1.sto (dq_ s v).1.block v).1)),0)
def jw_(s:aH_)(x:VOp):aH_×Int:=
 if x.kind=1 then (if (gi_ s.sto).2=0 then (QT_ (uL_ (eG_ s (gi_ s.sto).1)),0)else (eG_ s (gi_ s.sto).1,(gi_ s.sto).2))
 else if x.kind=2 then (if (aT_ s.sto x.blk).2.2=0 then (GL_ (uL_ (eG_ s (aT_ s.sto x.blk).1)) (aT_ s.sto x.blk).2.1,0)else (eG_ s (aT_ s.sto x.blk).1,(aT_ s.sto x.blk).2.2))
 else if x.kind=3 then (eG_ s (rq_ s.sto x.att).1,(rq_ s.sto x.att).2)else if x.kind=4 then (eG_ s (iT_ s.sto x.slg).1,(iT_ s.sto x.slg).2)
 else if x.kind=5 then (eG_ s (wi_ s.sto x.tab).1,(wi_ s.sto x.tab).2)else if x.kind=6 then rj_ s x.vdt else (s,2)
def toV(x:VOp):OpV:=⟨x.kind,x.blk,(x.att.slot,x.att.root,x.att.target,x.att.vals),((x.slg.fst.src,x.slg.fst.tgt,x.slg.fst.root,x.slg.fst.vals),(x.slg.snd.src,x.slg.snd.tgt,x.slg.snd.root,x.slg.snd.vals)),(x.tab.cp,x.tab.bals),x.vdt,x.write,x.keep⟩
def ni_(s:aH_)(x:VOp):aH_×List Cmd×Int:=
 if s.halt=true then (s,[],22)else if vOp (toV x)≠0 then (s,[],vOp (toV x))
 else if (jw_ s x).2=21 then ((jw_ s x).1,[],21)else if (jw_ s x).2≠0 then (s,[],(jw_ s x).2)
 else ((mx_ (jw_ s x).1).1,(mx_ (jw_ s x).1).2,0)
end Go.Proofs.YtkgimpdgncakjaaGreat
namespace Go.Proofs.YtkgimpdgncakjaaGreat
open Go Go.FH Go.RowKit
set_option linter.unusedVariables false
set_option linter.unusedSimpArgs false
set_option maxRecDepth 8000
set_option maxHeartbeats 4000000
theorem Mc_(s:ai_)(h:StR s)(a b j0 f0:Cp)(R:Bool)(hR:R=iK_ s a b):Tri Tryz.prog 118 0 (br_.tl 4) (PQ [.cell 6 true 33,.cell 7 true 33,.tmp 8] (.tup [.agg (cpC (bif R then a else cp0)),.agg (cpC (bif R then b else cp0)),.bool R])) ⟨13,[.agg (aj_ s.a),.agg (cpC j0),.agg (cpC f0),.ptr 0 0,.ptr 1 0,.ptr 2 0,.ptr 3 0,.ptr 4 0,.bool false,.ptr 5 0,.ptr 6 0,.dead,.dead],[]⟩ [.var (aj_ s.a),.var (cpC j0),.var (cpC f0),.var (cpC cp0),.var (cpC cp0),.var (cpC a),.var (cpC b)]:=by
 unfold br_;refine bd ?_;simp only[ad_.tl];have c1:=by_ s.nodes a.rt h.bn;have c2:=by_ s.nodes b.rt h.bn;have b1:=cl_ s.nodes a.rt;have b2:=cl_ s.nodes b.rt;unfold iK_ at hR;generalize ak_ s.nodes a.rt=I at *;generalize ak_ s.nodes b.rt=K at *;try refine aa_ ?_
 refine as_ (c1) ?_;try refine aa_ ?_
 refine as_ (c2) ?_;by_cases q1:I<0
 ·have e1:decide (I<0)=true:=decide_eq_true q1;rw[decide_eq_false (show ¬0≤I by omega)]at hR;obtain rfl:R=false:=hR;repeat(first|refine aa_ ?_|simp only[go_sem,e1])
  refine Rn_ ?_
  exact ag_
 have e1:decide (I<0)=false:=decide_eq_false q1;rw[decide_eq_true (show 0≤I by omega)]at hR;by_cases q2:K<0
 ·have e2:decide (K<0)=true:=decide_eq_true q2;rw[decide_eq_false (show ¬0≤K by omega)]at hR;obtain rfl:R=false:=hR;repeat(first|refine aa_ ?_|simp only[go_sem,e1,e2])
  refine Rn_ ?_
  exact ag_
 have e2:decide (K<0)=false:=decide_eq_false q2;rw[decide_eq_true (show 0≤K by omega)]at hR;have hg1:=bP_ (t:=s.nodes) (i:=I.toNat) (by omega);have hg2:=bP_ (t:=s.nodes) (i:=K.toNat) (by omega);by_cases q3:(nod s.nodes I.toNat).status=2
 ·have e3:((nod s.nodes I.toNat).status==2)=true:=by simp[q3]
  rw[decide_eq_false (show ¬ (nod s.nodes I.toNat).status≠2 by simp[q3])]at hR;obtain rfl:R=false:=hR;repeat(first|refine aa_ ?_|simp only[go_sem,e1,e2,hg1,hg2,e3])
  refine Rn_ ?_
  exact ag_
 have e3:((nod s.nodes I.toNat).status==2)=false:=by simp[q3]
 rw[decide_eq_true (show (nod s.nodes I.toNat).status≠2 from q3)]at hR;by_cases q4:(nod s.nodes K.toNat).status=2
 ·have e4:((nod s.nodes K.toNat).status==2)=true:=by simp[q4]
  rw[decide_eq_false (show ¬ (nod s.nodes K.toNat).status≠2 by simp[q4])]at hR;obtain rfl:R=false:=hR;repeat(first|refine aa_ ?_|simp only[go_sem,e1,e2,e3,hg1,hg2,e4])
  refine Rn_ ?_
  exact ag_
 have e4:((nod s.nodes K.toNat).status==2)=false:=by simp[q4]
 rw[decide_eq_true (show (nod s.nodes K.toNat).status≠2 from q4)]at hR;repeat(first|refine aa_ ?_|simp only[go_sem,e1,e2,e3,e4,hg1,hg2])
 have k4:=uM_ s I a.ep (by omega) (by omega);generalize pd_ s I a.ep=V4 at *;refine as_ (k4) ?_;cases V4 with
 | false =>
   obtain rfl:R=false:=hR;try refine aa_ ?_
   refine Rn_ ?_
   exact ag_
 | true =>
   repeat(first|refine aa_ ?_|simp only[go_sem,e1,e2,e3,e4,hg1,hg2])
   have k5:=uM_ s K b.ep (by omega) (by omega);generalize pd_ s K b.ep=V5 at *;refine as_ (k5) ?_;cases V5 with
   | false =>
     obtain rfl:R=false:=hR;try refine aa_ ?_
     refine Rn_ ?_
     exact ag_
   | true =>
     repeat(first|refine aa_ ?_|simp only[go_sem,e1,e2,e3,e4,hg1,hg2])
     have k6:=pM_ s.nodes h.tree.ok h.bn K I;generalize dn_ s.nodes K I=V6 at *;refine as_ (k6) ?_;cases V6 with
     | false =>
       obtain rfl:R=false:=hR;try refine aa_ ?_
       refine Rn_ ?_
       exact ag_
     | true =>
       by_cases q8:a.ep<b.ep
       ·have e8:decide (a.ep<b.ep)=true:=decide_eq_true q8;rw[decide_eq_false (show ¬b.ep≤a.ep by omega)]at hR;obtain rfl:R=false:=hR;repeat(first|refine aa_ ?_|simp only[go_sem,e1,e2,e3,e4,hg1,hg2,e8])
        refine Rn_ ?_
        exact ag_
       have e8:decide (a.ep<b.ep)=false:=decide_eq_false q8;rw[decide_eq_true (show b.ep≤a.ep by omega)]at hR;repeat(first|refine aa_ ?_|simp only[go_sem,e1,e2,e3,e4,e8,hg1,hg2])
       have k8:=dS_ s s.now h.spe;generalize aU_ s s.now=E at *;refine as_ (k8) ?_;by_cases q9:E<a.ep
       ·have e9:decide (E<a.ep)=true:=decide_eq_true q9;rw[decide_eq_false (show ¬a.ep≤E by omega)]at hR;obtain rfl:R=false:=hR;repeat(first|refine aa_ ?_|simp only[go_sem,e1,e2,e3,e4,e8,hg1,hg2,e9])
        refine Rn_ ?_
        exact ag_
       have e9:decide (E<a.ep)=false:=decide_eq_false q9;rw[decide_eq_true (show a.ep≤E by omega)]at hR;repeat(first|refine aa_ ?_|simp only[go_sem,e1,e2,e3,e4,e8,e9,hg1,hg2])
       have k9:=kM_ s.tabs a h.bt;generalize dp_ s.tabs a=F at *;refine as_ (k9) ?_;by_cases q10:F<0
       ·have e10:decide (F<0)=true:=decide_eq_true q10;rw[decide_eq_false (show ¬0≤F by omega)]at hR;obtain rfl:R=false:=hR;repeat(first|refine aa_ ?_|simp only[go_sem,e1,e2,e3,e4,e8,e9,hg1,hg2,e10])
        refine Rn_ ?_
        exact ag_
       have e10:decide (F<0)=false:=decide_eq_false q10;rw[decide_eq_true (show 0≤F by omega)]at hR;obtain rfl:R=true:=hR;repeat(first|refine aa_ ?_|simp only[go_sem,e1,e2,e3,e4,e8,e9,e10,hg1,hg2])
       refine Rm_ ?_
       exact ag_
theorem Jh_(s:ai_)(h:StR s)(j f:Cp):PC Tryz.prog 123 [.agg (aj_ s.a),.agg (cpC j),.agg (cpC f)] (.tup [.agg (cpC (bif iK_ s (bG_ s.j j) (bG_ s.f f)then bG_ s.j j else cp0)),.agg (cpC (bif iK_ s (bG_ s.j j) (bG_ s.f f)then bG_ s.f f else cp0)),.bool (iK_ s (bG_ s.j j) (bG_ s.f f))]):=by
 have tl:=Mc_ s h (bG_ s.j j) (bG_ s.f f) j f _ rfl;refine PC.fact 13 qv_ (by simp) puA puA ?_;have hc:br_=.seq br_.hd (.seq (br_.tl 1).hd (.seq (br_.tl 2).hd (.seq (br_.tl 3).hd (br_.tl 4)))):=rfl;rw[hc];clear hc;generalize br_.tl 4=cT at *;unfold br_;refine bd ?_;simp only[ad_.tl,ad_.hd];have m1:bG_ s.j j=if s.j.ep<j.ep then j else s.j:=rfl
 have m2:bG_ s.f f=if s.f.ep<f.ep then f else s.f:=rfl
 by_cases q1:s.j.ep<j.ep
 ·have e1:decide (s.j.ep<j.ep)=true:=decide_eq_true q1
  rw[if_pos q1]at m1;by_cases q2:s.f.ep<f.ep
  ·have e2:decide (s.f.ep<f.ep)=true:=decide_eq_true q2;rw[if_pos q2]at m2;rw[m1,m2]at tl ⊢;repeat(first|refine aa_ ?_|simp only[go_sem,e1])
   refine ac_ ?_;repeat(first|refine aa_ ?_|simp only[go_sem,e2])
   refine Rn_ ?_
   refine cH_ ?_ tl;exact ST_ [] [0,1,2,3,4,5,6]
  ·have e2:decide (s.f.ep<f.ep)=false:=decide_eq_false q2;rw[if_neg q2]at m2;rw[m1,m2]at tl ⊢;repeat(first|refine aa_ ?_|simp only[go_sem,e1])
   refine ac_ ?_;repeat(first|refine aa_ ?_|simp only[go_sem,e2])
   refine Rm_ ?_
   refine cH_ ?_ tl;exact ST_ [] [0,1,2,3,4,5,6]
 ·have e1:decide (s.j.ep<j.ep)=false:=decide_eq_false q1
  rw[if_neg q1]at m1;by_cases q2:s.f.ep<f.ep
  ·have e2:decide (s.f.ep<f.ep)=true:=decide_eq_true q2;rw[if_pos q2]at m2;rw[m1,m2]at tl ⊢;repeat(first|refine aa_ ?_|simp only[go_sem,e1])
   refine ab_ ?_;repeat(first|refine aa_ ?_|simp only[go_sem,e2])
   refine Rn_ ?_
   refine cH_ ?_ tl;exact ST_ [] [0,1,2,3,4,5,6]
  ·have e2:decide (s.f.ep<f.ep)=false:=decide_eq_false q2;rw[if_neg q2]at m2;rw[m1,m2]at tl ⊢;repeat(first|refine aa_ ?_|simp only[go_sem,e1])
   refine ab_ ?_;repeat(first|refine aa_ ?_|simp only[go_sem,e2])
   refine Rm_ ?_
   refine cH_ ?_ tl;exact ST_ [] [0,1,2,3,4,5,6]
theorem MC_(σ:St)(zs:List Nat)(l:List Cp):ez_ σ zs (rows cpC l)=rows cpC l:=du_.fz σ zs (bq_ fun x _=>dv_ x)
theorem KE_(ρ:Nat→Nat)(l:List Cp):cb_ ρ (rows cpC l)=rows cpC l:=du_.ren ρ (bq_ fun x _=>dv_ x)
attribute [local go_sem] MC_ KE_
theorem JP_(s:ai_)(b:Blk)(h:StR s):PC Tryz.prog 154 [.agg (aj_ s.a),.agg (al_ b)] (.bool (vn_ s b)):=by
 refine PC.fact 12 Bn_ (by simp) puA puA ?_;unfold pZ_;refine bd ?_;have c1:=by_ s.nodes b.parent h.bn;have c2:=BL_ s b h.spe;unfold vn_;generalize ak_ s.nodes b.parent=P at *;generalize Em_ s b=O at *;obtain⟨R,hR2⟩:∃R,R=(ca_ (fun k=>!lG_ s b P ((cps b).getD k cp0)) 4).isNone:=⟨_,rfl⟩
 rw[←hR2];try refine aa_ ?_
 refine Sv_ c1 ?_
 by_cases q1:P<0
 ·have e1:decide (P<0)=true:=decide_eq_true q1;rw[decide_eq_false (show ¬0≤P by omega)];repeat(first|refine aa_ ?_|simp only[go_sem,e1])
  refine Rn_ ?_
  exact ag_
 have e1:decide (P<0)=false:=decide_eq_false q1;rw[decide_eq_true (show 0≤P by omega)];repeat(first|refine aa_ ?_|simp only[go_sem,e1])
 refine Rm_ ?_
 refine ae_ c2 ?_;cases O with
 | false =>
   try refine aa_ ?_
   refine Rn_ ?_
   exact ag_
 | true =>
   try refine aa_ ?_
   have hrc:[cpC b.just,cpC b.fin,cpC b.pul.j,cpC b.pul.f]=rows cpC (cps b):=rfl;refine ab_ ?_;repeat(first|refine aa_ ?_|simp only[go_sem,hrc])
   refine ao_ (fun i:Nat=>[(7,.int .i64 i)]) (fun _=>[.var (aj_ s.a),.var (al_ b)]) (fun i=>4-i) (fun i=>i≤4∧R=(dH_ (fun k=>!lG_ s b P ((cps b).getD k cp0)) (4-i) i).isNone) 0 ⟨Nat.zero_le _,hR2⟩ ?_ ?_
   ·exact ST_ [] [0,1]
   clear hR2;rintro i ⟨hi,hn⟩;rw[hn];refine cC_ ?_;by_cases h1:i<4
   ·have e1:=inT h1
    have hw:=af_ h1 (by omega);have hgd:(rows cpC (cps b)).getD i []=cpC ((cps b).getD i cp0):=aB_ (f:=cpC) cp0 (by exact h1);have hlen:(cps b).length=4:=rfl;have e1':decide ((i:Int)<4)=true:=decide_eq_true (by omega);have hfit:lG_ s b P ((cps b).getD i cp0)=(decide (((cps b).getD i cp0).ep≤s.f.ep) || (if (bK_ s ((cps b).getD i cp0).ep).1<b.slot then decide (0≤atT s.nodes P (bK_ s ((cps b).getD i cp0).ep).1)&&decide ((nod s.nodes (atT s.nodes P (bK_ s ((cps b).getD i cp0).ep).1).toNat).blk.root=((cps b).getD i cp0).rt)else decide (b.root=((cps b).getD i cp0).rt))):=rfl;have hT:lG_ s b P ((cps b).getD i cp0)=true→(dH_ (fun k=>!lG_ s b P ((cps b).getD k cp0)) (4-i) i)=dH_ (fun k=>!lG_ s b P ((cps b).getD k cp0)) (4-(i+1)) (i+1):=fun hv=>dU_ h1 (by show (!lG_ s b P ((cps b).getD i cp0))=false;rw[hv];rfl)
    have hF:lG_ s b P ((cps b).getD i cp0)=false→(dH_ (fun k=>!lG_ s b P ((cps b).getD k cp0)) (4-i) i).isNone=false:=fun hv=>by rw[ej_ h1 (by show (!lG_ s b P ((cps b).getD i cp0))=true;rw[hv];rfl)];rfl
    have c3:=hn_ s ((cps b).getD i cp0).ep;generalize dH_ (fun k=>!lG_ s b P ((cps b).getD k cp0)) (4-i) i=X at *;generalize hX2:dH_ (fun k=>!lG_ s b P ((cps b).getD k cp0)) (4-(i+1)) (i+1)=X2 at *;generalize (cps b).getD i cp0=c at *;generalize lG_ s b P c=V at *;generalize bK_ s c.ep=st at *;obtain⟨st1,st2⟩:=st;dsimp only at c3 hfit;have c4:=AG_ s.nodes h.tree.ok h.bn P st1;have b4:=LP_ h.tree.ok P st1;generalize atT s.nodes P st1=A at *;repeat(first|refine aa_ ?_|simp only[go_sem,e1,e1',hlen])
    refine ac_ ?_;repeat(first|refine aa_ ?_|simp only[go_sem,hgd,hlen])
    by_cases q2:c.ep≤s.f.ep
    ·have e2:decide (c.ep≤s.f.ep)=true:=decide_eq_true q2;rw[e2]at hfit;rw[hT hfit];repeat(first|refine aa_ ?_|simp only[go_sem,e2])
     refine ac_ ?_;repeat(first|refine aa_ ?_|simp only[go_sem,hw])
     refine⟨i+1,⟨h1,by rw[←hX2];rfl⟩,by omega,?_⟩;exact ST_ [] [0,1]
    have e2:decide (c.ep≤s.f.ep)=false:=decide_eq_false q2;rw[e2,Bool.false_or]at hfit;repeat(first|refine aa_ ?_|simp only[go_sem,e2])
    refine ab_ ?_;repeat(first|refine aa_ ?_|simp only[go_sem,hgd,hlen])
    refine as_ (c3) ?_;try refine aa_ ?_
    by_cases q3:st1<b.slot
    ·have e3:decide (st1<b.slot)=true:=decide_eq_true q3
     rw[if_pos q3]at hfit;repeat(first|refine aa_ ?_|simp only[go_sem,e3])
     refine Rn_ ?_
     refine Sv_ c4 ?_
     by_cases q4:A<0
     ·have e4:decide (A<0)=true:=decide_eq_true q4;rw[decide_eq_false (show ¬0≤A by omega)]at hfit;rw[hF hfit];repeat(first|refine aa_ ?_|simp only[go_sem,e4])
      refine Rn_ ?_
      exact ag_
     have e4:decide (A<0)=false:=decide_eq_false q4;rw[decide_eq_true (show 0≤A by omega),Bool.true_and]at hfit;have hgn:=bP_ (t:=s.nodes) (i:=A.toNat) (by omega);repeat(first|refine aa_ ?_|simp only[go_sem,e4])
     refine ab_ ?_;repeat(first|refine aa_ ?_|simp only[go_sem,hgn,hgd,hlen])
     by_cases q5:(nod s.nodes A.toNat).blk.root=c.rt
     ·have e5:decide ((nod s.nodes A.toNat).blk.root=c.rt)=true:=decide_eq_true q5;rw[e5]at hfit;rw[hT hfit];repeat(first|refine aa_ ?_|simp only[go_sem,e5])
      refine ab_ ?_;repeat(first|refine aa_ ?_|simp only[go_sem,hw])
      refine⟨i+1,⟨h1,by rw[←hX2];rfl⟩,by omega,?_⟩;exact ST_ [] [0,1]
     ·have e5:decide ((nod s.nodes A.toNat).blk.root=c.rt)=false:=decide_eq_false q5;rw[e5]at hfit;rw[hF hfit];repeat(first|refine aa_ ?_|simp only[go_sem,e5])
      refine Rn_ ?_
      exact ag_
    ·have e3:decide (st1<b.slot)=false:=decide_eq_false q3
     rw[if_neg q3]at hfit;repeat(first|refine aa_ ?_|simp only[go_sem,e3])
     refine ab_ ?_;repeat(first|refine aa_ ?_|simp only[go_sem,hgd,hlen])
     by_cases q5:b.root=c.rt
     ·have e5:decide (b.root=c.rt)=true:=decide_eq_true q5;rw[e5]at hfit;rw[hT hfit];repeat(first|refine aa_ ?_|simp only[go_sem,e5])
      refine ab_ ?_;repeat(first|refine aa_ ?_|simp only[go_sem,hw])
      refine⟨i+1,⟨h1,by rw[←hX2];rfl⟩,by omega,?_⟩;exact ST_ [] [0,1]
     ·have e5:decide (b.root=c.rt)=false:=decide_eq_false q5;rw[e5]at hfit;rw[hF hfit];repeat(first|refine aa_ ?_|simp only[go_sem,e5])
      refine Rn_ ?_
      exact ag_
   ·obtain rfl:i=4:=by omega
    have e1:=inF (4);have hz:dH_ (fun k=>!lG_ s b P ((cps b).getD k cp0)) (4-4) 4=none:=fa_ _ 4;rw[hz];have hlen:(cps b).length=4:=rfl;repeat(first|refine aa_ ?_|simp only[go_sem,e1,hlen])
    refine Rm_ ?_
    exact ag_
theorem sz_(s:ai_)(b:Blk)(h:StR s):PC Tryz.prog 84 [.agg (aj_ s.a),.agg (al_ b)] (.int .i64 (aI_ s b)):=by
 refine PC.fact 87 pk_ (by simp) puA puA ?_;unfold iu_;refine bd ?_;have c1:=hn_ s s.f.ep;have c2:=Gz_ s b.root h;have c3:=by_ s.nodes b.parent h.bn;have c4:=JP_ s b h;have b3:=cl_ s.nodes b.parent;obtain⟨R,hc⟩:∃R,R=aI_ s b:=⟨_,rfl⟩
 rw[←hc];unfold aI_ at hc;generalize bK_ s s.f.ep=st at *;obtain⟨st1,st2⟩:=st;dsimp only at c1 hc;generalize ek_ s b.root=N at *;generalize ak_ s.nodes b.parent=P at *;generalize vn_ s b=T at *;try refine aa_ ?_
 refine Sv_ c1 ?_
 by_cases q1:b.root=rt0
 ·have e1:decide (b.root=rt0)=true:=decide_eq_true q1;rw[if_pos q1]at hc;subst hc;repeat(first|refine aa_ ?_|simp only[go_sem,e1])
  refine Rn_ ?_
  exact ag_
 have e1:decide (b.root=rt0)=false:=decide_eq_false q1;rw[if_neg q1]at hc;repeat(first|refine aa_ ?_|simp only[go_sem,e1])
 refine Rm_ ?_
 refine ae_ c2 ?_;cases N with
 | true =>
   rw[if_pos rfl]at hc;subst hc;try refine aa_ ?_
   refine Rn_ ?_
   exact ag_
 | false =>
   rw[if_neg (by simp)]at hc;try refine aa_ ?_
   refine Rm_ ?_
   by_cases q3:s.now<b.slot
   ·have e3:decide (s.now<b.slot)=true:=decide_eq_true q3;rw[if_pos q3]at hc;subst hc;repeat(first|refine aa_ ?_|simp only[go_sem,e3])
    refine Rn_ ?_
    exact ag_
   have e3:decide (s.now<b.slot)=false:=decide_eq_false q3;rw[if_neg q3]at hc;repeat(first|refine aa_ ?_|simp only[go_sem,e3])
   refine Rm_ ?_
   by_cases q4:b.slot≤st1
   ·have e4:decide (b.slot≤st1)=true:=decide_eq_true q4;rw[if_pos q4]at hc;subst hc;repeat(first|refine aa_ ?_|simp only[go_sem,e4])
    refine Rn_ ?_
    exact ag_
   have e4:decide (b.slot≤st1)=false:=decide_eq_false q4;rw[if_neg q4]at hc;repeat(first|refine aa_ ?_|simp only[go_sem,e4])
   refine Rm_ ?_
   refine Sv_ c3 ?_
   by_cases q5:P<0
   ·have e5:decide (P<0)=true:=decide_eq_true q5;rw[if_pos q5]at hc;subst hc;repeat(first|refine aa_ ?_|simp only[go_sem,e5])
    refine Rn_ ?_
    exact ag_
   have e5:decide (P<0)=false:=decide_eq_false q5;rw[if_neg q5]at hc;have hg:=bP_ (t:=s.nodes) (i:=P.toNat) (by omega);repeat(first|refine aa_ ?_|simp only[go_sem,e5])
   refine ab_ ?_;repeat(first|refine aa_ ?_|simp only[go_sem,hg])
   by_cases q6:b.slot≤(nod s.nodes P.toNat).blk.slot
   ·have e6:decide (b.slot≤(nod s.nodes P.toNat).blk.slot)=true:=decide_eq_true q6;rw[if_pos q6]at hc;subst hc;repeat(first|refine aa_ ?_|simp only[go_sem,e6])
    refine Rn_ ?_
    exact ag_
   have e6:decide (b.slot≤(nod s.nodes P.toNat).blk.slot)=false:=decide_eq_false q6;rw[if_neg q6]at hc;repeat(first|refine aa_ ?_|simp only[go_sem,e6])
   refine ab_ ?_;repeat(first|refine aa_ ?_|simp only[go_sem,hg])
   by_cases q7:(nod s.nodes P.toNat).status=2
   ·have e7:((nod s.nodes P.toNat).status==2)=true:=by simp[q7]
    rw[if_pos q7]at hc;subst hc;repeat(first|refine aa_ ?_|simp only[go_sem,e7])
    refine Rn_ ?_
    exact ag_
   have e7:((nod s.nodes P.toNat).status==2)=false:=by simp[q7]
   rw[if_neg q7]at hc;repeat(first|refine aa_ ?_|simp only[go_sem,e7])
   refine ab_ ?_;repeat(first|refine aa_ ?_|simp only[go_sem,hg])
   refine ae_ c4 ?_;cases T with
   | false =>
     rw[if_pos rfl]at hc;subst hc;try refine aa_ ?_
     refine Rn_ ?_
     exact ag_
   | true =>
     rw[if_neg (by simp)]at hc;have c5:=Gp_ s.cfg.ttd (nod s.nodes P.toNat).blk b;generalize vm_ s.cfg.ttd (nod s.nodes P.toNat).blk b=M at *;try refine aa_ ?_
     refine ab_ ?_;repeat(first|refine aa_ ?_|simp only[go_sem,hg])
     refine as_ (c5) ?_;cases M with
     | false =>
       rw[if_pos rfl]at hc;subst hc;try refine aa_ ?_
       refine Rn_ ?_
       exact ag_
     | true =>
       rw[if_neg (by simp)]at hc;try refine aa_ ?_
       refine Rm_ ?_
       by_cases q8:s.cfg.lim.node≤(s.nodes.length:Int)
       ·have e8:decide ((s.nodes.length:Int) ≥ s.cfg.lim.node)=true:=decide_eq_true q8;have e9:decide (s.cfg.lim.node≤(s.nodes.length:Int))=true:=decide_eq_true q8;rw[if_pos q8]at hc;subst hc;repeat(first|refine aa_ ?_|simp only[go_sem,e8,e9])
        refine Rn_ ?_
        exact ag_
       ·have e8:decide ((s.nodes.length:Int) ≥ s.cfg.lim.node)=false:=decide_eq_false q8;have e9:decide (s.cfg.lim.node≤(s.nodes.length:Int))=false:=decide_eq_false q8;rw[if_neg q8]at hc;subst hc;repeat(first|refine aa_ ?_|simp only[go_sem,e8,e9])
        refine Rm_ ?_
        exact ag_
theorem nu_(l:List Blk)(a:Int):∀k,(aw_ (iH_ l a) [] k).length≤k
 |0=>Nat.le_refl _
 | k + 1 => by
   rw[bA_];have h1:=nu_ l a k;unfold iH_ at *;split
   ·simp only[List.length_append,List.length_cons,List.length_nil];omega
   ·omega
theorem kG_(l:List au_)(e:Int):∀t∈dL_ l e,t∈l:=by
 unfold dL_;refine hr_ (f:=fun i o=>if e≤(tab l i).cp.ep then o++[tab l i]else o) (a:=[]) (fun _ o=>∀t∈o,t∈l) (by simp) l.length (fun i o hi ho=>?_) _ (Nat.le_refl _);split
 ·intro t ht;rw[List.mem_append,List.mem_singleton]at ht;rcases ht with ht|rfl
  ·exact ho t ht
  ·unfold tab;rw[List.getD_eq_getElem?_getD,List.getElem?_eq_getElem hi];exact List.getElem_mem hi
 ·exact ho
theorem kF_(l:List au_)(e:Int):(dL_ l e).length≤l.length:=by
 have:=hs_ (f:=fun i o=>if e≤(tab l i).cp.ep then o++[tab l i]else o) (a:=([]:List au_)) (fun i o=>by split<;>simp) l.length;unfold dL_;simpa using this
theorem BG_{s:ai_}{a b:Cp}(h:iK_ s a b=true):0≤ak_ s.nodes a.rt∧0≤ak_ s.nodes b.rt∧dn_ s.nodes (ak_ s.nodes b.rt) (ak_ s.nodes a.rt)=true:=by
 unfold iK_ at h;simp only[Bool.and_eq_true,decide_eq_true_eq]at h;exact⟨h.1.1.1.1.1.1.1.1.1,h.1.1.1.1.1.1.1.1.2,h.1.1.1.2⟩
theorem StR.upd{s:ai_}(h:StR s)(j f:Cp):StR (bp_ s j f):=by
 unfold bp_;split
 ·exact h
 ·rename_i hm
  have hm:iK_ s (bG_ s.j j) (bG_ s.f f)=true:=by simpa using hm
  obtain⟨h1,h2,h3⟩:=BG_ hm;have hd:=kF_ s.tabs (bG_ s.j j).ep;have hb:∀t∈dL_ s.tabs (bG_ s.j j).ep,t.bals.length≤1000000:=fun t ht=>h.bb t (kG_ _ _ t ht)
  split
  ·exact⟨h.tree,h.spe,h.bn,h.bl,h.be,Nat.le_trans hd h.bt,hb,h.bo,h.ba,h.nl,h.ll,h1⟩
  ·have hf:=mM_ h2;have hl:=pt_ h.tree (ak_ s.nodes (bG_ s.f f).rt);refine⟨h.tree.prune h2 (by omega),h.spe,Nat.le_trans hl h.bn,h.bl,h.be,Nat.le_trans hd h.bt,hb,Nat.le_trans (nu_ _ _ _) h.bo,h.ba,h.nl,h.ll,?_⟩;exact Ey_ h.tree h1 h3
def qL_(l:List Blk)(a:Int)(k:Nat):List Blk:=aw_ (iH_ l a) [] k
theorem OY_(l:List Blk)(a:Int)(k:Nat):qL_ l a (k+1)=iH_ l a k (qL_ l a k):=rfl
theorem Qj_(s:ai_)(j f a b:Cp)(T1:List Nod)(r:Rt)(D:List au_)(hbo:s.orph.length≤1000000):
 Tri Tryz.prog 104 0 (be_.tl 9) (PQ [.cell 6 true 150] (.agg (aj_ (⟨s.cfg,s.latest,s.eqv,a,b,s.early,qL_ s.orph (bK_ s b.ep).1 s.orph.length,T1,s.now,r,D⟩:ai_).a)))
  ⟨15,[.agg (aj_ s.a),.agg (cpC j),.agg (cpC f),.ptr 0 0,.ptr 1 0,.ptr 2 0,.ptr 3 0,.ptr 4 0,.ptr 5 0,.bool true,.bool true,.dead,.dead,.dead,.dead],[]⟩
  [.var (aj_ (⟨s.cfg,s.latest,s.eqv,a,b,s.early,s.orph,T1,s.now,r,D⟩:ai_).a),.var (cpC j),.var (cpC f),.var (aj_ eS_),.var (cpC a),.var (cpC b)]:=by
 unfold be_;refine bd ?_;simp only[ad_.tl];have c6:PC Tryz.prog 126 [.agg (aj_ (⟨s.cfg,s.latest,s.eqv,a,b,s.early,s.orph,T1,s.now,r,D⟩:ai_).a),.int .u64 b.ep] (.tup [.int .u64 (bK_ s b.ep).1,.bool (bK_ s b.ep).2]):=hn_ ⟨s.cfg,s.latest,s.eqv,a,b,s.early,s.orph,T1,s.now,r,D⟩ b.ep;generalize bK_ s b.ep=st at *;obtain⟨st1,st2⟩:=st;dsimp only at c6 ⊢;try refine aa_ ?_
 refine Sv_ c6 ?_
 refine cY_ 13 238 ?_;simp only[go_sem];have hz:qL_ s.orph st1 0=[]:=rfl;refine ao_ (fun i:Nat=>[(14,.int .i64 i),(13,.hs 238 6 0 (qL_ s.orph st1 i).length)]) (fun i=>[.var (aj_ (⟨s.cfg,s.latest,s.eqv,a,b,s.early,s.orph,T1,s.now,r,D⟩:ai_).a),.var (cpC j),.var (cpC f),.var (aj_ eS_),.var (cpC a),.var (cpC b),.vec 238 (rows al_ (qL_ s.orph st1 i))]) (fun i=>s.orph.length-i) (fun i=>i≤s.orph.length) 0 (Nat.zero_le _) ?_ ?_
 ·rw[hz];exact ST_ [] [0,1,2,3,4,5,6]
 intro i hi;refine cC_ ?_;by_cases h1:i<s.orph.length
 ·have e1:=inT h1
  have hw:=af_ h1 (by omega);have hgd:(rows al_ s.orph).getD i []=al_ (ce_ s.orph i):=aB_ (f:=al_) cg_ h1;have hs:=OY_ s.orph st1 i;have hli:(qL_ s.orph st1 i).length≤i:=nu_ s.orph st1 i;generalize qL_ s.orph st1 i=acc at *;have hc:iH_ s.orph st1 i acc=if st1<(ce_ s.orph i).slot then acc++[ce_ s.orph i]else acc:=rfl
  have hr:rows al_ acc++[al_ (ce_ s.orph i)]=rows al_ (acc++[ce_ s.orph i]):=bF_ al_ acc (ce_ s.orph i);repeat(first|refine aa_ ?_|simp only[go_sem,e1])
  refine ac_ ?_;repeat(first|refine aa_ ?_|simp only[go_sem,hgd])
  by_cases q:st1<(ce_ s.orph i).slot
  ·have e2:decide ((ce_ s.orph i).slot > st1)=true:=decide_eq_true q;have e3:decide (st1<(ce_ s.orph i).slot)=true:=decide_eq_true q;rw[if_pos q]at hc;repeat(first|refine aa_ ?_|simp only[go_sem,e2,e3])
   refine ac_ ?_;repeat(first|refine aa_ ?_|simp only[go_sem,hgd,hr,hw])
   refine⟨i+1,h1,by omega,?_⟩;rw[hs,hc];exact ST_ [] [0,1,2,3,4,5,7]
  ·have e2:decide ((ce_ s.orph i).slot > st1)=false:=decide_eq_false q;have e3:decide (st1<(ce_ s.orph i).slot)=false:=decide_eq_false q;rw[if_neg q]at hc;repeat(first|refine aa_ ?_|simp only[go_sem,e2,e3])
   refine ab_ ?_;repeat(first|refine aa_ ?_|simp only[go_sem,hw])
   refine⟨i+1,h1,by omega,?_⟩;rw[hs,hc];exact ST_ [] [0,1,2,3,4,5,6]
 ·obtain rfl:i=s.orph.length:=by omega
  have e1:=inF (s.orph.length);generalize qL_ s.orph st1 s.orph.length=acc;have ht:List.take acc.length (rows al_ acc)=rows al_ acc:=List.take_of_length_le (by simp);repeat(first|refine aa_ ?_|simp only[go_sem,e1])
  refine ab_ ?_;repeat(first|refine aa_ ?_|simp only[go_sem,ht])
  exact ag_
theorem wO_(s:ai_)(j f:Cp)(h:StR s):PC Tryz.prog 45 [.agg (aj_ s.a),.agg (cpC j),.agg (cpC f)] (.agg (aj_ (bp_ s j f).a)):=by
 have tl:=Qj_ s j f;refine PC.fact 15 vc_ (by simp) puA puA ?_;have hc:be_=.seq be_.hd (.seq (be_.tl 1).hd (.seq (be_.tl 2).hd (.seq (be_.tl 3).hd (.seq (be_.tl 4).hd (.seq (be_.tl 5).hd (.seq (be_.tl 6).hd (.seq (be_.tl 7).hd (.seq (be_.tl 8).hd (be_.tl 9))))))))):=rfl;rw[hc];clear hc;generalize be_.tl 9=cT at *;unfold be_;refine bd ?_;simp only[ad_.tl,ad_.hd];have c1:=Jh_ s h j f;obtain⟨U,hU⟩:∃U,U=bp_ s j f:=⟨_,rfl⟩
 rw[←hU];unfold bp_ at hU;generalize bG_ s.j j=a at *;generalize bG_ s.f f=b at *;generalize hm:iK_ s a b=M at *;try refine aa_ ?_
 refine ae_ c1 ?_;cases M with
 | false =>
   rw[if_pos rfl]at hU;subst hU;try refine aa_ ?_
   refine Rn_ ?_
   exact ag_
 | true =>
   rw[if_neg (by simp)]at hU;obtain⟨m1,m2,m3⟩:=BG_ hm;have c2:=xD_ s.tabs a.ep h.bt;generalize dL_ s.tabs a.ep=D at *;try refine aa_ ?_
   refine Rm_ ?_
   refine Sv_ c2 ?_
   by_cases q:b=s.f
   ·have e1:decide (b=s.f)=true:=decide_eq_true q;rw[if_pos q]at hU;subst hU;repeat(first|refine aa_ ?_|simp only[go_sem,e1])
    refine Rn_ ?_
    exact ag_
   ·have e1:decide (b=s.f)=false:=decide_eq_false q
    rw[if_neg q]at hU;have hbd:=cl_ s.nodes b.rt;have c3:=by_ s.nodes b.rt h.bn;have c4:=Hb_ s.nodes h.tree.ok (ak_ s.nodes b.rt) h.bn (by simp only[isN,Bool.and_eq_true,decide_eq_true_eq];omega);have hl:=pt_ h.tree (ak_ s.nodes b.rt);have hbn:=h.bn;have hbo:=h.bo;generalize ak_ s.nodes b.rt=K at *;generalize em_ s.nodes K=T at *;obtain⟨T1,T2⟩:=T;dsimp only at hU c4 hl;have c5:=by_ T1 s.boost (by omega);generalize ak_ T1 s.boost=B at *;have tl:=fun r=>tl a b T1 r D h.bo
    repeat(first|refine aa_ ?_|simp only[go_sem,e1])
    refine Rm_ ?_
    refine as_ (c3) ?_;try refine aa_ ?_
    refine as_ (c4) ?_;try refine aa_ ?_
    refine Sv_ c5 ?_
    by_cases q2:B<0
    ·have e2:decide (B<0)=true:=decide_eq_true q2;rw[if_pos q2]at hU;subst hU;repeat(first|refine aa_ ?_|simp only[go_sem,e2])
     refine Rn_ ?_
     refine cH_ ?_ (tl rt0);exact ST_ [] [0,1,2,3,4,5]
    ·have e2:decide (B<0)=false:=decide_eq_false q2;rw[if_neg q2]at hU;subst hU;repeat(first|refine aa_ ?_|simp only[go_sem,e2])
     refine Rm_ ?_
     refine cH_ ?_ (tl s.boost);exact ST_ [] [0,1,2,3,4,5]
theorem Fv_(n lo hi:Int):PC Tryz.prog 139 [.int .i64 n,.int .i64 lo,.int .i64 hi] (.bool (wit n lo hi)):=by
 refine PC.fact 7 ve_ (by simp) puA puA ?_;unfold mi_;refine bd ?_;unfold wit;by_cases h0:lo≤n
 ·have e0:decide (n ≥ lo)=true:=decide_eq_true h0;have e1:decide (lo≤n)=true:=decide_eq_true h0;repeat(first|refine aa_ ?_|simp only[go_sem,e0,e1])
  exact ag_
 ·have e0:decide (n ≥ lo)=false:=decide_eq_false h0;have e1:decide (lo≤n)=false:=decide_eq_false h0;repeat(first|refine aa_ ?_|simp only[go_sem,e0,e1])
  exact ag_
theorem FN_(s:ai_)(a:aG_)(h:StR s)(N:Int)(R:Bool×Int)
 (hR:R=if ak_ s.nodes a.root<0∨ak_ s.nodes a.target.rt<0 then (false,10)else if a.slot<(nod s.nodes (ak_ s.nodes a.root).toNat).blk.slot then (false,14)
  else if atT s.nodes (ak_ s.nodes a.root) (bK_ s a.target.ep).1≠ak_ s.nodes a.target.rt then (false,19)else (decide (s.now≤a.slot),0)):
 Tri Tryz.prog 99 0 (aM_.tl 4) (PQ [.tmp 4,.tmp 5] (.tup [.bool R.1,.int .i64 R.2])) ⟨12,[.agg (aj_ s.a),.agg (bi_ a.a),.ptr 0 0,.ptr 1 0,.bool false,.int .i64 0,.int .i64 0,.int .u64 N,.dead,.dead,.dead,.dead],[]⟩ [.var (aj_ s.a),.var (bi_ a.a)]:=by
 unfold aM_;refine bd ?_;simp only[ad_.tl];have c4:=by_ s.nodes a.root h.bn;have c5:=by_ s.nodes a.target.rt h.bn;have c6:=hn_ s a.target.ep;have b4:=cl_ s.nodes a.root;have b5:=cl_ s.nodes a.target.rt;generalize ak_ s.nodes a.root=I at *;generalize ak_ s.nodes a.target.rt=G at *;generalize bK_ s a.target.ep=st at *;obtain⟨st1,st2⟩:=st;dsimp only at c6 hR;have c7:=AG_ s.nodes h.tree.ok h.bn I st1;generalize atT s.nodes I st1=A at *;try refine aa_ ?_
 refine as_ (c4) ?_;try refine aa_ ?_
 refine as_ (c5) ?_;by_cases q1:I<0
 ·have e1:decide (I<0)=true:=decide_eq_true q1;rw[if_pos (.inl q1)]at hR;subst hR;repeat(first|refine aa_ ?_|simp only[go_sem,e1])
  refine Rn_ ?_
  exact ag_
 have e1:decide (I<0)=false:=decide_eq_false q1;by_cases q2:G<0
 ·have e2:decide (G<0)=true:=decide_eq_true q2;rw[if_pos (.inr q2)]at hR;subst hR;repeat(first|refine aa_ ?_|simp only[go_sem,e1,e2])
  refine Rn_ ?_
  exact ag_
 have e2:decide (G<0)=false:=decide_eq_false q2;rw[if_neg (fun h=>h.elim q1 q2)]at hR;have hg:=bP_ (t:=s.nodes) (i:=I.toNat) (by omega);repeat(first|refine aa_ ?_|simp only[go_sem,e1,e2])
 refine ab_ ?_;repeat(first|refine aa_ ?_|simp only[go_sem,hg])
 by_cases q3:a.slot<(nod s.nodes I.toNat).blk.slot
 ·have e3:decide ((nod s.nodes I.toNat).blk.slot > a.slot)=true:=decide_eq_true q3;have e4:decide (a.slot<(nod s.nodes I.toNat).blk.slot)=true:=decide_eq_true q3;rw[if_pos q3]at hR;subst hR;repeat(first|refine aa_ ?_|simp only[go_sem,e3,e4])
  refine Rn_ ?_
  exact ag_
 have e3:decide ((nod s.nodes I.toNat).blk.slot > a.slot)=false:=decide_eq_false q3;have e4:decide (a.slot<(nod s.nodes I.toNat).blk.slot)=false:=decide_eq_false q3;rw[if_neg q3]at hR;repeat(first|refine aa_ ?_|simp only[go_sem,e3,e4])
 refine Rm_ ?_
 refine Sv_ c6 ?_
 refine ae_ c7 ?_;by_cases q4:A=G
 case neg=>
  have e5:(A != G)=true:=by simp[q4]
  rw[if_pos q4]at hR;subst hR;repeat(first|refine aa_ ?_|simp only[go_sem,e5])
  refine Rn_ ?_
  exact ag_
 have e5:(A != G)=false:=by simp[q4]
 rw[if_neg (by simp[q4])]at hR;repeat(first|refine aa_ ?_|simp only[go_sem,e5])
 refine ab_ ?_;by_cases q5:s.now≤a.slot
 ·have e6:decide (a.slot ≥ s.now)=true:=decide_eq_true q5;have e7:decide (s.now≤a.slot)=true:=decide_eq_true q5;rw[e7]at hR;subst hR;repeat(first|refine aa_ ?_|simp only[go_sem,e6,e7])
  exact ag_
 ·have e6:decide (a.slot ≥ s.now)=false:=decide_eq_false q5;have e7:decide (s.now≤a.slot)=false:=decide_eq_false q5;rw[e7]at hR;subst hR;repeat(first|refine aa_ ?_|simp only[go_sem,e6,e7])
  exact ag_
theorem sy_(s:ai_)(a:aG_)(h:StR s)(ha:a.vals.length≤1000000):PC Tryz.prog 46 [.agg (aj_ s.a),.agg (bi_ a.a)] (.tup [.bool (cq_ s a).1,.int .i64 (cq_ s a).2]):=by
 have tl:=FN_ s a h;obtain⟨R,hc⟩:∃R,R=cq_ s a:=⟨_,rfl⟩
 rw[←hc];unfold cq_ at hc;have c0:=sj_ s;have c1:=fH_ a.vals false s.cfg.bals.length (by omega);have c2:=dS_ s s.now h.spe;have c3:=dS_ s a.slot h.spe;refine PC.fact 12 jH_ (by simp) puA puA ?_;have hc:aM_=.seq aM_.hd (.seq (aM_.tl 1).hd (.seq (aM_.tl 2).hd (.seq (aM_.tl 3).hd (aM_.tl 4)))):=rfl;rw[hc];clear hc;generalize aM_.tl 4=cT at *;unfold aM_;refine bd ?_;simp only[ad_.tl,ad_.hd]
 generalize hY:(if ak_ s.nodes a.root<0∨ak_ s.nodes a.target.rt<0 then ((false,10):Bool×Int)else if a.slot<(nod s.nodes (ak_ s.nodes a.root).toNat).blk.slot then (false,14)
  else if atT s.nodes (ak_ s.nodes a.root) (bK_ s a.target.ep).1≠ak_ s.nodes a.target.rt then (false,19)else (decide (s.now≤a.slot),0))=Y at *
 generalize cV_ a.vals s.cfg.bals.length=V at *;generalize aU_ s s.now=N at *;generalize aU_ s a.slot=S at *;try refine aa_ ?_
 refine as_ (c0) ?_;try refine aa_ ?_
 refine as_ (c1) ?_;try refine aa_ ?_
 by_cases q1:V=0
 case neg=>
  have e1:(V != 0)=true:=by simp[q1]
  rw[if_pos q1]at hc;subst hc;repeat(first|refine aa_ ?_|simp only[go_sem,e1])
  refine Rn_ ?_
  exact ag_
 have e1:(V != 0)=false:=by simp[q1]
 rw[if_neg (by simp[q1])]at hc;repeat(first|refine aa_ ?_|simp only[go_sem,e1])
 refine Rm_ ?_
 refine Sv_ c2 ?_
 refine as_ (c3) ?_;subst q1;have fail:(a.target.ep≠S∨(a.target.ep≠N∧(N=0∨a.target.ep≠IntKind.u64.wrap (N-1))))→R=(false,18):=fun hq=>by rw[hc,if_pos hq]
 have pass:¬ (a.target.ep≠S∨(a.target.ep≠N∧(N=0∨a.target.ep≠IntKind.u64.wrap (N-1))))→R=Y:=fun hq=>by rw[hc,if_neg hq]
 clear hc;by_cases q2:a.target.ep=S
 case neg=>
  have e2:(a.target.ep != S)=true:=by simp[q2]
  obtain rfl:=fail (.inl q2);repeat(first|refine aa_ ?_|simp only[go_sem,e2])
  refine Rn_ ?_
  exact ag_
 have e2:(a.target.ep != S)=false:=by simp[q2]
 by_cases q3:a.target.ep=N
 ·have e3:(a.target.ep != N)=false:=by simp[q3]
  have tl:=tl N R (pass (by rintro (h|h);exact h q2;exact h.1 q3));repeat(first|refine aa_ ?_|simp only[go_sem,e2,e3])
  refine Rm_ ?_
  refine cH_ ?_ tl;exact ST_ [] [0,1]
 have e3:(a.target.ep != N)=true:=by simp[q3]
 by_cases q4:N=0
 ·have e4:(N==0)=true:=by simp[q4]
  obtain rfl:=fail (.inr ⟨q3,.inl q4⟩);repeat(first|refine aa_ ?_|simp only[go_sem,e2,e3,e4])
  refine Rn_ ?_
  exact ag_
 have e4:(N==0)=false:=by simp[q4]
 by_cases q5:a.target.ep=IntKind.u64.wrap (N-1)
 ·have e5:(a.target.ep != IntKind.u64.wrap (N-1))=false:=by rw[←q5];simp
  have tl:=tl N R (pass (by rintro (h|h);exact h q2;rcases h.2 with h|h;exact q4 h;exact h q5));repeat(first|refine aa_ ?_|simp only[go_sem,e2,e3,e4,e5])
  refine Rm_ ?_
  refine cH_ ?_ tl;exact ST_ [] [0,1]
 ·have e5:(a.target.ep != IntKind.u64.wrap (N-1))=true:=by rw[bne_iff_ne];exact q5
  obtain rfl:=fail (.inr ⟨q3,.inr q5⟩);repeat(first|refine aa_ ?_|simp only[go_sem,e2,e3,e4,e5])
  refine Rn_ ?_
  exact ag_
theorem De_(s:ai_)(a:aG_)(h:StR s)(ha:a.vals.length≤1000000)(hj:∀j∈a.vals,0≤j∧j<s.latest.length):PC Tryz.prog 47 [.agg (aj_ s.a),.agg (bi_ a.a)] (.agg (aj_ (castIn s a).a)):=by
 refine PC.fact 5 mG_ (by simp) puA puA ?_;unfold it_;refine bd ?_;have c1:=zk_ s.latest a.target.ep a.root a.vals h.bl ha hj;unfold castIn;generalize uB_ s.latest a.target.ep a.root a.vals=C at *;obtain⟨C1,C2⟩:=C;dsimp only at c1 ⊢;try refine aa_ ?_
 refine Sv_ c1 ?_
 exact ag_
end Go.Proofs.YtkgimpdgncakjaaGreat
