/-
 My texts Lu, Lq, Lr, Ls, Lt, joined.
-/
import Derived.Test.YtipiipgpnkpejaaGreatV5
import Derived.Test.YtipiipgpnkpejaaGreatV3
import Derived.Test.YtipiipgpnkpejaaGreatV2
namespace Go.Proofs.YtipiipgpnkpejaaGreat
open Go Go.FH Go.RowKit
set_option linter.unusedVariables false
set_option linter.unusedSimpArgs false
def iY_(s:al_)(x:df_):al_×Int:=
 if evE x.a x.fst.vals x.snd.vals s.cfg.bals.length≠0 then (fA_,evE x.a x.fst.vals x.snd.vals s.cfg.bals.length)
 else if IntKind.i64.wrap ((EQ_ s.eqv (gt_ x.fst.vals x.snd.vals x.fst.vals.length)).length-s.eqv.length)=0 then (fA_,9)else (RP_ s (EQ_ s.eqv (gt_ x.fst.vals x.snd.vals x.fst.vals.length)),0)
def eE_(s:aN_)(t:al_):aN_:=⟨t,s.reqs,s.rets,s.tag,s.sent,s.last,s.over,s.halt⟩
def Qt_(s:aN_)(l:List Req):aN_:=⟨s.sto,l,s.rets,s.tag,s.sent,s.last,s.over,s.halt⟩
def eF_(s:aN_)(l:List Req):aN_:=⟨s.sto,s.reqs,l,s.tag,s.sent,s.last,s.over,s.halt⟩
def dl_(l:List Req)(i:Nat):Req:=l.getD i hr_
def wq_(s:al_)(r:Rt):Bool:=decide (0≤av_ s.nodes r)&&decide ((nod s.nodes (av_ s.nodes r).toNat).status=0)
def oU_(s:aN_)(r:Rt)(tries:Int):aN_:=⟨s.sto,s.reqs++[⟨s.tag,r,tries,0⟩],s.rets,IntKind.u64.wrap (s.tag+1),s.sent,s.last,s.over,s.halt⟩
def fV_(l:List Rt)(i:Nat)(s:aN_):aN_:=if wq_ s.sto (l.getD i rt0)=true then oU_ s (l.getD i rt0) 0 else s
def Hf_(s:aN_)(l:List Rt):aN_:=aK_ (fV_ l) s l.length
def eT_(t:List Nod)(l:List Req)(i:Nat)(o:List Req):List Req:=if 0≤av_ t (dl_ l i).block then o++[dl_ l i]else o
def iM_(t:List Nod)(l:List Req):List Req:=aK_ (eT_ t l) [] l.length
def vo_(s:aN_):aN_:=⟨s.sto,iM_ s.sto.nodes s.reqs,iM_ s.sto.nodes s.rets,s.tag,s.sent,s.last,s.over,s.halt⟩
def pi_(b:Int):Nat→Int→Int
 |0,d=>d
 |f+1,d=>if IntKind.u64.wrap (b-d)≤d then b else pi_ b f (IntKind.u64.wrap (2*d))
def BP_(tries b:Int):Int:=if b=0 then 0 else pi_ b (tries-1).toNat 1
def Mf_(a b:Req):Bool:=decide (a.due<b.due) || (decide (a.due=b.due)&&decide (a.tag<b.tag))
def oX_(l:List Req):Nat→List Req
 |0=>l
 |k+1=>if Mf_ (dl_ l (k+1)) (dl_ l k)=true then oX_ ((l.set (k+1) (dl_ l k)).set k (dl_ l (k+1))) k else l
def ss_(s:aN_)(r:Req):Req:=⟨r.tag,r.block,IntKind.i64.wrap (r.tries+1),IntKind.u64.wrap (s.sto.now+BP_ (IntKind.i64.wrap (r.tries+1)) s.sto.cfg.lim.backoff)⟩
def wa_(s:aN_)(r:Req):aN_:=
 if wq_ s.sto r.block=false then s else if s.sto.cfg.lim.retry≤s.rets.length then ⟨s.sto,s.reqs,s.rets,s.tag,s.sent,s.last,true,s.halt⟩
 else eF_ s (oX_ (s.rets++[ss_ s r]) s.rets.length)
def mG_(l:List Req)(i:Nat)(s:aN_):aN_:=if s.sto.now<(dl_ l i).due then eF_ s (s.rets++[dl_ l i])else if wq_ s.sto (dl_ l i).block=true then oU_ s (dl_ l i).block (dl_ l i).tries else s
def QJ_(s:aN_):aN_:=aK_ (mG_ s.rets) (eF_ s []) s.rets.length
def Iy_(s:al_):Rt:=if 0≤av_ s.nodes s.j.rt∧(nod s.nodes (av_ s.nodes s.j.rt).toNat).status=1 then s.j.rt else rt0
def Jz_(s:al_):Cmd:=⟨(nod s.nodes (vV_ s).toNat).blk.root,Iy_ s,s.f.rt⟩
def mH_(s:aN_):aN_×List Cmd:=if s.sent=true∧s.last=Jz_ s.sto then (s,[])else (⟨s.sto,s.reqs,s.rets,s.tag,true,Jz_ s.sto,s.over,s.halt⟩,[Jz_ s.sto])
def FR_:aN_:=⟨fA_,[],[],0,false,qt_,false,false⟩
def pd_(c:bV_):aN_×List Cmd×Int:=if rf_ c=0 then ((mH_ ⟨pE_ c,[],[],1,false,qt_,false,false⟩).1,(mH_ ⟨pE_ c,[],[],1,false,qt_,false,false⟩).2,0)else (FR_,[],rf_ c)
def rD_(l:List Req)(i:Nat):List Req:=l.take i++l.drop (i+1)
def dk_(s:aN_)(v:Vdt):Req×aN_×Int:=match jV_ (fun i=>decide ((dl_ s.reqs i).tag=v.tag)) s.reqs.length with
 |some i=>(dl_ s.reqs i,Qt_ s (rD_ s.reqs i),0)
 |none=>(hr_,FR_,23)
def boostV(s:al_):al_:=if 0≤av_ s.nodes s.boost∧(nod s.nodes (av_ s.nodes s.boost).toNat).status=2 then withB s rt0 else s
def Cm_(s:al_)(r:Rt)(v:Vdt):List Nod×Int:=gu_ s.nodes (av_ s.nodes r) v [av_ s.nodes s.j.rt,av_ s.nodes s.f.rt]
def rI_(s:aN_)(v:Vdt):aN_×Int:=
 if (dk_ s v).2.2≠0 then (s,(dk_ s v).2.2)else if v.kind=3∨v.kind=4 then (wa_ (dk_ s v).2.1 (dk_ s v).1,0)
 else if (Cm_ (dk_ s v).2.1.sto (dk_ s v).1.block v).2≠0 then (⟨s.sto,s.reqs,s.rets,s.tag,s.sent,s.last,s.over,true⟩,21)
 else (eE_ (dk_ s v).2.1 (boostV (dg_ (dk_ s v).2.1.sto (Cm_ (dk_ s v).2.1.sto (dk_ s v).1.block v).1)),0)
def jC_(s:aN_)(x:VOp):aN_×Int:=
 if x.kind=1 then (if (jI_ s.sto).2=0 then (QJ_ (vo_ (eE_ s (jI_ s.sto).1)),0)else (eE_ s (jI_ s.sto).1,(jI_ s.sto).2))
 else if x.kind=2 then (if (dL_ s.sto x.blk).2.2=0 then (Hf_ (vo_ (eE_ s (dL_ s.sto x.blk).1)) (dL_ s.sto x.blk).2.1,0)else (eE_ s (dL_ s.sto x.blk).1,(dL_ s.sto x.blk).2.2))
 else if x.kind=3 then (eE_ s (rO_ s.sto x.att).1,(rO_ s.sto x.att).2)else if x.kind=4 then (eE_ s (iY_ s.sto x.slg).1,(iY_ s.sto x.slg).2)
 else if x.kind=5 then (eE_ s (wH_ s.sto x.tab).1,(wH_ s.sto x.tab).2)else if x.kind=6 then rI_ s x.vdt else (s,2)
def toV(x:VOp):OpV:=⟨x.kind,x.blk,(x.att.slot,x.att.root,x.att.target,x.att.vals),((x.slg.fst.src,x.slg.fst.tgt,x.slg.fst.root,x.slg.fst.vals),(x.slg.snd.src,x.slg.snd.tgt,x.slg.snd.root,x.slg.snd.vals)),(x.tab.cp,x.tab.bals),x.vdt,x.write,x.keep⟩
def rB_(s:aN_)(x:VOp):aN_×List Cmd×Int:=
 if s.halt=true then (s,[],22)else if vOp (toV x)≠0 then (s,[],vOp (toV x))
 else if (jC_ s x).2=21 then ((jC_ s x).1,[],21)else if (jC_ s x).2≠0 then (s,[],(jC_ s x).2)
 else ((mH_ (jC_ s x).1).1,(mH_ (jC_ s x).1).2,0)
end Go.Proofs.YtipiipgpnkpejaaGreat
namespace Go.Proofs.YtipiipgpnkpejaaGreat
open Go Go.FH Go.RowKit
set_option linter.unusedVariables false
set_option linter.unusedSimpArgs false
set_option maxRecDepth 8000
set_option maxHeartbeats 4000000
theorem LQ_(s:al_)(h:StR s)(a b j0 f0:Cp)(R:Bool)(hR:R=yJ_ s a b):Tri Tryz.prog 118 0 (bu_.tl 4) (PQ [.cell 6 true 33,.cell 7 true 33,.tmp 8] (.tup [.agg (cpC (bif R then a else cp0)),.agg (cpC (bif R then b else cp0)),.bool R])) ⟨13,[.agg (ao_ s.a),.agg (cpC j0),.agg (cpC f0),.ptr 0 0,.ptr 1 0,.ptr 2 0,.ptr 3 0,.ptr 4 0,.bool false,.ptr 5 0,.ptr 6 0,.dead,.dead],[]⟩ [.var (ao_ s.a),.var (cpC j0),.var (cpC f0),.var (cpC cp0),.var (cpC cp0),.var (cpC a),.var (cpC b)]:=by
 unfold bu_;refine bd ?_;simp only[ad_.tl];have c1:=bJ_ s.nodes a.rt h.bn;have c2:=bJ_ s.nodes b.rt h.bn;have b1:=dE_ s.nodes a.rt;have b2:=dE_ s.nodes b.rt;unfold yJ_ at hR;generalize av_ s.nodes a.rt=I at *;generalize av_ s.nodes b.rt=K at *;try refine aa_ ?_
 refine ay_ (c1) ?_;try refine aa_ ?_
 refine ay_ (c2) ?_;by_cases q1:I<0
 ·have e1:decide (I<0)=true:=decide_eq_true q1;rw[decide_eq_false (show ¬0≤I by omega)]at hR;obtain rfl:R=false:=hR;repeat(first|refine aa_ ?_|simp only[go_sem,e1])
  refine Rf_ ?_
  exact ah_
 have e1:decide (I<0)=false:=decide_eq_false q1;rw[decide_eq_true (show 0≤I by omega)]at hR;by_cases q2:K<0
 ·have e2:decide (K<0)=true:=decide_eq_true q2;rw[decide_eq_false (show ¬0≤K by omega)]at hR;obtain rfl:R=false:=hR;repeat(first|refine aa_ ?_|simp only[go_sem,e1,e2])
  refine Rf_ ?_
  exact ah_
 have e2:decide (K<0)=false:=decide_eq_false q2;rw[decide_eq_true (show 0≤K by omega)]at hR;have hg1:=bQ_ (t:=s.nodes) (i:=I.toNat) (by omega);have hg2:=bQ_ (t:=s.nodes) (i:=K.toNat) (by omega);by_cases q3:(nod s.nodes I.toNat).status=2
 ·have e3:((nod s.nodes I.toNat).status==2)=true:=by simp[q3]
  rw[decide_eq_false (show ¬ (nod s.nodes I.toNat).status≠2 by simp[q3])]at hR;obtain rfl:R=false:=hR;repeat(first|refine aa_ ?_|simp only[go_sem,e1,e2,hg1,hg2,e3])
  refine Rf_ ?_
  exact ah_
 have e3:((nod s.nodes I.toNat).status==2)=false:=by simp[q3]
 rw[decide_eq_true (show (nod s.nodes I.toNat).status≠2 from q3)]at hR;by_cases q4:(nod s.nodes K.toNat).status=2
 ·have e4:((nod s.nodes K.toNat).status==2)=true:=by simp[q4]
  rw[decide_eq_false (show ¬ (nod s.nodes K.toNat).status≠2 by simp[q4])]at hR;obtain rfl:R=false:=hR;repeat(first|refine aa_ ?_|simp only[go_sem,e1,e2,e3,hg1,hg2,e4])
  refine Rf_ ?_
  exact ah_
 have e4:((nod s.nodes K.toNat).status==2)=false:=by simp[q4]
 rw[decide_eq_true (show (nod s.nodes K.toNat).status≠2 from q4)]at hR;repeat(first|refine aa_ ?_|simp only[go_sem,e1,e2,e3,e4,hg1,hg2])
 have k4:=vp_ s I a.ep (by omega) (by omega);generalize rU_ s I a.ep=V4 at *;refine ay_ (k4) ?_;cases V4 with
 | false =>
   obtain rfl:R=false:=hR;try refine aa_ ?_
   refine Rf_ ?_
   exact ah_
 | true =>
   repeat(first|refine aa_ ?_|simp only[go_sem,e1,e2,e3,e4,hg1,hg2])
   have k5:=vp_ s K b.ep (by omega) (by omega);generalize rU_ s K b.ep=V5 at *;refine ay_ (k5) ?_;cases V5 with
   | false =>
     obtain rfl:R=false:=hR;try refine aa_ ?_
     refine Rf_ ?_
     exact ah_
   | true =>
     repeat(first|refine aa_ ?_|simp only[go_sem,e1,e2,e3,e4,hg1,hg2])
     have k6:=pW_ s.nodes h.tree.ok h.bn K I;generalize fE_ s.nodes K I=V6 at *;refine ay_ (k6) ?_;cases V6 with
     | false =>
       obtain rfl:R=false:=hR;try refine aa_ ?_
       refine Rf_ ?_
       exact ah_
     | true =>
       by_cases q8:a.ep<b.ep
       ·have e8:decide (a.ep<b.ep)=true:=decide_eq_true q8;rw[decide_eq_false (show ¬b.ep≤a.ep by omega)]at hR;obtain rfl:R=false:=hR;repeat(first|refine aa_ ?_|simp only[go_sem,e1,e2,e3,e4,hg1,hg2,e8])
        refine Rf_ ?_
        exact ah_
       have e8:decide (a.ep<b.ep)=false:=decide_eq_false q8;rw[decide_eq_true (show b.ep≤a.ep by omega)]at hR;repeat(first|refine aa_ ?_|simp only[go_sem,e1,e2,e3,e4,e8,hg1,hg2])
       have k8:=dM_ s s.now h.spe;generalize bP_ s s.now=E at *;refine ay_ (k8) ?_;by_cases q9:E<a.ep
       ·have e9:decide (E<a.ep)=true:=decide_eq_true q9;rw[decide_eq_false (show ¬a.ep≤E by omega)]at hR;obtain rfl:R=false:=hR;repeat(first|refine aa_ ?_|simp only[go_sem,e1,e2,e3,e4,e8,hg1,hg2,e9])
        refine Rf_ ?_
        exact ah_
       have e9:decide (E<a.ep)=false:=decide_eq_false q9;rw[decide_eq_true (show a.ep≤E by omega)]at hR;repeat(first|refine aa_ ?_|simp only[go_sem,e1,e2,e3,e4,e8,e9,hg1,hg2])
       have k9:=li_ s.tabs a h.bt;generalize dp_ s.tabs a=F at *;refine ay_ (k9) ?_;by_cases q10:F<0
       ·have e10:decide (F<0)=true:=decide_eq_true q10;rw[decide_eq_false (show ¬0≤F by omega)]at hR;obtain rfl:R=false:=hR;repeat(first|refine aa_ ?_|simp only[go_sem,e1,e2,e3,e4,e8,e9,hg1,hg2,e10])
        refine Rf_ ?_
        exact ah_
       have e10:decide (F<0)=false:=decide_eq_false q10;rw[decide_eq_true (show 0≤F by omega)]at hR;obtain rfl:R=true:=hR;repeat(first|refine aa_ ?_|simp only[go_sem,e1,e2,e3,e4,e8,e9,e10,hg1,hg2])
       refine Re_ ?_
       exact ah_
theorem Jl_(s:al_)(h:StR s)(j f:Cp):PC Tryz.prog 168 [.agg (ao_ s.a),.agg (cpC j),.agg (cpC f)] (.tup [.agg (cpC (bif yJ_ s (eV_ s.j j) (eV_ s.f f)then eV_ s.j j else cp0)),.agg (cpC (bif yJ_ s (eV_ s.j j) (eV_ s.f f)then eV_ s.f f else cp0)),.bool (yJ_ s (eV_ s.j j) (eV_ s.f f))]):=by
 have tl:=LQ_ s h (eV_ s.j j) (eV_ s.f f) j f _ rfl;refine PC.fact 13 qL_ (by simp) puA puA ?_;have hc:bu_=.seq bu_.hd (.seq (bu_.tl 1).hd (.seq (bu_.tl 2).hd (.seq (bu_.tl 3).hd (bu_.tl 4)))):=rfl;rw[hc];clear hc;generalize bu_.tl 4=cT at *;unfold bu_;refine bd ?_;simp only[ad_.tl,ad_.hd];have m1:eV_ s.j j=if s.j.ep<j.ep then j else s.j:=rfl
 have m2:eV_ s.f f=if s.f.ep<f.ep then f else s.f:=rfl
 by_cases q1:s.j.ep<j.ep
 ·have e1:decide (s.j.ep<j.ep)=true:=decide_eq_true q1
  rw[if_pos q1]at m1;by_cases q2:s.f.ep<f.ep
  ·have e2:decide (s.f.ep<f.ep)=true:=decide_eq_true q2;rw[if_pos q2]at m2;rw[m1,m2]at tl ⊢;repeat(first|refine aa_ ?_|simp only[go_sem,e1])
   refine ac_ ?_;repeat(first|refine aa_ ?_|simp only[go_sem,e2])
   refine Rf_ ?_
   refine eD_ ?_ tl;exact Sn_ [] [0,1,2,3,4,5,6]
  ·have e2:decide (s.f.ep<f.ep)=false:=decide_eq_false q2;rw[if_neg q2]at m2;rw[m1,m2]at tl ⊢;repeat(first|refine aa_ ?_|simp only[go_sem,e1])
   refine ac_ ?_;repeat(first|refine aa_ ?_|simp only[go_sem,e2])
   refine Re_ ?_
   refine eD_ ?_ tl;exact Sn_ [] [0,1,2,3,4,5,6]
 ·have e1:decide (s.j.ep<j.ep)=false:=decide_eq_false q1
  rw[if_neg q1]at m1;by_cases q2:s.f.ep<f.ep
  ·have e2:decide (s.f.ep<f.ep)=true:=decide_eq_true q2;rw[if_pos q2]at m2;rw[m1,m2]at tl ⊢;repeat(first|refine aa_ ?_|simp only[go_sem,e1])
   refine ab_ ?_;repeat(first|refine aa_ ?_|simp only[go_sem,e2])
   refine Rf_ ?_
   refine eD_ ?_ tl;exact Sn_ [] [0,1,2,3,4,5,6]
  ·have e2:decide (s.f.ep<f.ep)=false:=decide_eq_false q2;rw[if_neg q2]at m2;rw[m1,m2]at tl ⊢;repeat(first|refine aa_ ?_|simp only[go_sem,e1])
   refine ab_ ?_;repeat(first|refine aa_ ?_|simp only[go_sem,e2])
   refine Re_ ?_
   refine eD_ ?_ tl;exact Sn_ [] [0,1,2,3,4,5,6]
theorem Mo_(σ:St)(zs:List Nat)(l:List Cp):eL_ σ zs (rows cpC l)=rows cpC l:=dx_.fz σ zs (bw_ fun x _=>el_ x)
theorem Kw_(ρ:Nat→Nat)(l:List Cp):cj_ ρ (rows cpC l)=rows cpC l:=dx_.ren ρ (bw_ fun x _=>el_ x)
attribute [local go_sem] Mo_ Kw_
theorem JT_(s:al_)(b:Blk)(h:StR s):PC Tryz.prog 175 [.agg (ao_ s.a),.agg (aw_ b)] (.bool (HZ_ s b)):=by
 refine PC.fact 12 BW_ (by simp) puA puA ?_;unfold qf_;refine bd ?_;have c1:=bJ_ s.nodes b.parent h.bn;have c2:=Ct_ s b h.spe;unfold HZ_;generalize av_ s.nodes b.parent=P at *;generalize Pj_ s b=O at *;obtain⟨R,hR2⟩:∃R,R=(jV_ (fun k=>!pz_ s b P ((cps b).getD k cp0)) 4).isNone:=⟨_,rfl⟩
 rw[←hR2];try refine aa_ ?_
 refine RV_ c1 ?_
 by_cases q1:P<0
 ·have e1:decide (P<0)=true:=decide_eq_true q1;rw[decide_eq_false (show ¬0≤P by omega)];repeat(first|refine aa_ ?_|simp only[go_sem,e1])
  refine Rf_ ?_
  exact ah_
 have e1:decide (P<0)=false:=decide_eq_false q1;rw[decide_eq_true (show 0≤P by omega)];repeat(first|refine aa_ ?_|simp only[go_sem,e1])
 refine Re_ ?_
 refine ae_ c2 ?_;cases O with
 | false =>
   try refine aa_ ?_
   refine Rf_ ?_
   exact ah_
 | true =>
   try refine aa_ ?_
   have hrc:[cpC b.just,cpC b.fin,cpC b.pul.j,cpC b.pul.f]=rows cpC (cps b):=rfl;refine ab_ ?_;repeat(first|refine aa_ ?_|simp only[go_sem,hrc])
   refine aG_ (fun i:Nat=>[(7,.int .i64 i)]) (fun _=>[.var (ao_ s.a),.var (aw_ b)]) (fun i=>4-i) (fun i=>i≤4∧R=(hL_ (fun k=>!pz_ s b P ((cps b).getD k cp0)) (4-i) i).isNone) 0 ⟨Nat.zero_le _,hR2⟩ ?_ ?_
   ·exact Sn_ [] [0,1]
   clear hR2;rintro i ⟨hi,hn⟩;rw[hn];(try simp only[aF_,aA_,List.set_cons_zero,List.set_cons_succ])
   by_cases h1:i<4
   ·have e1:decide ((i:Int)<((4:Nat):Int))=true:=decide_eq_true (by omega)
    have hw:=ag_ h1 (by omega);have hgd:(rows cpC (cps b)).getD i []=cpC ((cps b).getD i cp0):=cw_ (f:=cpC) cp0 (by exact h1);have hlen:(cps b).length=4:=rfl;have e1':decide ((i:Int)<4)=true:=decide_eq_true (by omega);have hfit:pz_ s b P ((cps b).getD i cp0)=(decide (((cps b).getD i cp0).ep≤s.f.ep) || (if (da_ s ((cps b).getD i cp0).ep).1<b.slot then decide (0≤atT s.nodes P (da_ s ((cps b).getD i cp0).ep).1)&&decide ((nod s.nodes (atT s.nodes P (da_ s ((cps b).getD i cp0).ep).1).toNat).blk.root=((cps b).getD i cp0).rt)else decide (b.root=((cps b).getD i cp0).rt))):=rfl;have hT:pz_ s b P ((cps b).getD i cp0)=true→(hL_ (fun k=>!pz_ s b P ((cps b).getD k cp0)) (4-i) i)=hL_ (fun k=>!pz_ s b P ((cps b).getD k cp0)) (4-(i+1)) (i+1):=fun hv=>mS_ h1 (by show (!pz_ s b P ((cps b).getD i cp0))=false;rw[hv];rfl)
    have hF:pz_ s b P ((cps b).getD i cp0)=false→(hL_ (fun k=>!pz_ s b P ((cps b).getD k cp0)) (4-i) i).isNone=false:=fun hv=>by rw[mT_ h1 (by show (!pz_ s b P ((cps b).getD i cp0))=true;rw[hv];rfl)];rfl
    have c3:=hb_ s ((cps b).getD i cp0).ep;generalize hL_ (fun k=>!pz_ s b P ((cps b).getD k cp0)) (4-i) i=X at *;generalize hX2:hL_ (fun k=>!pz_ s b P ((cps b).getD k cp0)) (4-(i+1)) (i+1)=X2 at *;generalize (cps b).getD i cp0=c at *;generalize pz_ s b P c=V at *;generalize da_ s c.ep=st at *;obtain⟨st1,st2⟩:=st;dsimp only at c3 hfit;have c4:=Bp_ s.nodes h.tree.ok h.bn P st1;have b4:=LE_ h.tree.ok P st1;generalize atT s.nodes P st1=A at *;repeat(first|refine aa_ ?_|simp only[go_sem,e1,e1',hlen])
    refine ac_ ?_;repeat(first|refine aa_ ?_|simp only[go_sem,hgd,hlen])
    by_cases q2:c.ep≤s.f.ep
    ·have e2:decide (c.ep≤s.f.ep)=true:=decide_eq_true q2;rw[e2]at hfit;rw[hT hfit];repeat(first|refine aa_ ?_|simp only[go_sem,e2])
     refine ac_ ?_;repeat(first|refine aa_ ?_|simp only[go_sem,hw])
     refine⟨i+1,⟨h1,by rw[←hX2];rfl⟩,by omega,?_⟩;exact Sn_ [] [0,1]
    have e2:decide (c.ep≤s.f.ep)=false:=decide_eq_false q2;rw[e2,Bool.false_or]at hfit;repeat(first|refine aa_ ?_|simp only[go_sem,e2])
    refine ab_ ?_;repeat(first|refine aa_ ?_|simp only[go_sem,hgd,hlen])
    refine ay_ (c3) ?_;try refine aa_ ?_
    by_cases q3:st1<b.slot
    ·have e3:decide (st1<b.slot)=true:=decide_eq_true q3
     rw[if_pos q3]at hfit;repeat(first|refine aa_ ?_|simp only[go_sem,e3])
     refine Rf_ ?_
     refine RV_ c4 ?_
     by_cases q4:A<0
     ·have e4:decide (A<0)=true:=decide_eq_true q4;rw[decide_eq_false (show ¬0≤A by omega)]at hfit;rw[hF hfit];repeat(first|refine aa_ ?_|simp only[go_sem,e4])
      refine Rf_ ?_
      exact ah_
     have e4:decide (A<0)=false:=decide_eq_false q4;rw[decide_eq_true (show 0≤A by omega),Bool.true_and]at hfit;have hgn:=bQ_ (t:=s.nodes) (i:=A.toNat) (by omega);repeat(first|refine aa_ ?_|simp only[go_sem,e4])
     refine ab_ ?_;repeat(first|refine aa_ ?_|simp only[go_sem,hgn,hgd,hlen])
     by_cases q5:(nod s.nodes A.toNat).blk.root=c.rt
     ·have e5:decide ((nod s.nodes A.toNat).blk.root=c.rt)=true:=decide_eq_true q5;rw[e5]at hfit;rw[hT hfit];repeat(first|refine aa_ ?_|simp only[go_sem,e5])
      refine ab_ ?_;repeat(first|refine aa_ ?_|simp only[go_sem,hw])
      refine⟨i+1,⟨h1,by rw[←hX2];rfl⟩,by omega,?_⟩;exact Sn_ [] [0,1]
     ·have e5:decide ((nod s.nodes A.toNat).blk.root=c.rt)=false:=decide_eq_false q5;rw[e5]at hfit;rw[hF hfit];repeat(first|refine aa_ ?_|simp only[go_sem,e5])
      refine Rf_ ?_
      exact ah_
    ·have e3:decide (st1<b.slot)=false:=decide_eq_false q3
     rw[if_neg q3]at hfit;repeat(first|refine aa_ ?_|simp only[go_sem,e3])
     refine ab_ ?_;repeat(first|refine aa_ ?_|simp only[go_sem,hgd,hlen])
     by_cases q5:b.root=c.rt
     ·have e5:decide (b.root=c.rt)=true:=decide_eq_true q5;rw[e5]at hfit;rw[hT hfit];repeat(first|refine aa_ ?_|simp only[go_sem,e5])
      refine ab_ ?_;repeat(first|refine aa_ ?_|simp only[go_sem,hw])
      refine⟨i+1,⟨h1,by rw[←hX2];rfl⟩,by omega,?_⟩;exact Sn_ [] [0,1]
     ·have e5:decide (b.root=c.rt)=false:=decide_eq_false q5;rw[e5]at hfit;rw[hF hfit];repeat(first|refine aa_ ?_|simp only[go_sem,e5])
      refine Rf_ ?_
      exact ah_
   ·obtain rfl:i=4:=by omega
    have e1:decide (((4:Nat):Int)<((4:Nat):Int))=false:=decide_eq_false (by omega);have hz:hL_ (fun k=>!pz_ s b P ((cps b).getD k cp0)) (4-4) 4=none:=mR_ _ 4;rw[hz];have hlen:(cps b).length=4:=rfl;repeat(first|refine aa_ ?_|simp only[go_sem,e1,hlen])
    refine Re_ ?_
    exact ah_
theorem te_(s:al_)(b:Blk)(h:StR s):PC Tryz.prog 153 [.agg (ao_ s.a),.agg (aw_ b)] (.int .i64 (cE_ s b)):=by
 refine PC.fact 87 pl_ (by simp) puA puA ?_;unfold il_;refine bd ?_;have c1:=hb_ s s.f.ep;have c2:=GQ_ s b.root h;have c3:=bJ_ s.nodes b.parent h.bn;have c4:=JT_ s b h;have b3:=dE_ s.nodes b.parent;obtain⟨R,hc⟩:∃R,R=cE_ s b:=⟨_,rfl⟩
 rw[←hc];unfold cE_ at hc;generalize da_ s s.f.ep=st at *;obtain⟨st1,st2⟩:=st;dsimp only at c1 hc;generalize pC_ s b.root=N at *;generalize av_ s.nodes b.parent=P at *;generalize HZ_ s b=T at *;try refine aa_ ?_
 refine RV_ c1 ?_
 by_cases q1:b.root=rt0
 ·have e1:decide (b.root=rt0)=true:=decide_eq_true q1;rw[if_pos q1]at hc;subst hc;repeat(first|refine aa_ ?_|simp only[go_sem,e1])
  refine Rf_ ?_
  exact ah_
 have e1:decide (b.root=rt0)=false:=decide_eq_false q1;rw[if_neg q1]at hc;repeat(first|refine aa_ ?_|simp only[go_sem,e1])
 refine Re_ ?_
 refine ae_ c2 ?_;cases N with
 | true =>
   rw[if_pos rfl]at hc;subst hc;try refine aa_ ?_
   refine Rf_ ?_
   exact ah_
 | false =>
   rw[if_neg (by simp)]at hc;try refine aa_ ?_
   refine Re_ ?_
   by_cases q3:s.now<b.slot
   ·have e3:decide (s.now<b.slot)=true:=decide_eq_true q3;rw[if_pos q3]at hc;subst hc;repeat(first|refine aa_ ?_|simp only[go_sem,e3])
    refine Rf_ ?_
    exact ah_
   have e3:decide (s.now<b.slot)=false:=decide_eq_false q3;rw[if_neg q3]at hc;repeat(first|refine aa_ ?_|simp only[go_sem,e3])
   refine Re_ ?_
   by_cases q4:b.slot≤st1
   ·have e4:decide (b.slot≤st1)=true:=decide_eq_true q4;rw[if_pos q4]at hc;subst hc;repeat(first|refine aa_ ?_|simp only[go_sem,e4])
    refine Rf_ ?_
    exact ah_
   have e4:decide (b.slot≤st1)=false:=decide_eq_false q4;rw[if_neg q4]at hc;repeat(first|refine aa_ ?_|simp only[go_sem,e4])
   refine Re_ ?_
   refine RV_ c3 ?_
   by_cases q5:P<0
   ·have e5:decide (P<0)=true:=decide_eq_true q5;rw[if_pos q5]at hc;subst hc;repeat(first|refine aa_ ?_|simp only[go_sem,e5])
    refine Rf_ ?_
    exact ah_
   have e5:decide (P<0)=false:=decide_eq_false q5;rw[if_neg q5]at hc;have hg:=bQ_ (t:=s.nodes) (i:=P.toNat) (by omega);repeat(first|refine aa_ ?_|simp only[go_sem,e5])
   refine ab_ ?_;repeat(first|refine aa_ ?_|simp only[go_sem,hg])
   by_cases q6:b.slot≤(nod s.nodes P.toNat).blk.slot
   ·have e6:decide (b.slot≤(nod s.nodes P.toNat).blk.slot)=true:=decide_eq_true q6;rw[if_pos q6]at hc;subst hc;repeat(first|refine aa_ ?_|simp only[go_sem,e6])
    refine Rf_ ?_
    exact ah_
   have e6:decide (b.slot≤(nod s.nodes P.toNat).blk.slot)=false:=decide_eq_false q6;rw[if_neg q6]at hc;repeat(first|refine aa_ ?_|simp only[go_sem,e6])
   refine ab_ ?_;repeat(first|refine aa_ ?_|simp only[go_sem,hg])
   by_cases q7:(nod s.nodes P.toNat).status=2
   ·have e7:((nod s.nodes P.toNat).status==2)=true:=by simp[q7]
    rw[if_pos q7]at hc;subst hc;repeat(first|refine aa_ ?_|simp only[go_sem,e7])
    refine Rf_ ?_
    exact ah_
   have e7:((nod s.nodes P.toNat).status==2)=false:=by simp[q7]
   rw[if_neg q7]at hc;repeat(first|refine aa_ ?_|simp only[go_sem,e7])
   refine ab_ ?_;repeat(first|refine aa_ ?_|simp only[go_sem,hg])
   refine ae_ c4 ?_;cases T with
   | false =>
     rw[if_pos rfl]at hc;subst hc;try refine aa_ ?_
     refine Rf_ ?_
     exact ah_
   | true =>
     rw[if_neg (by simp)]at hc;have c5:=GE_ s.cfg.ttd (nod s.nodes P.toNat).blk b;generalize HY_ s.cfg.ttd (nod s.nodes P.toNat).blk b=M at *;try refine aa_ ?_
     refine ab_ ?_;repeat(first|refine aa_ ?_|simp only[go_sem,hg])
     refine ay_ (c5) ?_;cases M with
     | false =>
       rw[if_pos rfl]at hc;subst hc;try refine aa_ ?_
       refine Rf_ ?_
       exact ah_
     | true =>
       rw[if_neg (by simp)]at hc;try refine aa_ ?_
       refine Re_ ?_
       by_cases q8:s.cfg.lim.node≤(s.nodes.length:Int)
       ·have e8:decide ((s.nodes.length:Int) ≥ s.cfg.lim.node)=true:=decide_eq_true q8;have e9:decide (s.cfg.lim.node≤(s.nodes.length:Int))=true:=decide_eq_true q8;rw[if_pos q8]at hc;subst hc;repeat(first|refine aa_ ?_|simp only[go_sem,e8,e9])
        refine Rf_ ?_
        exact ah_
       ·have e8:decide ((s.nodes.length:Int) ≥ s.cfg.lim.node)=false:=decide_eq_false q8;have e9:decide (s.cfg.lim.node≤(s.nodes.length:Int))=false:=decide_eq_false q8;rw[if_neg q8]at hc;subst hc;repeat(first|refine aa_ ?_|simp only[go_sem,e8,e9])
        refine Re_ ?_
        exact ah_
theorem nC_(l:List Blk)(a:Int):∀k,(aK_ (qZ_ l a) [] k).length≤k
 |0=>Nat.le_refl _
 | k + 1 => by
   rw[bT_];have h1:=nC_ l a k;unfold qZ_ at *;split
   ·simp only[List.length_append,List.length_cons,List.length_nil];omega
   ·omega
theorem lc_(l:List aR_)(e:Int):∀t∈fS_ l e,t∈l:=by
 unfold fS_;refine hf_ (f:=fun i o=>if e≤(tab l i).cp.ep then o++[tab l i]else o) (a:=[]) (fun _ o=>∀t∈o,t∈l) (by simp) l.length (fun i o hi ho=>?_) _ (Nat.le_refl _);split
 ·intro t ht;rw[List.mem_append,List.mem_singleton]at ht;rcases ht with ht|rfl
  ·exact ho t ht
  ·unfold tab;rw[List.getD_eq_getElem?_getD,List.getElem?_eq_getElem hi];exact List.getElem_mem hi
 ·exact ho
theorem lb_(l:List aR_)(e:Int):(fS_ l e).length≤l.length:=by
 have:=hg_ (f:=fun i o=>if e≤(tab l i).cp.ep then o++[tab l i]else o) (a:=([]:List aR_)) (fun i o=>by split<;>simp) l.length;unfold fS_;simpa using this
theorem Ie_{s:al_}{a b:Cp}(h:yJ_ s a b=true):0≤av_ s.nodes a.rt∧0≤av_ s.nodes b.rt∧fE_ s.nodes (av_ s.nodes b.rt) (av_ s.nodes a.rt)=true:=by
 unfold yJ_ at h;simp only[Bool.and_eq_true,decide_eq_true_eq]at h;exact⟨h.1.1.1.1.1.1.1.1.1,h.1.1.1.1.1.1.1.1.2,h.1.1.1.2⟩
theorem StR.upd{s:al_}(h:StR s)(j f:Cp):StR (cW_ s j f):=by
 unfold cW_;split
 ·exact h
 ·rename_i hm
  have hm:yJ_ s (eV_ s.j j) (eV_ s.f f)=true:=by simpa using hm
  obtain⟨h1,h2,h3⟩:=Ie_ hm;have hd:=lb_ s.tabs (eV_ s.j j).ep;have hb:∀t∈fS_ s.tabs (eV_ s.j j).ep,t.bals.length≤1000000:=fun t ht=>h.bb t (lc_ _ _ t ht)
  split
  ·exact⟨h.tree,h.spe,h.bn,h.bl,h.be,Nat.le_trans hd h.bt,hb,h.bo,h.ba,h.nl,h.ll,h1⟩
  ·have hf:=qU_ h2;have hl:=pG_ h.tree (av_ s.nodes (eV_ s.f f).rt);refine⟨h.tree.prune h2 (by omega),h.spe,Nat.le_trans hl h.bn,h.bl,h.be,Nat.le_trans hd h.bt,hb,Nat.le_trans (nC_ _ _ _) h.bo,h.ba,h.nl,h.ll,?_⟩;exact EP_ h.tree h1 h3
def ra_(l:List Blk)(a:Int)(k:Nat):List Blk:=aK_ (qZ_ l a) [] k
theorem OP_(l:List Blk)(a:Int)(k:Nat):ra_ l a (k+1)=qZ_ l a k (ra_ l a k):=rfl
theorem Qf_(s:al_)(j f a b:Cp)(T1:List Nod)(r:Rt)(D:List aR_)(hbo:s.orph.length≤1000000):
 Tri Tryz.prog 104 0 (bl_.tl 9) (PQ [.cell 6 true 150] (.agg (ao_ (⟨s.cfg,s.latest,s.eqv,a,b,s.early,ra_ s.orph (da_ s b.ep).1 s.orph.length,T1,s.now,r,D⟩:al_).a)))
  ⟨15,[.agg (ao_ s.a),.agg (cpC j),.agg (cpC f),.ptr 0 0,.ptr 1 0,.ptr 2 0,.ptr 3 0,.ptr 4 0,.ptr 5 0,.bool true,.bool true,.dead,.dead,.dead,.dead],[]⟩
  [.var (ao_ (⟨s.cfg,s.latest,s.eqv,a,b,s.early,s.orph,T1,s.now,r,D⟩:al_).a),.var (cpC j),.var (cpC f),.var (ao_ cQ_),.var (cpC a),.var (cpC b)]:=by
 unfold bl_;refine bd ?_;simp only[ad_.tl];have c6:PC Tryz.prog 171 [.agg (ao_ (⟨s.cfg,s.latest,s.eqv,a,b,s.early,s.orph,T1,s.now,r,D⟩:al_).a),.int .u64 b.ep] (.tup [.int .u64 (da_ s b.ep).1,.bool (da_ s b.ep).2]):=hb_ ⟨s.cfg,s.latest,s.eqv,a,b,s.early,s.orph,T1,s.now,r,D⟩ b.ep;generalize da_ s b.ep=st at *;obtain⟨st1,st2⟩:=st;dsimp only at c6 ⊢;try refine aa_ ?_
 refine RV_ c6 ?_
 refine fh_ 13 238 ?_;simp only[go_sem];have hz:ra_ s.orph st1 0=[]:=rfl;refine aG_ (fun i:Nat=>[(14,.int .i64 i),(13,.hs 238 6 0 (ra_ s.orph st1 i).length)]) (fun i=>[.var (ao_ (⟨s.cfg,s.latest,s.eqv,a,b,s.early,s.orph,T1,s.now,r,D⟩:al_).a),.var (cpC j),.var (cpC f),.var (ao_ cQ_),.var (cpC a),.var (cpC b),.vec 238 (rows aw_ (ra_ s.orph st1 i))]) (fun i=>s.orph.length-i) (fun i=>i≤s.orph.length) 0 (Nat.zero_le _) ?_ ?_
 ·rw[hz];exact Sn_ [] [0,1,2,3,4,5,6]
 intro i hi;(try simp only[aF_,aA_,List.set_cons_zero,List.set_cons_succ])
 by_cases h1:i<s.orph.length
 ·have e1:decide ((i:Int)<((s.orph.length:Nat):Int))=true:=decide_eq_true (by omega)
  have hw:=ag_ h1 (by omega);have hgd:(rows aw_ s.orph).getD i []=aw_ (eS_ s.orph i):=cw_ (f:=aw_) bj_ h1;have hs:=OP_ s.orph st1 i;have hli:(ra_ s.orph st1 i).length≤i:=nC_ s.orph st1 i;generalize ra_ s.orph st1 i=acc at *;have hc:qZ_ s.orph st1 i acc=if st1<(eS_ s.orph i).slot then acc++[eS_ s.orph i]else acc:=rfl
  have hr:rows aw_ acc++[aw_ (eS_ s.orph i)]=rows aw_ (acc++[eS_ s.orph i]):=cx_ aw_ acc (eS_ s.orph i);repeat(first|refine aa_ ?_|simp only[go_sem,e1])
  refine ac_ ?_;repeat(first|refine aa_ ?_|simp only[go_sem,hgd])
  by_cases q:st1<(eS_ s.orph i).slot
  ·have e2:decide ((eS_ s.orph i).slot > st1)=true:=decide_eq_true q;have e3:decide (st1<(eS_ s.orph i).slot)=true:=decide_eq_true q;rw[if_pos q]at hc;repeat(first|refine aa_ ?_|simp only[go_sem,e2,e3])
   refine ac_ ?_;repeat(first|refine aa_ ?_|simp only[go_sem,hgd,hr,hw])
   refine⟨i+1,h1,by omega,?_⟩;rw[hs,hc];exact Sn_ [] [0,1,2,3,4,5,7]
  ·have e2:decide ((eS_ s.orph i).slot > st1)=false:=decide_eq_false q;have e3:decide (st1<(eS_ s.orph i).slot)=false:=decide_eq_false q;rw[if_neg q]at hc;repeat(first|refine aa_ ?_|simp only[go_sem,e2,e3])
   refine ab_ ?_;repeat(first|refine aa_ ?_|simp only[go_sem,hw])
   refine⟨i+1,h1,by omega,?_⟩;rw[hs,hc];exact Sn_ [] [0,1,2,3,4,5,6]
 ·obtain rfl:i=s.orph.length:=by omega
  have e1:decide (((s.orph.length:Nat):Int)<((s.orph.length:Nat):Int))=false:=decide_eq_false (by omega);generalize ra_ s.orph st1 s.orph.length=acc;have ht:List.take acc.length (rows aw_ acc)=rows aw_ acc:=List.take_of_length_le (by simp);repeat(first|refine aa_ ?_|simp only[go_sem,e1])
  refine ab_ ?_;repeat(first|refine aa_ ?_|simp only[go_sem,ht])
  exact ah_
theorem xp_(s:al_)(j f:Cp)(h:StR s):PC Tryz.prog 147 [.agg (ao_ s.a),.agg (cpC j),.agg (cpC f)] (.agg (ao_ (cW_ s j f).a)):=by
 have tl:=Qf_ s j f;refine PC.fact 15 vA_ (by simp) puA puA ?_;have hc:bl_=.seq bl_.hd (.seq (bl_.tl 1).hd (.seq (bl_.tl 2).hd (.seq (bl_.tl 3).hd (.seq (bl_.tl 4).hd (.seq (bl_.tl 5).hd (.seq (bl_.tl 6).hd (.seq (bl_.tl 7).hd (.seq (bl_.tl 8).hd (bl_.tl 9))))))))):=rfl;rw[hc];clear hc;generalize bl_.tl 9=cT at *;unfold bl_;refine bd ?_;simp only[ad_.tl,ad_.hd];have c1:=Jl_ s h j f;obtain⟨U,hU⟩:∃U,U=cW_ s j f:=⟨_,rfl⟩
 rw[←hU];unfold cW_ at hU;generalize eV_ s.j j=a at *;generalize eV_ s.f f=b at *;generalize hm:yJ_ s a b=M at *;try refine aa_ ?_
 refine ae_ c1 ?_;cases M with
 | false =>
   rw[if_pos rfl]at hU;subst hU;try refine aa_ ?_
   refine Rf_ ?_
   exact ah_
 | true =>
   rw[if_neg (by simp)]at hU;obtain⟨m1,m2,m3⟩:=Ie_ hm;have c2:=yb_ s.tabs a.ep h.bt;generalize fS_ s.tabs a.ep=D at *;try refine aa_ ?_
   refine Re_ ?_
   refine RV_ c2 ?_
   by_cases q:b=s.f
   ·have e1:decide (b=s.f)=true:=decide_eq_true q;rw[if_pos q]at hU;subst hU;repeat(first|refine aa_ ?_|simp only[go_sem,e1])
    refine Rf_ ?_
    exact ah_
   ·have e1:decide (b=s.f)=false:=decide_eq_false q
    rw[if_neg q]at hU;have hbd:=dE_ s.nodes b.rt;have c3:=bJ_ s.nodes b.rt h.bn;have c4:=Hk_ s.nodes h.tree.ok (av_ s.nodes b.rt) h.bn (by simp only[isN,Bool.and_eq_true,decide_eq_true_eq];omega);have hl:=pG_ h.tree (av_ s.nodes b.rt);have hbn:=h.bn;have hbo:=h.bo;generalize av_ s.nodes b.rt=K at *;generalize iQ_ s.nodes K=T at *;obtain⟨T1,T2⟩:=T;dsimp only at hU c4 hl;have c5:=bJ_ T1 s.boost (by omega);generalize av_ T1 s.boost=B at *;have tl:=fun r=>tl a b T1 r D h.bo
    repeat(first|refine aa_ ?_|simp only[go_sem,e1])
    refine Re_ ?_
    refine ay_ (c3) ?_;try refine aa_ ?_
    refine ay_ (c4) ?_;try refine aa_ ?_
    refine RV_ c5 ?_
    by_cases q2:B<0
    ·have e2:decide (B<0)=true:=decide_eq_true q2;rw[if_pos q2]at hU;subst hU;repeat(first|refine aa_ ?_|simp only[go_sem,e2])
     refine Rf_ ?_
     refine eD_ ?_ (tl rt0);exact Sn_ [] [0,1,2,3,4,5]
    ·have e2:decide (B<0)=false:=decide_eq_false q2;rw[if_neg q2]at hU;subst hU;repeat(first|refine aa_ ?_|simp only[go_sem,e2])
     refine Re_ ?_
     refine eD_ ?_ (tl s.boost);exact Sn_ [] [0,1,2,3,4,5]
theorem FV_(n lo hi:Int):PC Tryz.prog 127 [.int .i64 n,.int .i64 lo,.int .i64 hi] (.bool (wit n lo hi)):=by
 refine PC.fact 7 vC_ (by simp) puA puA ?_;unfold mt_;refine bd ?_;unfold wit;by_cases h0:lo≤n
 ·have e0:decide (n ≥ lo)=true:=decide_eq_true h0;have e1:decide (lo≤n)=true:=decide_eq_true h0;repeat(first|refine aa_ ?_|simp only[go_sem,e0,e1])
  exact ah_
 ·have e0:decide (n ≥ lo)=false:=decide_eq_false h0;have e1:decide (lo≤n)=false:=decide_eq_false h0;repeat(first|refine aa_ ?_|simp only[go_sem,e0,e1])
  exact ah_
theorem Gl_(s:al_)(a:aW_)(h:StR s)(N:Int)(R:Bool×Int)
 (hR:R=if av_ s.nodes a.root<0∨av_ s.nodes a.target.rt<0 then (false,10)else if a.slot<(nod s.nodes (av_ s.nodes a.root).toNat).blk.slot then (false,14)
  else if atT s.nodes (av_ s.nodes a.root) (da_ s a.target.ep).1≠av_ s.nodes a.target.rt then (false,19)else (decide (s.now≤a.slot),0)):
 Tri Tryz.prog 99 0 (aP_.tl 4) (PQ [.tmp 4,.tmp 5] (.tup [.bool R.1,.int .i64 R.2])) ⟨12,[.agg (ao_ s.a),.agg (aX_ a.a),.ptr 0 0,.ptr 1 0,.bool false,.int .i64 0,.int .i64 0,.int .u64 N,.dead,.dead,.dead,.dead],[]⟩ [.var (ao_ s.a),.var (aX_ a.a)]:=by
 unfold aP_;refine bd ?_;simp only[ad_.tl];have c4:=bJ_ s.nodes a.root h.bn;have c5:=bJ_ s.nodes a.target.rt h.bn;have c6:=hb_ s a.target.ep;have b4:=dE_ s.nodes a.root;have b5:=dE_ s.nodes a.target.rt;generalize av_ s.nodes a.root=I at *;generalize av_ s.nodes a.target.rt=G at *;generalize da_ s a.target.ep=st at *;obtain⟨st1,st2⟩:=st;dsimp only at c6 hR;have c7:=Bp_ s.nodes h.tree.ok h.bn I st1;generalize atT s.nodes I st1=A at *;try refine aa_ ?_
 refine ay_ (c4) ?_;try refine aa_ ?_
 refine ay_ (c5) ?_;by_cases q1:I<0
 ·have e1:decide (I<0)=true:=decide_eq_true q1;rw[if_pos (.inl q1)]at hR;subst hR;repeat(first|refine aa_ ?_|simp only[go_sem,e1])
  refine Rf_ ?_
  exact ah_
 have e1:decide (I<0)=false:=decide_eq_false q1;by_cases q2:G<0
 ·have e2:decide (G<0)=true:=decide_eq_true q2;rw[if_pos (.inr q2)]at hR;subst hR;repeat(first|refine aa_ ?_|simp only[go_sem,e1,e2])
  refine Rf_ ?_
  exact ah_
 have e2:decide (G<0)=false:=decide_eq_false q2;rw[if_neg (fun h=>h.elim q1 q2)]at hR;have hg:=bQ_ (t:=s.nodes) (i:=I.toNat) (by omega);repeat(first|refine aa_ ?_|simp only[go_sem,e1,e2])
 refine ab_ ?_;repeat(first|refine aa_ ?_|simp only[go_sem,hg])
 by_cases q3:a.slot<(nod s.nodes I.toNat).blk.slot
 ·have e3:decide ((nod s.nodes I.toNat).blk.slot > a.slot)=true:=decide_eq_true q3;have e4:decide (a.slot<(nod s.nodes I.toNat).blk.slot)=true:=decide_eq_true q3;rw[if_pos q3]at hR;subst hR;repeat(first|refine aa_ ?_|simp only[go_sem,e3,e4])
  refine Rf_ ?_
  exact ah_
 have e3:decide ((nod s.nodes I.toNat).blk.slot > a.slot)=false:=decide_eq_false q3;have e4:decide (a.slot<(nod s.nodes I.toNat).blk.slot)=false:=decide_eq_false q3;rw[if_neg q3]at hR;repeat(first|refine aa_ ?_|simp only[go_sem,e3,e4])
 refine Re_ ?_
 refine RV_ c6 ?_
 refine ae_ c7 ?_;by_cases q4:A=G
 case neg=>
  have e5:(A != G)=true:=by simp[q4]
  rw[if_pos q4]at hR;subst hR;repeat(first|refine aa_ ?_|simp only[go_sem,e5])
  refine Rf_ ?_
  exact ah_
 have e5:(A != G)=false:=by simp[q4]
 rw[if_neg (by simp[q4])]at hR;repeat(first|refine aa_ ?_|simp only[go_sem,e5])
 refine ab_ ?_;by_cases q5:s.now≤a.slot
 ·have e6:decide (a.slot ≥ s.now)=true:=decide_eq_true q5;have e7:decide (s.now≤a.slot)=true:=decide_eq_true q5;rw[e7]at hR;subst hR;repeat(first|refine aa_ ?_|simp only[go_sem,e6,e7])
  exact ah_
 ·have e6:decide (a.slot ≥ s.now)=false:=decide_eq_false q5;have e7:decide (s.now≤a.slot)=false:=decide_eq_false q5;rw[e7]at hR;subst hR;repeat(first|refine aa_ ?_|simp only[go_sem,e6,e7])
  exact ah_
theorem td_(s:al_)(a:aW_)(h:StR s)(ha:a.vals.length≤1000000):PC Tryz.prog 148 [.agg (ao_ s.a),.agg (aX_ a.a)] (.tup [.bool (dC_ s a).1,.int .i64 (dC_ s a).2]):=by
 have tl:=Gl_ s a h;obtain⟨R,hc⟩:∃R,R=dC_ s a:=⟨_,rfl⟩
 rw[←hc];unfold dC_ at hc;have c0:=sQ_ s;have c1:=eC_ a.vals false s.cfg.bals.length (by omega);have c2:=dM_ s s.now h.spe;have c3:=dM_ s a.slot h.spe;refine PC.fact 12 jR_ (by simp) puA puA ?_;have hc:aP_=.seq aP_.hd (.seq (aP_.tl 1).hd (.seq (aP_.tl 2).hd (.seq (aP_.tl 3).hd (aP_.tl 4)))):=rfl;rw[hc];clear hc;generalize aP_.tl 4=cT at *;unfold aP_;refine bd ?_;simp only[ad_.tl,ad_.hd]
 generalize hY:(if av_ s.nodes a.root<0∨av_ s.nodes a.target.rt<0 then ((false,10):Bool×Int)else if a.slot<(nod s.nodes (av_ s.nodes a.root).toNat).blk.slot then (false,14)
  else if atT s.nodes (av_ s.nodes a.root) (da_ s a.target.ep).1≠av_ s.nodes a.target.rt then (false,19)else (decide (s.now≤a.slot),0))=Y at *
 generalize bt_ a.vals s.cfg.bals.length=V at *;generalize bP_ s s.now=N at *;generalize bP_ s a.slot=S at *;try refine aa_ ?_
 refine ay_ (c0) ?_;try refine aa_ ?_
 refine ay_ (c1) ?_;try refine aa_ ?_
 by_cases q1:V=0
 case neg=>
  have e1:(V != 0)=true:=by simp[q1]
  rw[if_pos q1]at hc;subst hc;repeat(first|refine aa_ ?_|simp only[go_sem,e1])
  refine Rf_ ?_
  exact ah_
 have e1:(V != 0)=false:=by simp[q1]
 rw[if_neg (by simp[q1])]at hc;repeat(first|refine aa_ ?_|simp only[go_sem,e1])
 refine Re_ ?_
 refine RV_ c2 ?_
 refine ay_ (c3) ?_;subst q1;have fail:(a.target.ep≠S∨(a.target.ep≠N∧(N=0∨a.target.ep≠IntKind.u64.wrap (N-1))))→R=(false,18):=fun hq=>by rw[hc,if_pos hq]
 have pass:¬ (a.target.ep≠S∨(a.target.ep≠N∧(N=0∨a.target.ep≠IntKind.u64.wrap (N-1))))→R=Y:=fun hq=>by rw[hc,if_neg hq]
 clear hc;by_cases q2:a.target.ep=S
 case neg=>
  have e2:(a.target.ep != S)=true:=by simp[q2]
  obtain rfl:=fail (.inl q2);repeat(first|refine aa_ ?_|simp only[go_sem,e2])
  refine Rf_ ?_
  exact ah_
 have e2:(a.target.ep != S)=false:=by simp[q2]
 by_cases q3:a.target.ep=N
 ·have e3:(a.target.ep != N)=false:=by simp[q3]
  have tl:=tl N R (pass (by rintro (h|h);exact h q2;exact h.1 q3));repeat(first|refine aa_ ?_|simp only[go_sem,e2,e3])
  refine Re_ ?_
  refine eD_ ?_ tl;exact Sn_ [] [0,1]
 have e3:(a.target.ep != N)=true:=by simp[q3]
 by_cases q4:N=0
 ·have e4:(N==0)=true:=by simp[q4]
  obtain rfl:=fail (.inr ⟨q3,.inl q4⟩);repeat(first|refine aa_ ?_|simp only[go_sem,e2,e3,e4])
  refine Rf_ ?_
  exact ah_
 have e4:(N==0)=false:=by simp[q4]
 by_cases q5:a.target.ep=IntKind.u64.wrap (N-1)
 ·have e5:(a.target.ep != IntKind.u64.wrap (N-1))=false:=by rw[←q5];simp
  have tl:=tl N R (pass (by rintro (h|h);exact h q2;rcases h.2 with h|h;exact q4 h;exact h q5));repeat(first|refine aa_ ?_|simp only[go_sem,e2,e3,e4,e5])
  refine Re_ ?_
  refine eD_ ?_ tl;exact Sn_ [] [0,1]
 ·have e5:(a.target.ep != IntKind.u64.wrap (N-1))=true:=by rw[bne_iff_ne];exact q5
  obtain rfl:=fail (.inr ⟨q3,.inr q5⟩);repeat(first|refine aa_ ?_|simp only[go_sem,e2,e3,e4,e5])
  refine Rf_ ?_
  exact ah_
theorem DJ_(s:al_)(a:aW_)(h:StR s)(ha:a.vals.length≤1000000)(hj:∀j∈a.vals,0≤j∧j<s.latest.length):PC Tryz.prog 149 [.agg (ao_ s.a),.agg (aX_ a.a)] (.agg (ao_ (castIn s a).a)):=by
 refine PC.fact 5 mN_ (by simp) puA puA ?_;unfold ik_;refine bd ?_;have c1:=zJ_ s.latest a.target.ep a.root a.vals h.bl ha hj;unfold castIn;generalize zI_ s.latest a.target.ep a.root a.vals=C at *;obtain⟨C1,C2⟩:=C;dsimp only at c1 ⊢;try refine aa_ ?_
 refine RV_ c1 ?_
 exact ah_
end Go.Proofs.YtipiipgpnkpejaaGreat
