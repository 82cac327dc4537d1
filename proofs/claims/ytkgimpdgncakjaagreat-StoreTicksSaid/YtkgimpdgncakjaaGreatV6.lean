/-
 My texts Lu, Lq, Lr, Ls, Lt, joined.
-/
import Derived.Test.YtkgimpdgncakjaaGreatV5
import Derived.Test.YtkgimpdgncakjaaGreatV3
import Derived.Test.YtkgimpdgncakjaaGreatV2
namespace Go.Proofs.YtkgimpdgncakjaaGreat
open Go Go.FH Go.RowKit
set_option linter.unusedVariables false
set_option linter.unusedSimpArgs false
def iy_(s:aj_)(x:da_):aj_×Int:=
 if evE x.a x.fst.vals x.snd.vals s.cfg.bals.length≠0 then (de_,evE x.a x.fst.vals x.snd.vals s.cfg.bals.length)
 else if IntKind.i64.wrap ((CQ_ s.eqv (gj_ x.fst.vals x.snd.vals x.fst.vals.length)).length-s.eqv.length)=0 then (de_,9)else (Qs_ s (CQ_ s.eqv (gj_ x.fst.vals x.snd.vals x.fst.vals.length)),0)
def ev_(s:aI_)(t:aj_):aI_:=⟨t,s.reqs,s.rets,s.tag,s.sent,s.last,s.over,s.halt⟩
def OT_(s:aI_)(l:List Req):aI_:=⟨s.sto,l,s.rets,s.tag,s.sent,s.last,s.over,s.halt⟩
def ew_(s:aI_)(l:List Req):aI_:=⟨s.sto,s.reqs,l,s.tag,s.sent,s.last,s.over,s.halt⟩
def dk_(l:List Req)(i:Nat):Req:=l.getD i hk_
def uK_(s:aj_)(r:Rt):Bool:=decide (0≤an_ s.nodes r)&&decide ((nod s.nodes (an_ s.nodes r).toNat).status=0)
def nV_(s:aI_)(r:Rt)(tries:Int):aI_:=⟨s.sto,s.reqs++[⟨s.tag,r,tries,0⟩],s.rets,IntKind.u64.wrap (s.tag+1),s.sent,s.last,s.over,s.halt⟩
def fR_(l:List Rt)(i:Nat)(s:aI_):aI_:=if uK_ s.sto (l.getD i rt0)=true then nV_ s (l.getD i rt0) 0 else s
def Fg_(s:aI_)(l:List Rt):aI_:=ay_ (fR_ l) s l.length
def eO_(t:List Nod)(l:List Req)(i:Nat)(o:List Req):List Req:=if 0≤an_ t (dk_ l i).block then o++[dk_ l i]else o
def io_(t:List Nod)(l:List Req):List Req:=ay_ (eO_ t l) [] l.length
def tE_(s:aI_):aI_:=⟨s.sto,io_ s.sto.nodes s.reqs,io_ s.sto.nodes s.rets,s.tag,s.sent,s.last,s.over,s.halt⟩
def ol_(b:Int):Nat→Int→Int
 |0,d=>d
 |f+1,d=>if IntKind.u64.wrap (b-d)≤d then b else ol_ b f (IntKind.u64.wrap (2*d))
def zB_(tries b:Int):Int:=if b=0 then 0 else ol_ b (tries-1).toNat 1
def KN_(a b:Req):Bool:=decide (a.due<b.due) || (decide (a.due=b.due)&&decide (a.tag<b.tag))
def nZ_(l:List Req):Nat→List Req
 |0=>l
 |k+1=>if KN_ (dk_ l (k+1)) (dk_ l k)=true then nZ_ ((l.set (k+1) (dk_ l k)).set k (dk_ l (k+1))) k else l
def qM_(s:aI_)(r:Req):Req:=⟨r.tag,r.block,IntKind.i64.wrap (r.tries+1),IntKind.u64.wrap (s.sto.now+zB_ (IntKind.i64.wrap (r.tries+1)) s.sto.cfg.lim.backoff)⟩
def uu_(s:aI_)(r:Req):aI_:=
 if uK_ s.sto r.block=false then s else if s.sto.cfg.lim.retry≤s.rets.length then ⟨s.sto,s.reqs,s.rets,s.tag,s.sent,s.last,true,s.halt⟩
 else ew_ s (nZ_ (s.rets++[qM_ s r]) s.rets.length)
def lP_(l:List Req)(i:Nat)(s:aI_):aI_:=if s.sto.now<(dk_ l i).due then ew_ s (s.rets++[dk_ l i])else if uK_ s.sto (dk_ l i).block=true then nV_ s (dk_ l i).block (dk_ l i).tries else s
def Pl_(s:aI_):aI_:=ay_ (lP_ s.rets) (ew_ s []) s.rets.length
def GI_(s:aj_):Rt:=if 0≤an_ s.nodes s.j.rt∧(nod s.nodes (an_ s.nodes s.j.rt).toNat).status=1 then s.j.rt else rt0
def HO_(s:aj_):Cmd:=⟨(nod s.nodes (um_ s).toNat).blk.root,GI_ s,s.f.rt⟩
def lQ_(s:aI_):aI_×List Cmd:=if s.sent=true∧s.last=HO_ s.sto then (s,[])else (⟨s.sto,s.reqs,s.rets,s.tag,true,HO_ s.sto,s.over,s.halt⟩,[HO_ s.sto])
def DJ_:aI_:=⟨de_,[],[],0,false,pv_,false,false⟩
def oj_(c:bt_):aI_×List Cmd×Int:=if hi_ c=0 then ((lQ_ ⟨ea_ c,[],[],1,false,pv_,false,false⟩).1,(lQ_ ⟨ea_ c,[],[],1,false,pv_,false,false⟩).2,0)else (DJ_,[],hi_ c)
def qg_(l:List Req)(i:Nat):List Req:=l.take i++l.drop (i+1)
def dj_(s:aI_)(v:Vdt):Req×aI_×Int:=match cD_ (fun i=>decide ((dk_ s.reqs i).tag=v.tag)) s.reqs.length with
 |some i=>(dk_ s.reqs i,OT_ s (qg_ s.reqs i),0)
 |none=>(hk_,DJ_,23)
def boostV(s:aj_):aj_:=if 0≤an_ s.nodes s.boost∧(nod s.nodes (an_ s.nodes s.boost).toNat).status=2 then withB s rt0 else s
def Aa_(s:aj_)(r:Rt)(v:Vdt):List Nod×Int:=gn_ s.nodes (an_ s.nodes r) v [an_ s.nodes s.j.rt,an_ s.nodes s.f.rt]
def qi_(s:aI_)(v:Vdt):aI_×Int:=
 if (dj_ s v).2.2≠0 then (s,(dj_ s v).2.2)else if v.kind=3∨v.kind=4 then (uu_ (dj_ s v).2.1 (dj_ s v).1,0)
 else if (Aa_ (dj_ s v).2.1.sto (dj_ s v).1.block v).2≠0 then (⟨s.sto,s.reqs,s.rets,s.tag,s.sent,s.last,s.over,true⟩,21)
 else (ev_ (dj_ s v).2.1 (boostV (df_ (dj_ s v).2.1.sto (Aa_ (dj_ s v).2.1.sto (dj_ s v).1.block v).1)),0)
def iW_(s:aI_)(x:VOp):aI_×Int:=
 if x.kind=1 then (if (dd_ s.sto).2=0 then (Pl_ (tE_ (ev_ s (dd_ s.sto).1)),0)else (ev_ s (dd_ s.sto).1,(dd_ s.sto).2))
 else if x.kind=2 then (if (dB_ s.sto x.blk).2.2=0 then (Fg_ (tE_ (ev_ s (dB_ s.sto x.blk).1)) (dB_ s.sto x.blk).2.1,0)else (ev_ s (dB_ s.sto x.blk).1,(dB_ s.sto x.blk).2.2))
 else if x.kind=3 then (ev_ s (qp_ s.sto x.att).1,(qp_ s.sto x.att).2)else if x.kind=4 then (ev_ s (iy_ s.sto x.slg).1,(iy_ s.sto x.slg).2)
 else if x.kind=5 then (ev_ s (uU_ s.sto x.tab).1,(uU_ s.sto x.tab).2)else if x.kind=6 then qi_ s x.vdt else (s,2)
def toV(x:VOp):OpV:=⟨x.kind,x.blk,(x.att.slot,x.att.root,x.att.target,x.att.vals),((x.slg.fst.src,x.slg.fst.tgt,x.slg.fst.root,x.slg.fst.vals),(x.slg.snd.src,x.slg.snd.tgt,x.slg.snd.root,x.slg.snd.vals)),(x.tab.cp,x.tab.bals),x.vdt,x.write,x.keep⟩
def qe_(s:aI_)(x:VOp):aI_×List Cmd×Int:=
 if s.halt=true then (s,[],22)else if vOp (toV x)≠0 then (s,[],vOp (toV x))
 else if (iW_ s x).2=21 then ((iW_ s x).1,[],21)else if (iW_ s x).2≠0 then (s,[],(iW_ s x).2)
 else ((lQ_ (iW_ s x).1).1,(lQ_ (iW_ s x).1).2,0)
end Go.Proofs.YtkgimpdgncakjaaGreat
namespace Go.Proofs.YtkgimpdgncakjaaGreat
open Go Go.FH Go.RowKit
set_option linter.unusedVariables false
set_option linter.unusedSimpArgs false
set_option maxRecDepth 8000
set_option maxHeartbeats 4000000
theorem Kw_(s:aj_)(h:StR s)(a b j0 f0:Cp)(R:Bool)(hR:R=oC_ s a b):Tri Tryz.prog 118 0 (bl_.tl 4) (PQ [.cell 6 true 33,.cell 7 true 33,.tmp 8] (.tup [.agg (cpC (bif R then a else cp0)),.agg (cpC (bif R then b else cp0)),.bool R])) ⟨13,[.agg (ai_ s.a),.agg (cpC j0),.agg (cpC f0),.ptr 0 0,.ptr 1 0,.ptr 2 0,.ptr 3 0,.ptr 4 0,.bool false,.ptr 5 0,.ptr 6 0,.dead,.dead],[]⟩ [.var (ai_ s.a),.var (cpC j0),.var (cpC f0),.var (cpC cp0),.var (cpC cp0),.var (cpC a),.var (cpC b)]:=by
 unfold bl_;refine bd ?_;simp only[ad_.tl];have c1:=bv_ s.nodes a.rt h.bn;have c2:=bv_ s.nodes b.rt h.bn;have b1:=cq_ s.nodes a.rt;have b2:=cq_ s.nodes b.rt;unfold oC_ at hR;generalize an_ s.nodes a.rt=I at *;generalize an_ s.nodes b.rt=K at *;try refine aa_ ?_
 refine au_ (c1) ?_;try refine aa_ ?_
 refine au_ (c2) ?_;by_cases q1:I<0
 ·have e1:decide (I<0)=true:=decide_eq_true q1;rw[decide_eq_false (show ¬0≤I by omega)]at hR;obtain rfl:R=false:=hR;repeat(first|refine aa_ ?_|simp only[go_sem,e1])
  refine PH_ ?_
  exact af_
 have e1:decide (I<0)=false:=decide_eq_false q1;rw[decide_eq_true (show 0≤I by omega)]at hR;by_cases q2:K<0
 ·have e2:decide (K<0)=true:=decide_eq_true q2;rw[decide_eq_false (show ¬0≤K by omega)]at hR;obtain rfl:R=false:=hR;repeat(first|refine aa_ ?_|simp only[go_sem,e1,e2])
  refine PH_ ?_
  exact af_
 have e2:decide (K<0)=false:=decide_eq_false q2;rw[decide_eq_true (show 0≤K by omega)]at hR;have hg1:=bD_ (t:=s.nodes) (i:=I.toNat) (by omega);have hg2:=bD_ (t:=s.nodes) (i:=K.toNat) (by omega);by_cases q3:(nod s.nodes I.toNat).status=2
 ·have e3:((nod s.nodes I.toNat).status==2)=true:=by simp[q3]
  rw[decide_eq_false (show ¬ (nod s.nodes I.toNat).status≠2 by simp[q3])]at hR;obtain rfl:R=false:=hR;repeat(first|refine aa_ ?_|simp only[go_sem,e1,e2,hg1,hg2,e3])
  refine PH_ ?_
  exact af_
 have e3:((nod s.nodes I.toNat).status==2)=false:=by simp[q3]
 rw[decide_eq_true (show (nod s.nodes I.toNat).status≠2 from q3)]at hR;by_cases q4:(nod s.nodes K.toNat).status=2
 ·have e4:((nod s.nodes K.toNat).status==2)=true:=by simp[q4]
  rw[decide_eq_false (show ¬ (nod s.nodes K.toNat).status≠2 by simp[q4])]at hR;obtain rfl:R=false:=hR;repeat(first|refine aa_ ?_|simp only[go_sem,e1,e2,e3,hg1,hg2,e4])
  refine PH_ ?_
  exact af_
 have e4:((nod s.nodes K.toNat).status==2)=false:=by simp[q4]
 rw[decide_eq_true (show (nod s.nodes K.toNat).status≠2 from q4)]at hR;repeat(first|refine aa_ ?_|simp only[go_sem,e1,e2,e3,e4,hg1,hg2])
 have k4:=tF_ s I a.ep (by omega) (by omega);generalize om_ s I a.ep=V4 at *;refine au_ (k4) ?_;cases V4 with
 | false =>
   obtain rfl:R=false:=hR;try refine aa_ ?_
   refine PH_ ?_
   exact af_
 | true =>
   repeat(first|refine aa_ ?_|simp only[go_sem,e1,e2,e3,e4,hg1,hg2])
   have k5:=tF_ s K b.ep (by omega) (by omega);generalize om_ s K b.ep=V5 at *;refine au_ (k5) ?_;cases V5 with
   | false =>
     obtain rfl:R=false:=hR;try refine aa_ ?_
     refine PH_ ?_
     exact af_
   | true =>
     repeat(first|refine aa_ ?_|simp only[go_sem,e1,e2,e3,e4,hg1,hg2])
     have k6:=oX_ s.nodes h.tree.ok h.bn K I;generalize db_ s.nodes K I=V6 at *;refine au_ (k6) ?_;cases V6 with
     | false =>
       obtain rfl:R=false:=hR;try refine aa_ ?_
       refine PH_ ?_
       exact af_
     | true =>
       by_cases q8:a.ep<b.ep
       ·have e8:decide (a.ep<b.ep)=true:=decide_eq_true q8;rw[decide_eq_false (show ¬b.ep≤a.ep by omega)]at hR;obtain rfl:R=false:=hR;repeat(first|refine aa_ ?_|simp only[go_sem,e1,e2,e3,e4,hg1,hg2,e8])
        refine PH_ ?_
        exact af_
       have e8:decide (a.ep<b.ep)=false:=decide_eq_false q8;rw[decide_eq_true (show b.ep≤a.ep by omega)]at hR;repeat(first|refine aa_ ?_|simp only[go_sem,e1,e2,e3,e4,e8,hg1,hg2])
       have k8:=dC_ s s.now h.spe;generalize bj_ s s.now=E at *;refine au_ (k8) ?_;by_cases q9:E<a.ep
       ·have e9:decide (E<a.ep)=true:=decide_eq_true q9;rw[decide_eq_false (show ¬a.ep≤E by omega)]at hR;obtain rfl:R=false:=hR;repeat(first|refine aa_ ?_|simp only[go_sem,e1,e2,e3,e4,e8,hg1,hg2,e9])
        refine PH_ ?_
        exact af_
       have e9:decide (E<a.ep)=false:=decide_eq_false q9;rw[decide_eq_true (show a.ep≤E by omega)]at hR;repeat(first|refine aa_ ?_|simp only[go_sem,e1,e2,e3,e4,e8,e9,hg1,hg2])
       have k9:=km_ s.tabs a h.bt;generalize dg_ s.tabs a=F at *;refine au_ (k9) ?_;by_cases q10:F<0
       ·have e10:decide (F<0)=true:=decide_eq_true q10;rw[decide_eq_false (show ¬0≤F by omega)]at hR;obtain rfl:R=false:=hR;repeat(first|refine aa_ ?_|simp only[go_sem,e1,e2,e3,e4,e8,e9,hg1,hg2,e10])
        refine PH_ ?_
        exact af_
       have e10:decide (F<0)=false:=decide_eq_false q10;rw[decide_eq_true (show 0≤F by omega)]at hR;obtain rfl:R=true:=hR;repeat(first|refine aa_ ?_|simp only[go_sem,e1,e2,e3,e4,e8,e9,e10,hg1,hg2])
       refine PG_ ?_
       exact af_
theorem Hz_(s:aj_)(h:StR s)(j f:Cp):PC Tryz.prog 123 [.agg (ai_ s.a),.agg (cpC j),.agg (cpC f)] (.tup [.agg (cpC (bif oC_ s (cL_ s.j j) (cL_ s.f f)then cL_ s.j j else cp0)),.agg (cpC (bif oC_ s (cL_ s.j j) (cL_ s.f f)then cL_ s.f f else cp0)),.bool (oC_ s (cL_ s.j j) (cL_ s.f f))]):=by
 have tl:=Kw_ s h (cL_ s.j j) (cL_ s.f f) j f _ rfl;refine PC.fact 13 pB_ (by simp) puA puA ?_;have hc:bl_=.seq bl_.hd (.seq (bl_.tl 1).hd (.seq (bl_.tl 2).hd (.seq (bl_.tl 3).hd (bl_.tl 4)))):=rfl;rw[hc];clear hc;generalize bl_.tl 4=cT at *;unfold bl_;refine bd ?_;simp only[ad_.tl,ad_.hd];have m1:cL_ s.j j=if s.j.ep<j.ep then j else s.j:=rfl
 have m2:cL_ s.f f=if s.f.ep<f.ep then f else s.f:=rfl
 by_cases q1:s.j.ep<j.ep
 ·have e1:decide (s.j.ep<j.ep)=true:=decide_eq_true q1
  rw[if_pos q1]at m1;by_cases q2:s.f.ep<f.ep
  ·have e2:decide (s.f.ep<f.ep)=true:=decide_eq_true q2;rw[if_pos q2]at m2;rw[m1,m2]at tl ⊢;repeat(first|refine aa_ ?_|simp only[go_sem,e1])
   refine ac_ ?_;repeat(first|refine aa_ ?_|simp only[go_sem,e2])
   refine PH_ ?_
   refine du_ ?_ tl;exact QV_ [] [0,1,2,3,4,5,6]
  ·have e2:decide (s.f.ep<f.ep)=false:=decide_eq_false q2;rw[if_neg q2]at m2;rw[m1,m2]at tl ⊢;repeat(first|refine aa_ ?_|simp only[go_sem,e1])
   refine ac_ ?_;repeat(first|refine aa_ ?_|simp only[go_sem,e2])
   refine PG_ ?_
   refine du_ ?_ tl;exact QV_ [] [0,1,2,3,4,5,6]
 ·have e1:decide (s.j.ep<j.ep)=false:=decide_eq_false q1
  rw[if_neg q1]at m1;by_cases q2:s.f.ep<f.ep
  ·have e2:decide (s.f.ep<f.ep)=true:=decide_eq_true q2;rw[if_pos q2]at m2;rw[m1,m2]at tl ⊢;repeat(first|refine aa_ ?_|simp only[go_sem,e1])
   refine ab_ ?_;repeat(first|refine aa_ ?_|simp only[go_sem,e2])
   refine PH_ ?_
   refine du_ ?_ tl;exact QV_ [] [0,1,2,3,4,5,6]
  ·have e2:decide (s.f.ep<f.ep)=false:=decide_eq_false q2;rw[if_neg q2]at m2;rw[m1,m2]at tl ⊢;repeat(first|refine aa_ ?_|simp only[go_sem,e1])
   refine ab_ ?_;repeat(first|refine aa_ ?_|simp only[go_sem,e2])
   refine PG_ ?_
   refine du_ ?_ tl;exact QV_ [] [0,1,2,3,4,5,6]
theorem KU_(σ:St)(zs:List Nat)(l:List Cp):dZ_ σ zs (rows cpC l)=rows cpC l:=dh_.fz σ zs (bp_ fun x _=>dv_ x)
theorem IW_(ρ:Nat→Nat)(l:List Cp):bH_ ρ (rows cpC l)=rows cpC l:=dh_.ren ρ (bp_ fun x _=>dv_ x)
attribute [local go_sem] KU_ IW_
theorem Ii_(s:aj_)(b:Blk)(h:StR s):PC Tryz.prog 154 [.agg (ai_ s.a),.agg (ap_ b)] (.bool (Gn_ s b)):=by
 refine PC.fact 12 zJ_ (by simp) puA puA ?_;unfold ph_;refine bd ?_;have c1:=bv_ s.nodes b.parent h.bn;have c2:=Ah_ s b h.spe;unfold Gn_;generalize an_ s.nodes b.parent=P at *;generalize NF_ s b=O at *;obtain⟨R,hR2⟩:∃R,R=(cD_ (fun k=>!oz_ s b P ((cps b).getD k cp0)) 4).isNone:=⟨_,rfl⟩
 rw[←hR2];try refine aa_ ?_
 refine Qy_ c1 ?_
 by_cases q1:P<0
 ·have e1:decide (P<0)=true:=decide_eq_true q1;rw[decide_eq_false (show ¬0≤P by omega)];repeat(first|refine aa_ ?_|simp only[go_sem,e1])
  refine PH_ ?_
  exact af_
 have e1:decide (P<0)=false:=decide_eq_false q1;rw[decide_eq_true (show 0≤P by omega)];repeat(first|refine aa_ ?_|simp only[go_sem,e1])
 refine PG_ ?_
 refine ah_ c2 ?_;cases O with
 | false =>
   try refine aa_ ?_
   refine PH_ ?_
   exact af_
 | true =>
   try refine aa_ ?_
   have hrc:[cpC b.just,cpC b.fin,cpC b.pul.j,cpC b.pul.f]=rows cpC (cps b):=rfl;refine ab_ ?_;repeat(first|refine aa_ ?_|simp only[go_sem,hrc])
   refine am_ (fun i:Nat=>[(7,.int .i64 i)]) (fun _=>[.var (ai_ s.a),.var (ap_ b)]) (fun i=>4-i) (fun i=>i≤4∧R=(eF_ (fun k=>!oz_ s b P ((cps b).getD k cp0)) (4-i) i).isNone) 0 ⟨Nat.zero_le _,hR2⟩ ?_ ?_
   ·exact QV_ [] [0,1]
   clear hR2;rintro i ⟨hi,hn⟩;rw[hn];(try simp only[ao_,ar_,List.set_cons_zero,List.set_cons_succ])
   by_cases h1:i<4
   ·have e1:decide ((i:Int)<((4:Nat):Int))=true:=decide_eq_true (by omega)
    have hw:=ae_ h1 (by omega);have hgd:(rows cpC (cps b)).getD i []=cpC ((cps b).getD i cp0):=aK_ (f:=cpC) cp0 (by exact h1);have hlen:(cps b).length=4:=rfl;have e1':decide ((i:Int)<4)=true:=decide_eq_true (by omega);have hfit:oz_ s b P ((cps b).getD i cp0)=(decide (((cps b).getD i cp0).ep≤s.f.ep) || (if (cw_ s ((cps b).getD i cp0).ep).1<b.slot then decide (0≤atT s.nodes P (cw_ s ((cps b).getD i cp0).ep).1)&&decide ((nod s.nodes (atT s.nodes P (cw_ s ((cps b).getD i cp0).ep).1).toNat).blk.root=((cps b).getD i cp0).rt)else decide (b.root=((cps b).getD i cp0).rt))):=rfl;have hT:oz_ s b P ((cps b).getD i cp0)=true→(eF_ (fun k=>!oz_ s b P ((cps b).getD k cp0)) (4-i) i)=eF_ (fun k=>!oz_ s b P ((cps b).getD k cp0)) (4-(i+1)) (i+1):=fun hv=>gl_ h1 (by show (!oz_ s b P ((cps b).getD i cp0))=false;rw[hv];rfl)
    have hF:oz_ s b P ((cps b).getD i cp0)=false→(eF_ (fun k=>!oz_ s b P ((cps b).getD k cp0)) (4-i) i).isNone=false:=fun hv=>by rw[gm_ h1 (by show (!oz_ s b P ((cps b).getD i cp0))=true;rw[hv];rfl)];rfl
    have c3:=gW_ s ((cps b).getD i cp0).ep;generalize eF_ (fun k=>!oz_ s b P ((cps b).getD k cp0)) (4-i) i=X at *;generalize hX2:eF_ (fun k=>!oz_ s b P ((cps b).getD k cp0)) (4-(i+1)) (i+1)=X2 at *;generalize (cps b).getD i cp0=c at *;generalize oz_ s b P c=V at *;generalize cw_ s c.ep=st at *;obtain⟨st1,st2⟩:=st;dsimp only at c3 hfit;have c4:=zd_ s.nodes h.tree.ok h.bn P st1;have b4:=Kj_ h.tree.ok P st1;generalize atT s.nodes P st1=A at *;repeat(first|refine aa_ ?_|simp only[go_sem,e1,e1',hlen])
    refine ac_ ?_;repeat(first|refine aa_ ?_|simp only[go_sem,hgd,hlen])
    by_cases q2:c.ep≤s.f.ep
    ·have e2:decide (c.ep≤s.f.ep)=true:=decide_eq_true q2;rw[e2]at hfit;rw[hT hfit];repeat(first|refine aa_ ?_|simp only[go_sem,e2])
     refine ac_ ?_;repeat(first|refine aa_ ?_|simp only[go_sem,hw])
     refine⟨i+1,⟨h1,by rw[←hX2];rfl⟩,by omega,?_⟩;exact QV_ [] [0,1]
    have e2:decide (c.ep≤s.f.ep)=false:=decide_eq_false q2;rw[e2,Bool.false_or]at hfit;repeat(first|refine aa_ ?_|simp only[go_sem,e2])
    refine ab_ ?_;repeat(first|refine aa_ ?_|simp only[go_sem,hgd,hlen])
    refine au_ (c3) ?_;try refine aa_ ?_
    by_cases q3:st1<b.slot
    ·have e3:decide (st1<b.slot)=true:=decide_eq_true q3
     rw[if_pos q3]at hfit;repeat(first|refine aa_ ?_|simp only[go_sem,e3])
     refine PH_ ?_
     refine Qy_ c4 ?_
     by_cases q4:A<0
     ·have e4:decide (A<0)=true:=decide_eq_true q4;rw[decide_eq_false (show ¬0≤A by omega)]at hfit;rw[hF hfit];repeat(first|refine aa_ ?_|simp only[go_sem,e4])
      refine PH_ ?_
      exact af_
     have e4:decide (A<0)=false:=decide_eq_false q4;rw[decide_eq_true (show 0≤A by omega),Bool.true_and]at hfit;have hgn:=bD_ (t:=s.nodes) (i:=A.toNat) (by omega);repeat(first|refine aa_ ?_|simp only[go_sem,e4])
     refine ab_ ?_;repeat(first|refine aa_ ?_|simp only[go_sem,hgn,hgd,hlen])
     by_cases q5:(nod s.nodes A.toNat).blk.root=c.rt
     ·have e5:decide ((nod s.nodes A.toNat).blk.root=c.rt)=true:=decide_eq_true q5;rw[e5]at hfit;rw[hT hfit];repeat(first|refine aa_ ?_|simp only[go_sem,e5])
      refine ab_ ?_;repeat(first|refine aa_ ?_|simp only[go_sem,hw])
      refine⟨i+1,⟨h1,by rw[←hX2];rfl⟩,by omega,?_⟩;exact QV_ [] [0,1]
     ·have e5:decide ((nod s.nodes A.toNat).blk.root=c.rt)=false:=decide_eq_false q5;rw[e5]at hfit;rw[hF hfit];repeat(first|refine aa_ ?_|simp only[go_sem,e5])
      refine PH_ ?_
      exact af_
    ·have e3:decide (st1<b.slot)=false:=decide_eq_false q3
     rw[if_neg q3]at hfit;repeat(first|refine aa_ ?_|simp only[go_sem,e3])
     refine ab_ ?_;repeat(first|refine aa_ ?_|simp only[go_sem,hgd,hlen])
     by_cases q5:b.root=c.rt
     ·have e5:decide (b.root=c.rt)=true:=decide_eq_true q5;rw[e5]at hfit;rw[hT hfit];repeat(first|refine aa_ ?_|simp only[go_sem,e5])
      refine ab_ ?_;repeat(first|refine aa_ ?_|simp only[go_sem,hw])
      refine⟨i+1,⟨h1,by rw[←hX2];rfl⟩,by omega,?_⟩;exact QV_ [] [0,1]
     ·have e5:decide (b.root=c.rt)=false:=decide_eq_false q5;rw[e5]at hfit;rw[hF hfit];repeat(first|refine aa_ ?_|simp only[go_sem,e5])
      refine PH_ ?_
      exact af_
   ·obtain rfl:i=4:=by omega
    have e1:decide (((4:Nat):Int)<((4:Nat):Int))=false:=decide_eq_false (by omega);have hz:eF_ (fun k=>!oz_ s b P ((cps b).getD k cp0)) (4-4) 4=none:=gk_ _ 4;rw[hz];have hlen:(cps b).length=4:=rfl;repeat(first|refine aa_ ?_|simp only[go_sem,e1,hlen])
    refine PG_ ?_
    exact af_
theorem rw_(s:aj_)(b:Blk)(h:StR s):PC Tryz.prog 84 [.agg (ai_ s.a),.agg (ap_ b)] (.int .i64 (cs_ s b)):=by
 refine PC.fact 87 os_ (by simp) puA puA ?_;unfold ia_;refine bd ?_;have c1:=gW_ s s.f.ep;have c2:=ES_ s b.root h;have c3:=bv_ s.nodes b.parent h.bn;have c4:=Ii_ s b h;have b3:=cq_ s.nodes b.parent;obtain⟨R,hc⟩:∃R,R=cs_ s b:=⟨_,rfl⟩
 rw[←hc];unfold cs_ at hc;generalize cw_ s s.f.ep=st at *;obtain⟨st1,st2⟩:=st;dsimp only at c1 hc;generalize oA_ s b.root=N at *;generalize an_ s.nodes b.parent=P at *;generalize Gn_ s b=T at *;try refine aa_ ?_
 refine Qy_ c1 ?_
 by_cases q1:b.root=rt0
 ·have e1:decide (b.root=rt0)=true:=decide_eq_true q1;rw[if_pos q1]at hc;subst hc;repeat(first|refine aa_ ?_|simp only[go_sem,e1])
  refine PH_ ?_
  exact af_
 have e1:decide (b.root=rt0)=false:=decide_eq_false q1;rw[if_neg q1]at hc;repeat(first|refine aa_ ?_|simp only[go_sem,e1])
 refine PG_ ?_
 refine ah_ c2 ?_;cases N with
 | true =>
   rw[if_pos rfl]at hc;subst hc;try refine aa_ ?_
   refine PH_ ?_
   exact af_
 | false =>
   rw[if_neg (by simp)]at hc;try refine aa_ ?_
   refine PG_ ?_
   by_cases q3:s.now<b.slot
   ·have e3:decide (s.now<b.slot)=true:=decide_eq_true q3;rw[if_pos q3]at hc;subst hc;repeat(first|refine aa_ ?_|simp only[go_sem,e3])
    refine PH_ ?_
    exact af_
   have e3:decide (s.now<b.slot)=false:=decide_eq_false q3;rw[if_neg q3]at hc;repeat(first|refine aa_ ?_|simp only[go_sem,e3])
   refine PG_ ?_
   by_cases q4:b.slot≤st1
   ·have e4:decide (b.slot≤st1)=true:=decide_eq_true q4;rw[if_pos q4]at hc;subst hc;repeat(first|refine aa_ ?_|simp only[go_sem,e4])
    refine PH_ ?_
    exact af_
   have e4:decide (b.slot≤st1)=false:=decide_eq_false q4;rw[if_neg q4]at hc;repeat(first|refine aa_ ?_|simp only[go_sem,e4])
   refine PG_ ?_
   refine Qy_ c3 ?_
   by_cases q5:P<0
   ·have e5:decide (P<0)=true:=decide_eq_true q5;rw[if_pos q5]at hc;subst hc;repeat(first|refine aa_ ?_|simp only[go_sem,e5])
    refine PH_ ?_
    exact af_
   have e5:decide (P<0)=false:=decide_eq_false q5;rw[if_neg q5]at hc;have hg:=bD_ (t:=s.nodes) (i:=P.toNat) (by omega);repeat(first|refine aa_ ?_|simp only[go_sem,e5])
   refine ab_ ?_;repeat(first|refine aa_ ?_|simp only[go_sem,hg])
   by_cases q6:b.slot≤(nod s.nodes P.toNat).blk.slot
   ·have e6:decide (b.slot≤(nod s.nodes P.toNat).blk.slot)=true:=decide_eq_true q6;rw[if_pos q6]at hc;subst hc;repeat(first|refine aa_ ?_|simp only[go_sem,e6])
    refine PH_ ?_
    exact af_
   have e6:decide (b.slot≤(nod s.nodes P.toNat).blk.slot)=false:=decide_eq_false q6;rw[if_neg q6]at hc;repeat(first|refine aa_ ?_|simp only[go_sem,e6])
   refine ab_ ?_;repeat(first|refine aa_ ?_|simp only[go_sem,hg])
   by_cases q7:(nod s.nodes P.toNat).status=2
   ·have e7:((nod s.nodes P.toNat).status==2)=true:=by simp[q7]
    rw[if_pos q7]at hc;subst hc;repeat(first|refine aa_ ?_|simp only[go_sem,e7])
    refine PH_ ?_
    exact af_
   have e7:((nod s.nodes P.toNat).status==2)=false:=by simp[q7]
   rw[if_neg q7]at hc;repeat(first|refine aa_ ?_|simp only[go_sem,e7])
   refine ab_ ?_;repeat(first|refine aa_ ?_|simp only[go_sem,hg])
   refine ah_ c4 ?_;cases T with
   | false =>
     rw[if_pos rfl]at hc;subst hc;try refine aa_ ?_
     refine PH_ ?_
     exact af_
   | true =>
     rw[if_neg (by simp)]at hc;have c5:=EH_ s.cfg.ttd (nod s.nodes P.toNat).blk b;generalize Gm_ s.cfg.ttd (nod s.nodes P.toNat).blk b=M at *;try refine aa_ ?_
     refine ab_ ?_;repeat(first|refine aa_ ?_|simp only[go_sem,hg])
     refine au_ (c5) ?_;cases M with
     | false =>
       rw[if_pos rfl]at hc;subst hc;try refine aa_ ?_
       refine PH_ ?_
       exact af_
     | true =>
       rw[if_neg (by simp)]at hc;try refine aa_ ?_
       refine PG_ ?_
       by_cases q8:s.cfg.lim.node≤(s.nodes.length:Int)
       ·have e8:decide ((s.nodes.length:Int) ≥ s.cfg.lim.node)=true:=decide_eq_true q8;have e9:decide (s.cfg.lim.node≤(s.nodes.length:Int))=true:=decide_eq_true q8;rw[if_pos q8]at hc;subst hc;repeat(first|refine aa_ ?_|simp only[go_sem,e8,e9])
        refine PH_ ?_
        exact af_
       ·have e8:decide ((s.nodes.length:Int) ≥ s.cfg.lim.node)=false:=decide_eq_false q8;have e9:decide (s.cfg.lim.node≤(s.nodes.length:Int))=false:=decide_eq_false q8;rw[if_neg q8]at hc;subst hc;repeat(first|refine aa_ ?_|simp only[go_sem,e8,e9])
        refine PG_ ?_
        exact af_
theorem mG_(l:List Blk)(a:Int):∀k,(ay_ (kW_ l a) [] k).length≤k
 |0=>Nat.le_refl _
 | k + 1 => by
   rw[br_];have h1:=mG_ l a k;unfold kW_ at *;split
   ·simp only[List.length_append,List.length_cons,List.length_nil];omega
   ·omega
theorem kg_(l:List aw_)(e:Int):∀t∈dx_ l e,t∈l:=by
 unfold dx_;refine ha_ (f:=fun i o=>if e≤(tab l i).cp.ep then o++[tab l i]else o) (a:=[]) (fun _ o=>∀t∈o,t∈l) (by simp) l.length (fun i o hi ho=>?_) _ (Nat.le_refl _);split
 ·intro t ht;rw[List.mem_append,List.mem_singleton]at ht;rcases ht with ht|rfl
  ·exact ho t ht
  ·unfold tab;rw[List.getD_eq_getElem?_getD,List.getElem?_eq_getElem hi];exact List.getElem_mem hi
 ·exact ho
theorem kf_(l:List aw_)(e:Int):(dx_ l e).length≤l.length:=by
 have:=hb_ (f:=fun i o=>if e≤(tab l i).cp.ep then o++[tab l i]else o) (a:=([]:List aw_)) (fun i o=>by split<;>simp) l.length;unfold dx_;simpa using this
theorem Ac_{s:aj_}{a b:Cp}(h:oC_ s a b=true):0≤an_ s.nodes a.rt∧0≤an_ s.nodes b.rt∧db_ s.nodes (an_ s.nodes b.rt) (an_ s.nodes a.rt)=true:=by
 unfold oC_ at h;simp only[Bool.and_eq_true,decide_eq_true_eq]at h;exact⟨h.1.1.1.1.1.1.1.1.1,h.1.1.1.1.1.1.1.1.2,h.1.1.1.2⟩
theorem StR.upd{s:aj_}(h:StR s)(j f:Cp):StR (cp_ s j f):=by
 unfold cp_;split
 ·exact h
 ·rename_i hm
  have hm:oC_ s (cL_ s.j j) (cL_ s.f f)=true:=by simpa using hm
  obtain⟨h1,h2,h3⟩:=Ac_ hm;have hd:=kf_ s.tabs (cL_ s.j j).ep;have hb:∀t∈dx_ s.tabs (cL_ s.j j).ep,t.bals.length≤1000000:=fun t ht=>h.bb t (kg_ _ _ t ht)
  split
  ·exact⟨h.tree,h.spe,h.bn,h.bl,h.be,Nat.le_trans hd h.bt,hb,h.bo,h.ba,h.nl,h.ll,h1⟩
  ·have hf:=pK_ h2;have hl:=oE_ h.tree (an_ s.nodes (cL_ s.f f).rt);refine⟨h.tree.prune h2 (by omega),h.spe,Nat.le_trans hl h.bn,h.bl,h.be,Nat.le_trans hd h.bt,hb,Nat.le_trans (mG_ _ _ _) h.bo,h.ba,h.nl,h.ll,?_⟩;exact CO_ h.tree h1 h3
def pR_(l:List Blk)(a:Int)(k:Nat):List Blk:=ay_ (kW_ l a) [] k
theorem Nm_(l:List Blk)(a:Int)(k:Nat):pR_ l a (k+1)=kW_ l a k (pR_ l a k):=rfl
theorem OB_(s:aj_)(j f a b:Cp)(T1:List Nod)(r:Rt)(D:List aw_)(hbo:s.orph.length≤1000000):
 Tri Tryz.prog 104 0 (bd_.tl 9) (PQ [.cell 6 true 150] (.agg (ai_ (⟨s.cfg,s.latest,s.eqv,a,b,s.early,pR_ s.orph (cw_ s b.ep).1 s.orph.length,T1,s.now,r,D⟩:aj_).a)))
  ⟨15,[.agg (ai_ s.a),.agg (cpC j),.agg (cpC f),.ptr 0 0,.ptr 1 0,.ptr 2 0,.ptr 3 0,.ptr 4 0,.ptr 5 0,.bool true,.bool true,.dead,.dead,.dead,.dead],[]⟩
  [.var (ai_ (⟨s.cfg,s.latest,s.eqv,a,b,s.early,s.orph,T1,s.now,r,D⟩:aj_).a),.var (cpC j),.var (cpC f),.var (ai_ bI_),.var (cpC a),.var (cpC b)]:=by
 unfold bd_;refine bd ?_;simp only[ad_.tl];have c6:PC Tryz.prog 126 [.agg (ai_ (⟨s.cfg,s.latest,s.eqv,a,b,s.early,s.orph,T1,s.now,r,D⟩:aj_).a),.int .u64 b.ep] (.tup [.int .u64 (cw_ s b.ep).1,.bool (cw_ s b.ep).2]):=gW_ ⟨s.cfg,s.latest,s.eqv,a,b,s.early,s.orph,T1,s.now,r,D⟩ b.ep;generalize cw_ s b.ep=st at *;obtain⟨st1,st2⟩:=st;dsimp only at c6 ⊢;try refine aa_ ?_
 refine Qy_ c6 ?_
 refine cP_ 13 238 ?_;simp only[go_sem];have hz:pR_ s.orph st1 0=[]:=rfl;refine am_ (fun i:Nat=>[(14,.int .i64 i),(13,.hs 238 6 0 (pR_ s.orph st1 i).length)]) (fun i=>[.var (ai_ (⟨s.cfg,s.latest,s.eqv,a,b,s.early,s.orph,T1,s.now,r,D⟩:aj_).a),.var (cpC j),.var (cpC f),.var (ai_ bI_),.var (cpC a),.var (cpC b),.vec 238 (rows ap_ (pR_ s.orph st1 i))]) (fun i=>s.orph.length-i) (fun i=>i≤s.orph.length) 0 (Nat.zero_le _) ?_ ?_
 ·rw[hz];exact QV_ [] [0,1,2,3,4,5,6]
 intro i hi;(try simp only[ao_,ar_,List.set_cons_zero,List.set_cons_succ])
 by_cases h1:i<s.orph.length
 ·have e1:decide ((i:Int)<((s.orph.length:Nat):Int))=true:=decide_eq_true (by omega)
  have hw:=ae_ h1 (by omega);have hgd:(rows ap_ s.orph).getD i []=ap_ (di_ s.orph i):=aK_ (f:=ap_) bR_ h1;have hs:=Nm_ s.orph st1 i;have hli:(pR_ s.orph st1 i).length≤i:=mG_ s.orph st1 i;generalize pR_ s.orph st1 i=acc at *;have hc:kW_ s.orph st1 i acc=if st1<(di_ s.orph i).slot then acc++[di_ s.orph i]else acc:=rfl
  have hr:rows ap_ acc++[ap_ (di_ s.orph i)]=rows ap_ (acc++[di_ s.orph i]):=bP_ ap_ acc (di_ s.orph i);repeat(first|refine aa_ ?_|simp only[go_sem,e1])
  refine ac_ ?_;repeat(first|refine aa_ ?_|simp only[go_sem,hgd])
  by_cases q:st1<(di_ s.orph i).slot
  ·have e2:decide ((di_ s.orph i).slot > st1)=true:=decide_eq_true q;have e3:decide (st1<(di_ s.orph i).slot)=true:=decide_eq_true q;rw[if_pos q]at hc;repeat(first|refine aa_ ?_|simp only[go_sem,e2,e3])
   refine ac_ ?_;repeat(first|refine aa_ ?_|simp only[go_sem,hgd,hr,hw])
   refine⟨i+1,h1,by omega,?_⟩;rw[hs,hc];exact QV_ [] [0,1,2,3,4,5,7]
  ·have e2:decide ((di_ s.orph i).slot > st1)=false:=decide_eq_false q;have e3:decide (st1<(di_ s.orph i).slot)=false:=decide_eq_false q;rw[if_neg q]at hc;repeat(first|refine aa_ ?_|simp only[go_sem,e2,e3])
   refine ab_ ?_;repeat(first|refine aa_ ?_|simp only[go_sem,hw])
   refine⟨i+1,h1,by omega,?_⟩;rw[hs,hc];exact QV_ [] [0,1,2,3,4,5,6]
 ·obtain rfl:i=s.orph.length:=by omega
  have e1:decide (((s.orph.length:Nat):Int)<((s.orph.length:Nat):Int))=false:=decide_eq_false (by omega);generalize pR_ s.orph st1 s.orph.length=acc;have ht:List.take acc.length (rows ap_ acc)=rows ap_ acc:=List.take_of_length_le (by simp);repeat(first|refine aa_ ?_|simp only[go_sem,e1])
  refine ab_ ?_;repeat(first|refine aa_ ?_|simp only[go_sem,ht])
  exact af_
theorem vz_(s:aj_)(j f:Cp)(h:StR s):PC Tryz.prog 45 [.agg (ai_ s.a),.agg (cpC j),.agg (cpC f)] (.agg (ai_ (cp_ s j f).a)):=by
 have tl:=OB_ s j f;refine PC.fact 15 tU_ (by simp) puA puA ?_;have hc:bd_=.seq bd_.hd (.seq (bd_.tl 1).hd (.seq (bd_.tl 2).hd (.seq (bd_.tl 3).hd (.seq (bd_.tl 4).hd (.seq (bd_.tl 5).hd (.seq (bd_.tl 6).hd (.seq (bd_.tl 7).hd (.seq (bd_.tl 8).hd (bd_.tl 9))))))))):=rfl;rw[hc];clear hc;generalize bd_.tl 9=cT at *;unfold bd_;refine bd ?_;simp only[ad_.tl,ad_.hd];have c1:=Hz_ s h j f;obtain⟨U,hU⟩:∃U,U=cp_ s j f:=⟨_,rfl⟩
 rw[←hU];unfold cp_ at hU;generalize cL_ s.j j=a at *;generalize cL_ s.f f=b at *;generalize hm:oC_ s a b=M at *;try refine aa_ ?_
 refine ah_ c1 ?_;cases M with
 | false =>
   rw[if_pos rfl]at hU;subst hU;try refine aa_ ?_
   refine PH_ ?_
   exact af_
 | true =>
   rw[if_neg (by simp)]at hU;obtain⟨m1,m2,m3⟩:=Ac_ hm;have c2:=wm_ s.tabs a.ep h.bt;generalize dx_ s.tabs a.ep=D at *;try refine aa_ ?_
   refine PG_ ?_
   refine Qy_ c2 ?_
   by_cases q:b=s.f
   ·have e1:decide (b=s.f)=true:=decide_eq_true q;rw[if_pos q]at hU;subst hU;repeat(first|refine aa_ ?_|simp only[go_sem,e1])
    refine PH_ ?_
    exact af_
   ·have e1:decide (b=s.f)=false:=decide_eq_false q
    rw[if_neg q]at hU;have hbd:=cq_ s.nodes b.rt;have c3:=bv_ s.nodes b.rt h.bn;have c4:=Fs_ s.nodes h.tree.ok (an_ s.nodes b.rt) h.bn (by simp only[isN,Bool.and_eq_true,decide_eq_true_eq];omega);have hl:=oE_ h.tree (an_ s.nodes b.rt);have hbn:=h.bn;have hbo:=h.bo;generalize an_ s.nodes b.rt=K at *;generalize eb_ s.nodes K=T at *;obtain⟨T1,T2⟩:=T;dsimp only at hU c4 hl;have c5:=bv_ T1 s.boost (by omega);generalize an_ T1 s.boost=B at *;have tl:=fun r=>tl a b T1 r D h.bo
    repeat(first|refine aa_ ?_|simp only[go_sem,e1])
    refine PG_ ?_
    refine au_ (c3) ?_;try refine aa_ ?_
    refine au_ (c4) ?_;try refine aa_ ?_
    refine Qy_ c5 ?_
    by_cases q2:B<0
    ·have e2:decide (B<0)=true:=decide_eq_true q2;rw[if_pos q2]at hU;subst hU;repeat(first|refine aa_ ?_|simp only[go_sem,e2])
     refine PH_ ?_
     refine du_ ?_ (tl rt0);exact QV_ [] [0,1,2,3,4,5]
    ·have e2:decide (B<0)=false:=decide_eq_false q2;rw[if_neg q2]at hU;subst hU;repeat(first|refine aa_ ?_|simp only[go_sem,e2])
     refine PG_ ?_
     refine du_ ?_ (tl s.boost);exact QV_ [] [0,1,2,3,4,5]
theorem DM_(n lo hi:Int):PC Tryz.prog 139 [.int .i64 n,.int .i64 lo,.int .i64 hi] (.bool (wit n lo hi)):=by
 refine PC.fact 7 tW_ (by simp) puA puA ?_;unfold lC_;refine bd ?_;unfold wit;by_cases h0:lo≤n
 ·have e0:decide (n ≥ lo)=true:=decide_eq_true h0;have e1:decide (lo≤n)=true:=decide_eq_true h0;repeat(first|refine aa_ ?_|simp only[go_sem,e0,e1])
  exact af_
 ·have e0:decide (n ≥ lo)=false:=decide_eq_false h0;have e1:decide (lo≤n)=false:=decide_eq_false h0;repeat(first|refine aa_ ?_|simp only[go_sem,e0,e1])
  exact af_
theorem Ef_(s:aj_)(a:aH_)(h:StR s)(N:Int)(R:Bool×Int)
 (hR:R=if an_ s.nodes a.root<0∨an_ s.nodes a.target.rt<0 then (false,10)else if a.slot<(nod s.nodes (an_ s.nodes a.root).toNat).blk.slot then (false,14)
  else if atT s.nodes (an_ s.nodes a.root) (cw_ s a.target.ep).1≠an_ s.nodes a.target.rt then (false,19)else (decide (s.now≤a.slot),0)):
 Tri Tryz.prog 99 0 (aN_.tl 4) (PQ [.tmp 4,.tmp 5] (.tup [.bool R.1,.int .i64 R.2])) ⟨12,[.agg (ai_ s.a),.agg (aY_ a.a),.ptr 0 0,.ptr 1 0,.bool false,.int .i64 0,.int .i64 0,.int .u64 N,.dead,.dead,.dead,.dead],[]⟩ [.var (ai_ s.a),.var (aY_ a.a)]:=by
 unfold aN_;refine bd ?_;simp only[ad_.tl];have c4:=bv_ s.nodes a.root h.bn;have c5:=bv_ s.nodes a.target.rt h.bn;have c6:=gW_ s a.target.ep;have b4:=cq_ s.nodes a.root;have b5:=cq_ s.nodes a.target.rt;generalize an_ s.nodes a.root=I at *;generalize an_ s.nodes a.target.rt=G at *;generalize cw_ s a.target.ep=st at *;obtain⟨st1,st2⟩:=st;dsimp only at c6 hR;have c7:=zd_ s.nodes h.tree.ok h.bn I st1;generalize atT s.nodes I st1=A at *;try refine aa_ ?_
 refine au_ (c4) ?_;try refine aa_ ?_
 refine au_ (c5) ?_;by_cases q1:I<0
 ·have e1:decide (I<0)=true:=decide_eq_true q1;rw[if_pos (.inl q1)]at hR;subst hR;repeat(first|refine aa_ ?_|simp only[go_sem,e1])
  refine PH_ ?_
  exact af_
 have e1:decide (I<0)=false:=decide_eq_false q1;by_cases q2:G<0
 ·have e2:decide (G<0)=true:=decide_eq_true q2;rw[if_pos (.inr q2)]at hR;subst hR;repeat(first|refine aa_ ?_|simp only[go_sem,e1,e2])
  refine PH_ ?_
  exact af_
 have e2:decide (G<0)=false:=decide_eq_false q2;rw[if_neg (fun h=>h.elim q1 q2)]at hR;have hg:=bD_ (t:=s.nodes) (i:=I.toNat) (by omega);repeat(first|refine aa_ ?_|simp only[go_sem,e1,e2])
 refine ab_ ?_;repeat(first|refine aa_ ?_|simp only[go_sem,hg])
 by_cases q3:a.slot<(nod s.nodes I.toNat).blk.slot
 ·have e3:decide ((nod s.nodes I.toNat).blk.slot > a.slot)=true:=decide_eq_true q3;have e4:decide (a.slot<(nod s.nodes I.toNat).blk.slot)=true:=decide_eq_true q3;rw[if_pos q3]at hR;subst hR;repeat(first|refine aa_ ?_|simp only[go_sem,e3,e4])
  refine PH_ ?_
  exact af_
 have e3:decide ((nod s.nodes I.toNat).blk.slot > a.slot)=false:=decide_eq_false q3;have e4:decide (a.slot<(nod s.nodes I.toNat).blk.slot)=false:=decide_eq_false q3;rw[if_neg q3]at hR;repeat(first|refine aa_ ?_|simp only[go_sem,e3,e4])
 refine PG_ ?_
 refine Qy_ c6 ?_
 refine ah_ c7 ?_;by_cases q4:A=G
 case neg=>
  have e5:(A != G)=true:=by simp[q4]
  rw[if_pos q4]at hR;subst hR;repeat(first|refine aa_ ?_|simp only[go_sem,e5])
  refine PH_ ?_
  exact af_
 have e5:(A != G)=false:=by simp[q4]
 rw[if_neg (by simp[q4])]at hR;repeat(first|refine aa_ ?_|simp only[go_sem,e5])
 refine ab_ ?_;by_cases q5:s.now≤a.slot
 ·have e6:decide (a.slot ≥ s.now)=true:=decide_eq_true q5;have e7:decide (s.now≤a.slot)=true:=decide_eq_true q5;rw[e7]at hR;subst hR;repeat(first|refine aa_ ?_|simp only[go_sem,e6,e7])
  exact af_
 ·have e6:decide (a.slot ≥ s.now)=false:=decide_eq_false q5;have e7:decide (s.now≤a.slot)=false:=decide_eq_false q5;rw[e7]at hR;subst hR;repeat(first|refine aa_ ?_|simp only[go_sem,e6,e7])
  exact af_
theorem rv_(s:aj_)(a:aH_)(h:StR s)(ha:a.vals.length≤1000000):PC Tryz.prog 46 [.agg (ai_ s.a),.agg (aY_ a.a)] (.tup [.bool (cd_ s a).1,.int .i64 (cd_ s a).2]):=by
 have tl:=Ef_ s a h;obtain⟨R,hc⟩:∃R,R=cd_ s a:=⟨_,rfl⟩
 rw[←hc];unfold cd_ at hc;have c0:=rh_ s;have c1:=ft_ a.vals false s.cfg.bals.length (by omega);have c2:=dC_ s s.now h.spe;have c3:=dC_ s a.slot h.spe;refine PC.fact 12 jh_ (by simp) puA puA ?_;have hc:aN_=.seq aN_.hd (.seq (aN_.tl 1).hd (.seq (aN_.tl 2).hd (.seq (aN_.tl 3).hd (aN_.tl 4)))):=rfl;rw[hc];clear hc;generalize aN_.tl 4=cT at *;unfold aN_;refine bd ?_;simp only[ad_.tl,ad_.hd]
 generalize hY:(if an_ s.nodes a.root<0∨an_ s.nodes a.target.rt<0 then ((false,10):Bool×Int)else if a.slot<(nod s.nodes (an_ s.nodes a.root).toNat).blk.slot then (false,14)
  else if atT s.nodes (an_ s.nodes a.root) (cw_ s a.target.ep).1≠an_ s.nodes a.target.rt then (false,19)else (decide (s.now≤a.slot),0))=Y at *
 generalize cM_ a.vals s.cfg.bals.length=V at *;generalize bj_ s s.now=N at *;generalize bj_ s a.slot=S at *;try refine aa_ ?_
 refine au_ (c0) ?_;try refine aa_ ?_
 refine au_ (c1) ?_;try refine aa_ ?_
 by_cases q1:V=0
 case neg=>
  have e1:(V != 0)=true:=by simp[q1]
  rw[if_pos q1]at hc;subst hc;repeat(first|refine aa_ ?_|simp only[go_sem,e1])
  refine PH_ ?_
  exact af_
 have e1:(V != 0)=false:=by simp[q1]
 rw[if_neg (by simp[q1])]at hc;repeat(first|refine aa_ ?_|simp only[go_sem,e1])
 refine PG_ ?_
 refine Qy_ c2 ?_
 refine au_ (c3) ?_;subst q1;have fail:(a.target.ep≠S∨(a.target.ep≠N∧(N=0∨a.target.ep≠IntKind.u64.wrap (N-1))))→R=(false,18):=fun hq=>by rw[hc,if_pos hq]
 have pass:¬ (a.target.ep≠S∨(a.target.ep≠N∧(N=0∨a.target.ep≠IntKind.u64.wrap (N-1))))→R=Y:=fun hq=>by rw[hc,if_neg hq]
 clear hc;by_cases q2:a.target.ep=S
 case neg=>
  have e2:(a.target.ep != S)=true:=by simp[q2]
  obtain rfl:=fail (.inl q2);repeat(first|refine aa_ ?_|simp only[go_sem,e2])
  refine PH_ ?_
  exact af_
 have e2:(a.target.ep != S)=false:=by simp[q2]
 by_cases q3:a.target.ep=N
 ·have e3:(a.target.ep != N)=false:=by simp[q3]
  have tl:=tl N R (pass (by rintro (h|h);exact h q2;exact h.1 q3));repeat(first|refine aa_ ?_|simp only[go_sem,e2,e3])
  refine PG_ ?_
  refine du_ ?_ tl;exact QV_ [] [0,1]
 have e3:(a.target.ep != N)=true:=by simp[q3]
 by_cases q4:N=0
 ·have e4:(N==0)=true:=by simp[q4]
  obtain rfl:=fail (.inr ⟨q3,.inl q4⟩);repeat(first|refine aa_ ?_|simp only[go_sem,e2,e3,e4])
  refine PH_ ?_
  exact af_
 have e4:(N==0)=false:=by simp[q4]
 by_cases q5:a.target.ep=IntKind.u64.wrap (N-1)
 ·have e5:(a.target.ep != IntKind.u64.wrap (N-1))=false:=by rw[←q5];simp
  have tl:=tl N R (pass (by rintro (h|h);exact h q2;rcases h.2 with h|h;exact q4 h;exact h q5));repeat(first|refine aa_ ?_|simp only[go_sem,e2,e3,e4,e5])
  refine PG_ ?_
  refine du_ ?_ tl;exact QV_ [] [0,1]
 ·have e5:(a.target.ep != IntKind.u64.wrap (N-1))=true:=by rw[bne_iff_ne];exact q5
  obtain rfl:=fail (.inr ⟨q3,.inr q5⟩);repeat(first|refine aa_ ?_|simp only[go_sem,e2,e3,e4,e5])
  refine PH_ ?_
  exact af_
theorem Bv_(s:aj_)(a:aH_)(h:StR s)(ha:a.vals.length≤1000000)(hj:∀j∈a.vals,0≤j∧j<s.latest.length):PC Tryz.prog 47 [.agg (ai_ s.a),.agg (aY_ a.a)] (.agg (ai_ (castIn s a).a)):=by
 refine PC.fact 5 lX_ (by simp) puA puA ?_;unfold hZ_;refine bd ?_;have c1:=xN_ s.latest a.target.ep a.root a.vals h.bl ha hj;unfold castIn;generalize tv_ s.latest a.target.ep a.root a.vals=C at *;obtain⟨C1,C2⟩:=C;dsimp only at c1 ⊢;try refine aa_ ?_
 refine Qy_ c1 ?_
 exact af_
end Go.Proofs.YtkgimpdgncakjaaGreat
