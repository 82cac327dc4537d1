/- Joined. -/
import Derived.Test.YtmpddimhleianaaGreatV5v
import Derived.Test.YtmpddimhleianaaGreatV3v
import Derived.Test.YtmpddimhleianaaGreatV2v
import Derived.Test.YtmpddimhleianaaGreatW3v
set_option linter.unusedVariables false
set_option linter.unusedSimpArgs false
set_option maxRecDepth 8000
set_option maxHeartbeats 4000000
namespace Go.Proofs.YtmpddimhleianaaGreat
open Go Go.FH Go.RowKit
def d7(s:af)(x:gi):af×Int:=
 if evE x.a x.fst.vals x.snd.vals s.cfg.bals.length≠0 then (kj,evE x.a x.fst.vals x.snd.vals s.cfg.bals.length)
 else if IntKind.i64.wrap ((ym s.eqv (gk x.fst.vals x.snd.vals x.fst.vals.length)).length-s.eqv.length)=0 then (kj,9)else (Za s (ym s.eqv (gk x.fst.vals x.snd.vals x.fst.vals.length)),0)
def cy(s:al)(t:af):al:=⟨t,s.reqs,s.rets,s.tag,s.sent,s.last,s.over,s.halt⟩
def zk(s:al)(l:List Req):al:=⟨s.sto,l,s.rets,s.tag,s.sent,s.last,s.over,s.halt⟩
def fw(s:al)(l:List Req):al:=⟨s.sto,s.reqs,l,s.tag,s.sent,s.last,s.over,s.halt⟩
def aO(l:List Req)(i:Nat):Req:=l.getD i gU
def mu(s:af)(r:Rt):Bool:=decide (0<=ab s.nodes r)&&decide ((nod s.nodes (ab s.nodes r).toNat).status=0)
def jo(s:al)(r:Rt)(tries:Int):al:=⟨s.sto,s.reqs++[⟨s.tag,r,tries,0⟩],s.rets,IntKind.u64.wrap (s.tag+1),s.sent,s.last,s.over,s.halt⟩
def fX(l:List Rt)(i:Nat)(s:al):al:=if mu s.sto (l.getD i rt0)=true then jo s (l.getD i rt0) 0 else s
def jT(s:al)(l:List Rt):al:=aH (fX l) s l.length
def jS(t:List Nod)(l:List Req)(i:Nat)(o:List Req):List Req:=if 0<=ab t (aO l i).block then o++[aO l i]else o
def fZ(t:List Nod)(l:List Req):List Req:=aH (jS t l) [] l.length
def fE(s:al):al:=⟨s.sto,fZ s.sto.nodes s.reqs,fZ s.sto.nodes s.rets,s.tag,s.sent,s.last,s.over,s.halt⟩
def mI(b:Int):Nat->Int->Int
 |0,d=>d
 |f+1,d=>if IntKind.u64.wrap (b-d)<=d then b else mI b f (IntKind.u64.wrap (2*d))
def mJ(tries b:Int):Int:=if b=0 then 0 else mI b (tries-1).toNat 1
def fv(a b:Req):Bool:=decide (a.due<b.due) || (decide (a.due=b.due)&&decide (a.tag<b.tag))
def mA(l:List Req):Nat->List Req
 |0=>l
 |k+1=>if fv (aO l (k+1)) (aO l k)=true then mA ((l.set (k+1) (aO l k)).set k (aO l (k+1))) k else l
def iD(s:al)(r:Req):Req:=⟨r.tag,r.block,IntKind.i64.wrap (r.tries+1),IntKind.u64.wrap (s.sto.now+mJ (IntKind.i64.wrap (r.tries+1)) s.sto.cfg.lim.backoff)⟩
def gZ(s:al)(r:Req):al:=
 if mu s.sto r.block=false then s else if s.sto.cfg.lim.retry<=s.rets.length then ⟨s.sto,s.reqs,s.rets,s.tag,s.sent,s.last,true,s.halt⟩
 else fw s (mA (s.rets++[iD s r]) s.rets.length)
def oD(l:List Req)(i:Nat)(s:al):al:=if s.sto.now<(aO l i).due then fw s (s.rets++[aO l i])else if mu s.sto (aO l i).block=true then jo s (aO l i).block (aO l i).tries else s
def tK(s:al):al:=aH (oD s.rets) (fw s []) s.rets.length
def xl(s:af):Rt:=if 0<=ab s.nodes s.j.rt/\(nod s.nodes (ab s.nodes s.j.rt).toNat).status=1 then s.j.rt else rt0
def ro(s:af):Cmd:=⟨(nod s.nodes (gC s).toNat).blk.root,xl s,s.f.rt⟩
def dC(s:al):al×List Cmd:=if s.sent=true/\s.last=ro s.sto then (s,[])else (⟨s.sto,s.reqs,s.rets,s.tag,true,ro s.sto,s.over,s.halt⟩,[ro s.sto])
def xz:al:=⟨kj,[],[],0,false,jB,false,false⟩
def eh(c:cI):al×List Cmd×Int:=if gF c=0 then ((dC ⟨eG c,[],[],1,false,jB,false,false⟩).1,(dC ⟨eG c,[],[],1,false,jB,false,false⟩).2,0)else (xz,[],gF c)
def mC(l:List Req)(i:Nat):List Req:=l.take i++l.drop (i+1)
def aL(s:al)(v:Vdt):Req×al×Int:=match cm (fun i=>decide ((aO s.reqs i).tag=v.tag)) s.reqs.length with
 |some i=>(aO s.reqs i,zk s (mC s.reqs i),0)
 |none=>(gU,xz,23)
def boostV(s:af):af:=if 0<=ab s.nodes s.boost/\(nod s.nodes (ab s.nodes s.boost).toNat).status=2 then withB s rt0 else s
def judgeV(s:af)(r:Rt)(v:Vdt):List Nod×Int:=dR s.nodes (ab s.nodes r) v [ab s.nodes s.j.rt,ab s.nodes s.f.rt]
def eg(s:al)(v:Vdt):al×Int:=
 if (aL s v).2.2≠0 then (s,(aL s v).2.2)else if v.kind=3\/v.kind=4 then (gZ (aL s v).2.1 (aL s v).1,0)
 else if (judgeV (aL s v).2.1.sto (aL s v).1.block v).2≠0 then (⟨s.sto,s.reqs,s.rets,s.tag,s.sent,s.last,s.over,true⟩,21)
 else (cy (aL s v).2.1 (boostV (bQ (aL s v).2.1.sto (judgeV (aL s v).2.1.sto (aL s v).1.block v).1)),0)
def de(s:al)(x:VOp):al×Int:=
 if x.kind=1 then (if (dF s.sto).2=0 then (tK (fE (cy s (dF s.sto).1)),0)else (cy s (dF s.sto).1,(dF s.sto).2))
 else if x.kind=2 then (if (bR s.sto x.blk).2.2=0 then (jT (fE (cy s (bR s.sto x.blk).1)) (bR s.sto x.blk).2.1,0)else (cy s (bR s.sto x.blk).1,(bR s.sto x.blk).2.2))
 else if x.kind=3 then (cy s (kH s.sto x.att).1,(kH s.sto x.att).2)else if x.kind=4 then (cy s (d7 s.sto x.slg).1,(d7 s.sto x.slg).2)
 else if x.kind=5 then (cy s (iL s.sto x.tab).1,(iL s.sto x.tab).2)else if x.kind=6 then eg s x.vdt else (s,2)
def toV(x:VOp):OpV:=⟨x.kind,x.blk,(x.att.slot,x.att.root,x.att.target,x.att.vals),((x.slg.fst.src,x.slg.fst.tgt,x.slg.fst.root,x.slg.fst.vals),(x.slg.snd.src,x.slg.snd.tgt,x.slg.snd.root,x.slg.snd.vals)),(x.tab.cp,x.tab.bals),x.vdt,x.write,x.keep⟩
theorem XF(x:VOp):opL (toV x)=x.a:=rfl
def bV(s:al)(x:VOp):al×List Cmd×Int:=
 if s.halt=true then (s,[],22)else if vOp (toV x)≠0 then (s,[],vOp (toV x))
 else if (de s x).2=21 then ((de s x).1,[],21)else if (de s x).2≠0 then (s,[],(de s x).2)
 else ((dC (de s x).1).1,(dC (de s x).1).2,0)
theorem acl(s:af)(h:StR s)(a b j0 f0:Cp)(R:Bool)(hR:R=zG s a b):Tri Tryz.prog 118 0 (zu.tl 4) (PQ [.cell 6 true 33,.cell 7 true 33,.tmp 8] (.tup [.agg (cpC (bif R then a else cp0)),.agg (cpC (bif R then b else cp0)),.bool R])) ⟨13,[.agg (ak s.a),.agg (cpC j0),.agg (cpC f0),.ptr 0 0,.ptr 1 0,.ptr 2 0,.ptr 3 0,.ptr 4 0,.bool false,.ptr 5 0,.ptr 6 0,.dead,.dead],[]⟩ [.var (ak s.a),.var (cpC j0),.var (cpC f0),.var (cpC cp0),.var (cpC cp0),.var (cpC a),.var (cpC b)]:=by
 unfold zu;refine bd ?_;simp only[am.tl];have c1:=cj s.nodes a.rt h.bn;have c2:=cj s.nodes b.rt h.bn;have b1:=dl s.nodes a.rt;have b2:=dl s.nodes b.rt;unfold zG at hR;generalize ab s.nodes a.rt=I at *;generalize ab s.nodes b.rt=K at *;refine gon ?_;refine aP (c1) ?_;refine gon ?_;refine aP (c2) ?_;by_cases q1:I<0
 ·have e1:=ax q1;rw[aD (show ¬0<=I by omega)]at hR;obtain rfl:R=false:=hR;refine aW e1 ?_;exact aj
 have e1:=aD q1;rw[ax (show 0<=I by omega)]at hR;by_cases q2:K<0
 ·have e2:=ax q2;rw[aD (show ¬0<=K by omega)]at hR;obtain rfl:R=false:=hR;refine dV e1 e2 ?_;exact aj
 have e2:=aD q2;rw[ax (show 0<=K by omega)]at hR;have hg1:=dv (t:=s.nodes) (i:=I.toNat) af0;have hg2:=dv (t:=s.nodes) (i:=K.toNat) af0;by_cases q3:(nod s.nodes I.toNat).status=2
 ·have e3:((nod s.nodes I.toNat).status==2)=true:=by simp[q3]
  rw[aD (show ¬ (nod s.nodes I.toNat).status≠2 by simp[q3])]at hR;obtain rfl:R=false:=hR;refine ec e1 e2 hg1 hg2 e3 ?_;refine aac ?_;exact aj
 have e3:((nod s.nodes I.toNat).status==2)=false:=by simp[q3]
 rw[ax (show (nod s.nodes I.toNat).status≠2 from q3)]at hR;by_cases q4:(nod s.nodes K.toNat).status=2
 ·have e4:((nod s.nodes K.toNat).status==2)=true:=by simp[q4]
  rw[aD (show ¬ (nod s.nodes K.toNat).status≠2 by simp[q4])]at hR;obtain rfl:R=false:=hR;repeat(first|refine aM ?_|simp only[go_sem,e1,e2,e3,hg1,hg2,e4])
  refine aac ?_;exact aj
 have e4:((nod s.nodes K.toNat).status==2)=false:=by simp[q4]
 rw[ax (show (nod s.nodes K.toNat).status≠2 from q4)]at hR;repeat(first|refine aM ?_|simp only[go_sem,e1,e2,e3,e4,hg1,hg2])
 have k4:=Mc s I a.ep af0 af0;generalize lI s I a.ep=V4 at *;refine aP (k4) ?_;cases V4 with
 | false =>
   obtain rfl:R=false:=hR;refine bD ?_;exact aj
 | true =>
   repeat(first|refine aM ?_|simp only[go_sem,e1,e2,e3,e4,hg1,hg2])
   have k5:=Mc s K b.ep af0 af0;generalize lI s K b.ep=V5 at *;refine aP (k5) ?_;cases V5 with
   | false =>
     obtain rfl:R=false:=hR;refine bD ?_;exact aj
   | true =>
     repeat(first|refine aM ?_|simp only[go_sem,e1,e2,e3,e4,hg1,hg2])
     have k6:=vx s.nodes h.tree.ok h.bn K I;generalize bw s.nodes K I=V6 at *;refine aP (k6) ?_;cases V6 with
     | false =>
       obtain rfl:R=false:=hR;refine bD ?_;exact aj
     | true =>
       by_cases q8:a.ep<b.ep
       ·have e8:=ax q8;rw[aD (show ¬b.ep<=a.ep by omega)]at hR;obtain rfl:R=false:=hR;repeat(first|refine aM ?_|simp only[go_sem,e1,e2,e3,e4,hg1,hg2,e8])
        refine aac ?_;exact aj
       have e8:=aD q8;rw[ax (show b.ep<=a.ep by omega)]at hR;repeat(first|refine aM ?_|simp only[go_sem,e1,e2,e3,e4,e8,hg1,hg2])
       have k8:=gY s s.now h.spe;generalize dg s s.now=E at *;refine aP (k8) ?_;by_cases q9:E<a.ep
       ·have e9:=ax q9;rw[aD (show ¬a.ep<=E by omega)]at hR;obtain rfl:R=false:=hR;repeat(first|refine aM ?_|simp only[go_sem,e1,e2,e3,e4,e8,hg1,hg2,e9])
        refine aac ?_;exact aj
       have e9:=aD q9;rw[ax (show a.ep<=E by omega)]at hR;repeat(first|refine aM ?_|simp only[go_sem,e1,e2,e3,e4,e8,e9,hg1,hg2])
       have k9:=qy s.tabs a h.bt;generalize dr s.tabs a=F at *;refine aP (k9) ?_;by_cases q10:F<0
       ·have e10:=ax q10;rw[aD (show ¬0<=F by omega)]at hR;obtain rfl:R=false:=hR;repeat(first|refine aM ?_|simp only[go_sem,e1,e2,e3,e4,e8,e9,hg1,hg2,e10])
        refine aac ?_;exact aj
       have e10:=aD q10;rw[ax (show 0<=F by omega)]at hR;obtain rfl:R=true:=hR;repeat(first|refine aM ?_|simp only[go_sem,e1,e2,e3,e4,e8,e9,e10,hg1,hg2])
       refine aab ?_;exact aj
theorem ach(s:af)(h:StR s)(j f:Cp):PC Tryz.prog 286 [.agg (ak s.a),.agg (cpC j),.agg (cpC f)] (.tup [.agg (cpC (bif zG s (eU s.j j) (eU s.f f)then eU s.j j else cp0)),.agg (cpC (bif zG s (eU s.j j) (eU s.f f)then eU s.f f else cp0)),.bool (zG s (eU s.j j) (eU s.f f))]):=by
 have tl:=acl s h (eU s.j j) (eU s.f f) j f _ rfl;refine pfn 13 ab2 ?_;have hc:zu=.seq zu.hd (.seq (zu.tl 1).hd (.seq (zu.tl 2).hd (.seq (zu.tl 3).hd (zu.tl 4)))):=rfl;rw[hc];clear hc;generalize zu.tl 4=cT at *;unfold zu;refine bd ?_;simp only[am.tl,am.hd];have m1:eU s.j j=if s.j.ep<j.ep then j else s.j:=rfl
 have m2:eU s.f f=if s.f.ep<f.ep then f else s.f:=rfl
 by_cases q1:s.j.ep<j.ep
 ·have e1:=ax q1
  rw[afA q1]at m1;by_cases q2:s.f.ep<f.ep
  ·have e2:=ax q2;rw[afA q2]at m2;rw[m1,m2]at tl ⊢;refine bO e1 ?_;refine aW e2 ?_;refine fN ?_ tl;exact abS [] [0,1,2,3,4,5,6]
  ·have e2:=aD q2;rw[afx q2]at m2;rw[m1,m2]at tl ⊢;refine bO e1 ?_;refine aS e2 ?_;refine fN ?_ tl;exact abS [] [0,1,2,3,4,5,6]
 ·have e1:=aD q1
  rw[afx q1]at m1;by_cases q2:s.f.ep<f.ep
  ·have e2:=ax q2;rw[afA q2]at m2;rw[m1,m2]at tl ⊢;refine da e1 ?_;refine aW e2 ?_;refine fN ?_ tl;exact abS [] [0,1,2,3,4,5,6]
  ·have e2:=aD q2;rw[afx q2]at m2;rw[m1,m2]at tl ⊢;refine da e1 ?_;refine aS e2 ?_;refine fN ?_ tl;exact abS [] [0,1,2,3,4,5,6]
theorem TF(σ:St)(zs:List Nat)(l:List Cp):gm σ zs (rows cpC l)=rows cpC l:=fU.fz σ zs (cY fun x _=>gG x)
theorem Rm(ρ:Nat->Nat)(l:List Cp):dm ρ (rows cpC l)=rows cpC l:=fU.ren ρ (cY fun x _=>gG x)
attribute [local go_sem] TF Rm
theorem Ql(s:af)(b:Blk)(h:StR s):PC Tryz.prog 291 [.agg (ak s.a),.agg (au b)] (.bool (rc s b)):=by
 refine aQ 12 ?_;have c1:=cj s.nodes b.parent h.bn;have c2:=ww s b h.spe;unfold rc;generalize ab s.nodes b.parent=P at *;generalize mw s b=O at *;obtain⟨R,hR2⟩:∃R,R=(cm (fun k=>!nV s b P ((cps b).getD k cp0)) 4).isNone:=⟨_,rfl⟩
 rw[<-hR2];refine gon ?_;refine abl c1 ?_;by_cases q1:P<0
 ·have e1:=ax q1;rw[aD (show ¬0<=P by omega)];refine aW e1 ?_;exact aj
 have e1:=aD q1;rw[ax (show 0<=P by omega)];refine aS e1 ?_;refine ap c2 ?_;cases O with
 | false =>
   refine bD ?_;exact aj
 | true =>
   refine gon ?_;have hrc:[cpC b.just,cpC b.fin,cpC b.pul.j,cpC b.pul.f]=rows cpC (cps b):=rfl;refine aI ?_;refine aA hrc ?_;refine aE (fun i:Nat=>[(7,.int .i64 i)]) (fun _=>[.var (ak s.a),.var (au b)]) (fun i=>4-i) (fun i=>i<=4/\R=(gl (fun k=>!nV s b P ((cps b).getD k cp0)) (4-i) i).isNone) 0 ⟨afK _,hR2⟩ ?_ ?_
   ·exact abS [] [0,1]
   clear hR2;rintro i ⟨hi,hn⟩;rw[hn];refine fM ?_;by_cases h1:i<4
   ·have e1:=inT h1
    have hw:=ae h1 af0;have hgd:(rows cpC (cps b)).getD i []=cpC ((cps b).getD i cp0):=aK (f:=cpC) cp0 (by exact h1);have hlen:(cps b).length=4:=rfl;have e1':decide ((i:Int)<4)=true:=ax af0;have hfit:nV s b P ((cps b).getD i cp0)=(decide (((cps b).getD i cp0).ep<=s.f.ep) || (if (di s ((cps b).getD i cp0).ep).1<b.slot then decide (0<=atT s.nodes P (di s ((cps b).getD i cp0).ep).1)&&decide ((nod s.nodes (atT s.nodes P (di s ((cps b).getD i cp0).ep).1).toNat).blk.root=((cps b).getD i cp0).rt)else decide (b.root=((cps b).getD i cp0).rt))):=rfl;have hT:nV s b P ((cps b).getD i cp0)=true->(gl (fun k=>!nV s b P ((cps b).getD k cp0)) (4-i) i)=gl (fun k=>!nV s b P ((cps b).getD k cp0)) (4-(i+1)) (i+1):=fun hv=>jt h1 (by show (!nV s b P ((cps b).getD i cp0))=false;rw[hv];rfl)
    have hF:nV s b P ((cps b).getD i cp0)=false->(gl (fun k=>!nV s b P ((cps b).getD k cp0)) (4-i) i).isNone=false:=fun hv=>by rw[jP h1 (by show (!nV s b P ((cps b).getD i cp0))=true;rw[hv];rfl)];rfl
    have c3:=kg s ((cps b).getD i cp0).ep;generalize gl (fun k=>!nV s b P ((cps b).getD k cp0)) (4-i) i=X at *;generalize hX2:gl (fun k=>!nV s b P ((cps b).getD k cp0)) (4-(i+1)) (i+1)=X2 at *;generalize (cps b).getD i cp0=c at *;generalize nV s b P c=V at *;generalize di s c.ep=st at *;obtain⟨st1,st2⟩:=st;dsimp only at c3 hfit;have c4:=G7 s.nodes h.tree.ok h.bn P st1;have b4:=SW h.tree.ok P st1;generalize atT s.nodes P st1=A at *;refine BP e1 e1' hlen ?_;refine bm hgd hlen ?_;by_cases q2:c.ep<=s.f.ep
    ·have e2:=ax q2;rw[e2]at hfit;rw[hT hfit];refine bO e2 ?_;refine aA hw ?_;refine⟨i+1,⟨h1,by rw[<-hX2];rfl⟩,af0,?_⟩;exact abS [] [0,1]
    have e2:=aD q2;rw[e2,ac9]at hfit;refine da e2 ?_;refine bm hgd hlen ?_;refine aP (c3) ?_;refine gon ?_;by_cases q3:st1<b.slot
    ·have e3:=ax q3
     rw[afA q3]at hfit;refine aW e3 ?_;refine abl c4 ?_;by_cases q4:A<0
     ·have e4:=ax q4;rw[aD (show ¬0<=A by omega)]at hfit;rw[hF hfit];repeat(first|refine aM ?_|simp only[go_sem,e4])
      refine aac ?_;exact aj
     have e4:=aD q4;rw[ax (show 0<=A by omega),acD]at hfit;have hgn:=dv (t:=s.nodes) (i:=A.toNat) af0;repeat(first|refine aM ?_|simp only[go_sem,e4])
     refine aI ?_;refine eS hgn hgd hlen ?_;by_cases q5:(nod s.nodes A.toNat).blk.root=c.rt
     ·have e5:=ax q5;rw[e5]at hfit;rw[hT hfit];repeat(first|refine aM ?_|simp only[go_sem,e5])
      refine aI ?_;refine aA hw ?_;refine⟨i+1,⟨h1,by rw[<-hX2];rfl⟩,af0,?_⟩;exact abS [] [0,1]
     ·have e5:=aD q5;rw[e5]at hfit;rw[hF hfit];repeat(first|refine aM ?_|simp only[go_sem,e5])
      refine aac ?_;exact aj
    ·have e3:=aD q3
     rw[afx q3]at hfit;refine da e3 ?_;refine bm hgd hlen ?_;by_cases q5:b.root=c.rt
     ·have e5:=ax q5;rw[e5]at hfit;rw[hT hfit];repeat(first|refine aM ?_|simp only[go_sem,e5])
      refine aI ?_;refine aA hw ?_;refine⟨i+1,⟨h1,by rw[<-hX2];rfl⟩,af0,?_⟩;exact abS [] [0,1]
     ·have e5:=aD q5;rw[e5]at hfit;rw[hF hfit];repeat(first|refine aM ?_|simp only[go_sem,e5])
      refine aac ?_;exact aj
   ·obtain rfl:i=4:=af0
    have e1:=inF (4);have hz:gl (fun k=>!nV s b P ((cps b).getD k cp0)) (4-4) 4=none:=lK _ 4;rw[hz];have hlen:(cps b).length=4:=rfl;refine pi e1 hlen ?_;exact aj
theorem yQ(s:af)(b:Blk)(h:StR s):PC Tryz.prog 208 [.agg (ak s.a),.agg (au b)] (.int .i64 (bG s b)):=by
 refine aQ 87 ?_;have c1:=kg s s.f.ep;have c2:=Mx s b.root h;have c3:=cj s.nodes b.parent h.bn;have c4:=Ql s b h;have b3:=dl s.nodes b.parent;unfold bG;generalize di s s.f.ep=st at *;obtain⟨st1,st2⟩:=st;dsimp only at *;generalize ju s b.root=N at *;generalize ab s.nodes b.parent=P at *;generalize rc s b=T at *;cases N with
 |true=>by_cases q1:b.root=rt0<;>exact aw
 |false=>
 by_cases q3:P<0
 ·exact aw
 obtain⟨k,rfl⟩:=afF (ac8.1 q3);have hgp:=dv (t:=s.nodes) (i:=k) af0;have hpk:k<s.nodes.length:=af0
 rw[afH];have c5:=Mj s.cfg.ttd (nod s.nodes k).blk b;generalize uw s.cfg.ttd (nod s.nodes k).blk b=M at *;generalize nod s.nodes k=D at *;clear b3 q3;cases T<;>cases M<;>exact aw
theorem te(l:List Blk)(a:Int):∀k,(aH (pO l a) [] k).length<=k
 |0=>afE _
 | k + 1 => by
   rw[bg];have h1:=te l a k;unfold pO at *;split
   ·simp only[afB,afG,afM];omega
   ·omega
theorem nc(l:List aB)(e:Int):∀t∈eJ l e,t∈l:=by
 unfold eJ;refine dp (f:=fun i o=>if e<=(tab l i).cp.ep then o++[tab l i]else o) (a:=[]) (fun _ o=>∀t∈o,t∈l) af1 l.length (fun i o hi ho=>?_) _ (afE _);split
 ·intro t ht;rw[afR,afN]at ht;rcases ht with ht|rfl
  ·exact ho t ht
  ·unfold tab;rw[afy,afz hi];exact afY hi
 ·exact ho
theorem na(l:List aB)(e:Int):(eJ l e).length<=l.length:=by
 have:=jI (f:=fun i o=>if e<=(tab l i).cp.ep then o++[tab l i]else o) (a:=([]:List aB)) (fun i o=>by split<;>simp) l.length;unfold eJ;simpa using this
theorem OB{s:af}{a b:Cp}(h:zG s a b=true):0<=ab s.nodes a.rt/\0<=ab s.nodes b.rt/\bw s.nodes (ab s.nodes b.rt) (ab s.nodes a.rt)=true:=by
 unfold zG at h;simp only[afL,afJ]at h;exact⟨h.1.1.1.1.1.1.1.1.1,h.1.1.1.1.1.1.1.1.2,h.1.1.1.2⟩
theorem StR.upd{s:af}(h:StR s)(j f:Cp):StR (dw s j f):=by
 unfold dw;split
 ·exact h
 ·rename_i hm
  have hm:zG s (eU s.j j) (eU s.f f)=true:=by simpa using hm
  obtain⟨h1,h2,h3⟩:=OB hm;have hd:=na s.tabs (eU s.j j).ep;have hb:∀t∈eJ s.tabs (eU s.j j).ep,t.bals.length<=2097152:=fun t ht=>h.bb t (nc _ _ t ht)
  split
  ·exact⟨h.tree,h.spe,h.bn,h.bl,h.be,acn hd h.bt,hb,h.bo,h.ba,h.nl,h.ll,h1⟩
  ·have hf:=dD h2;have hl:=qI h.tree (ab s.nodes (eU s.f f).rt);refine⟨h.tree.prune h2 af0,h.spe,acn hl h.bn,h.bl,h.be,acn hd h.bt,hb,acn (te _ _ _) h.bo,h.ba,h.nl,h.ll,?_⟩;exact sD h.tree h1 h3
def we(l:List Blk)(a:Int)(k:Nat):List Blk:=aH (pO l a) [] k
theorem Xj(l:List Blk)(a:Int)(k:Nat):we l a (k+1)=pO l a k (we l a k):=rfl
theorem YL(s:af)(j f a b:Cp)(T1:List Nod)(r:Rt)(D:List aB)(hbo:s.orph.length<=2097152):
 Tri Tryz.prog 104 0 (cw.tl 9) (PQ [.cell 6 true 150] (.agg (ak (⟨s.cfg,s.latest,s.eqv,a,b,s.early,we s.orph (di s b.ep).1 s.orph.length,T1,s.now,r,D⟩:af).a)))
  ⟨15,[.agg (ak s.a),.agg (cpC j),.agg (cpC f),.ptr 0 0,.ptr 1 0,.ptr 2 0,.ptr 3 0,.ptr 4 0,.ptr 5 0,.bool true,.bool true,.dead,.dead,.dead,.dead],[]⟩
  [.var (ak (⟨s.cfg,s.latest,s.eqv,a,b,s.early,s.orph,T1,s.now,r,D⟩:af).a),.var (cpC j),.var (cpC f),.var (ak i6),.var (cpC a),.var (cpC b)]:=by
 unfold cw;refine bd ?_;simp only[am.tl];have c6:PC Tryz.prog 133 [.agg (ak (⟨s.cfg,s.latest,s.eqv,a,b,s.early,s.orph,T1,s.now,r,D⟩:af).a),.int .u64 b.ep] (.tup [.int .u64 (di s b.ep).1,.bool (di s b.ep).2]):=kg ⟨s.cfg,s.latest,s.eqv,a,b,s.early,s.orph,T1,s.now,r,D⟩ b.ep;generalize di s b.ep=st at *;obtain⟨st1,st2⟩:=st;dsimp only at c6 ⊢;have hz:we s.orph st1 0=[]:=rfl;refine nx fun _=>?_
 refine dT 13 238 ?_;simp only[go_sem];refine dI s.orph.length (fun i=>[(14,.int .i64 i),(13,.hs 238 6 0 (we s.orph st1 i).length)]) (fun i=>[.var (ak (⟨s.cfg,s.latest,s.eqv,a,b,s.early,s.orph,T1,s.now,r,D⟩:af).a),.var (cpC j),.var (cpC f),.var (ak i6),.var (cpC a),.var (cpC b),.vec 238 (rows au (we s.orph st1 i))]) (fun i h1 hw h2=>?_) (fun _=>?_)
 ·have hgd:(rows au s.orph).getD i []=au (cU s.orph i):=aK (f:=au) dx h1;have hs:=Xj s.orph st1 i;have hli:(we s.orph st1 i).length<=i:=te s.orph st1 i;change _=ite (st1<(cU s.orph i).slot) (_++[cU s.orph i]) _ at hs
  clear hz;generalize we s.orph st1 i=acc at *;have hr:rows au acc++[au (cU s.orph i)]=rows au (acc++[cU s.orph i]):=dn au acc (cU s.orph i);exact aw
 ·clear hz;generalize we s.orph st1 s.orph.length=acc;have ht:List.take acc.length (rows au acc)=rows au acc:=afD af1;exact aw
theorem Dw(s:af)(j f:Cp)(h:StR s):PC Tryz.prog 202 [.agg (ak s.a),.agg (cpC j),.agg (cpC f)] (.agg (ak (dw s j f).a)):=by
 have tl:=YL s j f;refine pfn 15 BB ?_;have hc:cw=.seq cw.hd (.seq (cw.tl 1).hd (.seq (cw.tl 2).hd (.seq (cw.tl 3).hd (.seq (cw.tl 4).hd (.seq (cw.tl 5).hd (.seq (cw.tl 6).hd (.seq (cw.tl 7).hd (.seq (cw.tl 8).hd (cw.tl 9))))))))):=rfl;rw[hc];clear hc;generalize cw.tl 9=cT at *;unfold cw;refine bd ?_;simp only[am.tl,am.hd];have c1:=ach s h j f;have c2:=Ed s.tabs (eU s.j j).ep h.bt;unfold dw;generalize eU s.j j=a at *;generalize eU s.f f=b at *;generalize hm:zG s a b=M at *;generalize eJ s.tabs a.ep=D at *;cases M with
 |false=>exact aw
 | true =>
   obtain⟨m1,m2,m3⟩:=OB hm;rw[afx af1];by_cases q:b=s.f
   ·rw[afA q];clear tl hm;exact aw
   ·rw[afx q]
    have hbd:=dl s.nodes b.rt;have c3:=cj s.nodes b.rt h.bn;have c4:=Nd s.nodes h.tree.ok (ab s.nodes b.rt) h.bn (by simp only[isN,afL,afJ];omega);have hl:=qI h.tree (ab s.nodes b.rt);have hbn:=h.bn;have hbo:=h.bo;generalize ab s.nodes b.rt=K at *;generalize fo s.nodes K=T at *;obtain⟨T1,T2⟩:=T;dsimp only at c4 hl;have c5:=cj T1 s.boost af0;generalize ab T1 s.boost=B at *;have tl:=fun r=>tl a b T1 r D h.bo
    by_cases q2:B<0
    ·have tl:=tl rt0;rw[afA q2];refine nx fun _=>?_
     refine fN ?_ tl;exact abS [] [0,1,2,3,4,5]
    ·have tl:=tl s.boost;rw[afx q2];refine nx fun _=>?_
     refine fN ?_ tl;exact abS [] [0,1,2,3,4,5]
theorem Lv(n lo hi:Int):PC Tryz.prog 88 [.int .i64 n,.int .i64 lo,.int .i64 hi] (.bool (wit n lo hi)):=by
 refine aQ 7 ?_;unfold wit;exact aw
theorem LR(s:af)(a:aX)(h:StR s)(N:Int)(R:Bool×Int)
 (hR:R=if ab s.nodes a.root<0\/ab s.nodes a.target.rt<0 then (false,10)else if a.slot<(nod s.nodes (ab s.nodes a.root).toNat).blk.slot then (false,14)
  else if atT s.nodes (ab s.nodes a.root) (di s a.target.ep).1≠ab s.nodes a.target.rt then (false,19)else (decide (s.now<=a.slot),0)):
 Tri Tryz.prog 99 0 (bq.tl 4) (PQ [.tmp 4,.tmp 5] (.tup [.bool R.1,.int .i64 R.2])) ⟨12,[.agg (ak s.a),.agg (cK a.a),.ptr 0 0,.ptr 1 0,.bool false,.int .i64 0,.int .i64 0,.int .u64 N,.dead,.dead,.dead,.dead],[]⟩ [.var (ak s.a),.var (cK a.a)]:=by
 unfold bq;refine bd ?_;simp only[am.tl];have c4:=cj s.nodes a.root h.bn;have c5:=cj s.nodes a.target.rt h.bn;have c6:=kg s a.target.ep;have b4:=dl s.nodes a.root;generalize ab s.nodes a.root=I at *;generalize ab s.nodes a.target.rt=G at *;generalize di s a.target.ep=st at *;obtain⟨st1,st2⟩:=st;dsimp only at c6 hR;have c7:=G7 s.nodes h.tree.ok h.bn I st1;generalize atT s.nodes I st1=A at *;by_cases q1:I<0
 ·rw[afA (.inl q1)]at hR;subst hR;exact aw
 by_cases q2:G<0
 ·rw[afA (.inr q2)]at hR;subst hR;exact aw
 rw[afx (fun h=>h.elim q1 q2)]at hR;obtain⟨k,rfl⟩:=afF (ac8.1 q1);have hg:=dv (t:=s.nodes) (i:=k) af0;have hk:k<s.nodes.length:=af0
 rw[afH]at hR;subst hR;clear b4;by_cases q4:A=G
 ·rw[afx (show ¬A≠G from fun h=>h q4)];exact aw
 ·rw[afA (show A≠G from q4)];exact aw
theorem yP(s:af)(a:aX)(h:StR s)(ha:a.vals.length<=2097152):PC Tryz.prog 203 [.agg (ak s.a),.agg (cK a.a)] (.tup [.bool (ei s a).1,.int .i64 (ei s a).2]):=by
 have tl:=LR s a h;obtain⟨R,hc⟩:∃R,R=ei s a:=⟨_,rfl⟩
 rw[<-hc];unfold ei at hc;have c0:=qc s;have c1:=gV a.vals false s.cfg.bals.length af0;have c2:=gY s s.now h.spe;have c3:=gY s a.slot h.spe;refine pfn 12 pe ?_;have hc:bq=.seq bq.hd (.seq (bq.tl 1).hd (.seq (bq.tl 2).hd (.seq (bq.tl 3).hd (bq.tl 4)))):=rfl;rw[hc];clear hc;generalize bq.tl 4=cT at *;unfold bq;refine bd ?_;simp only[am.tl,am.hd]
 generalize hY:(if ab s.nodes a.root<0\/ab s.nodes a.target.rt<0 then ((false,10):Bool×Int)else if a.slot<(nod s.nodes (ab s.nodes a.root).toNat).blk.slot then (false,14)
  else if atT s.nodes (ab s.nodes a.root) (di s a.target.ep).1≠ab s.nodes a.target.rt then (false,19)else (decide (s.now<=a.slot),0))=Y at *
 generalize cM a.vals s.cfg.bals.length=V at *;generalize dg s s.now=N at *;generalize dg s a.slot=S at *;clear hY;by_cases q1:V=0
 case neg=>
  rw[afA q1]at hc;subst hc;clear tl;exact aw
 rw[afx (by simp[q1])]at hc;subst q1;have tl:=tl N R;by_cases q:a.target.ep≠S\/(a.target.ep≠N/\(N=0\/a.target.ep≠IntKind.u64.wrap (N-1)))
 ·rw [afA q] at hc
  subst hc;clear tl;rcases q with q|⟨q,q3⟩
  ·have q:¬a.target.ep=S:=q;exact aw
  ·have q:¬a.target.ep=N:=q
   by_cases q4:N=0
   ·exact aw
   ·have q3:¬a.target.ep=IntKind.u64.wrap (N-1):=q3.resolve_left q4;exact aw
 ·rw[afx q]at hc
  have tl:=tl hc;have q2:S=a.target.ep:=(Decidable.not_not.1 fun h=>q (.inl h)).symm;by_cases q3:a.target.ep=N
  ·replace q3:=eq_true q3
   clear hc q;refine nx fun _=>?_
   refine fN ?_ tl;exact abS [] [0,1]
  ·have q4:¬N=0:=fun h=>q (.inr ⟨q3,.inl h⟩)
   have q5:IntKind.u64.wrap (N-1)=a.target.ep:=(Decidable.not_not.1 fun h=>q (.inr ⟨q3,.inr h⟩)).symm;clear hc q;refine nx fun _=>?_
   refine fN ?_ tl;exact abS [] [0,1]
theorem Jk(s:af)(a:aX)(h:StR s)(ha:a.vals.length<=2097152)(hj:∀j∈a.vals,0<=j/\j<s.latest.length):PC Tryz.prog 204 [.agg (ak s.a),.agg (cK a.a)] (.agg (ak (castIn s a).a)):=by
 refine aQ 5 ?_;have c1:=Fm s.latest a.target.ep a.root a.vals h.bl ha hj;unfold castIn;generalize vJ s.latest a.target.ep a.root a.vals=C at *;exact aw
end Go.Proofs.YtmpddimhleianaaGreat
