/-
 My texts Lu, Lq, Lr, Ls, Lt, joined.
-/
import Derived.Test.YtnjdpnfglgcjcaaGreatV5
import Derived.Test.YtnjdpnfglgcjcaaGreatV3
import Derived.Test.YtnjdpnfglgcjcaaGreatV2
set_option linter.unusedVariables false
set_option linter.unusedSimpArgs false
set_option maxRecDepth 8000
set_option maxHeartbeats 4000000
namespace Go.Proofs.YtnjdpnfglgcjcaaGreat
open Go Go.FH Go.RowKit
def di(s:am)(x:eR):am×Int:=
 if evE x.a x.fst.vals x.snd.vals s.cfg.bals.length≠0 then (d9,evE x.a x.fst.vals x.snd.vals s.cfg.bals.length)
 else if IntKind.i64.wrap ((mV s.eqv (ee x.fst.vals x.snd.vals x.fst.vals.length)).length-s.eqv.length)=0 then (d9,9)else (PT s (mV s.eqv (ee x.fst.vals x.snd.vals x.fst.vals.length)),0)
def fU(s:aX)(t:am):aX:=⟨t,s.reqs,s.rets,s.tag,s.sent,s.last,s.over,s.halt⟩
def abc(s:aX)(l:List Req):aX:=⟨s.sto,l,s.rets,s.tag,s.sent,s.last,s.over,s.halt⟩
def gU(s:aX)(l:List Req):aX:=⟨s.sto,s.reqs,l,s.tag,s.sent,s.last,s.over,s.halt⟩
def fI(l:List Req)(i:Nat):Req:=l.getD i xC
def FC(s:am)(r:Rt):Bool:=decide (0<=aj s.nodes r)&&decide ((nod s.nodes (aj s.nodes r).toNat).status=0)
def vY(s:aX)(r:Rt)(tries:Int):aX:=⟨s.sto,s.reqs++[⟨s.tag,r,tries,0⟩],s.rets,IntKind.u64.wrap (s.tag+1),s.sent,s.last,s.over,s.halt⟩
def jo(l:List Rt)(i:Nat)(s:aX):aX:=if FC s.sto (l.getD i rt0)=true then vY s (l.getD i rt0) 0 else s
def xw(s:aX)(l:List Rt):aX:=aL (jo l) s l.length
def iV(t:List Nod)(l:List Req)(i:Nat)(o:List Req):List Req:=if 0<=aj t (fI l i).block then o++[fI l i]else o
def nU(t:List Nod)(l:List Req):List Req:=aL (iV t l) [] l.length
def pZ(s:aX):aX:=⟨s.sto,nU s.sto.nodes s.reqs,nU s.sto.nodes s.rets,s.tag,s.sent,s.last,s.over,s.halt⟩
def wx(b:Int):Nat->Int->Int
 |0,d=>d
 |f+1,d=>if IntKind.u64.wrap (b-d)<=d then b else wx b f (IntKind.u64.wrap (2*d))
def K4(tries b:Int):Int:=if b=0 then 0 else wx b (tries-1).toNat 1
def Xj(a b:Req):Bool:=decide (a.due<b.due) || (decide (a.due=b.due)&&decide (a.tag<b.tag))
def wg(l:List Req):Nat->List Req
 |0=>l
 |k+1=>if Xj (fI l (k+1)) (fI l k)=true then wg ((l.set (k+1) (fI l k)).set k (fI l (k+1))) k else l
def Al(s:aX)(r:Req):Req:=⟨r.tag,r.block,IntKind.i64.wrap (r.tries+1),IntKind.u64.wrap (s.sto.now+K4 (IntKind.i64.wrap (r.tries+1)) s.sto.cfg.lim.backoff)⟩
def pq(s:aX)(r:Req):aX:=
 if FC s.sto r.block=false then s else if s.sto.cfg.lim.retry<=s.rets.length then ⟨s.sto,s.reqs,s.rets,s.tag,s.sent,s.last,true,s.halt⟩
 else gU s (wg (s.rets++[Al s r]) s.rets.length)
def qG(l:List Req)(i:Nat)(s:aX):aX:=if s.sto.now<(fI l i).due then gU s (s.rets++[fI l i])else if FC s.sto (fI l i).block=true then vY s (fI l i).block (fI l i).tries else s
def QF(s:aX):aX:=aL (qG s.rets) (gU s []) s.rets.length
def Tr(s:am):Rt:=if 0<=aj s.nodes s.j.rt/\(nod s.nodes (aj s.nodes s.j.rt).toNat).status=1 then s.j.rt else rt0
def UB(s:am):Cmd:=⟨(nod s.nodes (E4 s).toNat).blk.root,Tr s,s.f.rt⟩
def jK(s:aX):aX×List Cmd:=if s.sent=true/\s.last=UB s.sto then (s,[])else (⟨s.sto,s.reqs,s.rets,s.tag,true,UB s.sto,s.over,s.halt⟩,[UB s.sto])
def PP:aX:=⟨d9,[],[],0,false,zM,false,false⟩
def mh(c:cU):aX×List Cmd×Int:=if iH c=0 then ((jK ⟨fm c,[],[],1,false,zM,false,false⟩).1,(jK ⟨fm c,[],[],1,false,zM,false,false⟩).2,0)else (PP,[],iH c)
def zx(l:List Req)(i:Nat):List Req:=l.take i++l.drop (i+1)
def df(s:aX)(v:Vdt):Req×aX×Int:=match cE (fun i=>decide ((fI s.reqs i).tag=v.tag)) s.reqs.length with
 |some i=>(fI s.reqs i,abc s (zx s.reqs i),0)
 |none=>(xC,PP,23)
def boostV(s:am):am:=if 0<=aj s.nodes s.boost/\(nod s.nodes (aj s.nodes s.boost).toNat).status=2 then withB s rt0 else s
def judgeV(s:am)(r:Rt)(v:Vdt):List Nod×Int:=iU s.nodes (aj s.nodes r) v [aj s.nodes s.j.rt,aj s.nodes s.f.rt]
def ot(s:aX)(v:Vdt):aX×Int:=
 if (df s v).2.2≠0 then (s,(df s v).2.2)else if v.kind=3\/v.kind=4 then (pq (df s v).2.1 (df s v).1,0)
 else if (judgeV (df s v).2.1.sto (df s v).1.block v).2≠0 then (⟨s.sto,s.reqs,s.rets,s.tag,s.sent,s.last,s.over,true⟩,21)
 else (fU (df s v).2.1 (boostV (dh (df s v).2.1.sto (judgeV (df s v).2.1.sto (df s v).1.block v).1)),0)
def fS(s:aX)(x:VOp):aX×Int:=
 if x.kind=1 then (if (dH s.sto).2=0 then (QF (pZ (fU s (dH s.sto).1)),0)else (fU s (dH s.sto).1,(dH s.sto).2))
 else if x.kind=2 then (if (cq s.sto x.blk).2.2=0 then (xw (pZ (fU s (cq s.sto x.blk).1)) (cq s.sto x.blk).2.1,0)else (fU s (cq s.sto x.blk).1,(cq s.sto x.blk).2.2))
 else if x.kind=3 then (fU s (i9 s.sto x.att).1,(i9 s.sto x.att).2)else if x.kind=4 then (fU s (di s.sto x.slg).1,(di s.sto x.slg).2)
 else if x.kind=5 then (fU s (iu s.sto x.tab).1,(iu s.sto x.tab).2)else if x.kind=6 then ot s x.vdt else (s,2)
def toV(x:VOp):OpV:=⟨x.kind,x.blk,(x.att.slot,x.att.root,x.att.target,x.att.vals),((x.slg.fst.src,x.slg.fst.tgt,x.slg.fst.root,x.slg.fst.vals),(x.slg.snd.src,x.slg.snd.tgt,x.slg.snd.root,x.slg.snd.vals)),(x.tab.cp,x.tab.bals),x.vdt,x.write,x.keep⟩
def kR(s:aX)(x:VOp):aX×List Cmd×Int:=
 if s.halt=true then (s,[],22)else if vOp (toV x)≠0 then (s,[],vOp (toV x))
 else if (fS s x).2=21 then ((fS s x).1,[],21)else if (fS s x).2≠0 then (s,[],(fS s x).2)
 else ((jK (fS s x).1).1,(jK (fS s x).1).2,0)
theorem W1(s:am)(h:StR s)(a b j0 f0:Cp)(R:Bool)(hR:R=qP s a b):Tri Tryz.prog 118 0 (cL.tl 4) (PQ [.cell 6 true 33,.cell 7 true 33,.tmp 8] (.tup [.agg (cpC (bif R then a else cp0)),.agg (cpC (bif R then b else cp0)),.bool R])) ⟨13,[.agg (aw s.a),.agg (cpC j0),.agg (cpC f0),.ptr 0 0,.ptr 1 0,.ptr 2 0,.ptr 3 0,.ptr 4 0,.bool false,.ptr 5 0,.ptr 6 0,.dead,.dead],[]⟩ [.var (aw s.a),.var (cpC j0),.var (cpC f0),.var (cpC cp0),.var (cpC cp0),.var (cpC a),.var (cpC b)]:=by
 unfold cL;refine bd ?_;simp only[ab.tl];have c1:=cm s.nodes a.rt h.bn;have c2:=cm s.nodes b.rt h.bn;have b1:=dX s.nodes a.rt;have b2:=dX s.nodes b.rt;unfold qP at hR;generalize aj s.nodes a.rt=I at *;generalize aj s.nodes b.rt=K at *;refine gon ?_;refine aC (c1) ?_;refine gon ?_;refine aC (c2) ?_;by_cases q1:I<0
 ·have e1:=ak q1;rw[au (show ¬0<=I by omega)]at hR;obtain rfl:R=false:=hR;refine aE e1 ?_;exact af
 have e1:=au q1;rw[ak (show 0<=I by omega)]at hR;by_cases q2:K<0
 ·have e2:=ak q2;rw[au (show ¬0<=K by omega)]at hR;obtain rfl:R=false:=hR;refine cn e1 e2 ?_;exact af
 have e2:=au q2;rw[ak (show 0<=K by omega)]at hR;have hg1:=dy (t:=s.nodes) (i:=I.toNat) (by omega);have hg2:=dy (t:=s.nodes) (i:=K.toNat) (by omega);by_cases q3:(nod s.nodes I.toNat).status=2
 ·have e3:((nod s.nodes I.toNat).status==2)=true:=by simp[q3]
  rw[au (show ¬ (nod s.nodes I.toNat).status≠2 by simp[q3])]at hR;obtain rfl:R=false:=hR;refine eO e1 e2 hg1 hg2 e3 ?_;refine abX ?_;exact af
 have e3:((nod s.nodes I.toNat).status==2)=false:=by simp[q3]
 rw[ak (show (nod s.nodes I.toNat).status≠2 from q3)]at hR;by_cases q4:(nod s.nodes K.toNat).status=2
 ·have e4:((nod s.nodes K.toNat).status==2)=true:=by simp[q4]
  rw[au (show ¬ (nod s.nodes K.toNat).status≠2 by simp[q4])]at hR;obtain rfl:R=false:=hR;refine eI e1 e2 e3 hg1 hg2 e4 ?_;refine abX ?_;exact af
 have e4:((nod s.nodes K.toNat).status==2)=false:=by simp[q4]
 rw[ak (show (nod s.nodes K.toNat).status≠2 from q4)]at hR;refine eI e1 e2 e3 e4 hg1 hg2 ?_;have k4:=wz s I a.ep (by omega) (by omega);generalize jz s I a.ep=V4 at *;refine aC (k4) ?_;cases V4 with
 | false =>
   obtain rfl:R=false:=hR;refine aV ?_;exact af
 | true =>
   refine eI e1 e2 e3 e4 hg1 hg2 ?_;have k5:=wz s K b.ep (by omega) (by omega);generalize jz s K b.ep=V5 at *;refine aC (k5) ?_;cases V5 with
   | false =>
     obtain rfl:R=false:=hR;refine aV ?_;exact af
   | true =>
     refine eI e1 e2 e3 e4 hg1 hg2 ?_;have k6:=xT s.nodes h.tree.ok h.bn K I;generalize dv s.nodes K I=V6 at *;refine aC (k6) ?_;cases V6 with
     | false =>
       obtain rfl:R=false:=hR;refine aV ?_;exact af
     | true =>
       by_cases q8:a.ep<b.ep
       ·have e8:=ak q8;rw[au (show ¬b.ep<=a.ep by omega)]at hR;obtain rfl:R=false:=hR;refine jN e1 e2 e3 e4 hg1 hg2 e8 ?_;refine abX ?_;exact af
       have e8:=au q8;rw[ak (show b.ep<=a.ep by omega)]at hR;refine jN e1 e2 e3 e4 e8 hg1 hg2 ?_;have k8:=fV s s.now h.spe;generalize bY s s.now=E at *;refine aC (k8) ?_;by_cases q9:E<a.ep
       ·have e9:=ak q9;rw[au (show ¬a.ep<=E by omega)]at hR;obtain rfl:R=false:=hR;refine th e1 e2 e3 e4 e8 hg1 hg2 e9 ?_;refine abX ?_;exact af
       have e9:=au q9;rw[ak (show a.ep<=E by omega)]at hR;refine th e1 e2 e3 e4 e8 e9 hg1 hg2 ?_;have k9:=mQ s.tabs a h.bt;generalize cS s.tabs a=F at *;refine aC (k9) ?_;by_cases q10:F<0
       ·have e10:=ak q10;rw[au (show ¬0<=F by omega)]at hR;obtain rfl:R=false:=hR;refine XF e1 e2 e3 e4 e8 e9 hg1 hg2 e10 ?_;refine abX ?_;exact af
       have e10:=au q10;rw[ak (show 0<=F by omega)]at hR;obtain rfl:R=true:=hR;refine XF e1 e2 e3 e4 e8 e9 e10 hg1 hg2 ?_;refine abW ?_;exact af
theorem Um(s:am)(h:StR s)(j f:Cp):PC Tryz.prog 360 [.agg (aw s.a),.agg (cpC j),.agg (cpC f)] (.tup [.agg (cpC (bif qP s (dK s.j j) (dK s.f f)then dK s.j j else cp0)),.agg (cpC (bif qP s (dK s.j j) (dK s.f f)then dK s.f f else cp0)),.bool (qP s (dK s.j j) (dK s.f f))]):=by
 have tl:=W1 s h (dK s.j j) (dK s.f f) j f _ rfl;refine PC.fact 13 yG (by simp) puA puA ?_;have hc:cL=.seq cL.hd (.seq (cL.tl 1).hd (.seq (cL.tl 2).hd (.seq (cL.tl 3).hd (cL.tl 4)))):=rfl;rw[hc];clear hc;generalize cL.tl 4=cT at *;unfold cL;refine bd ?_;simp only[ab.tl,ab.hd];have m1:dK s.j j=if s.j.ep<j.ep then j else s.j:=rfl
 have m2:dK s.f f=if s.f.ep<f.ep then f else s.f:=rfl
 by_cases q1:s.j.ep<j.ep
 ·have e1:=ak q1
  rw[if_pos q1]at m1;by_cases q2:s.f.ep<f.ep
  ·have e2:=ak q2;rw[if_pos q2]at m2;rw[m1,m2]at tl ⊢;refine bg e1 ?_;refine aE e2 ?_;refine dR ?_ tl;exact adk [] [0,1,2,3,4,5,6]
  ·have e2:=au q2;rw[if_neg q2]at m2;rw[m1,m2]at tl ⊢;refine bg e1 ?_;refine aD e2 ?_;refine dR ?_ tl;exact adk [] [0,1,2,3,4,5,6]
 ·have e1:=au q1
  rw[if_neg q1]at m1;by_cases q2:s.f.ep<f.ep
  ·have e2:=ak q2;rw[if_pos q2]at m2;rw[m1,m2]at tl ⊢;refine aQ e1 ?_;refine aE e2 ?_;refine dR ?_ tl;exact adk [] [0,1,2,3,4,5,6]
  ·have e2:=au q2;rw[if_neg q2]at m2;rw[m1,m2]at tl ⊢;refine aQ e1 ?_;refine aD e2 ?_;refine dR ?_ tl;exact adk [] [0,1,2,3,4,5,6]
theorem Xu(σ:St)(zs:List Nat)(l:List Cp):gX σ zs (rows cpC l)=rows cpC l:=fG.fz σ zs (cK fun x _=>fF x)
theorem VB(ρ:Nat->Nat)(l:List Cp):dF ρ (rows cpC l)=rows cpC l:=fG.ren ρ (cK fun x _=>fF x)
attribute [local go_sem] Xu VB
theorem UR(s:am)(b:Blk)(h:StR s):PC Tryz.prog 364 [.agg (aw s.a),.agg (aA b)] (.bool (rD s b)):=by
 refine PC.fact 12 LD (by simp) puA puA ?_;unfold yh;refine bd ?_;have c1:=cm s.nodes b.parent h.bn;have c2:=zc s b h.spe;unfold rD;generalize aj s.nodes b.parent=P at *;generalize lX s b=O at *;obtain⟨R,hR2⟩:∃R,R=(cE (fun k=>!nP s b P ((cps b).getD k cp0)) 4).isNone:=⟨_,rfl⟩
 rw[<-hR2];refine gon ?_;refine acT c1 ?_;by_cases q1:P<0
 ·have e1:=ak q1;rw[au (show ¬0<=P by omega)];refine aE e1 ?_;exact af
 have e1:=au q1;rw[ak (show 0<=P by omega)];refine aD e1 ?_;refine ai c2 ?_;cases O with
 | false =>
   refine aV ?_;exact af
 | true =>
   refine gon ?_;have hrc:[cpC b.just,cpC b.fin,cpC b.pul.j,cpC b.pul.f]=rows cpC (cps b):=rfl;refine aB ?_;refine ap hrc ?_;refine ay (fun i:Nat=>[(7,.int .i64 i)]) (fun _=>[.var (aw s.a),.var (aA b)]) (fun i=>4-i) (fun i=>i<=4/\R=(fw (fun k=>!nP s b P ((cps b).getD k cp0)) (4-i) i).isNone) 0 ⟨Nat.zero_le _,hR2⟩ ?_ ?_
   ·exact adk [] [0,1]
   clear hR2;rintro i ⟨hi,hn⟩;rw[hn];refine dM ?_;by_cases h1:i<4
   ·have e1:=inT h1
    have hw:=ah h1 (by omega);have hgd:(rows cpC (cps b)).getD i []=cpC ((cps b).getD i cp0):=aM (f:=cpC) cp0 (by exact h1);have hlen:(cps b).length=4:=rfl;have e1':decide ((i:Int)<4)=true:=ak (by omega);have hfit:nP s b P ((cps b).getD i cp0)=(decide (((cps b).getD i cp0).ep<=s.f.ep) || (if (cR s ((cps b).getD i cp0).ep).1<b.slot then decide (0<=atT s.nodes P (cR s ((cps b).getD i cp0).ep).1)&&decide ((nod s.nodes (atT s.nodes P (cR s ((cps b).getD i cp0).ep).1).toNat).blk.root=((cps b).getD i cp0).rt)else decide (b.root=((cps b).getD i cp0).rt))):=rfl;have hT:nP s b P ((cps b).getD i cp0)=true->(fw (fun k=>!nP s b P ((cps b).getD k cp0)) (4-i) i)=fw (fun k=>!nP s b P ((cps b).getD k cp0)) (4-(i+1)) (i+1):=fun hv=>fW h1 (by show (!nP s b P ((cps b).getD i cp0))=false;rw[hv];rfl)
    have hF:nP s b P ((cps b).getD i cp0)=false->(fw (fun k=>!nP s b P ((cps b).getD k cp0)) (4-i) i).isNone=false:=fun hv=>by rw[f9 h1 (by show (!nP s b P ((cps b).getD i cp0))=true;rw[hv];rfl)];rfl
    have c3:=jR s ((cps b).getD i cp0).ep;generalize fw (fun k=>!nP s b P ((cps b).getD k cp0)) (4-i) i=X at *;generalize hX2:fw (fun k=>!nP s b P ((cps b).getD k cp0)) (4-(i+1)) (i+1)=X2 at *;generalize (cps b).getD i cp0=c at *;generalize nP s b P c=V at *;generalize cR s c.ep=st at *;obtain⟨st1,st2⟩:=st;dsimp only at c3 hfit;have c4:=KD s.nodes h.tree.ok h.bn P st1;have b4:=WQ h.tree.ok P st1;generalize atT s.nodes P st1=A at *;refine vX e1 e1' hlen ?_;refine aO hgd hlen ?_;by_cases q2:c.ep<=s.f.ep
    ·have e2:=ak q2;rw[e2]at hfit;rw[hT hfit];refine bg e2 ?_;refine ap hw ?_;refine⟨i+1,⟨h1,by rw[<-hX2];rfl⟩,by omega,?_⟩;exact adk [] [0,1]
    have e2:=au q2;rw[e2,Bool.false_or]at hfit;refine aQ e2 ?_;refine aO hgd hlen ?_;refine aC (c3) ?_;refine gon ?_;by_cases q3:st1<b.slot
    ·have e3:=ak q3
     rw[if_pos q3]at hfit;refine aE e3 ?_;refine acT c4 ?_;by_cases q4:A<0
     ·have e4:=ak q4;rw[au (show ¬0<=A by omega)]at hfit;rw[hF hfit];refine aE e4 ?_;exact af
     have e4:=au q4;rw[ak (show 0<=A by omega),Bool.true_and]at hfit;have hgn:=dy (t:=s.nodes) (i:=A.toNat) (by omega);refine aQ e4 ?_;refine cZ hgn hgd hlen ?_;by_cases q5:(nod s.nodes A.toNat).blk.root=c.rt
     ·have e5:=ak q5;rw[e5]at hfit;rw[hT hfit];refine aQ e5 ?_;refine ap hw ?_;refine⟨i+1,⟨h1,by rw[<-hX2];rfl⟩,by omega,?_⟩;exact adk [] [0,1]
     ·have e5:=au q5;rw[e5]at hfit;rw[hF hfit];refine aE e5 ?_;exact af
    ·have e3:=au q3
     rw[if_neg q3]at hfit;refine aQ e3 ?_;refine aO hgd hlen ?_;by_cases q5:b.root=c.rt
     ·have e5:=ak q5;rw[e5]at hfit;rw[hT hfit];refine aQ e5 ?_;refine ap hw ?_;refine⟨i+1,⟨h1,by rw[<-hX2];rfl⟩,by omega,?_⟩;exact adk [] [0,1]
     ·have e5:=au q5;rw[e5]at hfit;rw[hF hfit];refine aE e5 ?_;exact af
   ·obtain rfl:i=4:=by omega
    have e1:=inF (4);have hz:fw (fun k=>!nP s b P ((cps b).getD k cp0)) (4-4) 4=none:=gQ _ 4;rw[hz];have hlen:(cps b).length=4:=rfl;refine eC e1 hlen ?_;exact af
theorem BK(s:am)(b:Blk)(h:StR s):PC Tryz.prog 304 [.agg (aw s.a),.agg (aA b)] (.int .i64 (bG s b)):=by
 refine PC.fact 87 xi (by simp) puA puA ?_;unfold nD;refine bd ?_;have c1:=jR s s.f.ep;have c2:=Q8 s b.root h;have c3:=cm s.nodes b.parent h.bn;have c4:=UR s b h;have b3:=dX s.nodes b.parent;obtain⟨R,hc⟩:∃R,R=bG s b:=⟨_,rfl⟩
 rw[<-hc];unfold bG at hc;generalize cR s s.f.ep=st at *;obtain⟨st1,st2⟩:=st;dsimp only at c1 hc;generalize iW s b.root=N at *;generalize aj s.nodes b.parent=P at *;generalize rD s b=T at *;refine gon ?_;refine acT c1 ?_;by_cases q1:b.root=rt0
 ·have e1:=ak q1;rw[if_pos q1]at hc;subst hc;refine aE e1 ?_;exact af
 have e1:=au q1;rw[if_neg q1]at hc;refine aD e1 ?_;refine ai c2 ?_;cases N with
 | true =>
   rw[if_pos rfl]at hc;subst hc;refine aV ?_;exact af
 | false =>
   rw[if_neg (by simp)]at hc;refine bh ?_;by_cases q3:s.now<b.slot
   ·have e3:=ak q3;rw[if_pos q3]at hc;subst hc;refine aE e3 ?_;exact af
   have e3:=au q3;rw[if_neg q3]at hc;refine aD e3 ?_;by_cases q4:b.slot<=st1
   ·have e4:=ak q4;rw[if_pos q4]at hc;subst hc;refine aE e4 ?_;exact af
   have e4:=au q4;rw[if_neg q4]at hc;refine aD e4 ?_;refine acT c3 ?_;by_cases q5:P<0
   ·have e5:=ak q5;rw[if_pos q5]at hc;subst hc;refine aE e5 ?_;exact af
   have e5:=au q5;rw[if_neg q5]at hc;have hg:=dy (t:=s.nodes) (i:=P.toNat) (by omega);refine aQ e5 ?_;refine ap hg ?_;by_cases q6:b.slot<=(nod s.nodes P.toNat).blk.slot
   ·have e6:=ak q6;rw[if_pos q6]at hc;subst hc;refine aE e6 ?_;exact af
   have e6:=au q6;rw[if_neg q6]at hc;refine aQ e6 ?_;refine ap hg ?_;by_cases q7:(nod s.nodes P.toNat).status=2
   ·have e7:((nod s.nodes P.toNat).status==2)=true:=by simp[q7]
    rw[if_pos q7]at hc;subst hc;refine aE e7 ?_;exact af
   have e7:((nod s.nodes P.toNat).status==2)=false:=by simp[q7]
   rw[if_neg q7]at hc;refine aQ e7 ?_;refine ap hg ?_;refine ai c4 ?_;cases T with
   | false =>
     rw[if_pos rfl]at hc;subst hc;refine aV ?_;exact af
   | true =>
     rw[if_neg (by simp)]at hc;have c5:=QU s.cfg.ttd (nod s.nodes P.toNat).blk b;generalize vR s.cfg.ttd (nod s.nodes P.toNat).blk b=M at *;refine dk ?_;refine ap hg ?_;refine aC (c5) ?_;cases M with
     | false =>
       rw[if_pos rfl]at hc;subst hc;refine aV ?_;exact af
     | true =>
       rw[if_neg (by simp)]at hc;refine bh ?_;by_cases q8:s.cfg.lim.node<=(s.nodes.length:Int)
       ·have e8:decide ((s.nodes.length:Int) ≥ s.cfg.lim.node)=true:=ak q8;have e9:=ak q8;rw[if_pos q8]at hc;subst hc;refine cn e8 e9 ?_;exact af
       ·have e8:decide ((s.nodes.length:Int) ≥ s.cfg.lim.node)=false:=au q8;have e9:=au q8;rw[if_neg q8]at hc;subst hc;refine eC e8 e9 ?_;exact af
theorem ug(l:List Blk)(a:Int):∀k,(aL (nS l a) [] k).length<=k
 |0=>Nat.le_refl _
 | k + 1 => by
   rw[bH];have h1:=ug l a k;unfold nS at *;split
   ·simp only[List.length_append,List.length_cons,List.length_nil];omega
   ·omega
theorem mN(l:List aH)(e:Int):∀t∈eM l e,t∈l:=by
 unfold eM;refine fE (f:=fun i o=>if e<=(tab l i).cp.ep then o++[tab l i]else o) (a:=[]) (fun _ o=>∀t∈o,t∈l) (by simp) l.length (fun i o hi ho=>?_) _ (Nat.le_refl _);split
 ·intro t ht;rw[List.mem_append,List.mem_singleton]at ht;rcases ht with ht|rfl
  ·exact ho t ht
  ·unfold tab;rw[List.getD_eq_getElem?_getD,List.getElem?_eq_getElem hi];exact List.getElem_mem hi
 ·exact ho
theorem mM(l:List aH)(e:Int):(eM l e).length<=l.length:=by
 have:=mb (f:=fun i o=>if e<=(tab l i).cp.ep then o++[tab l i]else o) (a:=([]:List aH)) (fun i o=>by split<;>simp) l.length;unfold eM;simpa using this
theorem LY{s:am}{a b:Cp}(h:qP s a b=true):0<=aj s.nodes a.rt/\0<=aj s.nodes b.rt/\dv s.nodes (aj s.nodes b.rt) (aj s.nodes a.rt)=true:=by
 unfold qP at h;simp only[Bool.and_eq_true,decide_eq_true_eq]at h;exact⟨h.1.1.1.1.1.1.1.1.1,h.1.1.1.1.1.1.1.1.2,h.1.1.1.2⟩
theorem StR.upd{s:am}(h:StR s)(j f:Cp):StR (dl s j f):=by
 unfold dl;split
 ·exact h
 ·rename_i hm
  have hm:qP s (dK s.j j) (dK s.f f)=true:=by simpa using hm
  obtain⟨h1,h2,h3⟩:=LY hm;have hd:=mM s.tabs (dK s.j j).ep;have hb:∀t∈eM s.tabs (dK s.j j).ep,t.bals.length<=1000000:=fun t ht=>h.bb t (mN _ _ t ht)
  split
  ·exact⟨h.tree,h.spe,h.bn,h.bl,h.be,Nat.le_trans hd h.bt,hb,h.bo,h.ba,h.nl,h.ll,h1⟩
  ·have hf:=dU h2;have hl:=qR h.tree (aj s.nodes (dK s.f f).rt);refine⟨h.tree.prune h2 (by omega),h.spe,Nat.le_trans hl h.bn,h.bl,h.be,Nat.le_trans hd h.bt,hb,Nat.le_trans (ug _ _ _) h.bo,h.ba,h.nl,h.ll,?_⟩;exact tM h.tree h1 h3
def yV(l:List Blk)(a:Int)(k:Nat):List Blk:=aL (nS l a) [] k
theorem ZL(l:List Blk)(a:Int)(k:Nat):yV l a (k+1)=nS l a k (yV l a k):=rfl
theorem aaU(s:am)(j f a b:Cp)(T1:List Nod)(r:Rt)(D:List aH)(hbo:s.orph.length<=1000000):
 Tri Tryz.prog 104 0 (bX.tl 9) (PQ [.cell 6 true 150] (.agg (aw (⟨s.cfg,s.latest,s.eqv,a,b,s.early,yV s.orph (cR s b.ep).1 s.orph.length,T1,s.now,r,D⟩:am).a)))
  ⟨15,[.agg (aw s.a),.agg (cpC j),.agg (cpC f),.ptr 0 0,.ptr 1 0,.ptr 2 0,.ptr 3 0,.ptr 4 0,.ptr 5 0,.bool true,.bool true,.dead,.dead,.dead,.dead],[]⟩
  [.var (aw (⟨s.cfg,s.latest,s.eqv,a,b,s.early,s.orph,T1,s.now,r,D⟩:am).a),.var (cpC j),.var (cpC f),.var (aw gY),.var (cpC a),.var (cpC b)]:=by
 unfold bX;refine bd ?_;simp only[ab.tl];have c6:PC Tryz.prog 243 [.agg (aw (⟨s.cfg,s.latest,s.eqv,a,b,s.early,s.orph,T1,s.now,r,D⟩:am).a),.int .u64 b.ep] (.tup [.int .u64 (cR s b.ep).1,.bool (cR s b.ep).2]):=jR ⟨s.cfg,s.latest,s.eqv,a,b,s.early,s.orph,T1,s.now,r,D⟩ b.ep;generalize cR s b.ep=st at *;obtain⟨st1,st2⟩:=st;dsimp only at c6 ⊢;refine gon ?_;refine acT c6 ?_;refine eY 13 238 ?_;simp only[go_sem];have hz:yV s.orph st1 0=[]:=rfl;refine ay (fun i:Nat=>[(14,.int .i64 i),(13,.hs 238 6 0 (yV s.orph st1 i).length)]) (fun i=>[.var (aw (⟨s.cfg,s.latest,s.eqv,a,b,s.early,s.orph,T1,s.now,r,D⟩:am).a),.var (cpC j),.var (cpC f),.var (aw gY),.var (cpC a),.var (cpC b),.vec 238 (rows aA (yV s.orph st1 i))]) (fun i=>s.orph.length-i) (fun i=>i<=s.orph.length) 0 (Nat.zero_le _) ?_ ?_
 ·rw[hz];exact adk [] [0,1,2,3,4,5,6]
 intro i hi;refine dM ?_;by_cases h1:i<s.orph.length
 ·have e1:=inT h1
  have hw:=ah h1 (by omega);have hgd:(rows aA s.orph).getD i []=aA (cF s.orph i):=aM (f:=aA) dO h1;have hs:=ZL s.orph st1 i;have hli:(yV s.orph st1 i).length<=i:=ug s.orph st1 i;generalize yV s.orph st1 i=acc at *;have hc:nS s.orph st1 i acc=if st1<(cF s.orph i).slot then acc++[cF s.orph i]else acc:=rfl
  have hr:rows aA acc++[aA (cF s.orph i)]=rows aA (acc++[cF s.orph i]):=da aA acc (cF s.orph i);refine bg e1 ?_;refine ap hgd ?_;by_cases q:st1<(cF s.orph i).slot
  ·have e2:decide ((cF s.orph i).slot > st1)=true:=ak q;have e3:=ak q;rw[if_pos q]at hc;refine im e2 e3 ?_;refine cZ hgd hr hw ?_;refine⟨i+1,h1,by omega,?_⟩;rw[hs,hc];exact adk [] [0,1,2,3,4,5,7]
  ·have e2:decide ((cF s.orph i).slot > st1)=false:=au q;have e3:=au q;rw[if_neg q]at hc;refine dD e2 e3 ?_;refine ap hw ?_;refine⟨i+1,h1,by omega,?_⟩;rw[hs,hc];exact adk [] [0,1,2,3,4,5,6]
 ·obtain rfl:i=s.orph.length:=by omega
  have e1:=inF (s.orph.length);generalize yV s.orph st1 s.orph.length=acc;have ht:List.take acc.length (rows aA acc)=rows aA acc:=List.take_of_length_le (by simp);refine aQ e1 ?_;refine ap ht ?_;exact af
theorem Gt(s:am)(j f:Cp)(h:StR s):PC Tryz.prog 300 [.agg (aw s.a),.agg (cpC j),.agg (cpC f)] (.agg (aw (dl s j f).a)):=by
 have tl:=aaU s j f;refine PC.fact 15 EF (by simp) puA puA ?_;have hc:bX=.seq bX.hd (.seq (bX.tl 1).hd (.seq (bX.tl 2).hd (.seq (bX.tl 3).hd (.seq (bX.tl 4).hd (.seq (bX.tl 5).hd (.seq (bX.tl 6).hd (.seq (bX.tl 7).hd (.seq (bX.tl 8).hd (bX.tl 9))))))))):=rfl;rw[hc];clear hc;generalize bX.tl 9=cT at *;unfold bX;refine bd ?_;simp only[ab.tl,ab.hd];have c1:=Um s h j f;obtain⟨U,hU⟩:∃U,U=dl s j f:=⟨_,rfl⟩
 rw[<-hU];unfold dl at hU;generalize dK s.j j=a at *;generalize dK s.f f=b at *;generalize hm:qP s a b=M at *;refine gon ?_;refine ai c1 ?_;cases M with
 | false =>
   rw[if_pos rfl]at hU;subst hU;refine aV ?_;exact af
 | true =>
   rw[if_neg (by simp)]at hU;obtain⟨m1,m2,m3⟩:=LY hm;have c2:=Ha s.tabs a.ep h.bt;generalize eM s.tabs a.ep=D at *;refine bh ?_;refine acT c2 ?_;by_cases q:b=s.f
   ·have e1:=ak q;rw[if_pos q]at hU;subst hU;refine aE e1 ?_;exact af
   ·have e1:=au q
    rw[if_neg q]at hU;have hbd:=dX s.nodes b.rt;have c3:=cm s.nodes b.rt h.bn;have c4:=RM s.nodes h.tree.ok (aj s.nodes b.rt) h.bn (by simp only[isN,Bool.and_eq_true,decide_eq_true_eq];omega);have hl:=qR h.tree (aj s.nodes b.rt);have hbn:=h.bn;have hbo:=h.bo;generalize aj s.nodes b.rt=K at *;generalize dL s.nodes K=T at *;obtain⟨T1,T2⟩:=T;dsimp only at hU c4 hl;have c5:=cm T1 s.boost (by omega);generalize aj T1 s.boost=B at *;have tl:=fun r=>tl a b T1 r D h.bo
    refine aD e1 ?_;refine aC (c3) ?_;refine gon ?_;refine aC (c4) ?_;refine gon ?_;refine acT c5 ?_;by_cases q2:B<0
    ·have e2:=ak q2;rw[if_pos q2]at hU;subst hU;refine aE e2 ?_;refine dR ?_ (tl rt0);exact adk [] [0,1,2,3,4,5]
    ·have e2:=au q2;rw[if_neg q2]at hU;subst hU;refine aD e2 ?_;refine dR ?_ (tl s.boost);exact adk [] [0,1,2,3,4,5]
theorem PU(n lo hi:Int):PC Tryz.prog 236 [.int .i64 n,.int .i64 lo,.int .i64 hi] (.bool (wit n lo hi)):=by
 refine PC.fact 7 EH (by simp) puA puA ?_;unfold sA;refine bd ?_;unfold wit;by_cases h0:lo<=n
 ·have e0:decide (n ≥ lo)=true:=ak h0;have e1:=ak h0;refine aO e0 e1 ?_;exact af
 ·have e0:decide (n ≥ lo)=false:=au h0;have e1:=au h0;refine aO e0 e1 ?_;exact af
theorem Qq(s:am)(a:aW)(h:StR s)(N:Int)(R:Bool×Int)
 (hR:R=if aj s.nodes a.root<0\/aj s.nodes a.target.rt<0 then (false,10)else if a.slot<(nod s.nodes (aj s.nodes a.root).toNat).blk.slot then (false,14)
  else if atT s.nodes (aj s.nodes a.root) (cR s a.target.ep).1≠aj s.nodes a.target.rt then (false,19)else (decide (s.now<=a.slot),0)):
 Tri Tryz.prog 99 0 (bq.tl 4) (PQ [.tmp 4,.tmp 5] (.tup [.bool R.1,.int .i64 R.2])) ⟨12,[.agg (aw s.a),.agg (bZ a.a),.ptr 0 0,.ptr 1 0,.bool false,.int .i64 0,.int .i64 0,.int .u64 N,.dead,.dead,.dead,.dead],[]⟩ [.var (aw s.a),.var (bZ a.a)]:=by
 unfold bq;refine bd ?_;simp only[ab.tl];have c4:=cm s.nodes a.root h.bn;have c5:=cm s.nodes a.target.rt h.bn;have c6:=jR s a.target.ep;have b4:=dX s.nodes a.root;have b5:=dX s.nodes a.target.rt;generalize aj s.nodes a.root=I at *;generalize aj s.nodes a.target.rt=G at *;generalize cR s a.target.ep=st at *;obtain⟨st1,st2⟩:=st;dsimp only at c6 hR;have c7:=KD s.nodes h.tree.ok h.bn I st1;generalize atT s.nodes I st1=A at *;refine gon ?_;refine aC (c4) ?_;refine gon ?_;refine aC (c5) ?_;by_cases q1:I<0
 ·have e1:=ak q1;rw[if_pos (.inl q1)]at hR;subst hR;refine aE e1 ?_;exact af
 have e1:=au q1;by_cases q2:G<0
 ·have e2:=ak q2;rw[if_pos (.inr q2)]at hR;subst hR;refine cn e1 e2 ?_;exact af
 have e2:=au q2;rw[if_neg (fun h=>h.elim q1 q2)]at hR;have hg:=dy (t:=s.nodes) (i:=I.toNat) (by omega);refine dD e1 e2 ?_;refine ap hg ?_;by_cases q3:a.slot<(nod s.nodes I.toNat).blk.slot
 ·have e3:decide ((nod s.nodes I.toNat).blk.slot > a.slot)=true:=ak q3;have e4:=ak q3;rw[if_pos q3]at hR;subst hR;refine cn e3 e4 ?_;exact af
 have e3:decide ((nod s.nodes I.toNat).blk.slot > a.slot)=false:=au q3;have e4:=au q3;rw[if_neg q3]at hR;refine eC e3 e4 ?_;refine acT c6 ?_;refine ai c7 ?_;by_cases q4:A=G
 case neg=>
  have e5:(A != G)=true:=by simp[q4]
  rw[if_pos q4]at hR;subst hR;refine aE e5 ?_;exact af
 have e5:(A != G)=false:=by simp[q4]
 rw[if_neg (by simp[q4])]at hR;refine aQ e5 ?_;by_cases q5:s.now<=a.slot
 ·have e6:decide (a.slot ≥ s.now)=true:=ak q5;have e7:=ak q5;rw[e7]at hR;subst hR;refine aO e6 e7 ?_;exact af
 ·have e6:decide (a.slot ≥ s.now)=false:=au q5;have e7:=au q5;rw[e7]at hR;subst hR;refine aO e6 e7 ?_;exact af
theorem BJ(s:am)(a:aW)(h:StR s)(ha:a.vals.length<=1000000):PC Tryz.prog 129 [.agg (aw s.a),.agg (bZ a.a)] (.tup [.bool (dB s a).1,.int .i64 (dB s a).2]):=by
 have tl:=Qq s a h;obtain⟨R,hc⟩:∃R,R=dB s a:=⟨_,rfl⟩
 rw[<-hc];unfold dB at hc;have c0:=qp s;have c1:=gp a.vals false s.cfg.bals.length (by omega);have c2:=fV s s.now h.spe;have c3:=fV s a.slot h.spe;refine PC.fact 12 pm (by simp) puA puA ?_;have hc:bq=.seq bq.hd (.seq (bq.tl 1).hd (.seq (bq.tl 2).hd (.seq (bq.tl 3).hd (bq.tl 4)))):=rfl;rw[hc];clear hc;generalize bq.tl 4=cT at *;unfold bq;refine bd ?_;simp only[ab.tl,ab.hd]
 generalize hY:(if aj s.nodes a.root<0\/aj s.nodes a.target.rt<0 then ((false,10):Bool×Int)else if a.slot<(nod s.nodes (aj s.nodes a.root).toNat).blk.slot then (false,14)
  else if atT s.nodes (aj s.nodes a.root) (cR s a.target.ep).1≠aj s.nodes a.target.rt then (false,19)else (decide (s.now<=a.slot),0))=Y at *
 generalize dr a.vals s.cfg.bals.length=V at *;generalize bY s s.now=N at *;generalize bY s a.slot=S at *;refine gon ?_;refine aC (c0) ?_;refine gon ?_;refine aC (c1) ?_;refine gon ?_;by_cases q1:V=0
 case neg=>
  have e1:(V != 0)=true:=by simp[q1]
  rw[if_pos q1]at hc;subst hc;refine aE e1 ?_;exact af
 have e1:(V != 0)=false:=by simp[q1]
 rw[if_neg (by simp[q1])]at hc;refine aD e1 ?_;refine acT c2 ?_;refine aC (c3) ?_;subst q1;have fail:(a.target.ep≠S\/(a.target.ep≠N/\(N=0\/a.target.ep≠IntKind.u64.wrap (N-1))))->R=(false,18):=fun hq=>by rw[hc,if_pos hq]
 have pass:¬ (a.target.ep≠S\/(a.target.ep≠N/\(N=0\/a.target.ep≠IntKind.u64.wrap (N-1))))->R=Y:=fun hq=>by rw[hc,if_neg hq]
 clear hc;by_cases q2:a.target.ep=S
 case neg=>
  have e2:(a.target.ep != S)=true:=by simp[q2]
  obtain rfl:=fail (.inl q2);refine aE e2 ?_;exact af
 have e2:(a.target.ep != S)=false:=by simp[q2]
 by_cases q3:a.target.ep=N
 ·have e3:(a.target.ep != N)=false:=by simp[q3]
  have tl:=tl N R (pass (by rintro (h|h);exact h q2;exact h.1 q3));refine eC e2 e3 ?_;refine dR ?_ tl;exact adk [] [0,1]
 have e3:(a.target.ep != N)=true:=by simp[q3]
 by_cases q4:N=0
 ·have e4:(N==0)=true:=by simp[q4]
  obtain rfl:=fail (.inr ⟨q3,.inl q4⟩);refine fK e2 e3 e4 ?_;exact af
 have e4:(N==0)=false:=by simp[q4]
 by_cases q5:a.target.ep=IntKind.u64.wrap (N-1)
 ·have e5:(a.target.ep != IntKind.u64.wrap (N-1))=false:=by rw[<-q5];simp
  have tl:=tl N R (pass (by rintro (h|h);exact h q2;rcases h.2 with h|h;exact q4 h;exact h q5));refine LV e2 e3 e4 e5 ?_;refine dR ?_ tl;exact adk [] [0,1]
 ·have e5:(a.target.ep != IntKind.u64.wrap (N-1))=true:=by rw[bne_iff_ne];exact q5
  obtain rfl:=fail (.inr ⟨q3,.inr q5⟩);refine qM e2 e3 e4 e5 ?_;exact af
theorem ND(s:am)(a:aW)(h:StR s)(ha:a.vals.length<=1000000)(hj:∀j∈a.vals,0<=j/\j<s.latest.length):PC Tryz.prog 130 [.agg (aw s.a),.agg (bZ a.a)] (.agg (aw (castIn s a).a)):=by
 refine PC.fact 5 s5 (by simp) puA puA ?_;unfold nC;refine bd ?_;have c1:=IF s.latest a.target.ep a.root a.vals h.bl ha hj;unfold castIn;generalize BI s.latest a.target.ep a.root a.vals=C at *;obtain⟨C1,C2⟩:=C;dsimp only at c1 ⊢;refine gon ?_;refine acT c1 ?_;exact af
end Go.Proofs.YtnjdpnfglgcjcaaGreat
