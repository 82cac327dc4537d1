/- Joined. -/
import Derived.Test.YtmpddimhleianaaGreatV5
import Derived.Test.YtmpddimhleianaaGreatV3
import Derived.Test.YtmpddimhleianaaGreatV2
import Derived.Test.YtmpddimhleianaaGreatW3
set_option linter.unusedVariables false
set_option linter.unusedSimpArgs false
set_option maxRecDepth 8000
set_option maxHeartbeats 4000000
namespace Go.Proofs.YtmpddimhleianaaGreat
open Go Go.FH Go.RowKit
def ik(s:ap)(x:fe):ap×Int:=
 if evE x.a x.fst.vals x.snd.vals s.cfg.bals.length≠0 then (jX,evE x.a x.fst.vals x.snd.vals s.cfg.bals.length)
 else if IntKind.i64.wrap ((Gb s.eqv (kr x.fst.vals x.snd.vals x.fst.vals.length)).length-s.eqv.length)=0 then (jX,9)else (Nq s (Gb s.eqv (kr x.fst.vals x.snd.vals x.fst.vals.length)),0)
def ij(s:aI)(t:ap):aI:=⟨t,s.reqs,s.rets,s.tag,s.sent,s.last,s.over,s.halt⟩
def Ml(s:aI)(l:List Req):aI:=⟨s.sto,l,s.rets,s.tag,s.sent,s.last,s.over,s.halt⟩
def gi(s:aI)(l:List Req):aI:=⟨s.sto,s.reqs,l,s.tag,s.sent,s.last,s.over,s.halt⟩
def bm(l:List Req)(i:Nat):Req:=l.getD i gT
def Cz(s:ap)(r:Rt):Bool:=decide (0<=aj s.nodes r)&&decide ((nod s.nodes (aj s.nodes r).toNat).status=0)
def nH(s:aI)(r:Rt)(tries:Int):aI:=⟨s.sto,s.reqs++[⟨s.tag,r,tries,0⟩],s.rets,IntKind.u64.wrap (s.tag+1),s.sent,s.last,s.over,s.halt⟩
def mq(l:List Rt)(i:Nat)(s:aI):aI:=if Cz s.sto (l.getD i rt0)=true then nH s (l.getD i rt0) 0 else s
def nK(s:aI)(l:List Rt):aI:=bg (mq l) s l.length
def kK(t:List Nod)(l:List Req)(i:Nat)(o:List Req):List Req:=if 0<=aj t (bm l i).block then o++[bm l i]else o
def mm(t:List Nod)(l:List Req):List Req:=bg (kK t l) [] l.length
def mE(s:aI):aI:=⟨s.sto,mm s.sto.nodes s.reqs,mm s.sto.nodes s.rets,s.tag,s.sent,s.last,s.over,s.halt⟩
def qS(b:Int):Nat->Int->Int
 |0,d=>d
 |f+1,d=>if IntKind.u64.wrap (b-d)<=d then b else qS b f (IntKind.u64.wrap (2*d))
def vx(tries b:Int):Int:=if b=0 then 0 else qS b (tries-1).toNat 1
def gC(a b:Req):Bool:=decide (a.due<b.due) || (decide (a.due=b.due)&&decide (a.tag<b.tag))
def nS(l:List Req):Nat->List Req
 |0=>l
 |k+1=>if gC (bm l (k+1)) (bm l k)=true then nS ((l.set (k+1) (bm l k)).set k (bm l (k+1))) k else l
def jC(s:aI)(r:Req):Req:=⟨r.tag,r.block,IntKind.i64.wrap (r.tries+1),IntKind.u64.wrap (s.sto.now+vx (IntKind.i64.wrap (r.tries+1)) s.sto.cfg.lim.backoff)⟩
def lO(s:aI)(r:Req):aI:=
 if Cz s.sto r.block=false then s else if s.sto.cfg.lim.retry<=s.rets.length then ⟨s.sto,s.reqs,s.rets,s.tag,s.sent,s.last,true,s.halt⟩
 else gi s (nS (s.rets++[jC s r]) s.rets.length)
def oZ(l:List Req)(i:Nat)(s:aI):aI:=if s.sto.now<(bm l i).due then gi s (s.rets++[bm l i])else if Cz s.sto (bm l i).block=true then nH s (bm l i).block (bm l i).tries else s
def zQ(s:aI):aI:=bg (oZ s.rets) (gi s []) s.rets.length
def WX(s:ap):Rt:=if 0<=aj s.nodes s.j.rt/\(nod s.nodes (aj s.nodes s.j.rt).toNat).status=1 then s.j.rt else rt0
def X3(s:ap):Cmd:=⟨(nod s.nodes (HY s).toNat).blk.root,WX s,s.f.rt⟩
def io(s:aI):aI×List Cmd:=if s.sent=true/\s.last=X3 s.sto then (s,[])else (⟨s.sto,s.reqs,s.rets,s.tag,true,X3 s.sto,s.over,s.halt⟩,[X3 s.sto])
def li:aI:=⟨jX,[],[],0,false,fS,false,false⟩
def iW(c:cU):aI×List Cmd×Int:=if ib c=0 then ((io ⟨kO c,[],[],1,false,fS,false,false⟩).1,(io ⟨kO c,[],[],1,false,fS,false,false⟩).2,0)else (li,[],ib c)
def qh(l:List Req)(i:Nat):List Req:=l.take i++l.drop (i+1)
def cz(s:aI)(v:Vdt):Req×aI×Int:=match dW (fun i=>decide ((bm s.reqs i).tag=v.tag)) s.reqs.length with
 |some i=>(bm s.reqs i,Ml s (qh s.reqs i),0)
 |none=>(gT,li,23)
def boostV(s:ap):ap:=if 0<=aj s.nodes s.boost/\(nod s.nodes (aj s.nodes s.boost).toNat).status=2 then withB s rt0 else s
def judgeV(s:ap)(r:Rt)(v:Vdt):List Nod×Int:=iT s.nodes (aj s.nodes r) v [aj s.nodes s.j.rt,aj s.nodes s.f.rt]
def ky(s:aI)(v:Vdt):aI×Int:=
 if (cz s v).2.2≠0 then (s,(cz s v).2.2)else if v.kind=3\/v.kind=4 then (lO (cz s v).2.1 (cz s v).1,0)
 else if (judgeV (cz s v).2.1.sto (cz s v).1.block v).2≠0 then (⟨s.sto,s.reqs,s.rets,s.tag,s.sent,s.last,s.over,true⟩,21)
 else (ij (cz s v).2.1 (boostV (dD (cz s v).2.1.sto (judgeV (cz s v).2.1.sto (cz s v).1.block v).1)),0)
def ia(s:aI)(x:VOp):aI×Int:=
 if x.kind=1 then (if (gp s.sto).2=0 then (zQ (mE (ij s (gp s.sto).1)),0)else (ij s (gp s.sto).1,(gp s.sto).2))
 else if x.kind=2 then (if (di s.sto x.blk).2.2=0 then (nK (mE (ij s (di s.sto x.blk).1)) (di s.sto x.blk).2.1,0)else (ij s (di s.sto x.blk).1,(di s.sto x.blk).2.2))
 else if x.kind=3 then (ij s (mA s.sto x.att).1,(mA s.sto x.att).2)else if x.kind=4 then (ij s (ik s.sto x.slg).1,(ik s.sto x.slg).2)
 else if x.kind=5 then (ij s (kY s.sto x.tab).1,(kY s.sto x.tab).2)else if x.kind=6 then ky s x.vdt else (s,2)
def toV(x:VOp):OpV:=⟨x.kind,x.blk,(x.att.slot,x.att.root,x.att.target,x.att.vals),((x.slg.fst.src,x.slg.fst.tgt,x.slg.fst.root,x.slg.fst.vals),(x.slg.snd.src,x.slg.snd.tgt,x.slg.snd.root,x.slg.snd.vals)),(x.tab.cp,x.tab.bals),x.vdt,x.write,x.keep⟩
theorem RP(x:VOp):opL (toV x)=x.a:=rfl
def kl(s:aI)(x:VOp):aI×List Cmd×Int:=
 if s.halt=true then (s,[],22)else if vOp (toV x)≠0 then (s,[],vOp (toV x))
 else if (ia s x).2=21 then ((ia s x).1,[],21)else if (ia s x).2≠0 then (s,[],(ia s x).2)
 else ((io (ia s x).1).1,(io (ia s x).1).2,0)
theorem Wr(s:ap)(h:StR s)(a b j0 f0:Cp)(R:Bool)(hR:R=wv s a b):Tri Tryz.prog 118 0 (Ed.tl 4) (PQ [.cell 6 true 33,.cell 7 true 33,.tmp 8] (.tup [.agg (cpC (bif R then a else cp0)),.agg (cpC (bif R then b else cp0)),.bool R])) ⟨13,[.agg (aE s.a),.agg (cpC j0),.agg (cpC f0),.ptr 0 0,.ptr 1 0,.ptr 2 0,.ptr 3 0,.ptr 4 0,.bool false,.ptr 5 0,.ptr 6 0,.dead,.dead],[]⟩ [.var (aE s.a),.var (cpC j0),.var (cpC f0),.var (cpC cp0),.var (cpC cp0),.var (cpC a),.var (cpC b)]:=by
 unfold Ed;refine bd ?_;simp only[ab.tl];have c1:=cC s.nodes a.rt h.bn;have c2:=cC s.nodes b.rt h.bn;have b1:=fM s.nodes a.rt;have b2:=fM s.nodes b.rt;unfold wv at hR;generalize aj s.nodes a.rt=I at *;generalize aj s.nodes b.rt=K at *;refine gon ?_;refine aK (c1) ?_;refine gon ?_;refine aK (c2) ?_;by_cases q1:I<0
 ·have e1:=au q1;rw[aA (show ¬0<=I by omega)]at hR;obtain rfl:R=false:=hR;refine aM e1 ?_;exact ai
 have e1:=aA q1;rw[au (show 0<=I by omega)]at hR;by_cases q2:K<0
 ·have e2:=au q2;rw[aA (show ¬0<=K by omega)]at hR;obtain rfl:R=false:=hR;refine cH e1 e2 ?_;exact ai
 have e2:=aA q2;rw[au (show 0<=K by omega)]at hR;have hg1:=dy (t:=s.nodes) (i:=I.toNat) WL;have hg2:=dy (t:=s.nodes) (i:=K.toNat) WL;by_cases q3:(nod s.nodes I.toNat).status=2
 ·have e3:((nod s.nodes I.toNat).status==2)=true:=by simp[q3]
  rw[aA (show ¬ (nod s.nodes I.toNat).status≠2 by simp[q3])]at hR;obtain rfl:R=false:=hR;refine eU e1 e2 hg1 hg2 e3 ?_;refine agF ?_;exact ai
 have e3:((nod s.nodes I.toNat).status==2)=false:=by simp[q3]
 rw[au (show (nod s.nodes I.toNat).status≠2 from q3)]at hR;by_cases q4:(nod s.nodes K.toNat).status=2
 ·have e4:((nod s.nodes K.toNat).status==2)=true:=by simp[q4]
  rw[aA (show ¬ (nod s.nodes K.toNat).status≠2 by simp[q4])]at hR;obtain rfl:R=false:=hR;repeat(first|refine bY ?_|simp only[go_sem,e1,e2,e3,hg1,hg2,e4])
  refine agF ?_;exact ai
 have e4:((nod s.nodes K.toNat).status==2)=false:=by simp[q4]
 rw[au (show (nod s.nodes K.toNat).status≠2 from q4)]at hR;repeat(first|refine bY ?_|simp only[go_sem,e1,e2,e3,e4,hg1,hg2])
 have k4:=zE s I a.ep WL WL;generalize jA s I a.ep=V4 at *;refine aK (k4) ?_;cases V4 with
 | false =>
   obtain rfl:R=false:=hR;refine aX ?_;exact ai
 | true =>
   repeat(first|refine bY ?_|simp only[go_sem,e1,e2,e3,e4,hg1,hg2])
   have k5:=zE s K b.ep WL WL;generalize jA s K b.ep=V5 at *;refine aK (k5) ?_;cases V5 with
   | false =>
     obtain rfl:R=false:=hR;refine aX ?_;exact ai
   | true =>
     repeat(first|refine bY ?_|simp only[go_sem,e1,e2,e3,e4,hg1,hg2])
     have k6:=AD s.nodes h.tree.ok h.bn K I;generalize eh s.nodes K I=V6 at *;refine aK (k6) ?_;cases V6 with
     | false =>
       obtain rfl:R=false:=hR;refine aX ?_;exact ai
     | true =>
       by_cases q8:a.ep<b.ep
       ·have e8:=au q8;rw[aA (show ¬b.ep<=a.ep by omega)]at hR;obtain rfl:R=false:=hR;repeat(first|refine bY ?_|simp only[go_sem,e1,e2,e3,e4,hg1,hg2,e8])
        refine agF ?_;exact ai
       have e8:=aA q8;rw[au (show b.ep<=a.ep by omega)]at hR;repeat(first|refine bY ?_|simp only[go_sem,e1,e2,e3,e4,e8,hg1,hg2])
       have k8:=fT s s.now h.spe;generalize dg s s.now=E at *;refine aK (k8) ?_;by_cases q9:E<a.ep
       ·have e9:=au q9;rw[aA (show ¬a.ep<=E by omega)]at hR;obtain rfl:R=false:=hR;repeat(first|refine bY ?_|simp only[go_sem,e1,e2,e3,e4,e8,hg1,hg2,e9])
        refine agF ?_;exact ai
       have e9:=aA q9;rw[au (show a.ep<=E by omega)]at hR;repeat(first|refine bY ?_|simp only[go_sem,e1,e2,e3,e4,e8,e9,hg1,hg2])
       have k9:=ow s.tabs a h.bt;generalize dJ s.tabs a=F at *;refine aK (k9) ?_;by_cases q10:F<0
       ·have e10:=au q10;rw[aA (show ¬0<=F by omega)]at hR;obtain rfl:R=false:=hR;repeat(first|refine bY ?_|simp only[go_sem,e1,e2,e3,e4,e8,e9,hg1,hg2,e10])
        refine agF ?_;exact ai
       have e10:=aA q10;rw[au (show 0<=F by omega)]at hR;obtain rfl:R=true:=hR;repeat(first|refine bY ?_|simp only[go_sem,e1,e2,e3,e4,e8,e9,e10,hg1,hg2])
       refine agE ?_;exact ai
theorem Wp(s:ap)(h:StR s)(j f:Cp):PC Tryz.prog 286 [.agg (aE s.a),.agg (cpC j),.agg (cpC f)] (.tup [.agg (cpC (bif wv s (fh s.j j) (fh s.f f)then fh s.j j else cp0)),.agg (cpC (bif wv s (fh s.j j) (fh s.f f)then fh s.f f else cp0)),.bool (wv s (fh s.j j) (fh s.f f))]):=by
 have tl:=Wr s h (fh s.j j) (fh s.f f) j f _ rfl;refine pfn 13 VU ?_;have hc:Ed=.seq Ed.hd (.seq (Ed.tl 1).hd (.seq (Ed.tl 2).hd (.seq (Ed.tl 3).hd (Ed.tl 4)))):=rfl;rw[hc];clear hc;generalize Ed.tl 4=cT at *;unfold Ed;refine bd ?_;simp only[ab.tl,ab.hd];have m1:fh s.j j=if s.j.ep<j.ep then j else s.j:=rfl
 have m2:fh s.f f=if s.f.ep<f.ep then f else s.f:=rfl
 by_cases q1:s.j.ep<j.ep
 ·have e1:=au q1
  rw[al7 q1]at m1;by_cases q2:s.f.ep<f.ep
  ·have e2:=au q2;rw[al7 q2]at m2;rw[m1,m2]at tl ⊢;refine bw e1 ?_;refine aM e2 ?_;refine eg ?_ tl;exact ais [] [0,1,2,3,4,5,6]
  ·have e2:=aA q2;rw[al5 q2]at m2;rw[m1,m2]at tl ⊢;refine bw e1 ?_;refine aF e2 ?_;refine eg ?_ tl;exact ais [] [0,1,2,3,4,5,6]
 ·have e1:=aA q1
  rw[al5 q1]at m1;by_cases q2:s.f.ep<f.ep
  ·have e2:=au q2;rw[al7 q2]at m2;rw[m1,m2]at tl ⊢;refine bJ e1 ?_;refine aM e2 ?_;refine eg ?_ tl;exact ais [] [0,1,2,3,4,5,6]
  ·have e2:=aA q2;rw[al5 q2]at m2;rw[m1,m2]at tl ⊢;refine bJ e1 ?_;refine aF e2 ?_;refine eg ?_ tl;exact ais [] [0,1,2,3,4,5,6]
theorem IW(σ:St)(zs:List Nat)(l:List Cp):dh σ zs (rows cpC l)=rows cpC l:=fy.fz σ zs (cQ fun x _=>gV x)
theorem Hr(ρ:Nat->Nat)(l:List Cp):bH ρ (rows cpC l)=rows cpC l:=fy.ren ρ (cQ fun x _=>gV x)
attribute [local go_sem] IW Hr
theorem G6(s:ap)(b:Blk)(h:StR s):PC Tryz.prog 291 [.agg (aE s.a),.agg (aO b)] (.bool (EG s b)):=by
 refine ae 12 ?_;have c1:=cC s.nodes b.parent h.bn;have c2:=CA s b h.spe;unfold EG;generalize aj s.nodes b.parent=P at *;generalize pY s b=O at *;obtain⟨R,hR2⟩:∃R,R=(dW (fun k=>!rV s b P ((cps b).getD k cp0)) 4).isNone:=⟨_,rfl⟩
 rw[<-hR2];refine gon ?_;refine ahG c1 ?_;by_cases q1:P<0
 ·have e1:=au q1;rw[aA (show ¬0<=P by omega)];refine aM e1 ?_;exact ai
 have e1:=aA q1;rw[au (show 0<=P by omega)];refine aF e1 ?_;refine am c2 ?_;cases O with
 | false =>
   refine aX ?_;exact ai
 | true =>
   refine gon ?_;have hrc:[cpC b.just,cpC b.fin,cpC b.pul.j,cpC b.pul.f]=rows cpC (cps b):=rfl;refine aB ?_;refine ah hrc ?_;refine az (fun i:Nat=>[(7,.int .i64 i)]) (fun _=>[.var (aE s.a),.var (aO b)]) (fun i=>4-i) (fun i=>i<=4/\R=(iK (fun k=>!rV s b P ((cps b).getD k cp0)) (4-i) i).isNone) 0 ⟨amc _,hR2⟩ ?_ ?_
   ·exact ais [] [0,1]
   clear hR2;rintro i ⟨hi,hn⟩;rw[hn];refine dp ?_;by_cases h1:i<4
   ·have e1:=inT h1
    have hw:=af h1 WL;have hgd:(rows cpC (cps b)).getD i []=cpC ((cps b).getD i cp0):=aS (f:=cpC) cp0 (by exact h1);have hlen:(cps b).length=4:=rfl;have e1':decide ((i:Int)<4)=true:=au WL;have hfit:rV s b P ((cps b).getD i cp0)=(decide (((cps b).getD i cp0).ep<=s.f.ep) || (if (da s ((cps b).getD i cp0).ep).1<b.slot then decide (0<=atT s.nodes P (da s ((cps b).getD i cp0).ep).1)&&decide ((nod s.nodes (atT s.nodes P (da s ((cps b).getD i cp0).ep).1).toNat).blk.root=((cps b).getD i cp0).rt)else decide (b.root=((cps b).getD i cp0).rt))):=rfl;have hT:rV s b P ((cps b).getD i cp0)=true->(iK (fun k=>!rV s b P ((cps b).getD k cp0)) (4-i) i)=iK (fun k=>!rV s b P ((cps b).getD k cp0)) (4-(i+1)) (i+1):=fun hv=>nz h1 (by show (!rV s b P ((cps b).getD i cp0))=false;rw[hv];rfl)
    have hF:rV s b P ((cps b).getD i cp0)=false->(iK (fun k=>!rV s b P ((cps b).getD k cp0)) (4-i) i).isNone=false:=fun hv=>by rw[nB h1 (by show (!rV s b P ((cps b).getD i cp0))=true;rw[hv];rfl)];rfl
    have c3:=jU s ((cps b).getD i cp0).ep;generalize iK (fun k=>!rV s b P ((cps b).getD k cp0)) (4-i) i=X at *;generalize hX2:iK (fun k=>!rV s b P ((cps b).getD k cp0)) (4-(i+1)) (i+1)=X2 at *;generalize (cps b).getD i cp0=c at *;generalize rV s b P c=V at *;generalize da s c.ep=st at *;obtain⟨st1,st2⟩:=st;dsimp only at c3 hfit;have c4:=KF s.nodes h.tree.ok h.bn P st1;have b4:=Ib h.tree.ok P st1;generalize atT s.nodes P st1=A at *;refine HV e1 e1' hlen ?_;refine aZ hgd hlen ?_;by_cases q2:c.ep<=s.f.ep
    ·have e2:=au q2;rw[e2]at hfit;rw[hT hfit];refine bw e2 ?_;refine ah hw ?_;refine⟨i+1,⟨h1,by rw[<-hX2];rfl⟩,WL,?_⟩;exact ais [] [0,1]
    have e2:=aA q2;rw[e2,aj9]at hfit;refine bJ e2 ?_;refine aZ hgd hlen ?_;refine aK (c3) ?_;refine gon ?_;by_cases q3:st1<b.slot
    ·have e3:=au q3
     rw[al7 q3]at hfit;refine aM e3 ?_;refine ahG c4 ?_;by_cases q4:A<0
     ·have e4:=au q4;rw[aA (show ¬0<=A by omega)]at hfit;rw[hF hfit];repeat(first|refine bY ?_|simp only[go_sem,e4])
      refine agF ?_;exact ai
     have e4:=aA q4;rw[au (show 0<=A by omega),am2]at hfit;have hgn:=dy (t:=s.nodes) (i:=A.toNat) WL;repeat(first|refine bY ?_|simp only[go_sem,e4])
     refine aB ?_;refine dC hgn hgd hlen ?_;by_cases q5:(nod s.nodes A.toNat).blk.root=c.rt
     ·have e5:=au q5;rw[e5]at hfit;rw[hT hfit];repeat(first|refine bY ?_|simp only[go_sem,e5])
      refine aB ?_;refine ah hw ?_;refine⟨i+1,⟨h1,by rw[<-hX2];rfl⟩,WL,?_⟩;exact ais [] [0,1]
     ·have e5:=aA q5;rw[e5]at hfit;rw[hF hfit];repeat(first|refine bY ?_|simp only[go_sem,e5])
      refine agF ?_;exact ai
    ·have e3:=aA q3
     rw[al5 q3]at hfit;refine bJ e3 ?_;refine aZ hgd hlen ?_;by_cases q5:b.root=c.rt
     ·have e5:=au q5;rw[e5]at hfit;rw[hT hfit];repeat(first|refine bY ?_|simp only[go_sem,e5])
      refine aB ?_;refine ah hw ?_;refine⟨i+1,⟨h1,by rw[<-hX2];rfl⟩,WL,?_⟩;exact ais [] [0,1]
     ·have e5:=aA q5;rw[e5]at hfit;rw[hF hfit];repeat(first|refine bY ?_|simp only[go_sem,e5])
      refine agF ?_;exact ai
   ·obtain rfl:i=4:=WL
    have e1:=inF (4);have hz:iK (fun k=>!rV s b P ((cps b).getD k cp0)) (4-4) 4=none:=nu _ 4;rw[hz];have hlen:(cps b).length=4:=rfl;refine fU e1 hlen ?_;exact ai
theorem uO(s:ap)(b:Blk)(h:StR s):PC Tryz.prog 208 [.agg (aE s.a),.agg (aO b)] (.int .i64 (de s b)):=by
 refine ae 87 ?_;have c1:=jU s s.f.ep;have c2:=D5 s b.root h;have c3:=cC s.nodes b.parent h.bn;have c4:=G6 s b h;have b3:=fM s.nodes b.parent;unfold de;generalize da s s.f.ep=st at *;obtain⟨st1,st2⟩:=st;dsimp only at *;generalize nL s b.root=N at *;generalize aj s.nodes b.parent=P at *;generalize EG s b=T at *;cases N with
 |true=>by_cases q1:b.root=rt0<;>exact aw
 |false=>
 by_cases q3:P<0
 ·exact aw
 obtain⟨k,rfl⟩:=ajO (alY.1 q3);have hgp:=dy (t:=s.nodes) (i:=k) WL;have hpk:k<s.nodes.length:=WL
 rw[amw];have c5:=DP s.cfg.ttd (nod s.nodes k).blk b;generalize HP s.cfg.ttd (nod s.nodes k).blk b=M at *;generalize nod s.nodes k=D at *;clear b3 q3;cases T<;>cases M<;>exact aw
theorem xE(l:List Blk)(a:Int):∀k,(bg (tW l a) [] k).length<=k
 |0=>amb _
 | k + 1 => by
   rw[cX];have h1:=xE l a k;unfold tW at *;split
   ·simp only[akC,al8,ama];omega
   ·omega
theorem oh(l:List aW)(e:Int):∀t∈fX l e,t∈l:=by
 unfold fX;refine Yy (f:=fun i o=>if e<=(tab l i).cp.ep then o++[tab l i]else o) (a:=[]) (fun _ o=>∀t∈o,t∈l) WM l.length (fun i o hi ho=>?_) _ (amb _);split
 ·intro t ht;rw[amm,amn]at ht;rcases ht with ht|rfl
  ·exact ho t ht
  ·unfold tab;rw[alt,al6 hi];exact amS hi
 ·exact ho
theorem oe(l:List aW)(e:Int):(fX l e).length<=l.length:=by
 have:=ng (f:=fun i o=>if e<=(tab l i).cp.ep then o++[tab l i]else o) (a:=([]:List aW)) (fun i o=>by split<;>simp) l.length;unfold fX;simpa using this
theorem V8{s:ap}{a b:Cp}(h:wv s a b=true):0<=aj s.nodes a.rt/\0<=aj s.nodes b.rt/\eh s.nodes (aj s.nodes b.rt) (aj s.nodes a.rt)=true:=by
 unfold wv at h;simp only[amk,amg]at h;exact⟨h.1.1.1.1.1.1.1.1.1,h.1.1.1.1.1.1.1.1.2,h.1.1.1.2⟩
theorem StR.upd{s:ap}(h:StR s)(j f:Cp):StR (dK s j f):=by
 unfold dK;split
 ·exact h
 ·rename_i hm
  have hm:wv s (fh s.j j) (fh s.f f)=true:=by simpa using hm
  obtain⟨h1,h2,h3⟩:=V8 hm;have hd:=oe s.tabs (fh s.j j).ep;have hb:∀t∈fX s.tabs (fh s.j j).ep,t.bals.length<=2097152:=fun t ht=>h.bb t (oh _ _ t ht)
  split
  ·exact⟨h.tree,h.spe,h.bn,h.bl,h.be,ams hd h.bt,hb,h.bo,h.ba,h.nl,h.ll,h1⟩
  ·have hf:=dO h2;have hl:=tf h.tree (aj s.nodes (fh s.f f).rt);refine⟨h.tree.prune h2 WL,h.spe,ams hl h.bn,h.bl,h.be,ams hd h.bt,hb,ams (xE _ _ _) h.bo,h.ba,h.nl,h.ll,?_⟩;exact xd h.tree h1 h3
def sP(l:List Blk)(a:Int)(k:Nat):List Blk:=bg (tW l a) [] k
theorem Ln(l:List Blk)(a:Int)(k:Nat):sP l a (k+1)=tW l a k (sP l a k):=rfl
theorem Mj(s:ap)(j f a b:Cp)(T1:List Nod)(r:Rt)(D:List aW)(hbo:s.orph.length<=2097152):
 Tri Tryz.prog 104 0 (eI.tl 9) (PQ [.cell 6 true 150] (.agg (aE (⟨s.cfg,s.latest,s.eqv,a,b,s.early,sP s.orph (da s b.ep).1 s.orph.length,T1,s.now,r,D⟩:ap).a)))
  ⟨15,[.agg (aE s.a),.agg (cpC j),.agg (cpC f),.ptr 0 0,.ptr 1 0,.ptr 2 0,.ptr 3 0,.ptr 4 0,.ptr 5 0,.bool true,.bool true,.dead,.dead,.dead,.dead],[]⟩
  [.var (aE (⟨s.cfg,s.latest,s.eqv,a,b,s.early,s.orph,T1,s.now,r,D⟩:ap).a),.var (cpC j),.var (cpC f),.var (aE kU),.var (cpC a),.var (cpC b)]:=by
 unfold eI;refine bd ?_;simp only[ab.tl];have c6:PC Tryz.prog 133 [.agg (aE (⟨s.cfg,s.latest,s.eqv,a,b,s.early,s.orph,T1,s.now,r,D⟩:ap).a),.int .u64 b.ep] (.tup [.int .u64 (da s b.ep).1,.bool (da s b.ep).2]):=jU ⟨s.cfg,s.latest,s.eqv,a,b,s.early,s.orph,T1,s.now,r,D⟩ b.ep;generalize da s b.ep=st at *;obtain⟨st1,st2⟩:=st;dsimp only at c6 ⊢;have hz:sP s.orph st1 0=[]:=rfl;refine nx fun _=>?_
 refine jx 13 238 ?_;simp only[go_sem];refine BA s.orph.length (fun i=>[(14,.int .i64 i),(13,.hs 238 6 0 (sP s.orph st1 i).length)]) (fun i=>[.var (aE (⟨s.cfg,s.latest,s.eqv,a,b,s.early,s.orph,T1,s.now,r,D⟩:ap).a),.var (cpC j),.var (cpC f),.var (aE kU),.var (cpC a),.var (cpC b),.vec 238 (rows aO (sP s.orph st1 i))]) (fun i h1 hw h2=>?_) (fun _=>?_)
 ·have hgd:(rows aO s.orph).getD i []=aO (dn s.orph i):=aS (f:=aO) cw h1;have hs:=Ln s.orph st1 i;have hli:(sP s.orph st1 i).length<=i:=xE s.orph st1 i;change _=ite (st1<(dn s.orph i).slot) (_++[dn s.orph i]) _ at hs
  clear hz;generalize sP s.orph st1 i=acc at *;have hr:rows aO acc++[aO (dn s.orph i)]=rows aO (acc++[dn s.orph i]):=cR aO acc (dn s.orph i);exact aw
 ·clear hz;generalize sP s.orph st1 s.orph.length=acc;have ht:List.take acc.length (rows aO acc)=rows aO acc:=amf WM;exact aw
theorem Jg(s:ap)(j f:Cp)(h:StR s):PC Tryz.prog 202 [.agg (aE s.a),.agg (cpC j),.agg (cpC f)] (.agg (aE (dK s j f).a)):=by
 have tl:=Mj s j f;refine pfn 15 vI ?_;have hc:eI=.seq eI.hd (.seq (eI.tl 1).hd (.seq (eI.tl 2).hd (.seq (eI.tl 3).hd (.seq (eI.tl 4).hd (.seq (eI.tl 5).hd (.seq (eI.tl 6).hd (.seq (eI.tl 7).hd (.seq (eI.tl 8).hd (eI.tl 9))))))))):=rfl;rw[hc];clear hc;generalize eI.tl 9=cT at *;unfold eI;refine bd ?_;simp only[ab.tl,ab.hd];have c1:=Wp s h j f;have c2:=yb s.tabs (fh s.j j).ep h.bt;unfold dK;generalize fh s.j j=a at *;generalize fh s.f f=b at *;generalize hm:wv s a b=M at *;generalize fX s.tabs a.ep=D at *;cases M with
 |false=>exact aw
 | true =>
   obtain⟨m1,m2,m3⟩:=V8 hm;rw[al5 WM];by_cases q:b=s.f
   ·rw[al7 q];clear tl hm;exact aw
   ·rw[al5 q]
    have hbd:=fM s.nodes b.rt;have c3:=cC s.nodes b.rt h.bn;have c4:=Ei s.nodes h.tree.ok (aj s.nodes b.rt) h.bn (by simp only[isN,amk,amg];omega);have hl:=tf h.tree (aj s.nodes b.rt);have hbn:=h.bn;have hbo:=h.bo;generalize aj s.nodes b.rt=K at *;generalize eF s.nodes K=T at *;obtain⟨T1,T2⟩:=T;dsimp only at c4 hl;have c5:=cC T1 s.boost WL;generalize aj T1 s.boost=B at *;have tl:=fun r=>tl a b T1 r D h.bo
    by_cases q2:B<0
    ·have tl:=tl rt0;rw[al7 q2];refine nx fun _=>?_
     refine eg ?_ tl;exact ais [] [0,1,2,3,4,5]
    ·have tl:=tl s.boost;rw[al5 q2];refine nx fun _=>?_
     refine eg ?_ tl;exact ais [] [0,1,2,3,4,5]
theorem TA(n lo hi:Int):PC Tryz.prog 88 [.int .i64 n,.int .i64 lo,.int .i64 hi] (.bool (wit n lo hi)):=by
 refine ae 7 ?_;unfold wit;exact aw
theorem DC(s:ap)(a:bp)(h:StR s)(N:Int)(R:Bool×Int)
 (hR:R=if aj s.nodes a.root<0\/aj s.nodes a.target.rt<0 then (false,10)else if a.slot<(nod s.nodes (aj s.nodes a.root).toNat).blk.slot then (false,14)
  else if atT s.nodes (aj s.nodes a.root) (da s a.target.ep).1≠aj s.nodes a.target.rt then (false,19)else (decide (s.now<=a.slot),0)):
 Tri Tryz.prog 99 0 (bQ.tl 4) (PQ [.tmp 4,.tmp 5] (.tup [.bool R.1,.int .i64 R.2])) ⟨12,[.agg (aE s.a),.agg (cy a.a),.ptr 0 0,.ptr 1 0,.bool false,.int .i64 0,.int .i64 0,.int .u64 N,.dead,.dead,.dead,.dead],[]⟩ [.var (aE s.a),.var (cy a.a)]:=by
 unfold bQ;refine bd ?_;simp only[ab.tl];have c4:=cC s.nodes a.root h.bn;have c5:=cC s.nodes a.target.rt h.bn;have c6:=jU s a.target.ep;have b4:=fM s.nodes a.root;generalize aj s.nodes a.root=I at *;generalize aj s.nodes a.target.rt=G at *;generalize da s a.target.ep=st at *;obtain⟨st1,st2⟩:=st;dsimp only at c6 hR;have c7:=KF s.nodes h.tree.ok h.bn I st1;generalize atT s.nodes I st1=A at *;by_cases q1:I<0
 ·rw[al7 (.inl q1)]at hR;subst hR;exact aw
 by_cases q2:G<0
 ·rw[al7 (.inr q2)]at hR;subst hR;exact aw
 rw[al5 (fun h=>h.elim q1 q2)]at hR;obtain⟨k,rfl⟩:=ajO (alY.1 q1);have hg:=dy (t:=s.nodes) (i:=k) WL;have hk:k<s.nodes.length:=WL
 rw[amw]at hR;subst hR;clear b4;by_cases q4:A=G
 ·rw[al5 (show ¬A≠G from fun h=>h q4)];exact aw
 ·rw[al7 (show A≠G from q4)];exact aw
theorem sf(s:ap)(a:bp)(h:StR s)(ha:a.vals.length<=2097152):PC Tryz.prog 203 [.agg (aE s.a),.agg (cy a.a)] (.tup [.bool (cm s a).1,.int .i64 (cm s a).2]):=by
 have tl:=DC s a h;obtain⟨R,hc⟩:∃R,R=cm s a:=⟨_,rfl⟩
 rw[<-hc];unfold cm at hc;have c0:=sq s;have c1:=gl a.vals false s.cfg.bals.length WL;have c2:=fT s s.now h.spe;have c3:=fT s a.slot h.spe;refine pfn 12 mH ?_;have hc:bQ=.seq bQ.hd (.seq (bQ.tl 1).hd (.seq (bQ.tl 2).hd (.seq (bQ.tl 3).hd (bQ.tl 4)))):=rfl;rw[hc];clear hc;generalize bQ.tl 4=cT at *;unfold bQ;refine bd ?_;simp only[ab.tl,ab.hd]
 generalize hY:(if aj s.nodes a.root<0\/aj s.nodes a.target.rt<0 then ((false,10):Bool×Int)else if a.slot<(nod s.nodes (aj s.nodes a.root).toNat).blk.slot then (false,14)
  else if atT s.nodes (aj s.nodes a.root) (da s a.target.ep).1≠aj s.nodes a.target.rt then (false,19)else (decide (s.now<=a.slot),0))=Y at *
 generalize cE a.vals s.cfg.bals.length=V at *;generalize dg s s.now=N at *;generalize dg s a.slot=S at *;clear hY;by_cases q1:V=0
 case neg=>
  rw[al7 q1]at hc;subst hc;clear tl;exact aw
 rw[al5 (by simp[q1])]at hc;subst q1;have tl:=tl N R;by_cases q:a.target.ep≠S\/(a.target.ep≠N/\(N=0\/a.target.ep≠IntKind.u64.wrap (N-1)))
 ·rw [al7 q] at hc
  subst hc;clear tl;rcases q with q|⟨q,q3⟩
  ·have q:¬a.target.ep=S:=q;exact aw
  ·have q:¬a.target.ep=N:=q
   by_cases q4:N=0
   ·exact aw
   ·have q3:¬a.target.ep=IntKind.u64.wrap (N-1):=q3.resolve_left q4;exact aw
 ·rw[al5 q]at hc
  have tl:=tl hc;have q2:S=a.target.ep:=(Decidable.not_not.1 fun h=>q (.inl h)).symm;by_cases q3:a.target.ep=N
  ·replace q3:=eq_true q3
   clear hc q;refine nx fun _=>?_
   refine eg ?_ tl;exact ais [] [0,1]
  ·have q4:¬N=0:=fun h=>q (.inr ⟨q3,.inl h⟩)
   have q5:IntKind.u64.wrap (N-1)=a.target.ep:=(Decidable.not_not.1 fun h=>q (.inr ⟨q3,.inr h⟩)).symm;clear hc q;refine nx fun _=>?_
   refine eg ?_ tl;exact ais [] [0,1]
theorem BM(s:ap)(a:bp)(h:StR s)(ha:a.vals.length<=2097152)(hj:∀j∈a.vals,0<=j/\j<s.latest.length):PC Tryz.prog 204 [.agg (aE s.a),.agg (cy a.a)] (.agg (aE (castIn s a).a)):=by
 refine ae 5 ?_;have c1:=yN s.latest a.target.ep a.root a.vals h.bl ha hj;unfold castIn;generalize uM s.latest a.target.ep a.root a.vals=C at *;exact aw
end Go.Proofs.YtmpddimhleianaaGreat
