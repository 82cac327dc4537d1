/-
 My texts Lu, Lq, Lr, Ls, Lt, joined.
-/
import Derived.Test.YtipiipgpnkpejaaGreatV5
import Derived.Test.YtipiipgpnkpejaaGreatV3
import Derived.Test.YtipiipgpnkpejaaGreatV2
namespace Go.Proofs.YtipiipgpnkpejaaGreat
open Go Go.FH Go.RowKit
set_option linter.unusedVariables false
set_option linter.unusedSimpArgs false

def slashS (s:VSto) (x:VSlg):VSto × Int:=
 if evE x.a x.fst.vals x.snd.vals s.cfg.bals.length≠0 then (vsto0,evE x.a x.fst.vals x.snd.vals s.cfg.bals.length)
 else if IntKind.i64.wrap ((punT s.eqv (culR x.fst.vals x.snd.vals x.fst.vals.length)).length-s.eqv.length)=0 then (vsto0,9)else (withQ s (punT s.eqv (culR x.fst.vals x.snd.vals x.fst.vals.length)),0)
def withS (s:VSta) (t:VSto):VSta:=⟨t,s.reqs,s.rets,s.tag,s.sent,s.last,s.over,s.halt⟩
def withR (s:VSta) (l:List Req):VSta:=⟨s.sto,l,s.rets,s.tag,s.sent,s.last,s.over,s.halt⟩
def withY (s:VSta) (l:List Req):VSta:=⟨s.sto,s.reqs,l,s.tag,s.sent,s.last,s.over,s.halt⟩
def reqA (l:List Req) (i:Nat):Req:=l.getD i req0
def optS (s:VSto) (r:Rt):Bool:=decide (0≤findT s.nodes r)&&decide ((nod s.nodes (findT s.nodes r).toNat).status=0)
def openS (s:VSta) (r:Rt) (tries:Int):VSta:=⟨s.sto,s.reqs++[⟨s.tag,r,tries,0⟩],s.rets,IntKind.u64.wrap (s.tag+1),s.sent,s.last,s.over,s.halt⟩
def openR (l:List Rt) (i:Nat) (s:VSta):VSta:=if optS s.sto (l.getD i rt0)=true then openS s (l.getD i rt0) 0 else s
def opensS (s:VSta) (l:List Rt):VSta:=upto (openR l) s l.length
def knownR (t:List Nod) (l:List Req) (i:Nat) (o:List Req):List Req:=if 0≤findT t (reqA l i).block then o++[reqA l i]else o
def knownL (t:List Nod) (l:List Req):List Req:=upto (knownR t l) [] l.length
def dropS (s:VSta):VSta:=⟨s.sto,knownL s.sto.nodes s.reqs,knownL s.sto.nodes s.rets,s.tag,s.sent,s.last,s.over,s.halt⟩
def delayG (b:Int):Nat→Int→Int
 | 0,d=>d
 | f+1,d=>if IntKind.u64.wrap (b-d)≤d then b else delayG b f (IntKind.u64.wrap (2*d))
def delayS (tries b:Int):Int:=if b=0 then 0 else delayG b (tries-1).toNat 1
def dueLt (a b:Req):Bool:=decide (a.due<b.due) || (decide (a.due=b.due)&&decide (a.tag<b.tag))
def sinkG (l:List Req):Nat→List Req
 | 0=>l
 | k+1=>if dueLt (reqA l (k+1)) (reqA l k)=true then sinkG ((l.set (k+1) (reqA l k)).set k (reqA l (k+1))) k else l
def laterR (s:VSta) (r:Req):Req:=⟨r.tag,r.block,IntKind.i64.wrap (r.tries+1),IntKind.u64.wrap (s.sto.now+delayS (IntKind.i64.wrap (r.tries+1)) s.sto.cfg.lim.backoff)⟩
def laterS (s:VSta) (r:Req):VSta:=
 if optS s.sto r.block=false then s else if s.sto.cfg.lim.retry≤s.rets.length then ⟨s.sto,s.reqs,s.rets,s.tag,s.sent,s.last,true,s.halt⟩
 else withY s (sinkG (s.rets++[laterR s r]) s.rets.length)
def dueR (l:List Req) (i:Nat) (s:VSta):VSta:=if s.sto.now<(reqA l i).due then withY s (s.rets++[reqA l i])else if optS s.sto (reqA l i).block=true then openS s (reqA l i).block (reqA l i).tries else s
def dueS (s:VSta):VSta:=upto (dueR s.rets) (withY s []) s.rets.length
def safeS (s:VSto):Rt:=if 0≤findT s.nodes s.j.rt∧(nod s.nodes (findT s.nodes s.j.rt).toNat).status=1 then s.j.rt else rt0
def cmdS (s:VSto):Cmd:=⟨(nod s.nodes (headT s).toNat).blk.root,safeS s,s.f.rt⟩
def emitS (s:VSta):VSta × List Cmd:=if s.sent=true∧s.last=cmdS s.sto then (s,[])else (⟨s.sto,s.reqs,s.rets,s.tag,true,cmdS s.sto,s.over,s.halt⟩,[cmdS s.sto])
def vsta0:VSta:=⟨vsto0,[],[],0,false,cmd0,false,false⟩
def beginS (c:VCfg):VSta × List Cmd × Int:=if newE c=0 then ((emitS ⟨newO c,[],[],1,false,cmd0,false,false⟩).1,(emitS ⟨newO c,[],[],1,false,cmd0,false,false⟩).2,0)else (vsta0,[],newE c)
def takeR (l:List Req) (i:Nat):List Req:=l.take i++l.drop (i+1)
def matchS (s:VSta) (v:Vdt):Req × VSta × Int:=match fstN (fun i=>decide ((reqA s.reqs i).tag=v.tag)) s.reqs.length with
 | some i=>(reqA s.reqs i,withR s (takeR s.reqs i),0)
 | none=>(req0,vsta0,23)
def boostV (s:VSto):VSto:=if 0≤findT s.nodes s.boost∧(nod s.nodes (findT s.nodes s.boost).toNat).status=2 then withB s rt0 else s
def judgeV (s:VSto) (r:Rt) (v:Vdt):List Nod × Int:=judgeT s.nodes (findT s.nodes r) v [findT s.nodes s.j.rt,findT s.nodes s.f.rt]
def verdS (s:VSta) (v:Vdt):VSta × Int:=
 if (matchS s v).2.2≠0 then (s,(matchS s v).2.2)else if v.kind=3∨v.kind=4 then (laterS (matchS s v).2.1 (matchS s v).1,0)
 else if (judgeV (matchS s v).2.1.sto (matchS s v).1.block v).2≠0 then (⟨s.sto,s.reqs,s.rets,s.tag,s.sent,s.last,s.over,true⟩,21)
 else (withS (matchS s v).2.1 (boostV (withN (matchS s v).2.1.sto (judgeV (matchS s v).2.1.sto (matchS s v).1.block v).1)),0)
def perfS (s:VSta) (x:VOp):VSta × Int:=
 if x.kind=1 then (if (tickS s.sto).2=0 then (dueS (dropS (withS s (tickS s.sto).1)),0)else (withS s (tickS s.sto).1,(tickS s.sto).2))
 else if x.kind=2 then (if (blockS s.sto x.blk).2.2=0 then (opensS (dropS (withS s (blockS s.sto x.blk).1)) (blockS s.sto x.blk).2.1,0)else (withS s (blockS s.sto x.blk).1,(blockS s.sto x.blk).2.2))
 else if x.kind=3 then (withS s (attS s.sto x.att).1,(attS s.sto x.att).2)else if x.kind=4 then (withS s (slashS s.sto x.slg).1,(slashS s.sto x.slg).2)
 else if x.kind=5 then (withS s (regS s.sto x.tab).1,(regS s.sto x.tab).2)else if x.kind=6 then verdS s x.vdt else (s,2)
def toV (x:VOp):OpV:=⟨x.kind,x.blk,(x.att.slot,x.att.root,x.att.target,x.att.vals),((x.slg.fst.src,x.slg.fst.tgt,x.slg.fst.root,x.slg.fst.vals),(x.slg.snd.src,x.slg.snd.tgt,x.slg.snd.root,x.slg.snd.vals)),(x.tab.cp,x.tab.bals),x.vdt,x.write,x.keep⟩
def stepS (s:VSta) (x:VOp):VSta × List Cmd × Int:=
 if s.halt=true then (s,[],22)else if vOp (toV x)≠0 then (s,[],vOp (toV x))
 else if (perfS s x).2=21 then ((perfS s x).1,[],21)else if (perfS s x).2≠0 then (s,[],(perfS s x).2)
 else ((emitS (perfS s x).1).1,(emitS (perfS s x).1).2,0)
end Go.Proofs.YtipiipgpnkpejaaGreat
namespace Go.Proofs.YtipiipgpnkpejaaGreat
open Go Go.FH Go.RowKit
set_option linter.unusedVariables false
set_option linter.unusedSimpArgs false
set_option maxRecDepth 8000
set_option maxHeartbeats 4000000

theorem Cj_ (s:VSto) (h:StR s) (a b j0 f0:Cp) (R:Bool) (hR:R=mayS s a b):Tri Tryz.prog 118 0 (aN_.tl 4) (PQ [.cell 6 true 33,.cell 7 true 33,.tmp 8] (.tup [.agg (cpC (bif R then a else cp0)),.agg (cpC (bif R then b else cp0)),.bool R])) ⟨13,[.agg (stoC s.a),.agg (cpC j0),.agg (cpC f0),.ptr 0 0,.ptr 1 0,.ptr 2 0,.ptr 3 0,.ptr 4 0,.bool false,.ptr 5 0,.ptr 6 0,.dead,.dead],[]⟩ [.var (stoC s.a),.var (cpC j0),.var (cpC f0),.var (cpC cp0),.var (cpC cp0),.var (cpC a),.var (cpC b)]:=by
 unfold aN_;refine bd ?_
 simp only[ACode.tl]
 have c1:=aS_ s.nodes a.rt h.bn
 have c2:=aS_ s.nodes b.rt h.bn
 have b1:=bN_ s.nodes a.rt
 have b2:=bN_ s.nodes b.rt
 unfold mayS at hR
 generalize findT s.nodes a.rt=I at *
 generalize findT s.nodes b.rt=K at *
 try refine aa_ ?_
 refine dpcall (c1) ?_
 try refine aa_ ?_
 refine dpcall (c2) ?_
 by_cases q1:I<0
 · have e1:decide (I<0)=true:=decide_eq_true q1
   rw[decide_eq_false (show ¬ 0≤I by omega)]at hR
   obtain rfl:R=false:=hR
   repeat(first | refine aa_ ?_ | simp only[go_sem,e1])
   refine ac_ ?_
   try refine aa_ ?_
   exact fin0
 have e1:decide (I<0)=false:=decide_eq_false q1
 rw[decide_eq_true (show 0≤I by omega)]at hR
 by_cases q2:K<0
 · have e2:decide (K<0)=true:=decide_eq_true q2
   rw[decide_eq_false (show ¬ 0≤K by omega)]at hR
   obtain rfl:R=false:=hR
   repeat(first | refine aa_ ?_ | simp only[go_sem,e1,e2])
   refine ac_ ?_
   try refine aa_ ?_
   exact fin0
 have e2:decide (K<0)=false:=decide_eq_false q2
 rw[decide_eq_true (show 0≤K by omega)]at hR
 have hg1:=aW_ (t:=s.nodes) (i:=I.toNat) (by omega)
 have hg2:=aW_ (t:=s.nodes) (i:=K.toNat) (by omega)
 by_cases q3:(nod s.nodes I.toNat).status=2
 · have e3:((nod s.nodes I.toNat).status==2)=true:=by simp[q3]
   rw[decide_eq_false (show ¬ (nod s.nodes I.toNat).status≠2 by simp[q3])]at hR
   obtain rfl:R=false:=hR
   repeat(first | refine aa_ ?_ | simp only[go_sem,e1,e2,hg1,hg2,e3])
   refine ac_ ?_
   try refine aa_ ?_
   exact fin0
 have e3:((nod s.nodes I.toNat).status==2)=false:=by simp[q3]
 rw[decide_eq_true (show (nod s.nodes I.toNat).status≠2 from q3)]at hR
 by_cases q4:(nod s.nodes K.toNat).status=2
 · have e4:((nod s.nodes K.toNat).status==2)=true:=by simp[q4]
   rw[decide_eq_false (show ¬ (nod s.nodes K.toNat).status≠2 by simp[q4])]at hR
   obtain rfl:R=false:=hR
   repeat(first | refine aa_ ?_ | simp only[go_sem,e1,e2,e3,hg1,hg2,e4])
   refine ac_ ?_
   try refine aa_ ?_
   exact fin0
 have e4:((nod s.nodes K.toNat).status==2)=false:=by simp[q4]
 rw[decide_eq_true (show (nod s.nodes K.toNat).status≠2 from q4)]at hR
 repeat(first | refine aa_ ?_ | simp only[go_sem,e1,e2,e3,e4,hg1,hg2])
 have k4:=nD_ s I a.ep (by omega) (by omega)
 generalize earlyS s I a.ep=V4 at *
 refine dpcall (k4) ?_
 cases V4 with
 | false =>
   obtain rfl:R=false:=hR
   try refine aa_ ?_
   refine ac_ ?_
   try refine aa_ ?_
   exact fin0
 | true =>
   repeat(first | refine aa_ ?_ | simp only[go_sem,e1,e2,e3,e4,hg1,hg2])
   have k5:=nD_ s K b.ep (by omega) (by omega)
   generalize earlyS s K b.ep=V5 at *
   refine dpcall (k5) ?_
   cases V5 with
   | false =>
     obtain rfl:R=false:=hR
     try refine aa_ ?_
     refine ac_ ?_
     try refine aa_ ?_
     exact fin0
   | true =>
     repeat(first | refine aa_ ?_ | simp only[go_sem,e1,e2,e3,e4,hg1,hg2])
     have k6:=jV_ s.nodes h.tree.ok h.bn K I
     generalize ancT s.nodes K I=V6 at *
     refine dpcall (k6) ?_
     cases V6 with
     | false =>
       obtain rfl:R=false:=hR
       try refine aa_ ?_
       refine ac_ ?_
       try refine aa_ ?_
       exact fin0
     | true =>
       by_cases q8:a.ep<b.ep
       · have e8:decide (a.ep<b.ep)=true:=decide_eq_true q8
         rw[decide_eq_false (show ¬ b.ep≤a.ep by omega)]at hR
         obtain rfl:R=false:=hR
         repeat(first | refine aa_ ?_ | simp only[go_sem,e1,e2,e3,e4,hg1,hg2,e8])
         refine ac_ ?_
         try refine aa_ ?_
         exact fin0
       have e8:decide (a.ep<b.ep)=false:=decide_eq_false q8
       rw[decide_eq_true (show b.ep≤a.ep by omega)]at hR
       repeat(first | refine aa_ ?_ | simp only[go_sem,e1,e2,e3,e4,e8,hg1,hg2])
       have k8:=bQ_ s s.now h.spe
       generalize epochT s s.now=E at *
       refine dpcall (k8) ?_
       by_cases q9:E<a.ep
       · have e9:decide (E<a.ep)=true:=decide_eq_true q9
         rw[decide_eq_false (show ¬ a.ep≤E by omega)]at hR
         obtain rfl:R=false:=hR
         repeat(first | refine aa_ ?_ | simp only[go_sem,e1,e2,e3,e4,e8,hg1,hg2,e9])
         refine ac_ ?_
         try refine aa_ ?_
         exact fin0
       have e9:decide (E<a.ep)=false:=decide_eq_false q9
       rw[decide_eq_true (show a.ep≤E by omega)]at hR
       repeat(first | refine aa_ ?_ | simp only[go_sem,e1,e2,e3,e4,e8,e9,hg1,hg2])
       have k9:=gj_ s.tabs a h.bt
       generalize findTab s.tabs a=F at *
       refine dpcall (k9) ?_
       by_cases q10:F<0
       · have e10:decide (F<0)=true:=decide_eq_true q10
         rw[decide_eq_false (show ¬ 0≤F by omega)]at hR
         obtain rfl:R=false:=hR
         repeat(first | refine aa_ ?_ | simp only[go_sem,e1,e2,e3,e4,e8,e9,hg1,hg2,e10])
         refine ac_ ?_
         try refine aa_ ?_
         exact fin0
       have e10:decide (F<0)=false:=decide_eq_false q10
       rw[decide_eq_true (show 0≤F by omega)]at hR
       obtain rfl:R=true:=hR
       repeat(first | refine aa_ ?_ | simp only[go_sem,e1,e2,e3,e4,e8,e9,e10,hg1,hg2])
       refine ab_ ?_
       try refine aa_ ?_
       exact fin0
theorem Al_ (s:VSto) (h:StR s) (j f:Cp):PC Tryz.prog 168 [.agg (stoC s.a),.agg (cpC j),.agg (cpC f)] (.tup [.agg (cpC (bif mayS s (maxC s.j j) (maxC s.f f)then maxC s.j j else cp0)),.agg (cpC (bif mayS s (maxC s.j j) (maxC s.f f)then maxC s.f f else cp0)),.bool (mayS s (maxC s.j j) (maxC s.f f))]):=by
 have tl:=Cj_ s h (maxC s.j j) (maxC s.f f) j f _ rfl
 refine PC.fact 13 ku_ (by simp) puA puA ?_
 have hc:aN_=.seq aN_.hd (.seq (aN_.tl 1).hd (.seq (aN_.tl 2).hd (.seq (aN_.tl 3).hd (aN_.tl 4)))):=rfl
 rw[hc];clear hc
 generalize aN_.tl 4=cT at *
 unfold aN_;refine bd ?_
 simp only[ACode.tl,ACode.hd]
 have m1:maxC s.j j=if s.j.ep<j.ep then j else s.j:=rfl
 have m2:maxC s.f f=if s.f.ep<f.ep then f else s.f:=rfl
 by_cases q1:s.j.ep<j.ep
 · have e1:decide (s.j.ep<j.ep)=true:=decide_eq_true q1
   rw[if_pos q1]at m1
   by_cases q2:s.f.ep<f.ep
   · have e2:decide (s.f.ep<f.ep)=true:=decide_eq_true q2
     rw[if_pos q2]at m2
     rw[m1,m2]at tl ⊢
     repeat(first | refine aa_ ?_ | simp only[go_sem,e1])
     refine ac_ ?_
     repeat(first | refine aa_ ?_ | simp only[go_sem,e2])
     refine ac_ ?_
     try refine aa_ ?_
     refine ck_ ?_ tl
     refine GC.mk' [] [0,1,2,3,4,5,6] (by simp) rfl (by simp) (by simp) evd evd
   · have e2:decide (s.f.ep<f.ep)=false:=decide_eq_false q2
     rw[if_neg q2]at m2
     rw[m1,m2]at tl ⊢
     repeat(first | refine aa_ ?_ | simp only[go_sem,e1])
     refine ac_ ?_
     repeat(first | refine aa_ ?_ | simp only[go_sem,e2])
     refine ab_ ?_
     try refine aa_ ?_
     refine ck_ ?_ tl
     refine GC.mk' [] [0,1,2,3,4,5,6] (by simp) rfl (by simp) (by simp) evd evd
 · have e1:decide (s.j.ep<j.ep)=false:=decide_eq_false q1
   rw[if_neg q1]at m1
   by_cases q2:s.f.ep<f.ep
   · have e2:decide (s.f.ep<f.ep)=true:=decide_eq_true q2
     rw[if_pos q2]at m2
     rw[m1,m2]at tl ⊢
     repeat(first | refine aa_ ?_ | simp only[go_sem,e1])
     refine ab_ ?_
     repeat(first | refine aa_ ?_ | simp only[go_sem,e2])
     refine ac_ ?_
     try refine aa_ ?_
     refine ck_ ?_ tl
     refine GC.mk' [] [0,1,2,3,4,5,6] (by simp) rfl (by simp) (by simp) evd evd
   · have e2:decide (s.f.ep<f.ep)=false:=decide_eq_false q2
     rw[if_neg q2]at m2
     rw[m1,m2]at tl ⊢
     repeat(first | refine aa_ ?_ | simp only[go_sem,e1])
     refine ab_ ?_
     repeat(first | refine aa_ ?_ | simp only[go_sem,e2])
     refine ab_ ?_
     try refine aa_ ?_
     refine ck_ ?_ tl
     refine GC.mk' [] [0,1,2,3,4,5,6] (by simp) rfl (by simp) (by simp) evd evd

theorem zzf_ (σ:St) (zs:List Nat) (l:List Cp):fzLL σ zs (rows cpC l)=rows cpC l:=PuLL.fz σ zs (aQ_ fun x _=>cH_ x)
theorem zzr_ (ρ:Nat→Nat) (l:List Cp):renLL ρ (rows cpC l)=rows cpC l:=PuLL.ren ρ (aQ_ fun x _=>cH_ x)
attribute[local go_sem] zzf_ zzr_
theorem Av_ (s:VSto) (b:Blk) (h:StR s):PC Tryz.prog 175 [.agg (stoC s.a),.agg (blkC b)] (.bool (fitsS s b)):=by
 refine PC.fact 12 te_ (by simp) puA puA ?_
 unfold jM_;refine bd ?_
 have c1:=aS_ s.nodes b.parent h.bn
 have c2:=tv_ s b h.spe
 unfold fitsS
 generalize findT s.nodes b.parent=P at *
 generalize ordS s b=O at *
 obtain⟨R,hR2⟩:∃ R,R=(fstN (fun k=>!fitC s b P ((cps b).getD k cp0)) 4).isNone:=⟨_,rfl⟩
 rw[← hR2]
 try refine aa_ ?_
 refine pcall c1 ?_
 try refine aa_ ?_
 by_cases q1:P<0
 · have e1:decide (P<0)=true:=decide_eq_true q1
   rw[decide_eq_false (show ¬ 0≤P by omega)]
   repeat(first | refine aa_ ?_ | simp only[go_sem,e1])
   refine ac_ ?_
   try refine aa_ ?_
   exact fin0
 have e1:decide (P<0)=false:=decide_eq_false q1
 rw[decide_eq_true (show 0≤P by omega)]
 repeat(first | refine aa_ ?_ | simp only[go_sem,e1])
 refine ab_ ?_
 try refine aa_ ?_
 refine pcall c2 ?_
 cases O with
 | false =>
   try refine aa_ ?_
   refine ac_ ?_
   try refine aa_ ?_
   exact fin0
 | true =>
   try refine aa_ ?_
   have hrc:[cpC b.just,cpC b.fin,cpC b.pul.j,cpC b.pul.f]=rows cpC (cps b):=rfl
   refine ab_ ?_
   repeat(first | refine aa_ ?_ | simp only[go_sem,hrc])
   refine au_ (fun i:Nat=>[(7,.int .i64 i)]) (fun _=>[.var (stoC s.a),.var (blkC b)]) (fun i=>4-i) (fun i=>i≤4∧R=(fstG (fun k=>!fitC s b P ((cps b).getD k cp0)) (4-i) i).isNone) 0 ⟨Nat.zero_le _,hR2⟩ ?_ ?_
   · refine GC.mk' [] [0,1] (by simp) rfl (by simp) (by simp) evd evd
   clear hR2
   rintro i ⟨hi,hn⟩
   rw[hn]
   (try simp only[as_,av_,List.set_cons_zero,List.set_cons_succ])
   by_cases h1:i<4
   · have e1:decide ((i:Int)<((4:Nat):Int))=true:=decide_eq_true (by omega)
     have hw:=af_ h1 (by omega)
     have hgd:(rows cpC (cps b)).getD i []=cpC ((cps b).getD i cp0):=bl_ (f:=cpC) cp0 (by exact h1)
     have hlen:(cps b).length=4:=rfl
     have e1':decide ((i:Int)<4)=true:=decide_eq_true (by omega)
     have hfit:fitC s b P ((cps b).getD i cp0)=(decide (((cps b).getD i cp0).ep≤s.f.ep) || (if (startS s ((cps b).getD i cp0).ep).1<b.slot then decide (0≤atT s.nodes P (startS s ((cps b).getD i cp0).ep).1)&&decide ((nod s.nodes (atT s.nodes P (startS s ((cps b).getD i cp0).ep).1).toNat).blk.root=((cps b).getD i cp0).rt)else decide (b.root=((cps b).getD i cp0).rt))):=rfl
     have hT:fitC s b P ((cps b).getD i cp0)=true→(fstG (fun k=>!fitC s b P ((cps b).getD k cp0)) (4-i) i)=fstG (fun k=>!fitC s b P ((cps b).getD k cp0)) (4-(i+1)) (i+1):=fun hv=>hm_ h1 (by show (!fitC s b P ((cps b).getD i cp0))=false;rw[hv];rfl)
     have hF:fitC s b P ((cps b).getD i cp0)=false→(fstG (fun k=>!fitC s b P ((cps b).getD k cp0)) (4-i) i).isNone=false:=fun hv=>by rw[hw_ h1 (by show (!fitC s b P ((cps b).getD i cp0))=true;rw[hv];rfl)];rfl
     have c3:=dH_ s ((cps b).getD i cp0).ep
     generalize fstG (fun k=>!fitC s b P ((cps b).getD k cp0)) (4-i) i=X at *
     generalize hX2:fstG (fun k=>!fitC s b P ((cps b).getD k cp0)) (4-(i+1)) (i+1)=X2 at *
     generalize (cps b).getD i cp0=c at *
     generalize fitC s b P c=V at *
     generalize startS s c.ep=st at *
     obtain⟨st1,st2⟩:=st
     dsimp only at c3 hfit
     have c4:=tI_ s.nodes h.tree.ok h.bn P st1
     have b4:=Cv_ h.tree.ok P st1
     generalize atT s.nodes P st1=A at *
     repeat(first | refine aa_ ?_ | simp only[go_sem,e1,e1',hlen])
     refine ac_ ?_
     repeat(first | refine aa_ ?_ | simp only[go_sem,hgd,hlen])
     by_cases q2:c.ep≤s.f.ep
     · have e2:decide (c.ep≤s.f.ep)=true:=decide_eq_true q2
       rw[e2]at hfit
       rw[hT hfit]
       repeat(first | refine aa_ ?_ | simp only[go_sem,e2])
       refine ac_ ?_
       repeat(first | refine aa_ ?_ | simp only[go_sem,hw])
       refine⟨i+1,⟨h1,by rw[← hX2];rfl⟩,by omega,?_⟩
       refine GC.mk' [] [0,1] (by simp) rfl (by simp) (by simp) evd evd
     have e2:decide (c.ep≤s.f.ep)=false:=decide_eq_false q2
     rw[e2,Bool.false_or]at hfit
     repeat(first | refine aa_ ?_ | simp only[go_sem,e2])
     refine ab_ ?_
     repeat(first | refine aa_ ?_ | simp only[go_sem,hgd,hlen])
     refine dpcall (c3) ?_
     try refine aa_ ?_
     by_cases q3:st1<b.slot
     · have e3:decide (st1<b.slot)=true:=decide_eq_true q3
       rw[if_pos q3]at hfit
       repeat(first | refine aa_ ?_ | simp only[go_sem,e3])
       refine ac_ ?_
       try refine aa_ ?_
       refine pcall c4 ?_
       try refine aa_ ?_
       by_cases q4:A<0
       · have e4:decide (A<0)=true:=decide_eq_true q4
         rw[decide_eq_false (show ¬ 0≤A by omega)]at hfit
         rw[hF hfit]
         repeat(first | refine aa_ ?_ | simp only[go_sem,e4])
         refine ac_ ?_
         try refine aa_ ?_
         exact fin0
       have e4:decide (A<0)=false:=decide_eq_false q4
       rw[decide_eq_true (show 0≤A by omega),Bool.true_and]at hfit
       have hgn:=aW_ (t:=s.nodes) (i:=A.toNat) (by omega)
       repeat(first | refine aa_ ?_ | simp only[go_sem,e4])
       refine ab_ ?_
       repeat(first | refine aa_ ?_ | simp only[go_sem,hgn,hgd,hlen])
       by_cases q5:(nod s.nodes A.toNat).blk.root=c.rt
       · have e5:decide ((nod s.nodes A.toNat).blk.root=c.rt)=true:=decide_eq_true q5
         rw[e5]at hfit
         rw[hT hfit]
         repeat(first | refine aa_ ?_ | simp only[go_sem,e5])
         refine ab_ ?_
         repeat(first | refine aa_ ?_ | simp only[go_sem,hw])
         refine⟨i+1,⟨h1,by rw[← hX2];rfl⟩,by omega,?_⟩
         refine GC.mk' [] [0,1] (by simp) rfl (by simp) (by simp) evd evd
       · have e5:decide ((nod s.nodes A.toNat).blk.root=c.rt)=false:=decide_eq_false q5
         rw[e5]at hfit
         rw[hF hfit]
         repeat(first | refine aa_ ?_ | simp only[go_sem,e5])
         refine ac_ ?_
         try refine aa_ ?_
         exact fin0
     · have e3:decide (st1<b.slot)=false:=decide_eq_false q3
       rw[if_neg q3]at hfit
       repeat(first | refine aa_ ?_ | simp only[go_sem,e3])
       refine ab_ ?_
       repeat(first | refine aa_ ?_ | simp only[go_sem,hgd,hlen])
       by_cases q5:b.root=c.rt
       · have e5:decide (b.root=c.rt)=true:=decide_eq_true q5
         rw[e5]at hfit
         rw[hT hfit]
         repeat(first | refine aa_ ?_ | simp only[go_sem,e5])
         refine ab_ ?_
         repeat(first | refine aa_ ?_ | simp only[go_sem,hw])
         refine⟨i+1,⟨h1,by rw[← hX2];rfl⟩,by omega,?_⟩
         refine GC.mk' [] [0,1] (by simp) rfl (by simp) (by simp) evd evd
       · have e5:decide (b.root=c.rt)=false:=decide_eq_false q5
         rw[e5]at hfit
         rw[hF hfit]
         repeat(first | refine aa_ ?_ | simp only[go_sem,e5])
         refine ac_ ?_
         try refine aa_ ?_
         exact fin0
   · obtain rfl:i=4:=by omega
     have e1:decide (((4:Nat):Int)<((4:Nat):Int))=false:=decide_eq_false (by omega)
     have hz:fstG (fun k=>!fitC s b P ((cps b).getD k cp0)) (4-4) 4=none:=hc_ _ 4
     rw[hz]
     have hlen:(cps b).length=4:=rfl
     repeat(first | refine aa_ ?_ | simp only[go_sem,e1,hlen])
     refine ab_ ?_
     try refine aa_ ?_
     exact fin0
theorem lN_ (s:VSto) (b:Blk) (h:StR s):PC Tryz.prog 153 [.agg (stoC s.a),.agg (blkC b)] (.int .i64 (checkB s b)):=by
 refine PC.fact 87 jz_ (by simp) puA puA ?_
 unfold eP_;refine bd ?_
 have c1:=dH_ s s.f.ep
 have c2:=xn_ s b.root h
 have c3:=aS_ s.nodes b.parent h.bn
 have c4:=Av_ s b h
 have b3:=bN_ s.nodes b.parent
 obtain⟨R,hc⟩:∃ R,R=checkB s b:=⟨_,rfl⟩
 rw[← hc]
 unfold checkB at hc
 generalize startS s s.f.ep=st at *
 obtain⟨st1,st2⟩:=st
 dsimp only at c1 hc
 generalize knownS s b.root=N at *
 generalize findT s.nodes b.parent=P at *
 generalize fitsS s b=T at *
 try refine aa_ ?_
 refine pcall c1 ?_
 try refine aa_ ?_
 by_cases q1:b.root=rt0
 · have e1:decide (b.root=rt0)=true:=decide_eq_true q1
   rw[if_pos q1]at hc
   subst hc
   repeat(first | refine aa_ ?_ | simp only[go_sem,e1])
   refine ac_ ?_
   try refine aa_ ?_
   exact fin0
 have e1:decide (b.root=rt0)=false:=decide_eq_false q1
 rw[if_neg q1]at hc
 repeat(first | refine aa_ ?_ | simp only[go_sem,e1])
 refine ab_ ?_
 try refine aa_ ?_
 refine pcall c2 ?_
 cases N with
 | true =>
   rw[if_pos rfl]at hc
   subst hc
   try refine aa_ ?_
   refine ac_ ?_
   try refine aa_ ?_
   exact fin0
 | false =>
   rw[if_neg (by simp)]at hc
   try refine aa_ ?_
   refine ab_ ?_
   try refine aa_ ?_
   by_cases q3:s.now<b.slot
   · have e3:decide (s.now<b.slot)=true:=decide_eq_true q3
     rw[if_pos q3]at hc
     subst hc
     repeat(first | refine aa_ ?_ | simp only[go_sem,e3])
     refine ac_ ?_
     try refine aa_ ?_
     exact fin0
   have e3:decide (s.now<b.slot)=false:=decide_eq_false q3
   rw[if_neg q3]at hc
   repeat(first | refine aa_ ?_ | simp only[go_sem,e3])
   refine ab_ ?_
   try refine aa_ ?_
   by_cases q4:b.slot≤st1
   · have e4:decide (b.slot≤st1)=true:=decide_eq_true q4
     rw[if_pos q4]at hc
     subst hc
     repeat(first | refine aa_ ?_ | simp only[go_sem,e4])
     refine ac_ ?_
     try refine aa_ ?_
     exact fin0
   have e4:decide (b.slot≤st1)=false:=decide_eq_false q4
   rw[if_neg q4]at hc
   repeat(first | refine aa_ ?_ | simp only[go_sem,e4])
   refine ab_ ?_
   try refine aa_ ?_
   refine pcall c3 ?_
   try refine aa_ ?_
   by_cases q5:P<0
   · have e5:decide (P<0)=true:=decide_eq_true q5
     rw[if_pos q5]at hc
     subst hc
     repeat(first | refine aa_ ?_ | simp only[go_sem,e5])
     refine ac_ ?_
     try refine aa_ ?_
     exact fin0
   have e5:decide (P<0)=false:=decide_eq_false q5
   rw[if_neg q5]at hc
   have hg:=aW_ (t:=s.nodes) (i:=P.toNat) (by omega)
   repeat(first | refine aa_ ?_ | simp only[go_sem,e5])
   refine ab_ ?_
   repeat(first | refine aa_ ?_ | simp only[go_sem,hg])
   by_cases q6:b.slot≤(nod s.nodes P.toNat).blk.slot
   · have e6:decide (b.slot≤(nod s.nodes P.toNat).blk.slot)=true:=decide_eq_true q6
     rw[if_pos q6]at hc
     subst hc
     repeat(first | refine aa_ ?_ | simp only[go_sem,e6])
     refine ac_ ?_
     try refine aa_ ?_
     exact fin0
   have e6:decide (b.slot≤(nod s.nodes P.toNat).blk.slot)=false:=decide_eq_false q6
   rw[if_neg q6]at hc
   repeat(first | refine aa_ ?_ | simp only[go_sem,e6])
   refine ab_ ?_
   repeat(first | refine aa_ ?_ | simp only[go_sem,hg])
   by_cases q7:(nod s.nodes P.toNat).status=2
   · have e7:((nod s.nodes P.toNat).status==2)=true:=by simp[q7]
     rw[if_pos q7]at hc
     subst hc
     repeat(first | refine aa_ ?_ | simp only[go_sem,e7])
     refine ac_ ?_
     try refine aa_ ?_
     exact fin0
   have e7:((nod s.nodes P.toNat).status==2)=false:=by simp[q7]
   rw[if_neg q7]at hc
   repeat(first | refine aa_ ?_ | simp only[go_sem,e7])
   refine ab_ ?_
   repeat(first | refine aa_ ?_ | simp only[go_sem,hg])
   refine pcall c4 ?_
   cases T with
   | false =>
     rw[if_pos rfl]at hc
     subst hc
     try refine aa_ ?_
     refine ac_ ?_
     try refine aa_ ?_
     exact fin0
   | true =>
     rw[if_neg (by simp)]at hc
     have c5:=xw_ s.cfg.ttd (nod s.nodes P.toNat).blk b
     generalize fitsM s.cfg.ttd (nod s.nodes P.toNat).blk b=M at *
     try refine aa_ ?_
     refine ab_ ?_
     repeat(first | refine aa_ ?_ | simp only[go_sem,hg])
     refine dpcall (c5) ?_
     cases M with
     | false =>
       rw[if_pos rfl]at hc
       subst hc
       try refine aa_ ?_
       refine ac_ ?_
       try refine aa_ ?_
       exact fin0
     | true =>
       rw[if_neg (by simp)]at hc
       try refine aa_ ?_
       refine ab_ ?_
       try refine aa_ ?_
       by_cases q8:s.cfg.lim.node≤(s.nodes.length:Int)
       · have e8:decide ((s.nodes.length:Int) ≥ s.cfg.lim.node)=true:=decide_eq_true q8
         have e9:decide (s.cfg.lim.node≤(s.nodes.length:Int))=true:=decide_eq_true q8
         rw[if_pos q8]at hc
         subst hc
         repeat(first | refine aa_ ?_ | simp only[go_sem,e8,e9])
         refine ac_ ?_
         try refine aa_ ?_
         exact fin0
       · have e8:decide ((s.nodes.length:Int) ≥ s.cfg.lim.node)=false:=decide_eq_false q8
         have e9:decide (s.cfg.lim.node≤(s.nodes.length:Int))=false:=decide_eq_false q8
         rw[if_neg q8]at hc
         subst hc
         repeat(first | refine aa_ ?_ | simp only[go_sem,e8,e9])
         refine ab_ ?_
         try refine aa_ ?_
         exact fin0

theorem ij_ (l:List Blk) (a:Int):∀ k,(upto (keepS l a) [] k).length≤k
 | 0=>Nat.le_refl _
 | k + 1 => by
   rw[aX_]
   have h1:=ij_ l a k
   unfold keepS at *
   split
   · simp only[List.length_append,List.length_cons,List.length_nil];omega
   · omega
theorem gn_ (l:List VTab) (e:Int):∀ t ∈ dropTabs l e,t ∈ l:=by
 unfold dropTabs
 refine dC_ (f:=fun i o=>if e≤(tab l i).cp.ep then o++[tab l i]else o) (a:=[]) (fun _ o=>∀ t ∈ o,t ∈ l) (by simp) l.length (fun i o hi ho=>?_) _ (Nat.le_refl _)
 split
 · intro t ht
   rw[List.mem_append,List.mem_singleton]at ht
   rcases ht with ht | rfl
   · exact ho t ht
   · unfold tab;rw[List.getD_eq_getElem?_getD,List.getElem?_eq_getElem hi];exact List.getElem_mem hi
 · exact ho
theorem gv_ (l:List VTab) (e:Int):(dropTabs l e).length≤l.length:=by
 have:=dM_ (f:=fun i o=>if e≤(tab l i).cp.ep then o++[tab l i]else o) (a:=([]:List VTab)) (fun i o=>by split<;>simp) l.length
 unfold dropTabs
 simpa using this
theorem xR_ {s:VSto}{a b:Cp}(h:mayS s a b=true):0≤findT s.nodes a.rt∧0≤findT s.nodes b.rt∧ancT s.nodes (findT s.nodes b.rt) (findT s.nodes a.rt)=true:=by
 unfold mayS at h
 simp only[Bool.and_eq_true,decide_eq_true_eq]at h
 exact⟨h.1.1.1.1.1.1.1.1.1,h.1.1.1.1.1.1.1.1.2,h.1.1.1.2⟩
theorem StR.upd {s:VSto}(h:StR s) (j f:Cp):StR (updS s j f):=by
 unfold updS
 split
 · exact h
 · rename_i hm
   have hm:mayS s (maxC s.j j) (maxC s.f f)=true:=by simpa using hm
   obtain⟨h1,h2,h3⟩:=xR_ hm
   have hd:=gv_ s.tabs (maxC s.j j).ep
   have hb:∀ t ∈ dropTabs s.tabs (maxC s.j j).ep,t.bals.length≤1000000:=fun t ht=>h.bb t (gn_ _ _ t ht)
   split
   · exact⟨h.tree,h.spe,h.bn,h.bl,h.be,Nat.le_trans hd h.bt,hb,h.bo,h.ba,h.nl,h.ll,h1⟩
   · have hf:=kx_ h2
     have hl:=jH_ h.tree (findT s.nodes (maxC s.f f).rt)
     refine⟨h.tree.prune h2 (by omega),h.spe,Nat.le_trans hl h.bn,h.bl,h.be,Nat.le_trans hd h.bt,hb,Nat.le_trans (ij_ _ _ _) h.bo,h.ba,h.nl,h.ll,?_⟩
     exact uc_ h.tree h1 h3
def keepT (l:List Blk) (a:Int) (k:Nat):List Blk:=upto (keepS l a) [] k
theorem DE_ (l:List Blk) (a:Int) (k:Nat):keepT l a (k+1)=keepS l a k (keepT l a k):=rfl
theorem Ed_ (s:VSto) (j f a b:Cp) (T1:List Nod) (r:Rt) (D:List VTab) (hbo:s.orph.length≤1000000):
   Tri Tryz.prog 104 0 (aG_.tl 9) (PQ [.cell 6 true 150] (.agg (stoC (⟨s.cfg,s.latest,s.eqv,a,b,s.early,keepT s.orph (startS s b.ep).1 s.orph.length,T1,s.now,r,D⟩:VSto).a)))
     ⟨15,[.agg (stoC s.a),.agg (cpC j),.agg (cpC f),.ptr 0 0,.ptr 1 0,.ptr 2 0,.ptr 3 0,.ptr 4 0,.ptr 5 0,.bool true,.bool true,.dead,.dead,.dead,.dead],[]⟩
     [.var (stoC (⟨s.cfg,s.latest,s.eqv,a,b,s.early,s.orph,T1,s.now,r,D⟩:VSto).a),.var (cpC j),.var (cpC f),.var (stoC sto0),.var (cpC a),.var (cpC b)]:=by
 unfold aG_;refine bd ?_
 simp only[ACode.tl]
 have c6:PC Tryz.prog 171 [.agg (stoC (⟨s.cfg,s.latest,s.eqv,a,b,s.early,s.orph,T1,s.now,r,D⟩:VSto).a),.int .u64 b.ep] (.tup [.int .u64 (startS s b.ep).1,.bool (startS s b.ep).2]):=dH_ ⟨s.cfg,s.latest,s.eqv,a,b,s.early,s.orph,T1,s.now,r,D⟩ b.ep
 generalize startS s b.ep=st at *
 obtain⟨st1,st2⟩:=st
 dsimp only at c6 ⊢
 try refine aa_ ?_
 refine pcall c6 ?_
 try refine aa_ ?_
 refine cF_ 13 238 ?_;simp only[go_sem]
 have hz:keepT s.orph st1 0=[]:=rfl
 refine au_ (fun i:Nat=>[(14,.int .i64 i),(13,.hs 238 6 0 (keepT s.orph st1 i).length)]) (fun i=>[.var (stoC (⟨s.cfg,s.latest,s.eqv,a,b,s.early,s.orph,T1,s.now,r,D⟩:VSto).a),.var (cpC j),.var (cpC f),.var (stoC sto0),.var (cpC a),.var (cpC b),.vec 238 (rows blkC (keepT s.orph st1 i))]) (fun i=>s.orph.length-i) (fun i=>i≤s.orph.length) 0 (Nat.zero_le _) ?_ ?_
 · rw[hz]
   refine GC.mk' [] [0,1,2,3,4,5,6] (by simp) rfl (by simp) (by simp) evd evd
 intro i hi
 (try simp only[as_,av_,List.set_cons_zero,List.set_cons_succ])
 by_cases h1:i<s.orph.length
 · have e1:decide ((i:Int)<((s.orph.length:Nat):Int))=true:=decide_eq_true (by omega)
   have hw:=af_ h1 (by omega)
   have hgd:(rows blkC s.orph).getD i []=blkC (blkA s.orph i):=bl_ (f:=blkC) blk0 h1
   have hs:=DE_ s.orph st1 i
   have hli:(keepT s.orph st1 i).length≤i:=ij_ s.orph st1 i
   generalize keepT s.orph st1 i=acc at *
   have hc:keepS s.orph st1 i acc=if st1<(blkA s.orph i).slot then acc++[blkA s.orph i]else acc:=rfl
   have hr:rows blkC acc++[blkC (blkA s.orph i)]=rows blkC (acc++[blkA s.orph i]):=bn_ blkC acc (blkA s.orph i)
   repeat(first | refine aa_ ?_ | simp only[go_sem,e1])
   refine ac_ ?_
   repeat(first | refine aa_ ?_ | simp only[go_sem,hgd])
   by_cases q:st1<(blkA s.orph i).slot
   · have e2:decide ((blkA s.orph i).slot > st1)=true:=decide_eq_true q
     have e3:decide (st1<(blkA s.orph i).slot)=true:=decide_eq_true q
     rw[if_pos q]at hc
     repeat(first | refine aa_ ?_ | simp only[go_sem,e2,e3])
     refine ac_ ?_
     repeat(first | refine aa_ ?_ | simp only[go_sem,hgd,hr,hw])
     refine⟨i+1,h1,by omega,?_⟩
     rw[hs,hc]
     refine GC.mk' [] [0,1,2,3,4,5,7] (by simp) rfl (by simp) (by simp) evd evd
   · have e2:decide ((blkA s.orph i).slot > st1)=false:=decide_eq_false q
     have e3:decide (st1<(blkA s.orph i).slot)=false:=decide_eq_false q
     rw[if_neg q]at hc
     repeat(first | refine aa_ ?_ | simp only[go_sem,e2,e3])
     refine ab_ ?_
     repeat(first | refine aa_ ?_ | simp only[go_sem,hw])
     refine⟨i+1,h1,by omega,?_⟩
     rw[hs,hc]
     refine GC.mk' [] [0,1,2,3,4,5,6] (by simp) rfl (by simp) (by simp) evd evd
 · obtain rfl:i=s.orph.length:=by omega
   have e1:decide (((s.orph.length:Nat):Int)<((s.orph.length:Nat):Int))=false:=decide_eq_false (by omega)
   generalize keepT s.orph st1 s.orph.length=acc
   have ht:List.take acc.length (rows blkC acc)=rows blkC acc:=List.take_of_length_le (by simp)
   repeat(first | refine aa_ ?_ | simp only[go_sem,e1])
   refine ab_ ?_
   repeat(first | refine aa_ ?_ | simp only[go_sem,ht])
   exact fin0
theorem oB_ (s:VSto) (j f:Cp) (h:StR s):PC Tryz.prog 147 [.agg (stoC s.a),.agg (cpC j),.agg (cpC f)] (.agg (stoC (updS s j f).a)):=by
 have tl:=Ed_ s j f
 refine PC.fact 15 nI_ (by simp) puA puA ?_
 have hc:aG_=.seq aG_.hd (.seq (aG_.tl 1).hd (.seq (aG_.tl 2).hd (.seq (aG_.tl 3).hd (.seq (aG_.tl 4).hd (.seq (aG_.tl 5).hd (.seq (aG_.tl 6).hd (.seq (aG_.tl 7).hd (.seq (aG_.tl 8).hd (aG_.tl 9))))))))):=rfl
 rw[hc];clear hc
 generalize aG_.tl 9=cT at *
 unfold aG_;refine bd ?_
 simp only[ACode.tl,ACode.hd]
 have c1:=Al_ s h j f
 obtain⟨U,hU⟩:∃ U,U=updS s j f:=⟨_,rfl⟩
 rw[← hU]
 unfold updS at hU
 generalize maxC s.j j=a at *
 generalize maxC s.f f=b at *
 generalize hm:mayS s a b=M at *
 try refine aa_ ?_
 refine pcall c1 ?_
 cases M with
 | false =>
   rw[if_pos rfl]at hU
   subst hU
   try refine aa_ ?_
   refine ac_ ?_
   try refine aa_ ?_
   exact fin0
 | true =>
   rw[if_neg (by simp)]at hU
   obtain⟨m1,m2,m3⟩:=xR_ hm
   have c2:=qw_ s.tabs a.ep h.bt
   generalize dropTabs s.tabs a.ep=D at *
   try refine aa_ ?_
   refine ab_ ?_
   try refine aa_ ?_
   refine pcall c2 ?_
   try refine aa_ ?_
   by_cases q:b=s.f
   · have e1:decide (b=s.f)=true:=decide_eq_true q
     rw[if_pos q]at hU
     subst hU
     repeat(first | refine aa_ ?_ | simp only[go_sem,e1])
     refine ac_ ?_
     try refine aa_ ?_
     exact fin0
   · have e1:decide (b=s.f)=false:=decide_eq_false q
     rw[if_neg q]at hU
     have hbd:=bN_ s.nodes b.rt
     have c3:=aS_ s.nodes b.rt h.bn
     have c4:=xH_ s.nodes h.tree.ok (findT s.nodes b.rt) h.bn (by simp only[isN,Bool.and_eq_true,decide_eq_true_eq];omega)
     have hl:=jH_ h.tree (findT s.nodes b.rt)
     have hbn:=h.bn
     have hbo:=h.bo
     generalize findT s.nodes b.rt=K at *
     generalize pruneT s.nodes K=T at *
     obtain⟨T1,T2⟩:=T
     dsimp only at hU c4 hl
     have c5:=aS_ T1 s.boost (by omega)
     generalize findT T1 s.boost=B at *
     have tl:=fun r=>tl a b T1 r D h.bo
     repeat(first | refine aa_ ?_ | simp only[go_sem,e1])
     refine ab_ ?_
     try refine aa_ ?_
     refine dpcall (c3) ?_
     try refine aa_ ?_
     refine dpcall (c4) ?_
     try refine aa_ ?_
     refine pcall c5 ?_
     try refine aa_ ?_
     by_cases q2:B<0
     · have e2:decide (B<0)=true:=decide_eq_true q2
       rw[if_pos q2]at hU
       subst hU
       repeat(first | refine aa_ ?_ | simp only[go_sem,e2])
       refine ac_ ?_
       try refine aa_ ?_
       refine ck_ ?_ (tl rt0)
       refine GC.mk' [] [0,1,2,3,4,5] (by simp) rfl (by simp) (by simp) evd evd
     · have e2:decide (B<0)=false:=decide_eq_false q2
       rw[if_neg q2]at hU
       subst hU
       repeat(first | refine aa_ ?_ | simp only[go_sem,e2])
       refine ab_ ?_
       try refine aa_ ?_
       refine ck_ ?_ (tl s.boost)
       refine GC.mk' [] [0,1,2,3,4,5] (by simp) rfl (by simp) (by simp) evd evd

theorem ur_ (n lo hi:Int):PC Tryz.prog 127 [.int .i64 n,.int .i64 lo,.int .i64 hi] (.bool (wit n lo hi)):=by
 refine PC.fact 7 oL_ (by simp) puA puA ?_
 unfold hj_;refine bd ?_
 unfold wit
 by_cases h0:lo≤n
 · have e0:decide (n ≥ lo)=true:=decide_eq_true h0
   have e1:decide (lo≤n)=true:=decide_eq_true h0
   repeat(first | refine aa_ ?_ | simp only[go_sem,e0,e1])
   exact fin0
 · have e0:decide (n ≥ lo)=false:=decide_eq_false h0
   have e1:decide (lo≤n)=false:=decide_eq_false h0
   repeat(first | refine aa_ ?_ | simp only[go_sem,e0,e1])
   exact fin0
theorem xv_ (s:VSto) (a:VAtt) (h:StR s) (N:Int) (R:Bool × Int)
   (hR:R=if findT s.nodes a.root<0∨findT s.nodes a.target.rt<0 then (false,10)else if a.slot<(nod s.nodes (findT s.nodes a.root).toNat).blk.slot then (false,14)
     else if atT s.nodes (findT s.nodes a.root) (startS s a.target.ep).1≠findT s.nodes a.target.rt then (false,19)else (decide (s.now≤a.slot),0)):
   Tri Tryz.prog 99 0 (ax_.tl 4) (PQ [.tmp 4,.tmp 5] (.tup [.bool R.1,.int .i64 R.2])) ⟨12,[.agg (stoC s.a),.agg (attC a.a),.ptr 0 0,.ptr 1 0,.bool false,.int .i64 0,.int .i64 0,.int .u64 N,.dead,.dead,.dead,.dead],[]⟩ [.var (stoC s.a),.var (attC a.a)]:=by
 unfold ax_;refine bd ?_
 simp only[ACode.tl]
 have c4:=aS_ s.nodes a.root h.bn
 have c5:=aS_ s.nodes a.target.rt h.bn
 have c6:=dH_ s a.target.ep
 have b4:=bN_ s.nodes a.root
 have b5:=bN_ s.nodes a.target.rt
 generalize findT s.nodes a.root=I at *
 generalize findT s.nodes a.target.rt=G at *
 generalize startS s a.target.ep=st at *
 obtain⟨st1,st2⟩:=st
 dsimp only at c6 hR
 have c7:=tI_ s.nodes h.tree.ok h.bn I st1
 generalize atT s.nodes I st1=A at *
 try refine aa_ ?_
 refine dpcall (c4) ?_
 try refine aa_ ?_
 refine dpcall (c5) ?_
 by_cases q1:I<0
 · have e1:decide (I<0)=true:=decide_eq_true q1
   rw[if_pos (.inl q1)]at hR
   subst hR
   repeat(first | refine aa_ ?_ | simp only[go_sem,e1])
   refine ac_ ?_
   try refine aa_ ?_
   exact fin0
 have e1:decide (I<0)=false:=decide_eq_false q1
 by_cases q2:G<0
 · have e2:decide (G<0)=true:=decide_eq_true q2
   rw[if_pos (.inr q2)]at hR
   subst hR
   repeat(first | refine aa_ ?_ | simp only[go_sem,e1,e2])
   refine ac_ ?_
   try refine aa_ ?_
   exact fin0
 have e2:decide (G<0)=false:=decide_eq_false q2
 rw[if_neg (fun h=>h.elim q1 q2)]at hR
 have hg:=aW_ (t:=s.nodes) (i:=I.toNat) (by omega)
 repeat(first | refine aa_ ?_ | simp only[go_sem,e1,e2])
 refine ab_ ?_
 repeat(first | refine aa_ ?_ | simp only[go_sem,hg])
 by_cases q3:a.slot<(nod s.nodes I.toNat).blk.slot
 · have e3:decide ((nod s.nodes I.toNat).blk.slot > a.slot)=true:=decide_eq_true q3
   have e4:decide (a.slot<(nod s.nodes I.toNat).blk.slot)=true:=decide_eq_true q3
   rw[if_pos q3]at hR
   subst hR
   repeat(first | refine aa_ ?_ | simp only[go_sem,e3,e4])
   refine ac_ ?_
   try refine aa_ ?_
   exact fin0
 have e3:decide ((nod s.nodes I.toNat).blk.slot > a.slot)=false:=decide_eq_false q3
 have e4:decide (a.slot<(nod s.nodes I.toNat).blk.slot)=false:=decide_eq_false q3
 rw[if_neg q3]at hR
 repeat(first | refine aa_ ?_ | simp only[go_sem,e3,e4])
 refine ab_ ?_
 try refine aa_ ?_
 refine pcall c6 ?_
 try refine aa_ ?_
 refine pcall c7 ?_
 by_cases q4:A=G
 case neg=>
   have e5:(A != G)=true:=by simp[q4]
   rw[if_pos q4]at hR
   subst hR
   repeat(first | refine aa_ ?_ | simp only[go_sem,e5])
   refine ac_ ?_
   try refine aa_ ?_
   exact fin0
 have e5:(A != G)=false:=by simp[q4]
 rw[if_neg (by simp[q4])]at hR
 repeat(first | refine aa_ ?_ | simp only[go_sem,e5])
 refine ab_ ?_
 by_cases q5:s.now≤a.slot
 · have e6:decide (a.slot ≥ s.now)=true:=decide_eq_true q5
   have e7:decide (s.now≤a.slot)=true:=decide_eq_true q5
   rw[e7]at hR
   subst hR
   repeat(first | refine aa_ ?_ | simp only[go_sem,e6,e7])
   exact fin0
 · have e6:decide (a.slot ≥ s.now)=false:=decide_eq_false q5
   have e7:decide (s.now≤a.slot)=false:=decide_eq_false q5
   rw[e7]at hR
   subst hR
   repeat(first | refine aa_ ?_ | simp only[go_sem,e6,e7])
   exact fin0
theorem lM_ (s:VSto) (a:VAtt) (h:StR s) (ha:a.vals.length≤1000000):PC Tryz.prog 148 [.agg (stoC s.a),.agg (attC a.a)] (.tup [.bool (checkA s a).1,.int .i64 (checkA s a).2]):=by
 have tl:=xv_ s a h
 obtain⟨R,hc⟩:∃ R,R=checkA s a:=⟨_,rfl⟩
 rw[← hc]
 unfold checkA at hc
 have c0:=lr_ s
 have c1:=ch_ a.vals false s.cfg.bals.length (by omega)
 have c2:=bQ_ s s.now h.spe
 have c3:=bQ_ s a.slot h.spe
 refine PC.fact 12 fz_ (by simp) puA puA ?_
 have hc:ax_=.seq ax_.hd (.seq (ax_.tl 1).hd (.seq (ax_.tl 2).hd (.seq (ax_.tl 3).hd (ax_.tl 4)))):=rfl
 rw[hc];clear hc
 generalize ax_.tl 4=cT at *
 unfold ax_;refine bd ?_
 simp only[ACode.tl,ACode.hd]
 generalize hY:(if findT s.nodes a.root<0∨findT s.nodes a.target.rt<0 then ((false,10):Bool × Int)else if a.slot<(nod s.nodes (findT s.nodes a.root).toNat).blk.slot then (false,14)
     else if atT s.nodes (findT s.nodes a.root) (startS s a.target.ep).1≠findT s.nodes a.target.rt then (false,19)else (decide (s.now≤a.slot),0))=Y at *
 generalize vErr a.vals s.cfg.bals.length=V at *
 generalize epochT s s.now=N at *
 generalize epochT s a.slot=S at *
 try refine aa_ ?_
 refine dpcall (c0) ?_
 try refine aa_ ?_
 refine dpcall (c1) ?_
 try refine aa_ ?_
 by_cases q1:V=0
 case neg=>
   have e1:(V != 0)=true:=by simp[q1]
   rw[if_pos q1]at hc
   subst hc
   repeat(first | refine aa_ ?_ | simp only[go_sem,e1])
   refine ac_ ?_
   try refine aa_ ?_
   exact fin0
 have e1:(V != 0)=false:=by simp[q1]
 rw[if_neg (by simp[q1])]at hc
 repeat(first | refine aa_ ?_ | simp only[go_sem,e1])
 refine ab_ ?_
 try refine aa_ ?_
 refine pcall c2 ?_
 try refine aa_ ?_
 refine dpcall (c3) ?_
 subst q1
 have fail:(a.target.ep≠S∨(a.target.ep≠N∧(N=0∨a.target.ep≠IntKind.u64.wrap (N-1))))→R=(false,18):=fun hq=>by rw[hc,if_pos hq]
 have pass:¬ (a.target.ep≠S∨(a.target.ep≠N∧(N=0∨a.target.ep≠IntKind.u64.wrap (N-1))))→R=Y:=fun hq=>by rw[hc,if_neg hq]
 clear hc
 by_cases q2:a.target.ep=S
 case neg=>
   have e2:(a.target.ep != S)=true:=by simp[q2]
   obtain rfl:=fail (.inl q2)
   repeat(first | refine aa_ ?_ | simp only[go_sem,e2])
   refine ac_ ?_
   try refine aa_ ?_
   exact fin0
 have e2:(a.target.ep != S)=false:=by simp[q2]
 by_cases q3:a.target.ep=N
 · have e3:(a.target.ep != N)=false:=by simp[q3]
   have tl:=tl N R (pass (by rintro (h | h);exact h q2;exact h.1 q3))
   repeat(first | refine aa_ ?_ | simp only[go_sem,e2,e3])
   refine ab_ ?_
   try refine aa_ ?_
   refine ck_ ?_ tl
   refine GC.mk' [] [0,1] (by simp) rfl (by simp) (by simp) evd evd
 have e3:(a.target.ep != N)=true:=by simp[q3]
 by_cases q4:N=0
 · have e4:(N==0)=true:=by simp[q4]
   obtain rfl:=fail (.inr ⟨q3,.inl q4⟩)
   repeat(first | refine aa_ ?_ | simp only[go_sem,e2,e3,e4])
   refine ac_ ?_
   try refine aa_ ?_
   exact fin0
 have e4:(N==0)=false:=by simp[q4]
 by_cases q5:a.target.ep=IntKind.u64.wrap (N-1)
 · have e5:(a.target.ep != IntKind.u64.wrap (N-1))=false:=by rw[← q5];simp
   have tl:=tl N R (pass (by rintro (h | h);exact h q2;rcases h.2 with h | h;exact q4 h;exact h q5))
   repeat(first | refine aa_ ?_ | simp only[go_sem,e2,e3,e4,e5])
   refine ab_ ?_
   try refine aa_ ?_
   refine ck_ ?_ tl
   refine GC.mk' [] [0,1] (by simp) rfl (by simp) (by simp) evd evd
 · have e5:(a.target.ep != IntKind.u64.wrap (N-1))=true:=by rw[bne_iff_ne];exact q5
   obtain rfl:=fail (.inr ⟨q3,.inr q5⟩)
   repeat(first | refine aa_ ?_ | simp only[go_sem,e2,e3,e4,e5])
   refine ac_ ?_
   try refine aa_ ?_
   exact fin0
theorem uy_ (s:VSto) (a:VAtt) (h:StR s) (ha:a.vals.length≤1000000) (hj:∀ j ∈ a.vals,0≤j∧j<s.latest.length):PC Tryz.prog 149 [.agg (stoC s.a),.agg (attC a.a)] (.agg (stoC (castIn s a).a)):=by
 refine PC.fact 5 ha_ (by simp) puA puA ?_
 unfold eN_;refine bd ?_
 have c1:=rQ_ s.latest a.target.ep a.root a.vals h.bl ha hj
 unfold castIn
 generalize castT s.latest a.target.ep a.root a.vals=C at *
 obtain⟨C1,C2⟩:=C
 dsimp only at c1 ⊢
 try refine aa_ ?_
 refine pcall c1 ?_
 try refine aa_ ?_
 exact fin0
end Go.Proofs.YtipiipgpnkpejaaGreat
