/- Joined. -/
import Derived.Test.YtflhnmleodkjiaaGreatV5
import Derived.Test.YtflhnmleodkjiaaGreatV3
import Derived.Test.YtflhnmleodkjiaaGreatV2
import Derived.Test.YtflhnmleodkjiaaGreatW3
set_option linter.unusedVariables false
set_option linter.unusedSimpArgs false
set_option maxRecDepth 8000
set_option maxHeartbeats 4000000
namespace Go.Proofs.YtflhnmleodkjiaaGreat
open Go Go.FH Go.RowKit
def gi(s:aI)(l:List Req):aI:=⟨s.sto,s.reqs,l,s.tag,s.sent,s.last,s.over,s.halt⟩
def bm(l:List Req)(i:Nat):Req:=l.getD i gT
def Cz(s:ap)(r:Rt):Bool:=decide (0<=aj s.nodes r)&&decide ((nod s.nodes (aj s.nodes r).toNat).status=0)
def qS(b:Int):Nat->Int->Int
 |0,d=>d
 |f+1,d=>if IntKind.u64.wrap (b-d)<=d then b else qS b f (IntKind.u64.wrap (2*d))
def vx(tries b:Int):Int:=if b=0 then 0 else qS b (tries-1).toNat 1
def gC(a b:Req):Bool:=decide (a.due<b.due) || (decide (a.due=b.due)&&decide (a.tag<b.tag))
def nS(l:List Req):Nat->List Req
 |0=>l
 |k+1=>if gC (bm l (k+1)) (bm l k)=true then nS ((l.set (k+1) (bm l k)).set k (bm l (k+1))) k else l
def jC(s:aI)(r:Req):Req:=⟨r.tag,r.block,IntKind.i64.wrap (r.tries+1),IntKind.u64.wrap (s.sto.now+vx (IntKind.i64.wrap (r.tries+1)) s.sto.cfg.lim.backoff)⟩
def lO(s:aI)(r:Req):aI:=
 if Cz s.sto r.block=false then s else if s.sto.cfg.lim.retry<=s.rets.length then ⟨s.sto,s.reqs,s.rets,s.tag,s.sent,s.last,true,s.halt⟩
 else gi s (nS (s.rets++[jC s r]) s.rets.length)
def WX(s:ap):Rt:=if 0<=aj s.nodes s.j.rt/\(nod s.nodes (aj s.nodes s.j.rt).toNat).status=1 then s.j.rt else rt0
def X3(s:ap):Cmd:=⟨(nod s.nodes (HY s).toNat).blk.root,WX s,s.f.rt⟩
def io(s:aI):aI×List Cmd:=if s.sent=true/\s.last=X3 s.sto then (s,[])else (⟨s.sto,s.reqs,s.rets,s.tag,true,X3 s.sto,s.over,s.halt⟩,[X3 s.sto])
def Fx:aI:=⟨jX,[],[],0,false,fS,false,false⟩
def iW(c:cU):aI×List Cmd×Int:=if ib c=0 then ((io ⟨kO c,[],[],1,false,fS,false,false⟩).1,(io ⟨kO c,[],[],1,false,fS,false,false⟩).2,0)else (Fx,[],ib c)
def toV(x:VOp):OpV:=⟨x.kind,x.blk,(x.att.slot,x.att.root,x.att.target,x.att.vals),((x.slg.fst.src,x.slg.fst.tgt,x.slg.fst.root,x.slg.fst.vals),(x.slg.snd.src,x.slg.snd.tgt,x.slg.snd.root,x.slg.snd.vals)),(x.tab.cp,x.tab.bals),x.vdt,x.write,x.keep⟩
theorem xE(l:List Blk)(a:Int):∀k,(bg (tW l a) [] k).length<=k
 |0=>amb _
 | k + 1 => by
   rw[cX];have h1:=xE l a k;unfold tW at *;split
   ·simp only[akC,al8,ama];omega
   ·omega
theorem oh(l:List aW)(e:Int):∀t∈fX l e,t∈l:=by
 unfold fX;refine Yy (f:=fun i o=>if e<=(tab l i).cp.ep then o++[tab l i]else o) (a:=[]) (fun _ o=>∀t∈o,t∈l) (by simp) l.length (fun i o hi ho=>?_) _ (amb _);split
 ·intro t ht;rw[amm,amn]at ht;rcases ht with ht|rfl
  ·exact ho t ht
  ·unfold tab;rw[alt,al6 hi];exact amS hi
 ·exact ho
theorem oe(l:List aW)(e:Int):(fX l e).length<=l.length:=by
 have:=ng (f:=fun i o=>if e<=(tab l i).cp.ep then o++[tab l i]else o) (a:=([]:List aW)) (fun i o=>by split<;>simp) l.length;unfold fX;simpa using this
theorem V8{s:ap}{a b:Cp}(h:wv s a b=true):0<=aj s.nodes a.rt/\0<=aj s.nodes b.rt/\eh s.nodes (aj s.nodes b.rt) (aj s.nodes a.rt)=true:=by
 unfold wv at h;simp only[amk,amg]at h;exact⟨h.1.1.1.1.1.1.1.1.1,h.1.1.1.1.1.1.1.1.2,h.1.1.1.2⟩
theorem StR.upd{s:ap}(h:StR s)(j f:Cp):StR (dK s j f):=by
 unfold dK;split
 ·exact h
 ·rename_i hm
  have hm:wv s (fh s.j j) (fh s.f f)=true:=by simpa using hm
  obtain⟨h1,h2,h3⟩:=V8 hm;have hd:=oe s.tabs (fh s.j j).ep;have hb:∀t∈fX s.tabs (fh s.j j).ep,t.bals.length<=2097152:=fun t ht=>h.bb t (oh _ _ t ht)
  split
  ·exact⟨h.tree,h.spe,h.bn,h.bl,h.be,ams hd h.bt,hb,h.bo,h.ba,h.nl,h.ll,h1⟩
  ·have hf:=dO h2;have hl:=tf h.tree (aj s.nodes (fh s.f f).rt);refine⟨h.tree.prune h2 (by omega),h.spe,ams hl h.bn,h.bl,h.be,ams hd h.bt,hb,ams (xE _ _ _) h.bo,h.ba,h.nl,h.ll,?_⟩;exact xd h.tree h1 h3
theorem TA(n lo hi:Int):PC Tryz.prog 149 [.int .i64 n,.int .i64 lo,.int .i64 hi] (.bool (wit n lo hi)):=by
 refine pfn 7 HE ?_;unfold u7;refine bd ?_;unfold wit;by_cases h0:lo<=n
 ·have e0:decide (n ≥ lo)=true:=au h0;have e1:=au h0;refine aZ e0 e1 ?_;exact ai
 ·have e0:decide (n ≥ lo)=false:=aA h0;have e1:=aA h0;refine aZ e0 e1 ?_;exact ai
end Go.Proofs.YtflhnmleodkjiaaGreat
