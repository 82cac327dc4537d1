/-
 My texts Lu, Lr, Ls, Lt, joined.
-/
import Derived.Test.YtnjdpnfglgcjcaaGreatV5
import Derived.Test.YtnjdpnfglgcjcaaGreatV3
import Derived.Test.YtnjdpnfglgcjcaaGreatV2
set_option linter.unusedVariables false
set_option linter.unusedSimpArgs false
set_option maxRecDepth 8000
set_option maxHeartbeats 4000000
namespace Go.Proofs.YtnjdpnfglgcjcaaGreat
open Go Go.FH Go.RowKit
def fK(s:ap)(x:fe):ap×Int:=
 if evE x.a x.fst.vals x.snd.vals s.cfg.bals.length≠0 then (jX,evE x.a x.fst.vals x.snd.vals s.cfg.bals.length)
 else if IntKind.i64.wrap ((Gb s.eqv (jm x.fst.vals x.snd.vals x.fst.vals.length)).length-s.eqv.length)=0 then (jX,9)else (ahp s (Gb s.eqv (jm x.fst.vals x.snd.vals x.fst.vals.length)),0)
def fw(s:aI)(t:ap):aI:=⟨t,s.reqs,s.rets,s.tag,s.sent,s.last,s.over,s.halt⟩
def afD(s:aI)(l:List Req):aI:=⟨s.sto,l,s.rets,s.tag,s.sent,s.last,s.over,s.halt⟩
def gi(s:aI)(l:List Req):aI:=⟨s.sto,s.reqs,l,s.tag,s.sent,s.last,s.over,s.halt⟩
def bm(l:List Req)(i:Nat):Req:=l.getD i gT
def Cz(s:ap)(r:Rt):Bool:=decide (0<=aj s.nodes r)&&decide ((nod s.nodes (aj s.nodes r).toNat).status=0)
def Ai(s:aI)(r:Rt)(tries:Int):aI:=⟨s.sto,s.reqs++[⟨s.tag,r,tries,0⟩],s.rets,IntKind.u64.wrap (s.tag+1),s.sent,s.last,s.over,s.halt⟩
def iw(l:List Rt)(i:Nat)(s:aI):aI:=if Cz s.sto (l.getD i rt0)=true then Ai s (l.getD i rt0) 0 else s
def tc(s:aI)(l:List Rt):aI:=bg (iw l) s l.length
def gQ(t:List Nod)(l:List Req)(i:Nat)(o:List Req):List Req:=if 0<=aj t (bm l i).block then o++[bm l i]else o
def lK(t:List Nod)(l:List Req):List Req:=bg (gQ t l) [] l.length
def nQ(s:aI):aI:=⟨s.sto,lK s.sto.nodes s.reqs,lK s.sto.nodes s.rets,s.tag,s.sent,s.last,s.over,s.halt⟩
def qS(b:Int):Nat->Int->Int
 |0,d=>d
 |f+1,d=>if IntKind.u64.wrap (b-d)<=d then b else qS b f (IntKind.u64.wrap (2*d))
def vx(tries b:Int):Int:=if b=0 then 0 else qS b (tries-1).toNat 1
def gC(a b:Req):Bool:=decide (a.due<b.due) || (decide (a.due=b.due)&&decide (a.tag<b.tag))
def nS(l:List Req):Nat->List Req
 |0=>l
 |k+1=>if gC (bm l (k+1)) (bm l k)=true then nS ((l.set (k+1) (bm l k)).set k (bm l (k+1))) k else l
def jC(s:aI)(r:Req):Req:=⟨r.tag,r.block,IntKind.i64.wrap (r.tries+1),IntKind.u64.wrap (s.sto.now+vx (IntKind.i64.wrap (r.tries+1)) s.sto.cfg.lim.backoff)⟩
def lO(s:aI)(r:Req):aI:=
 if Cz s.sto r.block=false then s else if s.sto.cfg.lim.retry<=s.rets.length then ⟨s.sto,s.reqs,s.rets,s.tag,s.sent,s.last,true,s.halt⟩
 else gi s (nS (s.rets++[jC s r]) s.rets.length)
def qT(l:List Req)(i:Nat)(s:aI):aI:=if s.sto.now<(bm l i).due then gi s (s.rets++[bm l i])else if Cz s.sto (bm l i).block=true then Ai s (bm l i).block (bm l i).tries else s
def Oy(s:aI):aI:=bg (qT s.rets) (gi s []) s.rets.length
def WX(s:ap):Rt:=if 0<=aj s.nodes s.j.rt/\(nod s.nodes (aj s.nodes s.j.rt).toNat).status=1 then s.j.rt else rt0
def X3(s:ap):Cmd:=⟨(nod s.nodes (HY s).toNat).blk.root,WX s,s.f.rt⟩
def io(s:aI):aI×List Cmd:=if s.sent=true/\s.last=X3 s.sto then (s,[])else (⟨s.sto,s.reqs,s.rets,s.tag,true,X3 s.sto,s.over,s.halt⟩,[X3 s.sto])
def Fx:aI:=⟨jX,[],[],0,false,fS,false,false⟩
def iW(c:cU):aI×List Cmd×Int:=if ib c=0 then ((io ⟨kO c,[],[],1,false,fS,false,false⟩).1,(io ⟨kO c,[],[],1,false,fS,false,false⟩).2,0)else (Fx,[],ib c)
def xt(l:List Req)(i:Nat):List Req:=l.take i++l.drop (i+1)
def bQ(s:aI)(v:Vdt):Req×aI×Int:=match dW (fun i=>decide ((bm s.reqs i).tag=v.tag)) s.reqs.length with
 |some i=>(bm s.reqs i,afD s (xt s.reqs i),0)
 |none=>(gT,Fx,23)
def boostV(s:ap):ap:=if 0<=aj s.nodes s.boost/\(nod s.nodes (aj s.nodes s.boost).toNat).status=2 then withB s rt0 else s
def judgeV(s:ap)(r:Rt)(v:Vdt):List Nod×Int:=gP s.nodes (aj s.nodes r) v [aj s.nodes s.j.rt,aj s.nodes s.f.rt]
def jW(s:aI)(v:Vdt):aI×Int:=
 if (bQ s v).2.2≠0 then (s,(bQ s v).2.2)else if v.kind=3\/v.kind=4 then (lO (bQ s v).2.1 (bQ s v).1,0)
 else if (judgeV (bQ s v).2.1.sto (bQ s v).1.block v).2≠0 then (⟨s.sto,s.reqs,s.rets,s.tag,s.sent,s.last,s.over,true⟩,21)
 else (fw (bQ s v).2.1 (boostV (dD (bQ s v).2.1.sto (judgeV (bQ s v).2.1.sto (bQ s v).1.block v).1)),0)
def eW(s:aI)(x:VOp):aI×Int:=
 if x.kind=1 then (if (fk s.sto).2=0 then (Oy (nQ (fw s (fk s.sto).1)),0)else (fw s (fk s.sto).1,(fk s.sto).2))
 else if x.kind=2 then (if (di s.sto x.blk).2.2=0 then (tc (nQ (fw s (di s.sto x.blk).1)) (di s.sto x.blk).2.1,0)else (fw s (di s.sto x.blk).1,(di s.sto x.blk).2.2))
 else if x.kind=3 then (fw s (oa s.sto x.att).1,(oa s.sto x.att).2)else if x.kind=4 then (fw s (fK s.sto x.slg).1,(fK s.sto x.slg).2)
 else if x.kind=5 then (fw s (lQ s.sto x.tab).1,(lQ s.sto x.tab).2)else if x.kind=6 then jW s x.vdt else (s,2)
def toV(x:VOp):OpV:=⟨x.kind,x.blk,(x.att.slot,x.att.root,x.att.target,x.att.vals),((x.slg.fst.src,x.slg.fst.tgt,x.slg.fst.root,x.slg.fst.vals),(x.slg.snd.src,x.slg.snd.tgt,x.slg.snd.root,x.slg.snd.vals)),(x.tab.cp,x.tab.bals),x.vdt,x.write,x.keep⟩
def jq(s:aI)(x:VOp):aI×List Cmd×Int:=
 if s.halt=true then (s,[],22)else if vOp (toV x)≠0 then (s,[],vOp (toV x))
 else if (eW s x).2=21 then ((eW s x).1,[],21)else if (eW s x).2≠0 then (s,[],(eW s x).2)
 else ((io (eW s x).1).1,(io (eW s x).1).2,0)
theorem aa9(σ:St)(zs:List Nat)(l:List Cp):dh σ zs (rows cpC l)=rows cpC l:=fy.fz σ zs (cQ fun x _=>gV x)
theorem Zg(ρ:Nat->Nat)(l:List Cp):bH ρ (rows cpC l)=rows cpC l:=fy.ren ρ (cQ fun x _=>gV x)
attribute [local go_sem] aa9 Zg
theorem xE(l:List Blk)(a:Int):∀k,(bg (tW l a) [] k).length<=k
 |0=>ait _
 | k + 1 => by
   rw[cX];have h1:=xE l a k;unfold tW at *;split
   ·simp only[E4,acv,aiy];omega
   ·omega
theorem oh(l:List aW)(e:Int):∀t∈fX l e,t∈l:=by
 unfold fX;refine er (f:=fun i o=>if e<=(tab l i).cp.ep then o++[tab l i]else o) (a:=[]) (fun _ o=>∀t∈o,t∈l) (by simp) l.length (fun i o hi ho=>?_) _ (ait _);split
 ·intro t ht;rw[aiH,aiE]at ht;rcases ht with ht|rfl
  ·exact ho t ht
  ·unfold tab;rw[E3,Fh hi];exact ai7 hi
 ·exact ho
theorem oe(l:List aW)(e:Int):(fX l e).length<=l.length:=by
 have:=ng (f:=fun i o=>if e<=(tab l i).cp.ep then o++[tab l i]else o) (a:=([]:List aW)) (fun i o=>by split<;>simp) l.length;unfold fX;simpa using this
theorem V8{s:ap}{a b:Cp}(h:wv s a b=true):0<=aj s.nodes a.rt/\0<=aj s.nodes b.rt/\eh s.nodes (aj s.nodes b.rt) (aj s.nodes a.rt)=true:=by
 unfold wv at h;simp only[aiB,aiA]at h;exact⟨h.1.1.1.1.1.1.1.1.1,h.1.1.1.1.1.1.1.1.2,h.1.1.1.2⟩
theorem StR.upd{s:ap}(h:StR s)(j f:Cp):StR (dK s j f):=by
 unfold dK;split
 ·exact h
 ·rename_i hm
  have hm:wv s (fh s.j j) (fh s.f f)=true:=by simpa using hm
  obtain⟨h1,h2,h3⟩:=V8 hm;have hd:=oe s.tabs (fh s.j j).ep;have hb:∀t∈fX s.tabs (fh s.j j).ep,t.bals.length<=2097152:=fun t ht=>h.bb t (oh _ _ t ht)
  split
  ·exact⟨h.tree,h.spe,h.bn,h.bl,h.be,aiK hd h.bt,hb,h.bo,h.ba,h.nl,h.ll,h1⟩
  ·have hf:=dO h2;have hl:=tf h.tree (aj s.nodes (fh s.f f).rt);refine⟨h.tree.prune h2 (by omega),h.spe,aiK hl h.bn,h.bl,h.be,aiK hd h.bt,hb,aiK (xE _ _ _) h.bo,h.ba,h.nl,h.ll,?_⟩;exact xd h.tree h1 h3
theorem TA(n lo hi:Int):PC Tryz.prog 236 [.int .i64 n,.int .i64 lo,.int .i64 hi] (.bool (wit n lo hi)):=by
 refine PC.fact 7 HE (by simp) puA puA ?_;unfold u7;refine bd ?_;unfold wit;by_cases h0:lo<=n
 ·have e0:decide (n ≥ lo)=true:=au h0;have e1:=au h0;refine aZ e0 e1 ?_;exact ai
 ·have e0:decide (n ≥ lo)=false:=aA h0;have e1:=aA h0;refine aZ e0 e1 ?_;exact ai
end Go.Proofs.YtnjdpnfglgcjcaaGreat
