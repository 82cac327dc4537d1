/-
 My texts Lu, Lq, Lr, Ls, Lt, joined.
-/
import Derived.Test.YtkgimpdgncakjaaV5
import Derived.Test.YtkgimpdgncakjaaV3
import Derived.Test.YtkgimpdgncakjaaV2
namespace Go.Proofs.Ytkgimpdgncakjaa
open Go Go.FH Go.RowKit
set_option linter.unusedVariables false
set_option linter.unusedSimpArgs false
def jZ_(s:ag_)(x:cn_):ag_×Int:=
 if evE x.a x.fst.vals x.snd.vals s.cfg.bals.length≠0 then (ct_,evE x.a x.fst.vals x.snd.vals s.cfg.bals.length)
 else if IntKind.i64.wrap ((CA_ s.eqv (jJ_ x.fst.vals x.snd.vals x.fst.vals.length)).length-s.eqv.length)=0 then (ct_,9)else (FH_ s (CA_ s.eqv (jJ_ x.fst.vals x.snd.vals x.fst.vals.length)),0)
def jF_(s:aI_)(t:ag_):aI_:=⟨t,s.reqs,s.rets,s.tag,s.sent,s.last,s.over,s.halt⟩
def FI_(s:aI_)(l:List Req):aI_:=⟨s.sto,l,s.rets,s.tag,s.sent,s.last,s.over,s.halt⟩
def uz_(s:aI_)(l:List Req):aI_:=⟨s.sto,s.reqs,l,s.tag,s.sent,s.last,s.over,s.halt⟩
def kN_(l:List Req)(i:Nat):Req:=l.getD i CD_
def Eo_(s:ag_)(r:Rt):Bool:=decide (0≤al_ s.nodes r)&&decide ((nod s.nodes (al_ s.nodes r).toNat).status=0)
def AG_(s:aI_)(r:Rt)(tries:Int):aI_:=⟨s.sto,s.reqs++[⟨s.tag,r,tries,0⟩],s.rets,IntKind.u64.wrap (s.tag+1),s.sent,s.last,s.over,s.halt⟩
def AF_(l:List Rt)(i:Nat)(s:aI_):aI_:=if Eo_ s.sto (l.getD i rt0)=true then AG_ s (l.getD i rt0) 0 else s
def AJ_(s:aI_)(l:List Rt):aI_:=bd_ (AF_ l) s l.length
def nG_(t:List Nod)(l:List Req)(i:Nat)(o:List Req):List Req:=if 0≤al_ t (kN_ l i).block then o++[kN_ l i]else o
def nF_(t:List Nod)(l:List Req):List Req:=bd_ (nG_ t l) [] l.length
def zZ_(s:aI_):aI_:=⟨s.sto,nF_ s.sto.nodes s.reqs,nF_ s.sto.nodes s.rets,s.tag,s.sent,s.last,s.over,s.halt⟩
def zY_(b:Int):Nat→Int→Int
 |0,d=>d
 |f+1,d=>if IntKind.u64.wrap (b-d)≤d then b else zY_ b f (IntKind.u64.wrap (2*d))
def Ef_(tries b:Int):Int:=if b=0 then 0 else zY_ b (tries-1).toNat 1
def EY_(a b:Req):Bool:=decide (a.due<b.due) || (decide (a.due=b.due)&&decide (a.tag<b.tag))
def ud_(l:List Req):Nat→List Req
 |0=>l
 |k+1=>if EY_ (kN_ l (k+1)) (kN_ l k)=true then ud_ ((l.set (k+1) (kN_ l k)).set k (kN_ l (k+1))) k else l
def Ej_(s:aI_)(r:Req):Req:=⟨r.tag,r.block,IntKind.i64.wrap (r.tries+1),IntKind.u64.wrap (s.sto.now+Ef_ (IntKind.i64.wrap (r.tries+1)) s.sto.cfg.lim.backoff)⟩
def vr_(s:aI_)(r:Req):aI_:=
 if Eo_ s.sto r.block=false then s else if s.sto.cfg.lim.retry≤s.rets.length then ⟨s.sto,s.reqs,s.rets,s.tag,s.sent,s.last,true,s.halt⟩
 else uz_ s (ud_ (s.rets++[Ej_ s r]) s.rets.length)
def Eg_(l:List Req)(i:Nat)(s:aI_):aI_:=if s.sto.now<(kN_ l i).due then uz_ s (s.rets++[kN_ l i])else if Eo_ s.sto (kN_ l i).block=true then AG_ s (kN_ l i).block (kN_ l i).tries else s
def EZ_(s:aI_):aI_:=bd_ (Eg_ s.rets) (uz_ s []) s.rets.length
def Fv_(s:ag_):Rt:=if 0≤al_ s.nodes s.j.rt∧(nod s.nodes (al_ s.nodes s.j.rt).toNat).status=1 then s.j.rt else rt0
def Ec_(s:ag_):Cmd:=⟨(nod s.nodes (Fg_ s).toNat).blk.root,Fv_ s,s.f.rt⟩
def wy_(s:aI_):aI_×List Cmd:=if s.sent=true∧s.last=Ec_ s.sto then (s,[])else (⟨s.sto,s.reqs,s.rets,s.tag,true,Ec_ s.sto,s.over,s.halt⟩,[Ec_ s.sto])
def FE_:aI_:=⟨ct_,[],[],0,false,Cf_,false,false⟩
def wW_(l:List Req)(i:Nat):List Req:=l.take i++l.drop (i+1)
def ee_(s:aI_)(v:Vdt):Req×aI_×Int:=match cb_ (fun i=>decide ((kN_ s.reqs i).tag=v.tag)) s.reqs.length with
 |some i=>(kN_ s.reqs i,FI_ s (wW_ s.reqs i),0)
 |none=>(CD_,FE_,23)
def boostV(s:ag_):ag_:=if 0≤al_ s.nodes s.boost∧(nod s.nodes (al_ s.nodes s.boost).toNat).status=2 then withB s rt0 else s
def vk_(s:ag_)(r:Rt)(v:Vdt):List Nod×Int:=jQ_ s.nodes (al_ s.nodes r) v [al_ s.nodes s.j.rt,al_ s.nodes s.f.rt]
def uw_(s:aI_)(v:Vdt):aI_×Int:=
 if (ee_ s v).2.2≠0 then (s,(ee_ s v).2.2)else if v.kind=3∨v.kind=4 then (vr_ (ee_ s v).2.1 (ee_ s v).1,0)
 else if (vk_ (ee_ s v).2.1.sto (ee_ s v).1.block v).2≠0 then (⟨s.sto,s.reqs,s.rets,s.tag,s.sent,s.last,s.over,true⟩,21)
 else (jF_ (ee_ s v).2.1 (boostV (lR_ (ee_ s v).2.1.sto (vk_ (ee_ s v).2.1.sto (ee_ s v).1.block v).1)),0)
def jt_(s:aI_)(x:VOp):aI_×Int:=
 if x.kind=1 then (if (fT_ s.sto).2=0 then (EZ_ (zZ_ (jF_ s (fT_ s.sto).1)),0)else (jF_ s (fT_ s.sto).1,(fT_ s.sto).2))
 else if x.kind=2 then (if (en_ s.sto x.blk).2.2=0 then (AJ_ (zZ_ (jF_ s (en_ s.sto x.blk).1)) (en_ s.sto x.blk).2.1,0)else (jF_ s (en_ s.sto x.blk).1,(en_ s.sto x.blk).2.2))
 else if x.kind=3 then (jF_ s (re_ s.sto x.att).1,(re_ s.sto x.att).2)else if x.kind=4 then (jF_ s (jZ_ s.sto x.slg).1,(jZ_ s.sto x.slg).2)
 else if x.kind=5 then (jF_ s (vU_ s.sto x.tab).1,(vU_ s.sto x.tab).2)else if x.kind=6 then uw_ s x.vdt else (s,2)
def toV(x:VOp):OpV:=⟨x.kind,x.blk,(x.att.slot,x.att.root,x.att.target,x.att.vals),((x.slg.fst.src,x.slg.fst.tgt,x.slg.fst.root,x.slg.fst.vals),(x.slg.snd.src,x.slg.snd.tgt,x.slg.snd.root,x.slg.snd.vals)),(x.tab.cp,x.tab.bals),x.vdt,x.write,x.keep⟩
def DP_(s:aI_)(x:VOp):aI_×List Cmd×Int:=
 if s.halt=true then (s,[],22)else if vOp (toV x)≠0 then (s,[],vOp (toV x))
 else if (jt_ s x).2=21 then ((jt_ s x).1,[],21)else if (jt_ s x).2≠0 then (s,[],(jt_ s x).2)
 else ((wy_ (jt_ s x).1).1,(wy_ (jt_ s x).1).2,0)
end Go.Proofs.Ytkgimpdgncakjaa
namespace Go.Proofs.Ytkgimpdgncakjaa
open Go Go.FH Go.RowKit
set_option linter.unusedVariables false
set_option linter.unusedSimpArgs false
set_option maxRecDepth 8000
set_option maxHeartbeats 4000000
theorem Ag_(σ:St)(zs:List Nat)(l:List Cp):dx_ σ zs (rows cpC l)=rows cpC l:=cy_.fz σ zs (aT_ fun x _=>cO_ x)
theorem yv_(ρ:Nat→Nat)(l:List Cp):bi_ ρ (rows cpC l)=rows cpC l:=cy_.ren ρ (aT_ fun x _=>cO_ x)
attribute [local go_sem] Ag_ yv_
theorem li_(l:List Blk)(a:Int):∀k,(bd_ (kE_ l a) [] k).length≤k
 |0=>Nat.le_refl _
 | k + 1 => by
   rw[dq_];have h1:=li_ l a k;unfold kE_ at *;split
   ·simp only[List.length_append,List.length_cons,List.length_nil];omega
   ·omega
theorem gW_(l:List as_)(e:Int):∀t∈cW_ l e,t∈l:=by
 unfold cW_;refine fU_ (f:=fun i o=>if e≤(tab l i).cp.ep then o++[tab l i]else o) (a:=[]) (fun _ o=>∀t∈o,t∈l) (by simp) l.length (fun i o hi ho=>?_) _ (Nat.le_refl _);split
 ·intro t ht;rw[List.mem_append,List.mem_singleton]at ht;rcases ht with ht|rfl
  ·exact ho t ht
  ·unfold tab;rw[List.getD_eq_getElem?_getD,List.getElem?_eq_getElem hi];exact List.getElem_mem hi
 ·exact ho
theorem gV_(l:List as_)(e:Int):(cW_ l e).length≤l.length:=by
 have:=oB_ (f:=fun i o=>if e≤(tab l i).cp.ep then o++[tab l i]else o) (a:=([]:List as_)) (fun i o=>by split<;>simp) l.length;unfold cW_;simpa using this
theorem wD_{s:ag_}{a b:Cp}(h:rH_ s a b=true):0≤al_ s.nodes a.rt∧0≤al_ s.nodes b.rt∧dg_ s.nodes (al_ s.nodes b.rt) (al_ s.nodes a.rt)=true:=by
 unfold rH_ at h;simp only[Bool.and_eq_true,decide_eq_true_eq]at h;exact⟨h.1.1.1.1.1.1.1.1.1,h.1.1.1.1.1.1.1.1.2,h.1.1.1.2⟩
theorem StR.upd{s:ag_}(h:StR s)(j f:Cp):StR (cN_ s j f):=by
 unfold cN_;split
 ·exact h
 ·rename_i hm
  have hm:rH_ s (cA_ s.j j) (cA_ s.f f)=true:=by simpa using hm
  obtain⟨h1,h2,h3⟩:=wD_ hm;have hd:=gV_ s.tabs (cA_ s.j j).ep;have hb:∀t∈cW_ s.tabs (cA_ s.j j).ep,t.bals.length≤1000000:=fun t ht=>h.bb t (gW_ _ _ t ht)
  split
  ·exact⟨h.tree,h.spe,h.bn,h.bl,h.be,Nat.le_trans hd h.bt,hb,h.bo,h.ba,h.nl,h.ll,h1⟩
  ·have hf:=kz_ h2;have hl:=nW_ h.tree (al_ s.nodes (cA_ s.f f).rt);refine⟨h.tree.prune h2 (by omega),h.spe,Nat.le_trans hl h.bn,h.bl,h.be,Nat.le_trans hd h.bt,hb,Nat.le_trans (li_ _ _ _) h.bo,h.ba,h.nl,h.ll,?_⟩;exact tS_ h.tree h1 h3
theorem uA_(n lo hi:Int):PC Try.prog 15 [.int .i64 n,.int .i64 lo,.int .i64 hi] (.bool (wit n lo hi)):=by
 refine PC.fact 7 nl_ (by simp) puA puA ?_;unfold hN_;refine bd ?_;unfold wit;by_cases h0:lo≤n
 ·have e0:decide (n ≥ lo)=true:=decide_eq_true h0;have e1:decide (lo≤n)=true:=decide_eq_true h0;repeat(first|refine aa_ ?_|simp only[go_sem,e0,e1])
  exact am_
 ·have e0:decide (n ≥ lo)=false:=decide_eq_false h0;have e1:decide (lo≤n)=false:=decide_eq_false h0;repeat(first|refine aa_ ?_|simp only[go_sem,e0,e1])
  exact am_
end Go.Proofs.Ytkgimpdgncakjaa
