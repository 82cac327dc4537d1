/- Joined. -/
import Derived.Test.YtmpddimhleianaaGreatT1
import Derived.Test.YtmpddimhleianaaGreatW3
import Derived.Test.YtmpddimhleianaaGreatChecked
import Derived.KernelRfl
import Derived.Test.YtmpddimhleianaaGreatV1
import Derived.Test.YtmpddimhleianaaGreatV5
set_option linter.unusedVariables false
set_option linter.unusedSimpArgs false
set_option maxRecDepth 8000
set_option maxHeartbeats 4000000
namespace Go.Proofs.YtmpddimhleianaaGreat
open Go Go.FH Go.RowKit
theorem O7(n lo hi:Int):PC Tryz.prog 145 [.int .i64 n,.int .i64 lo,.int .i64 hi] (.bool (wit n lo hi)):=by
 refine ae 7 ?_;unfold wit;by_cases h0:lo<=n
 ·have e0:decide (n ≥ lo)=true:=au h0;have e1:=au h0;refine aZ e0 e1 ?_;exact ai
 ·have e0:decide (n ≥ lo)=false:=aA h0;have e1:=aA h0;refine aZ e0 e1 ?_;exact ai
theorem YQ(c:cU)(hb:c.bals.length<=2097152)(hu:∀x∈c.bals,0<=x/\x<18446744073709551616):PC Tryz.prog 84 [.agg (bW c.a)] (.int .i64 (ib c)):=by
 refine Sm.val (F:=fun r:Int=>PC Tryz.prog 84 [.agg (bW c.a)] (.int .i64 r)) ?_;refine md 4 yf WM puA (fun r _=>puA) ?_;unfold nN;refine bd ?_;have c0:=H1 c.gen;have c1:PC Tryz.prog 147 [.agg (ar ⟨cp0,.sl 1 false (aH .u64 c.bals)⟩),.int .i64 c.bals.length] (.int .i64 (gh ⟨⟨0,c.gen⟩,c.bals⟩ c.bals.length)):=G3 ⟨cp0,c.bals⟩ c.bals.length hb hu;generalize hV:gh ⟨⟨0,c.gen⟩,c.bals⟩ c.bals.length=V at *;have lt:∀ (a b:Int),decide (a > b)=decide (b<a):=fun _ _=>rfl
 have ge:∀ (a b:Int),decide (a ≥ b)=decide (b<=a):=fun _ _=>rfl
 iterate 5 (repeat'(first|refine cM ?_|(refine bR (fun h=>?_) (fun h=>?_)<;>try(exact absurd h WN))|refine eo (fun h=>?_) (fun h=>?_));all_goals try refine db (O7 _ _ _) ?_)
 repeat'(first|refine cM ?_|(refine bR (fun h=>?_) (fun h=>?_)<;>try(exact absurd h WN))|refine eo (fun h=>?_) (fun h=>?_))
 all_goals try refine db c0 ?_
 all_goals repeat'(first|refine cM ?_|(refine bR (fun h=>?_) (fun h=>?_)<;>try(exact absurd h WN))|refine eo (fun h=>?_) (fun h=>?_))
 all_goals try refine db c1 ?_
 all_goals repeat'(first|refine cM ?_|(refine bR (fun h=>?_) (fun h=>?_)<;>try(exact absurd h WN))|refine eo (fun h=>?_) (fun h=>?_))
 all_goals try(refine I5 (by first|rfl|exact evd) (by first|rfl|exact evd) ?_;(try simp only[akm,akh,amg,ami,aku,akz,am0,alf,ajL,akW,ajT,amZ,akc,ajY,amk,akM]at *);(simp only[ib, *,reduceIte,ak2,ame,amp,amu,ajT,alh,alq,al3,al4,WJ,or_true,am6,al0,Int.reduceEq,amj,amt,eq_self,reduceCtorEq,alE,alQ,akF,am2,alB,ajq,alo,alp,alG,aj9,akh,akm]))
 all_goals(repeat' split)
 all_goals first|rfl|omega|contradiction
theorem Aa(c:cU)(hb:c.bals.length<=2097152)(hu:∀x∈c.bals,0<=x/\x<18446744073709551616):PC Tryz.prog 42 [.agg (bW c.a)] (.tup [.agg (aE (O0 c).1.a),.int .i64 (O0 c).2]):=by
 refine ae 8 ?_;have c1:=YQ c hb hu;have c2:PC Tryz.prog 85 [.agg (aO (adM c.gen)),.int .i64 1] (.agg [.sl 240 false (rows bB [⟨adM c.gen,-1,1⟩])]):=IL (adM c.gen) 1
 have hcp:ib c=0->CpR (kO c):=fun h=>by
  have hl:(c.bals.length:Int)<=1024:=by
   unfold ib at h;by_cases q:1024<(c.bals.length:Int)
   ·(repeat' split at h)<;>first|omega|contradiction
   ·omega
  exact⟨by simp[kO],by simp[kO];omega,by simp[kO],by simp[kO],fun t ht=>by simp[kO]at ht;subst ht;exact hb,by simp[kO],by simp[kO],fun a ha=>by simp[kO]at ha,hb⟩
 have c3:=fun h=>Bu (kO c) (hcp h)
 unfold O0;generalize ib c=V at *;refine gon ?_;refine am c1 ?_;by_cases q:V=0
 case neg=>
  have e1:(V != 0)=true:=by simp[q]
  rw[al5 q];refine aM e1 ?_;exact pZ (by first|rfl|exact evd) (by first|rfl|exact evd)
 have e1:(V != 0)=false:=by simp[q]
 have c3:=c3 q;rw[al7 q];have hrep:List.replicate c.bals.length (al ⟨false,0,rt0⟩)=rows al (List.replicate c.bals.length dL):=aab _;have ht:List.take c.bals.length (rows al (List.replicate c.bals.length ⟨false,0,rt0⟩))=rows al (List.replicate c.bals.length ⟨false,0,rt0⟩):=amf WM;refine bJ e1 ?_;refine aZ hrep ae7 ?_;refine aK (c2) ?_;repeat(first|refine qU ?_|simp only[go_sem,hrep,ae7])
 refine EK [4] ?_;simp only[evZ,F7];(try simp only[go_sem,Nat.reduceAdd,Nat.reduceSub,Nat.reduceMul,Nat.reduceLT,Nat.reduceLeDiff,Nat.reduceEqDiff,reduceIte,Int.reduceToNat,Int.reduceLT,Int.reduceLE,Int.reduceEq,Int.reduceNeg,reduceCtorEq,Int.reduceBEq,Int.reduceBNe,akH,ht])
 refine gon ?_;refine pG c3 ⟨agK (kO c).a (rows aW.c (kO c).tabs),trivial⟩ ⟨aem (kO c),trivial⟩ ?_;refine gon ?_;exact ai
def KK(s:ap):Bool:=
 (decide ((nod s.nodes 0).blk.root=s.f.rt)&&(decide (0<=aj s.nodes s.j.rt)&&(decide ((nod s.nodes (aj s.nodes s.j.rt).toNat).status≠2)&&decide (s.f.ep<=s.j.ep)))) &&
 ((decide (s.boost=rt0) || decide (0<=aj s.nodes s.boost))&&(decide (s.now<=1099511627776)&&decide (s.j.ep<=(kJ s.now s.cfg.spe).1)))&&(decide ((dk s.f.ep s.cfg.spe).2=0)&&decide ((nod s.nodes 0).blk.slot<=(dk s.f.ep s.cfg.spe).1))
def pR(s:ap)(i:Nat):Int:=if 0<i/\0<=kW (tab s.tabs (i-1)).cp (tab s.tabs i).cp then 1 else if gh (tab s.tabs i) s.cfg.bals.length≠0 then 1 else 0
def nF(s:ap):Bool:=!(dW (fun i=>!(vot s.latest i).has&&decide (vot s.latest i≠dL)) s.latest.length).isSome&&(decide ((s.latest.length:Int)=s.cfg.bals.length)&&(decide ((s.eqv.length:Int)=0) || decide (cE s.eqv s.cfg.bals.length=0)))
def RU(s:ap)(b:Blk):Bool:=decide (b.fin.ep<=b.just.ep)&&decide (b.just.ep<=b.pul.j.ep)&&decide (b.fin.ep<=b.pul.f.ep)&&decide (b.pul.f.ep<=b.pul.j.ep)&&decide (b.pul.j.ep<=(kJ b.slot s.cfg.spe).1)
def wy(s:ap):Bool:=!(dW (fun i=>decide (s.now<(nod s.nodes i).blk.slot) || !RU s (nod s.nodes i).blk) s.nodes.length).isSome
end Go.Proofs.YtmpddimhleianaaGreat
