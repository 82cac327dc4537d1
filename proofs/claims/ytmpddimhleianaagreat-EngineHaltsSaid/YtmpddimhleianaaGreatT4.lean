/- Joined. -/
import Derived.Test.YtmpddimhleianaaGreatT1
import Derived.Test.YtmpddimhleianaaGreatR1
import Derived.Test.YtmpddimhleianaaGreatV1
import Derived.Test.YtmpddimhleianaaGreatV5
set_option linter.unusedVariables false
set_option linter.unusedSimpArgs false
set_option maxRecDepth 8000
set_option maxHeartbeats 4000000
namespace Go.Proofs.YtmpddimhleianaaGreat
open Go Go.FH Go.RowKit
theorem O7(n lo hi:Int):PC Tryz.prog 145 [.int .i64 n,.int .i64 lo,.int .i64 hi] (.bool (wit n lo hi)):=by
 refine ae 7 ?_;unfold wit;by_cases h0:lo<=n
 ·have e0:decide (n ≥ lo)=true:=au h0;have e1:=au h0;refine aZ e0 e1 ?_;exact ai
 ·have e0:decide (n ≥ lo)=false:=aA h0;have e1:=aA h0;refine aZ e0 e1 ?_;exact ai
theorem YQ(c:cU)(hb:c.bals.length<=2097152)(hu:∀x∈c.bals,0<=x/\x<18446744073709551616):PC Tryz.prog 84 [.agg (bW c.a)] (.int .i64 (ib c)):=by
 refine Sm.val (F:=fun r:Int=>PC Tryz.prog 84 [.agg (bW c.a)] (.int .i64 r)) ?_;refine md 4 yf Ub puA (fun r _=>puA) ?_;unfold nN;refine bd ?_;have c0:=H1 c.gen;have c1:PC Tryz.prog 147 [.agg (cx ⟨cp0,.sl 1 false (aH .u64 c.bals)⟩),.int .i64 c.bals.length] (.int .i64 (gh ⟨⟨0,c.gen⟩,c.bals⟩ c.bals.length)):=G3 ⟨cp0,c.bals⟩ c.bals.length hb hu;generalize hV:gh ⟨⟨0,c.gen⟩,c.bals⟩ c.bals.length=V at *;have lt:∀ (a b:Int),decide (a > b)=decide (b<a):=fun _ _=>rfl
 have ge:∀ (a b:Int),decide (a ≥ b)=decide (b<=a):=fun _ _=>rfl
 iterate 5 (repeat'(first|refine cM ?_|(refine bR (fun h=>?_) (fun h=>?_)<;>try(exact absurd h Uc))|refine eo (fun h=>?_) (fun h=>?_));all_goals try refine db (O7 _ _ _) ?_)
 repeat'(first|refine cM ?_|(refine bR (fun h=>?_) (fun h=>?_)<;>try(exact absurd h Uc))|refine eo (fun h=>?_) (fun h=>?_))
 all_goals try refine db c0 ?_
 all_goals repeat'(first|refine cM ?_|(refine bR (fun h=>?_) (fun h=>?_)<;>try(exact absurd h Uc))|refine eo (fun h=>?_) (fun h=>?_))
 all_goals try refine db c1 ?_
 all_goals repeat'(first|refine cM ?_|(refine bR (fun h=>?_) (fun h=>?_)<;>try(exact absurd h Uc))|refine eo (fun h=>?_) (fun h=>?_))
 all_goals try(refine I5 (by first|rfl|exact evd) (by first|rfl|exact evd) ?_;(try simp only[akm,akh,amg,ami,aku,akz,am0,alf,ajL,akW,ajT,amZ,akc,ajY,amk,akM]at *);(simp only[ib, *,reduceIte,ak2,ame,amp,amu,ajT,alh,alq,al3,al4,true_or,or_true,false_or,al0,Int.reduceEq,amj,amt,eq_self,reduceCtorEq,alE,alQ,akF,am2,alB,ajq,alo,alp,alG,aj9,akh,akm]))
 all_goals(repeat' split)
 all_goals first|rfl|omega|contradiction
theorem Aa(c:cU)(hb:c.bals.length<=2097152)(hu:∀x∈c.bals,0<=x/\x<18446744073709551616):PC Tryz.prog 42 [.agg (bW c.a)] (.tup [.agg (aE (O0 c).1.a),.int .i64 (O0 c).2]):=by
 refine ae 8 ?_;have c1:=YQ c hb hu;have c2:PC Tryz.prog 85 [.agg (aO (adM c.gen)),.int .i64 1] (.agg [.sl 240 false (rows bB [⟨adM c.gen,-1,1⟩])]):=IL (adM c.gen) 1
 have hcp:ib c=0->CpR (kO c):=fun h=>by
  have hl:(c.bals.length:Int)<=1024:=by
   unfold ib at h;by_cases q:1024<(c.bals.length:Int)
   ·(repeat' split at h)<;>first|omega|contradiction
   ·omega
  exact⟨by simp[kO],by simp[kO];omega,by simp[kO],by simp[kO],fun t ht=>by simp[kO]at ht;subst ht;exact hb,by simp[kO],by simp[kO],fun a ha=>by simp[kO]at ha,hb⟩
 have c3:=fun h=>Bu (kO c) (hcp h)
 unfold O0;generalize ib c=V at *;refine gon ?_;refine am c1 ?_;by_cases q:V=0
 case neg=>
  have e1:(V != 0)=true:=by simp[q]
  rw[al5 q];refine aM e1 ?_;exact pZ (by first|rfl|exact evd) (by first|rfl|exact evd)
 have e1:(V != 0)=false:=by simp[q]
 have c3:=c3 q;rw[al7 q];have hrep:List.replicate c.bals.length (al ⟨false,0,rt0⟩)=rows al (List.replicate c.bals.length dL):=aab _;have ht:List.take c.bals.length (rows al (List.replicate c.bals.length ⟨false,0,rt0⟩))=rows al (List.replicate c.bals.length ⟨false,0,rt0⟩):=amf Ub;refine bJ e1 ?_;refine aZ hrep ae7 ?_;refine aK (c2) ?_;repeat(first|refine qU ?_|simp only[go_sem,hrep,ae7])
 refine EK [4] ?_;simp only[evZ,F7];(try simp only[go_sem,Nat.reduceAdd,Nat.reduceSub,Nat.reduceMul,Nat.reduceLT,Nat.reduceLeDiff,Nat.reduceEqDiff,reduceIte,Int.reduceToNat,Int.reduceLT,Int.reduceLE,Int.reduceEq,Int.reduceNeg,reduceCtorEq,Int.reduceBEq,Int.reduceBNe,akH,ht])
 refine gon ?_;refine pG c3 ⟨agK (kO c).a (rows aW.c (kO c).tabs),trivial⟩ ⟨aem (kO c),trivial⟩ ?_;refine gon ?_;exact ai
theorem ZI(l:List Vot)(hl:l.length<=2097152):PC Tryz.prog 92 [.sl 34 false (rows al l),.sl 34 false (rows al l)] (.bool true):=by
 refine pfn 6 DN ?_;unfold rH;refine bd ?_;have e0:((l.length:Int) != (l.length:Int))=false:=Ub
 refine aF e0 ?_;refine az (fun i:Nat=>[(5,.int .i64 i)]) (fun _=>[]) (fun i=>l.length-i) (fun i=>i<=l.length) 0 (amc _) ?_ ?_
 ·exact ais [] []
 intro i hi;refine dp ?_;by_cases h1:i<l.length
 ·have e1:=inT h1;have hw:=af h1 Ua;have hgd:(rows al l).getD i []=al (vot l i):=aS (f:=al) dL h1;refine bw e1 ?_;refine bJ hgd ?_;refine ah hw ?_;refine⟨i+1,h1,Ua,?_⟩;exact ais [] []
 ·obtain rfl:i=l.length:=Ua
  have e1:=inF (l.length);refine aF e1 ?_;exact ai
theorem ZH(l:List aW)(hl:l.length<=2097152)(hb:∀t∈l,t.bals.length<=2097152):PC Tryz.prog 95 [.sl 34 false (rows aW.c l),.sl 34 false (rows aW.c l)] (.bool true):=by
 refine ae 6 ?_;have e0:((l.length:Int) != (l.length:Int))=false:=Ub
 refine aF e0 ?_;refine az (fun i:Nat=>[(5,.int .i64 i)]) (fun _=>[]) (fun i=>l.length-i) (fun i=>i<=l.length) 0 (amc _) ?_ ?_
 ·exact ais [] []
 intro i hi;refine dp ?_;by_cases h1:i<l.length
 ·have e1:=inT h1
  have hw:=af h1 Ua;have hgd:(rows aW.c l).getD i []=cx (tab l i).a:=aS (f:=aW.c) default h1;have hm:tab l i∈l:=bK default h1
  have c1:PC Tryz.prog 156 [.agg (cx (tab l i).a),.agg (cx (tab l i).a)] (.bool true):=by
   have:=SG (tab l i).a (tab l i).a (tab l i).bals (tab l i).bals false false rfl rfl (by have:=hb _ hm;omega) (by have:=hb _ hm;omega);simpa using this
  refine bw e1 ?_;refine ah hgd ?_;refine aK (c1) ?_;refine dQ ?_;refine ah hw ?_;refine⟨i+1,h1,Ua,?_⟩;exact ais [] []
 ·obtain rfl:i=l.length:=Ua
  have e1:=inF (l.length);refine aF e1 ?_;exact ai
theorem ZG(l:List Nod)(hl:l.length<=2097152):PC Tryz.prog 94 [.agg [.sl 240 false (rows bB l)],.agg [.sl 240 false (rows bB l)]] (.bool true):=by
 refine pfn 6 OG ?_;unfold AN;refine bd ?_;have e0:((l.length:Int) != (l.length:Int))=false:=Ub
 refine aF e0 ?_;refine az (fun i:Nat=>[(5,.int .i64 i)]) (fun _=>[.var [.sl 240 false (rows bB l)],.var [.sl 240 false (rows bB l)]]) (fun i=>l.length-i) (fun i=>i<=l.length) 0 (amc _) ?_ ?_
 ·exact ais [] [0,1]
 intro i hi;refine dp ?_;by_cases h1:i<l.length
 ·have e1:=inT h1;have hw:=af h1 Ua;have hgd:(rows bB l).getD i []=bB (nod l i):=aS (f:=bB) gr h1;refine bw e1 ?_;refine bJ hgd ?_;refine ah hw ?_;refine⟨i+1,h1,Ua,?_⟩;exact ais [] [0,1]
 ·obtain rfl:i=l.length:=Ua
  have e1:=inF (l.length);refine aF e1 ?_;exact ai
structure afM(s:ap):Prop where
 bn:s.nodes.length<=2097152
 bl:s.latest.length<=2097152
 be:s.eqv.length<=2097152
 bt:s.tabs.length<=2097152
 bb:∀t∈s.tabs,t.bals.length<=2097152
 bo:s.orph.length<=2097152
 ba:s.early.length<=2097152
 bv:∀a∈s.early,a.vals.length<=2097152
 bc:s.cfg.bals.length<=2097152
theorem Vh(s:ap)(h:afM s):PC Tryz.prog 46 [.agg (aE s.a),.agg (aE s.a)] (.bool true):=by
 refine pfn 9 OK ?_;unfold AR;refine bd ?_
 have c1:PC Tryz.prog 91 [.sl 1 false (aH .u64 s.cfg.bals),.sl 1 false (aH .u64 s.cfg.bals)] (.bool true):=by
  have:=zn s.cfg.bals s.cfg.bals false false (by have:=h.bc;omega) (by have:=h.bc;omega);simpa using this
 have c2:=ZI s.latest h.bl
 have c3:PC Tryz.prog 93 [.sl 1 false (aH .i64 s.eqv),.sl 1 false (aH .i64 s.eqv)] (.bool true):=by
  have:=jp s.eqv s.eqv false false (by have:=h.be;omega) (by have:=h.be;omega);simpa using this
 have c4:=ZG s.nodes h.bn;have c5:=ZH s.tabs (by have:=h.bt;omega) h.bb;have e0:∀n:Nat,((n:Int) != (n:Int))=false:=fun n=>by simp
 have e00:∀n:Int,(n != n)=false:=fun n=>by simp
 refine aZ e0 e00 ?_;refine am c1 ?_;refine bk ?_;refine ahG c2 ?_;refine am c3 ?_;refine aZ e0 e00 ?_;refine am c4 ?_;refine aZ e0 e00 ?_;refine am c5 ?_;refine dQ ?_;have hba:=h.ba;have hbo:=h.bo;refine gon ?_;refine az (fun i:Nat=>[(7,.int .i64 i),(5,.dead),(6,.dead)]) (fun _=>[.var (aE s.a),.var (aE s.a)]) (fun i=>s.early.length-i) (fun i=>i<=s.early.length) 0 (amc _) ?_ ?_
 ·exact ais [] [0,1]
 intro i hi;refine dp ?_;by_cases h1:i<s.early.length
 ·have e1:=inT h1
  have hw:=af h1 Ua;have hgd:(rows bp.c s.early).getD i []=cy (gO s.early i).a:=aS (f:=bp.c) default h1;have hm:gO s.early i∈s.early:=bK default h1
  have c6:PC Tryz.prog 96 [.agg (cy (gO s.early i).a),.agg (cy (gO s.early i).a)] (.bool true):=by
   have:=SE (gO s.early i).a (gO s.early i).a (gO s.early i).vals (gO s.early i).vals false false rfl rfl (by have:=h.bv _ hm;omega) (by have:=h.bv _ hm;omega);simpa using this
  refine bw e1 ?_;refine ah hgd ?_;refine aK (c6) ?_;refine dQ ?_;refine ah hw ?_;refine⟨i+1,h1,Ua,?_⟩;exact ais [] [0,1]
 ·obtain rfl:i=s.early.length:=Ua
  have e1:=inF (s.early.length);clear hi h1;refine aF e1 ?_;refine az (fun i:Nat=>[(8,.int .i64 i),(5,.dead),(6,.dead)]) (fun _=>[.var (aE s.a),.var (aE s.a)]) (fun i=>s.orph.length-i) (fun i=>i<=s.orph.length) 0 (amc _) ?_ ?_
  ·exact ais [] [0,1]
  clear e1;intro i hi;refine dp ?_;by_cases h1:i<s.orph.length
  ·have e1:=inT h1;have hw:=af h1 Ua;have hgd:(rows aO s.orph).getD i []=aO (dn s.orph i):=aS (f:=aO) cw h1;refine bw e1 ?_;refine bJ hgd ?_;refine ah hw ?_;refine⟨i+1,h1,Ua,?_⟩;exact ais [] [0,1]
  ·obtain rfl:i=s.orph.length:=Ua
   have e1:=inF (s.orph.length);refine aF e1 ?_;exact ai
def KK(s:ap):Bool:=
 (decide ((nod s.nodes 0).blk.root=s.f.rt)&&(decide (0<=aj s.nodes s.j.rt)&&(decide ((nod s.nodes (aj s.nodes s.j.rt).toNat).status≠2)&&decide (s.f.ep<=s.j.ep)))) &&
 ((decide (s.boost=rt0) || decide (0<=aj s.nodes s.boost))&&(decide (s.now<=1099511627776)&&decide (s.j.ep<=(kJ s.now s.cfg.spe).1)))&&(decide ((dk s.f.ep s.cfg.spe).2=0)&&decide ((nod s.nodes 0).blk.slot<=(dk s.f.ep s.cfg.spe).1))
def pR(s:ap)(i:Nat):Int:=if 0<i/\0<=kW (tab s.tabs (i-1)).cp (tab s.tabs i).cp then 1 else if gh (tab s.tabs i) s.cfg.bals.length≠0 then 1 else 0
def nF(s:ap):Bool:=!(dW (fun i=>!(vot s.latest i).has&&decide (vot s.latest i≠dL)) s.latest.length).isSome&&(decide ((s.latest.length:Int)=s.cfg.bals.length)&&(decide ((s.eqv.length:Int)=0) || decide (cE s.eqv s.cfg.bals.length=0)))
def RU(s:ap)(b:Blk):Bool:=decide (b.fin.ep<=b.just.ep)&&decide (b.just.ep<=b.pul.j.ep)&&decide (b.fin.ep<=b.pul.f.ep)&&decide (b.pul.f.ep<=b.pul.j.ep)&&decide (b.pul.j.ep<=(kJ b.slot s.cfg.spe).1)
def wy(s:ap):Bool:=!(dW (fun i=>decide (s.now<(nod s.nodes i).blk.slot) || !RU s (nod s.nodes i).blk) s.nodes.length).isSome
end Go.Proofs.YtmpddimhleianaaGreat
