/- Joined. -/
import Derived.Test.YtblipkgpoaonaaaGreatT1
import Derived.Test.YtblipkgpoaonaaaGreatR1
import Derived.Test.YtblipkgpoaonaaaGreatV7
import Derived.Test.YtblipkgpoaonaaaGreatV1
import Derived.Test.YtblipkgpoaonaaaGreatV5
set_option linter.unusedVariables false
set_option linter.unusedSimpArgs false
set_option maxRecDepth 8000
set_option maxHeartbeats 4000000
namespace Go.Proofs.YtblipkgpoaonaaaGreat
open Go Go.FH Go.RowKit
theorem O7(n lo hi:Int):PC Tryz.prog 383 [.int .i64 n,.int .i64 lo,.int .i64 hi] (.bool (wit n lo hi)):=by
 refine cD 7 ?_;unfold wit;by_cases h0:lo<=n
 ·have e0:decide (n ≥ lo)=true:=au h0;have e1:=au h0;refine aZ e0 e1 ?_;exact ai
 ·have e0:decide (n ≥ lo)=false:=aA h0;have e1:=aA h0;refine aZ e0 e1 ?_;exact ai
theorem YQ(c:cU)(hb:c.bals.length<=2097152)(hu:∀x∈c.bals,0<=x/\x<18446744073709551616):PC Tryz.prog 288 [.agg (bW c.a)] (.int .i64 (ib c)):=by
 refine Sm.val (F:=fun r:Int=>PC Tryz.prog 288 [.agg (bW c.a)] (.int .i64 r)) ?_;refine md 4 yf NC puA (fun r _=>puA) ?_;unfold nN;refine bd ?_;have c0:=H1 c.gen;have c1:PC Tryz.prog 252 [.agg (cx ⟨cp0,.sl 1 false (aH .u64 c.bals)⟩),.int .i64 c.bals.length] (.int .i64 (gh ⟨⟨0,c.gen⟩,c.bals⟩ c.bals.length)):=G3 ⟨cp0,c.bals⟩ c.bals.length hb hu;generalize hV:gh ⟨⟨0,c.gen⟩,c.bals⟩ c.bals.length=V at *;have lt:∀ (a b:Int),decide (a > b)=decide (b<a):=fun _ _=>rfl
 have ge:∀ (a b:Int),decide (a ≥ b)=decide (b<=a):=fun _ _=>rfl
 iterate 5 (repeat'(first|refine cM ?_|(refine bR (fun h=>?_) (fun h=>?_)<;>try(exact absurd h NE))|refine eo (fun h=>?_) (fun h=>?_));all_goals try refine db (O7 _ _ _) ?_)
 repeat'(first|refine cM ?_|(refine bR (fun h=>?_) (fun h=>?_)<;>try(exact absurd h NE))|refine eo (fun h=>?_) (fun h=>?_))
 all_goals try refine db c0 ?_
 all_goals repeat'(first|refine cM ?_|(refine bR (fun h=>?_) (fun h=>?_)<;>try(exact absurd h NE))|refine eo (fun h=>?_) (fun h=>?_))
 all_goals try refine db c1 ?_
 all_goals repeat'(first|refine cM ?_|(refine bR (fun h=>?_) (fun h=>?_)<;>try(exact absurd h NE))|refine eo (fun h=>?_) (fun h=>?_))
 all_goals try(refine I5 (by first|rfl|exact evd) (by first|rfl|exact evd) ?_;(try simp only[akm,akh,amg,ami,aku,akz,am0,alf,ajL,akW,ajT,amZ,akc,ajY,amk,akM]at *);(simp only[ib, *,reduceIte,ak2,ame,amp,amu,ajT,alh,alq,al3,al4,true_or,or_true,am6,al0,Int.reduceEq,amj,amt,eq_self,reduceCtorEq,alE,alQ,akF,am2,alB,ajq,alo,alp,alG,aj9,akh,akm]))
 all_goals(repeat' split)
 all_goals first|rfl|omega|contradiction
theorem ZI(l:List Vot)(hl:l.length<=2097152):PC Tryz.prog 124 [.sl 34 false (rows al l),.sl 34 false (rows al l)] (.bool true):=by
 refine pfn 6 DN ?_;unfold rH;refine bd ?_;have e0:((l.length:Int) != (l.length:Int))=false:=NC
 refine aF e0 ?_;refine az (fun i:Nat=>[(5,.int .i64 i)]) (fun _=>[]) (fun i=>l.length-i) (fun i=>i<=l.length) 0 (amc _) ?_ ?_
 ·exact ais [] []
 intro i hi;refine dp ?_;by_cases h1:i<l.length
 ·have e1:=inT h1;have hw:=af h1 NB;have hgd:(rows al l).getD i []=al (vot l i):=aS (f:=al) dL h1;refine bw e1 ?_;refine bJ hgd ?_;refine ah hw ?_;refine⟨i+1,h1,NB,?_⟩;exact ais [] []
 ·obtain rfl:i=l.length:=NB
  have e1:=inF (l.length);refine aF e1 ?_;exact ai
theorem ZH(l:List aW)(hl:l.length<=2097152)(hb:∀t∈l,t.bals.length<=2097152):PC Tryz.prog 127 [.sl 34 false (rows aW.c l),.sl 34 false (rows aW.c l)] (.bool true):=by
 refine cD 6 ?_;have e0:((l.length:Int) != (l.length:Int))=false:=NC
 refine aF e0 ?_;refine az (fun i:Nat=>[(5,.int .i64 i)]) (fun _=>[]) (fun i=>l.length-i) (fun i=>i<=l.length) 0 (amc _) ?_ ?_
 ·exact ais [] []
 intro i hi;refine dp ?_;by_cases h1:i<l.length
 ·have e1:=inT h1
  have hw:=af h1 NB;have hgd:(rows aW.c l).getD i []=cx (tab l i).a:=aS (f:=aW.c) default h1;have hm:tab l i∈l:=bK default h1
  have c1:PC Tryz.prog 214 [.agg (cx (tab l i).a),.agg (cx (tab l i).a)] (.bool true):=by
   have:=SG (tab l i).a (tab l i).a (tab l i).bals (tab l i).bals false false rfl rfl (by have:=hb _ hm;omega) (by have:=hb _ hm;omega);simpa using this
  refine bw e1 ?_;refine ah hgd ?_;refine aK (c1) ?_;refine dQ ?_;refine ah hw ?_;refine⟨i+1,h1,NB,?_⟩;exact ais [] []
 ·obtain rfl:i=l.length:=NB
  have e1:=inF (l.length);refine aF e1 ?_;exact ai
theorem ZG(l:List Nod)(hl:l.length<=2097152):PC Tryz.prog 126 [.agg [.sl 240 false (rows bB l)],.agg [.sl 240 false (rows bB l)]] (.bool true):=by
 refine pfn 6 OG ?_;unfold AN;refine bd ?_;have e0:((l.length:Int) != (l.length:Int))=false:=NC
 refine aF e0 ?_;refine az (fun i:Nat=>[(5,.int .i64 i)]) (fun _=>[.var [.sl 240 false (rows bB l)],.var [.sl 240 false (rows bB l)]]) (fun i=>l.length-i) (fun i=>i<=l.length) 0 (amc _) ?_ ?_
 ·exact ais [] [0,1]
 intro i hi;refine dp ?_;by_cases h1:i<l.length
 ·have e1:=inT h1;have hw:=af h1 NB;have hgd:(rows bB l).getD i []=bB (nod l i):=aS (f:=bB) gr h1;refine bw e1 ?_;refine bJ hgd ?_;refine ah hw ?_;refine⟨i+1,h1,NB,?_⟩;exact ais [] [0,1]
 ·obtain rfl:i=l.length:=NB
  have e1:=inF (l.length);refine aF e1 ?_;exact ai
structure afM(s:ap):Prop where
 bn:s.nodes.length<=2097152
 bl:s.latest.length<=2097152
 be:s.eqv.length<=2097152
 bt:s.tabs.length<=2097152
 bb:∀t∈s.tabs,t.bals.length<=2097152
 bo:s.orph.length<=2097152
 ba:s.early.length<=2097152
 bv:∀a∈s.early,a.vals.length<=2097152
 bc:s.cfg.bals.length<=2097152
theorem Vh(s:ap)(h:afM s):PC Tryz.prog 47 [.agg (aE s.a),.agg (aE s.a)] (.bool true):=by
 refine pfn 9 OK ?_;unfold AR;refine bd ?_
 have c1:PC Tryz.prog 123 [.sl 1 false (aH .u64 s.cfg.bals),.sl 1 false (aH .u64 s.cfg.bals)] (.bool true):=by
  have:=zn s.cfg.bals s.cfg.bals false false (by have:=h.bc;omega) (by have:=h.bc;omega);simpa using this
 have c2:=ZI s.latest h.bl
 have c3:PC Tryz.prog 125 [.sl 1 false (aH .i64 s.eqv),.sl 1 false (aH .i64 s.eqv)] (.bool true):=by
  have:=ra s.eqv s.eqv false false (by have:=h.be;omega) (by have:=h.be;omega);simpa using this
 have c4:=ZG s.nodes h.bn;have c5:=ZH s.tabs (by have:=h.bt;omega) h.bb;have e0:∀n:Nat,((n:Int) != (n:Int))=false:=fun n=>by simp
 have e00:∀n:Int,(n != n)=false:=fun n=>by simp
 refine aZ e0 e00 ?_;refine am c1 ?_;refine bk ?_;refine ahG c2 ?_;refine am c3 ?_;refine aZ e0 e00 ?_;refine am c4 ?_;refine aZ e0 e00 ?_;refine am c5 ?_;refine dQ ?_;have hba:=h.ba;have hbo:=h.bo;refine gon ?_;refine az (fun i:Nat=>[(7,.int .i64 i),(5,.dead),(6,.dead)]) (fun _=>[.var (aE s.a),.var (aE s.a)]) (fun i=>s.early.length-i) (fun i=>i<=s.early.length) 0 (amc _) ?_ ?_
 ·exact ais [] [0,1]
 intro i hi;refine dp ?_;by_cases h1:i<s.early.length
 ·have e1:=inT h1
  have hw:=af h1 NB;have hgd:(rows bp.c s.early).getD i []=cy (gO s.early i).a:=aS (f:=bp.c) default h1;have hm:gO s.early i∈s.early:=bK default h1
  have c6:PC Tryz.prog 128 [.agg (cy (gO s.early i).a),.agg (cy (gO s.early i).a)] (.bool true):=by
   have:=SE (gO s.early i).a (gO s.early i).a (gO s.early i).vals (gO s.early i).vals false false rfl rfl (by have:=h.bv _ hm;omega) (by have:=h.bv _ hm;omega);simpa using this
  refine bw e1 ?_;refine ah hgd ?_;refine aK (c6) ?_;refine dQ ?_;refine ah hw ?_;refine⟨i+1,h1,NB,?_⟩;exact ais [] [0,1]
 ·obtain rfl:i=s.early.length:=NB
  have e1:=inF (s.early.length);clear hi h1;refine aF e1 ?_;refine az (fun i:Nat=>[(8,.int .i64 i),(5,.dead),(6,.dead)]) (fun _=>[.var (aE s.a),.var (aE s.a)]) (fun i=>s.orph.length-i) (fun i=>i<=s.orph.length) 0 (amc _) ?_ ?_
  ·exact ais [] [0,1]
  clear e1;intro i hi;refine dp ?_;by_cases h1:i<s.orph.length
  ·have e1:=inT h1;have hw:=af h1 NB;have hgd:(rows aO s.orph).getD i []=aO (dn s.orph i):=aS (f:=aO) cw h1;refine bw e1 ?_;refine bJ hgd ?_;refine ah hw ?_;refine⟨i+1,h1,NB,?_⟩;exact ais [] [0,1]
  ·obtain rfl:i=s.orph.length:=NB
   have e1:=inF (s.orph.length);refine aF e1 ?_;exact ai
theorem US(t:List Nod)(hb:t.length<=2097152):PC Tryz.prog 384 [.agg [.sl 240 false (rows bB t)]] (.int .i64 (nU t)):=by
 refine cD 21 ?_;obtain⟨R,hR⟩:∃R,R=nU t:=⟨_,rfl⟩
 rw[<-hR];unfold nU at hR;by_cases q0:t.length=0
 ·have e0:((t.length:Int)==0)=true:=by simp[q0]
  rw[al7 (.inl q0)]at hR;subst hR;refine aM e0 ?_;exact ai
 have e0:((t.length:Int)==0)=false:=by simp;intro h;exact q0 (by simp[h])
 by_cases q1:4096<t.length
 ·have e1:decide ((t.length:Int) > 4096)=true:=au NB;have e1':decide ((4096:Int)<(t.length:Int))=true:=au NB;rw[al7 (.inr q1)]at hR;subst hR;refine fI e0 e1 e1' ?_;exact ai
 have e1:decide ((t.length:Int) > 4096)=false:=aA NB;have e1':decide ((4096:Int)<(t.length:Int))=false:=aA NB;rw[al5 (fun h=>h.elim q0 q1)]at hR;refine wg e0 e1 e1' ?_;refine az (fun i:Nat=>[(20,.int .i64 i)]) (fun i=>[.var [.sl 240 false (rows bB t)],.map (mrt ((t.take i).map (·.blk.root)))]) (fun i=>t.length-i) (fun i=>i<=t.length/\R=frE (An t) (t.length-i) i) 0 ⟨amc _,hR⟩ ?_ ?_
 ·rw[akk,amR,show mrt []=[]from rfl];exact ais [] [0,1]
 clear hR e0 e1 e1';rintro i ⟨hi,hn⟩;refine dp ?_;by_cases h1:i<t.length
 ·have e1:=inT h1
  have hw:=af h1 NB;have hgd:(rows bB t).getD i []=bB (nod t i):=aS (f:=bB) gr h1;have c1:=UM (nod t i).status
  have hps:(t.take (i+1)).map (·.blk.root)=(t.take i).map (·.blk.root)++[(nod t i).blk.root]:=by
   rw[amY,al6 h1,amN];unfold nod;rw[alt,al6 h1];rfl
  have ht:∀ {v:Int},An t i=v->v≠0->R=v:=fun h0 h2=>by rw[hn,zg h1 (by rw[h0];exact h2),h0]
  have hf:An t i=0->R=frE (An t) (t.length-(i+1)) (i+1):=fun h0=>by rw[hn,zf h1 h0]
  clear hn;have hU:∀k:Nat,(nod t i).up=k->k<i->(rows bB t).getD (nod t i).up.toNat []=bB (nod t (nod t i).up.toNat):=fun k hk hki=>aS (f:=bB) gr NB
  unfold An at ht hf;generalize (t.take i).map (·.blk.root)=m at *;generalize hx:nod t i=x at *;refine bw e1 ?_;refine ah hgd ?_;refine am c1 ?_;by_cases q1:0<=x.status/\x.status<=2
  case neg=>
   have k1:(decide (0<=x.status)&&decide (x.status<=2))=false:=by rw[akJ,ami,ami];omega
   obtain rfl:=ht (al7 q1) NE;refine aM k1 ?_;exact ai
  have k1:(decide (0<=x.status)&&decide (x.status<=2))=true:=by simp[q1]
  rw[al5 (fun h=>h q1)]at ht hf;by_cases qi:i=0
  ·subst qi
   by_cases q2:x.up=-1
   case neg=>
    have k2:(x.up != -1)=true:=by simp[q2]
    obtain rfl:=ht (al7 ⟨rfl,q2⟩) NE;refine cH k1 k2 ?_;exact ai
   have k2:(x.up != -1)=false:=by simp[q2]
   rw[al5 (fun h=>h.2 q2),al5 NB]at ht hf;refine fp k1 k2 ?_;by_cases q3:x.blk.root∈m
   ·obtain⟨j,j1,j2,j3⟩:=xI q3;obtain rfl:=ht (al7 q3) NE;refine cH j1 j2 ?_;exact ai
   have j1:=D3 q3;rw[al5 q3]at ht hf;refine bJ j1 ?_;refine bw j1 ?_;refine ah hw ?_;refine⟨0+1,⟨h1,hf (al7 rfl)⟩,NB,?_⟩;rw[hps];exact ais [] [0,1]
  ·have ki:((i:Int)==0)=false:=by simp;omega
   have kp:decide ((i:Int) > 0)=true:=au NB;have kp':decide ((0:Int)<(i:Int))=true:=au NB;rw[al5 (fun h=>qi h.1)]at ht hf;by_cases q2:x.up<0
   ·have k2:=au q2;obtain rfl:=ht (al7 ⟨NB,.inl q2⟩) NE;refine eU k1 ki kp kp' k2 ?_;refine agF ?_;exact ai
   have k2:=aA q2;by_cases q3:(i:Int)<=x.up
   ·have k3:decide (x.up ≥ (i:Int))=true:=au q3;have k3':decide ((i:Int)<=x.up)=true:=au q3;obtain rfl:=ht (al7 ⟨NB,.inr q3⟩) NE;refine jj k1 ki kp kp' k2 k3 k3' ?_;refine agF ?_;exact ai
   have k3:decide (x.up ≥ (i:Int))=false:=aA q3;have k3':decide ((i:Int)<=x.up)=false:=aA q3;rw[al5 (fun h=>h.2.elim q2 q3)]at ht hf;have hU:=hU x.up.toNat NB NB;have hub:decide (x.up<((t.length:Nat):Int))=true:=au NB;generalize nod t x.up.toNat=y at *;refine jj k1 ki kp kp' k2 k3 k3' ?_;refine aB ?_;by_cases q4:x.blk.root∈m
   ·obtain⟨j,j1,j2,j3⟩:=xI q4;obtain rfl:=ht (al7 q4) NE;refine cH j1 j2 ?_;exact ai
   have j1:=D3 q4;rw[al5 q4,al5 qi]at ht hf;refine bJ j1 ?_;refine fp j1 ki ?_;refine ah hU ?_;by_cases q5:x.blk.parent=y.blk.root
   case neg=>
    have k5:(decide (x.blk.parent=y.blk.root) != true)=true:=by simp[q5]
    obtain rfl:=ht (al7 q5) NE;repeat(first|refine bY ?_|simp only[go_sem,k5,aA q5])
    refine agF ?_;exact ai
   rw[al5 (fun h=>h q5)]at ht hf;repeat(first|refine bY ?_|simp only[go_sem,au q5])
   refine aB ?_;refine ah hU ?_;by_cases q6:x.blk.slot<=y.blk.slot
   ·have k6:=au q6;obtain rfl:=ht (al7 q6) NE;refine aM k6 ?_;exact ai
   have k6:=aA q6;rw[al5 q6]at ht hf;refine bJ k6 ?_;refine ah hw ?_;refine⟨i+1,⟨h1,hf rfl⟩,NB,?_⟩;rw[hps];exact ais [] [0,1]
 ·obtain rfl:i=t.length:=NB
  have e1:=inF (t.length);rw[ze]at hn;subst hn;refine aF e1 ?_;exact ai
theorem R0(t:List Nod)(hb:t.length<=2097152):PC Tryz.prog 289 [.agg [.sl 240 false (rows bB t)]] (.int .i64 (statV t)):=by
 refine cD 17 ?_;have c1:=US t hb;obtain⟨R,hR⟩:∃R,R=statV t:=⟨_,rfl⟩
 rw[<-hR];unfold statV at hR;have hok:=fun h=>xu (t:=t) h
 generalize nU t=V at *;refine gon ?_;refine am c1 ?_;by_cases q1:V=0
 case neg=>
  have e1:(V != 0)=true:=by simp[q1]
  rw[al7 q1]at hR;subst hR;refine aM e1 ?_;exact ai
 have e1:(V != 0)=false:=by simp[q1]
 rw[al5 (by simp[q1])]at hR;obtain⟨ht,hl⟩:=hok q1;have hp:=ht.pos;have hb1:decide ((1:Int)<=(t.length:Int))=true:=au NB;have hdl:(rows bB t).drop 1=rows bB (t.drop 1):=by unfold rows;rw[akG]
 have hln:(t.drop 1).length=t.length-1:=NC
 rw[<-hln]at hR;have h1le:(1:Int)<=(t.length:Int):=NB
 have htk:List.take (t.length-1) (rows bB (t.drop 1))=rows bB (t.drop 1):=amf NC;refine bJ e1 ?_;refine aZ hdl htk ?_;refine az (fun i:Nat=>[(16,.int .i64 i)]) (fun i=>[.var [.sl 240 false (rows bB t)]]) (fun i=>(t.drop 1).length-i) (fun i=>i<=(t.drop 1).length/\R=frE (ej t) ((t.drop 1).length-i) i) 0 ⟨amc _,hR⟩ ?_ ?_
 ·exact ais [] [0]
 clear hR e1 hb1;rintro i ⟨hi,hn⟩;refine dp ?_;by_cases h1:i<(t.drop 1).length
 ·have e1:=inT h1
  have hw:=af h1 NB
  have hgd:(rows bB (t.drop 1)).getD i []=bB (nod t (i+1)):=by
   rw[aS (f:=bB) gr h1];unfold nod;rw[alt,alt,List.getElem?_drop,alM]
  have hf0:∀ {v:Int},ej t i=v->v≠0->R=v:=fun h0 h2=>by rw[hn,zg h1 (by rw[h0];exact h2),h0]
  have hf:ej t i=0->R=frE (ej t) ((t.drop 1).length-(i+1)) (i+1):=fun h0=>by rw[hn,zf h1 h0]
  clear hn;obtain⟨u0,u1⟩:=ht.ok (i+1) NB NB;have hU:(rows bB t).getD (nod t (i+1)).up.toNat []=bB (nod t (nod t (i+1)).up.toNat):=aS (f:=bB) gr NB;have hub:decide ((nod t (i+1)).up<((t.length:Nat):Int))=true:=au NB;have hun:decide (0<=(nod t (i+1)).up)=true:=au u0;unfold ej at hf0 hf;generalize nod t (i+1)=x at *;generalize nod t x.up.toNat=y at *;refine bw e1 ?_;refine aZ hgd hU ?_;by_cases q1:x.status=1
  ·have k1:(x.status==1)=true:=by simp[q1]
   by_cases q2:y.status=1
   ·have k2:(y.status != 1)=false:=by simp[q2]
    have k3:(y.status==2)=false:=by simp[q2]
    refine zh k1 k2 k3 ?_;refine ah hw ?_;refine⟨i+1,⟨h1,hf (al5 (by rintro (h|h);exact h.2 q2;have:=h.1;omega))⟩,NB,?_⟩;exact ais [] [0]
   ·have k2:(y.status != 1)=true:=by simp[q2]
    obtain rfl:=hf0 (al7 (.inl ⟨q1,q2⟩)) NE;refine cH k1 k2 ?_;exact ai
  ·have k1:(x.status==1)=false:=by simp[q1]
   by_cases q2:y.status=2
   ·have k2:(y.status==2)=true:=by simp[q2]
    by_cases q3:x.status=2
    ·have k3:(x.status != 2)=false:=by simp[q3]
     refine zh k1 k2 k3 ?_;refine ah hw ?_;refine⟨i+1,⟨h1,hf (al5 (by rintro (h|h);exact q1 h.1;exact h.2 q3))⟩,NB,?_⟩;exact ais [] [0]
    ·have k3:(x.status != 2)=true:=by simp[q3]
     obtain rfl:=hf0 (al7 (.inr ⟨q2,q3⟩)) NE;refine fI k1 k2 k3 ?_;exact ai
   ·have k2:(y.status==2)=false:=by simp[q2]
    refine fp k1 k2 ?_;refine ah hw ?_;refine⟨i+1,⟨h1,hf (al5 (by rintro (h|h);exact q1 h.1;exact q2 h.1))⟩,NB,?_⟩;exact ais [] [0]
 ·obtain rfl:i=(t.drop 1).length:=NB
  have e1:=inF ((t.drop 1).length);rw[ze]at hn;subst hn;refine aF e1 ?_;exact ai
theorem qu(s:ap)(n:Int):PC Tryz.prog 385 [.agg (aE s.a),.int .u64 n] (.int .u64 (kJ n s.cfg.spe).1):=by
 refine cD 7 ?_;have c1:=ae9 n s.cfg.spe;refine gon ?_;refine ahG c1 ?_;exact ai
def KK(s:ap):Bool:=
 (decide ((nod s.nodes 0).blk.root=s.f.rt)&&(decide (0<=aj s.nodes s.j.rt)&&(decide ((nod s.nodes (aj s.nodes s.j.rt).toNat).status≠2)&&decide (s.f.ep<=s.j.ep)))) &&
 ((decide (s.boost=rt0) || decide (0<=aj s.nodes s.boost))&&(decide (s.now<=1099511627776)&&decide (s.j.ep<=(kJ s.now s.cfg.spe).1)))&&(decide ((dk s.f.ep s.cfg.spe).2=0)&&decide ((nod s.nodes 0).blk.slot<=(dk s.f.ep s.cfg.spe).1))
def pR(s:ap)(i:Nat):Int:=if 0<i/\0<=kW (tab s.tabs (i-1)).cp (tab s.tabs i).cp then 1 else if gh (tab s.tabs i) s.cfg.bals.length≠0 then 1 else 0
def nF(s:ap):Bool:=!(dW (fun i=>!(vot s.latest i).has&&decide (vot s.latest i≠dL)) s.latest.length).isSome&&(decide ((s.latest.length:Int)=s.cfg.bals.length)&&(decide ((s.eqv.length:Int)=0) || decide (cE s.eqv s.cfg.bals.length=0)))
def RU(s:ap)(b:Blk):Bool:=decide (b.fin.ep<=b.just.ep)&&decide (b.just.ep<=b.pul.j.ep)&&decide (b.fin.ep<=b.pul.f.ep)&&decide (b.pul.f.ep<=b.pul.j.ep)&&decide (b.pul.j.ep<=(kJ b.slot s.cfg.spe).1)
def wy(s:ap):Bool:=!(dW (fun i=>decide (s.now<(nod s.nodes i).blk.slot) || !RU s (nod s.nodes i).blk) s.nodes.length).isSome
theorem YT(s:ap)(hb:s.nodes.length<=2097152)(h0:0<s.nodes.length)(hf:U64 s.f.ep):PC Tryz.prog 290 [.agg (aE s.a)] (.bool (KK s)):=by
 refine cD 6 ?_;obtain⟨R,hR⟩:∃R,R=KK s:=⟨_,rfl⟩
 rw[<-hR];unfold KK at hR;have c1:=zU s.nodes s.j.rt hb;have c2:=H1 s.boost;have c3:=zU s.nodes s.boost hb;have c4:=qu s s.now;have c5:=Fv (e:=s.f.ep) (p:=s.cfg.spe) hf.1 hf.2;have b1:=fM s.nodes s.j.rt;have hg0:(rows bB s.nodes).getD 0 []=bB (nod s.nodes 0):=aS (f:=bB) gr h0;have hgi:0<=aj s.nodes s.j.rt->(rows bB s.nodes).getD (aj s.nodes s.j.rt).toNat []=bB (nod s.nodes (aj s.nodes s.j.rt).toNat):=fun h=>aS (f:=bB) gr NB
 have hb0:decide ((0:Int)<((s.nodes.length:Nat):Int))=true:=au NB;generalize aj s.nodes s.j.rt=I at *;generalize aj s.nodes s.boost=B at *;generalize (kJ s.now s.cfg.spe).1=E at *;generalize dk s.f.ep s.cfg.spe=S at *;generalize nod s.nodes I.toNat=x at *;generalize nod s.nodes 0=y at *;obtain⟨S1,S2⟩:=S;dsimp only at c5 hR;refine gon ?_;refine am c1 ?_;by_cases q1:y.blk.root=s.f.rt
 case neg=>
  have e1:=aA q1;obtain rfl:R=false:=by rw[hR];simp[q1]
  refine cH hg0 e1 ?_;exact ai
 have e1:=au q1;by_cases q2:I<0
 ·have e2:=au q2;obtain rfl:R=false:=by rw[hR,aA (show ¬0<=I by omega)];simp
  refine fI hg0 e1 e2 ?_;exact ai
 have e2:=aA q2;have hgi:=hgi NB;by_cases q3:x.status=2
 ·have e3:(x.status==2)=true:=by simp[q3]
  obtain rfl:R=false:=by rw[hR];simp[q3]
  refine eU hg0 e1 e2 hgi e3 ?_;refine agF ?_;exact ai
 have e3:(x.status==2)=false:=by simp[q3]
 by_cases q4:s.j.ep<s.f.ep
 ·have e4:=au q4;obtain rfl:R=false:=by rw[hR,aA (show ¬s.f.ep<=s.j.ep by omega)];simp
  repeat(first|refine bY ?_|simp only[go_sem,hg0,e1,e2,hgi,e3,e4])
  refine agF ?_;exact ai
 have e4:=aA q4
 have hR:R=(((decide (s.boost=rt0) || decide (0<=B))&&(decide (s.now<=1099511627776)&&decide (s.j.ep<=E)))&&(decide (S2=0)&&decide (y.blk.slot<=S1))):=by
  rw[hR,au (show s.f.ep<=s.j.ep by omega),au (show 0<=I by omega),au q1,au (p:=x.status≠2) q3];simp only[am2]
 repeat(first|refine bY ?_|simp only[go_sem,hg0,e1,e2,hgi,e3,e4])
 refine agE ?_;refine aK (c2) ?_
 have tail:(s.boost=rt0\/0<=B)->R=((decide (s.now<=1099511627776)&&decide (s.j.ep<=E))&&(decide (S2=0)&&decide (y.blk.slot<=S1))):=fun h=>by
  rw[hR];have:(decide (s.boost=rt0) || decide (0<=B))=true:=by simpa using h
  rw[this,am2]
 have now1:decide (s.now > 1099511627776)=decide ((1099511627776:Int)<s.now):=rfl;have jep1:decide (s.j.ep > E)=decide (E<s.j.ep):=rfl;by_cases q5:s.boost=rt0
 ·have e5:=au q5
  have hR:=tail (.inl q5);by_cases q7:1099511627776<s.now
  ·have e7:=au q7;obtain rfl:R=false:=by rw[hR,aA (show ¬s.now<=1099511627776 by omega)];simp
   repeat(first|refine bY ?_|simp only[go_sem,e5,now1,e7])
   refine agF ?_;exact ai
  have e7:=aA q7;rw[au (show s.now<=1099511627776 by omega),am2]at hR;repeat(first|refine bY ?_|simp only[go_sem,e5,now1,e7])
  refine aK (c4) ?_;by_cases q8:E<s.j.ep
  ·have e8:=au q8;obtain rfl:R=false:=by rw[hR,aA (show ¬s.j.ep<=E by omega)];simp
   repeat(first|refine bY ?_|simp only[go_sem,jep1,e8])
   refine agF ?_;exact ai
  have e8:=aA q8;rw[au (show s.j.ep<=E by omega),am2]at hR;repeat(first|refine bY ?_|simp only[go_sem,jep1,e8])
  refine agE ?_;refine am c5 ?_;by_cases q9:S2=0
  ·have e9:(S2==0)=true:=by simp[q9]
   rw[au q9,am2]at hR;subst hR;repeat(first|refine bY ?_|simp only[go_sem,e9,hg0])
   exact ai
  ·have e9:(S2==0)=false:=by simp[q9]
   rw[aA q9,ajq]at hR;subst hR;repeat(first|refine bY ?_|simp only[go_sem,e9,hg0])
   exact ai
 ·have e5:=aA q5
  repeat(first|refine bY ?_|simp only[go_sem,e5])
  refine aK (c3) ?_;by_cases q6:B<0
  ·have e6:=au q6;obtain rfl:R=false:=by rw[hR,aA q5,aA (show ¬0<=B by omega)];simp
   repeat(first|refine bY ?_|simp only[go_sem,e6])
   refine agF ?_;exact ai
  have e6:=aA q6;have hR:=tail (.inr NB);by_cases q7:1099511627776<s.now
  ·have e7:=au q7;obtain rfl:R=false:=by rw[hR,aA (show ¬s.now<=1099511627776 by omega)];simp
   repeat(first|refine bY ?_|simp only[go_sem,e6,now1,e7])
   refine agF ?_;exact ai
  have e7:=aA q7;rw[au (show s.now<=1099511627776 by omega),am2]at hR;repeat(first|refine bY ?_|simp only[go_sem,e6,now1,e7])
  refine aK (c4) ?_;by_cases q8:E<s.j.ep
  ·have e8:=au q8;obtain rfl:R=false:=by rw[hR,aA (show ¬s.j.ep<=E by omega)];simp
   repeat(first|refine bY ?_|simp only[go_sem,jep1,e8])
   refine agF ?_;exact ai
  have e8:=aA q8;rw[au (show s.j.ep<=E by omega),am2]at hR;repeat(first|refine bY ?_|simp only[go_sem,jep1,e8])
  refine agE ?_;refine am c5 ?_;by_cases q9:S2=0
  ·have e9:(S2==0)=true:=by simp[q9]
   rw[au q9,am2]at hR;subst hR;repeat(first|refine bY ?_|simp only[go_sem,e9,hg0])
   exact ai
  ·have e9:(S2==0)=false:=by simp[q9]
   rw[aA q9,ajq]at hR;subst hR;repeat(first|refine bY ?_|simp only[go_sem,e9,hg0])
   exact ai
end Go.Proofs.YtblipkgpoaonaaaGreat
