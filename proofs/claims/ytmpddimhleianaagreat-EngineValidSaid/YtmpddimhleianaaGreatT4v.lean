/- Joined. -/
import Derived.Test.YtmpddimhleianaaGreatT1v
import Derived.Test.YtmpddimhleianaaGreatW3v
import Derived.Test.YtmpddimhleianaaGreatChecked
import Derived.KernelRfl
import Derived.Test.YtmpddimhleianaaGreatV1v
import Derived.Test.YtmpddimhleianaaGreatV5v
set_option linter.unusedVariables false
set_option linter.unusedSimpArgs false
set_option maxRecDepth 8000
set_option maxHeartbeats 4000000
namespace Go.Proofs.YtmpddimhleianaaGreat
open Go Go.FH Go.RowKit
theorem H1(n lo hi:Int):PC Tryz.prog 145 [.int .i64 n,.int .i64 lo,.int .i64 hi] (.bool (wit n lo hi)):=by
 refine aQ 7 ?_;unfold wit;by_cases h0:lo<=n
 ·have e0:decide (n ≥ lo)=true:=ax h0;have e1:=ax h0;refine bm e0 e1 ?_;exact aj
 ·have e0:decide (n ≥ lo)=false:=aD h0;have e1:=aD h0;refine bm e0 e1 ?_;exact aj
theorem Ge(c:cI)(hb:c.bals.length<=2097152)(hu:∀x∈c.bals,0<=x/\x<18446744073709551616):PC Tryz.prog 84 [.agg (cV c.a)] (.int .i64 (gF c)):=by
 refine Sm.val (F:=fun r:Int=>PC Tryz.prog 84 [.agg (cV c.a)] (.int .i64 r)) ?_;refine lX 4 tN af1 puA (fun r _=>puA) ?_;unfold mS;refine bd ?_;have c0:=gP c.gen;have c1:PC Tryz.prog 147 [.agg (bE ⟨cp0,.sl 1 false (ah .u64 c.bals)⟩),.int .i64 c.bals.length] (.int .i64 (fY ⟨⟨0,c.gen⟩,c.bals⟩ c.bals.length)):=ab0 ⟨cp0,c.bals⟩ c.bals.length hb hu;generalize hV:fY ⟨⟨0,c.gen⟩,c.bals⟩ c.bals.length=V at *;have lt:∀ (a b:Int),decide (a > b)=decide (b<a):=fun _ _=>rfl
 have ge:∀ (a b:Int),decide (a ≥ b)=decide (b<=a):=fun _ _=>rfl
 iterate 5 (repeat'(first|refine db ?_|(refine bB (fun h=>?_) (fun h=>?_)<;>try(exact absurd h af2))|refine eK (fun h=>?_) (fun h=>?_));all_goals try refine dt (H1 _ _ _) ?_)
 repeat'(first|refine db ?_|(refine bB (fun h=>?_) (fun h=>?_)<;>try(exact absurd h af2))|refine eK (fun h=>?_) (fun h=>?_))
 all_goals try refine dt c0 ?_
 all_goals repeat'(first|refine db ?_|(refine bB (fun h=>?_) (fun h=>?_)<;>try(exact absurd h af2))|refine eK (fun h=>?_) (fun h=>?_))
 all_goals try refine dt c1 ?_
 all_goals repeat'(first|refine db ?_|(refine bB (fun h=>?_) (fun h=>?_)<;>try(exact absurd h af2))|refine eK (fun h=>?_) (fun h=>?_))
 all_goals try(refine C9 (by first|rfl|exact evd) (by first|rfl|exact evd) ?_;(try simp only[adZ,adP,afJ,afQ,ad3,aej,ac0,aeM,adu,aeC,afw,acE,adM,adm,afL,ad4]at *);(simp only[gF, *,reduceIte,aei,afP,aeq,aeS,afw,aes,afo,afe,afr,afq,or_true,afp,aeO,Int.reduceEq,acq,aco,eq_self,reduceCtorEq,afb,afl,adI,acD,aef,acI,aeT,aeh,aeE,ac9,adP,adZ]))
 all_goals(repeat' split)
 all_goals first|rfl|omega|contradiction
theorem Q7(c:cI)(hb:c.bals.length<=2097152)(hu:∀x∈c.bals,0<=x/\x<18446744073709551616):PC Tryz.prog 42 [.agg (cV c.a)] (.tup [.agg (ak (wu c).1.a),.int .i64 (wu c).2]):=by
 refine aQ 8 ?_;have c1:=Ge c hb hu;have c2:PC Tryz.prog 85 [.agg (au (xV c.gen)),.int .i64 1] (.agg [.sl 240 false (rows aT [⟨xV c.gen,-1,1⟩])]):=M6 (xV c.gen) 1
 have hcp:gF c=0->CpR (eG c):=fun h=>by
  have hl:(c.bals.length:Int)<=1024:=by
   unfold gF at h;by_cases q:1024<(c.bals.length:Int)
   ·(repeat' split at h)<;>first|omega|contradiction
   ·omega
  exact⟨by simp[eG],by simp[eG];omega,by simp[eG],by simp[eG],fun t ht=>by simp[eG]at ht;subst ht;exact hb,by simp[eG],by simp[eG],fun a ha=>by simp[eG]at ha,hb⟩
 have c3:=fun h=>Hx (eG c) (hcp h)
 unfold wu;generalize gF c=V at *;refine gon ?_;refine ap c1 ?_;by_cases q:V=0
 case neg=>
  have e1:(V != 0)=true:=by simp[q]
  rw[afx q];refine aW e1 ?_;exact iG (by first|rfl|exact evd) (by first|rfl|exact evd)
 have e1:(V != 0)=false:=by simp[q]
 have c3:=c3 q;rw[afA q];have hrep:List.replicate c.bals.length (bJ ⟨false,0,rt0⟩)=rows bJ (List.replicate c.bals.length eY):=GX _;have ht:List.take c.bals.length (rows bJ (List.replicate c.bals.length ⟨false,0,rt0⟩))=rows bJ (List.replicate c.bals.length ⟨false,0,rt0⟩):=afD af1;refine da e1 ?_;refine bm hrep Ir ?_;refine aP (c2) ?_;repeat(first|refine jQ ?_|simp only[go_sem,hrep,Ir])
 refine Dt [4] ?_;simp only[evZ,BO];(try simp only[go_sem,Nat.reduceAdd,Nat.reduceSub,Nat.reduceMul,Nat.reduceLT,Nat.reduceLeDiff,Nat.reduceEqDiff,reduceIte,Int.reduceToNat,Int.reduceLT,Int.reduceLE,Int.reduceEq,Int.reduceNeg,reduceCtorEq,Int.reduceBEq,Int.reduceBNe,ada,ht])
 refine gon ?_;refine CD c3 ⟨Wr (eG c).a (rows aB.c (eG c).tabs),trivial⟩ ⟨OO (eG c),trivial⟩ ?_;refine gon ?_;exact aj
theorem Nk(t:List Nod)(hb:t.length<=2097152):PC Tryz.prog 229 [.agg [.sl 240 false (rows aT t)]] (.int .i64 (mW t)):=by
 refine aQ 21 ?_;generalize hR:mW t=R;unfold mW at hR;by_cases q0:t.length=0
 ·rw[afA (.inl q0)]at hR;subst hR;have e0:(t.length:Int)=0:=af0
  exact aw
 have e0:¬ (t.length:Int)=0:=af0
 by_cases q1:4096<t.length
 ·rw[afA (.inr q1)]at hR;subst hR;have e1:(4096:Int)<(t.length:Int):=af0
  exact aw
 have e1:¬ (4096:Int)<(t.length:Int):=af0
 rw[afx (fun h=>h.elim q0 q1)]at hR;have hz:mrt []=[]:=rfl;refine nx fun _=>?_
 clear e0 e1 q0 q1;refine oU t.length (fun i=>R=frE (vo t) (t.length-i) i) (fun i=>[(20,.int .i64 i)]) (fun i=>[.var [.sl 240 false (rows aT t)],.map (mrt ((t.take i).map (·.blk.root)))]) hR.symm (fun i h1 hn hw h2=>?_) (fun hn _=>?_)
 ·have hgd:=dv h1
  have c1:=CK (nod t i).status
  have hps:(t.take (i+1)).map (·.blk.root)=(t.take i).map (·.blk.root)++[(nod t i).blk.root]:=by
   rw[acB,afz h1,acu];unfold nod;rw[afy,afz h1];rfl
  have ht:∀ {v:Int},vo t i=v->v≠0->R=v:=fun h0 h2=>by rw[hn,uz h1 (by rw[h0];exact h2),h0]
  have hf:vo t i=0->R=frE (vo t) (t.length-(i+1)) (i+1):=fun h0=>by rw[hn,uy h1 h0]
  clear hn hR hz;generalize frE (vo t) (t.length-(i+1)) (i+1)=G at *;unfold vo at ht hf;generalize (t.take i).map (·.blk.root)=m at *;generalize nod t i=x at *;by_cases q1:0<=x.status/\x.status<=2
  case neg=>
   have k1:(decide (0<=x.status)&&decide (x.status<=2))=false:=by rw[aen,afQ,afQ];omega
   obtain rfl:=ht (afA q1) af2;rw[k1]at c1;clear ht hf q1 k1;exact aw
  rw[show (decide (0<=x.status)&&decide (x.status<=2))=true by simp[q1]]at c1;rw[afx (fun h=>h q1)]at ht hf;clear q1;by_cases qi:i=0
  ·have e0:((i:Int)=0)=True:=eq_true af0
   have e1:¬0<(i:Int):=af0
   by_cases q2:x.up=-1
   case neg=>
    obtain rfl:=ht (afA ⟨qi,q2⟩) af2;clear ht hf qi;exact aw
   rw[afx (fun h=>h.2 q2),afx af0]at ht hf;by_cases q3:x.blk.root∈m
   ·obtain⟨j,j1,j2,j3⟩:=th q3;obtain rfl:=ht (afA q3) af2;clear ht hf qi;exact aw
   have j1:=yg q3;rw[afx q3]at ht hf;have hf:=hf (afA qi);clear ht qi;exact aw
  ·have ki:¬ (i:Int)=0:=af0
   have kp:0<(i:Int):=af0
   rw[afx (fun h=>qi h.1)]at ht hf;by_cases q2:x.up<0
   ·obtain rfl:=ht (afA ⟨af0,.inl q2⟩) af2;clear ht hf;exact aw
   by_cases q3:(i:Int)<=x.up
   ·obtain rfl:=ht (afA ⟨af0,.inr q3⟩) af2;clear ht hf;exact aw
   rw[afx (fun h=>h.2.elim q2 q3)]at ht hf;obtain⟨u,hu⟩:=afF (ac8.1 q2);have hU:=dv (t:=t) (i:=u) af0;have hub:u<t.length:=af0
   have hu0:¬ (u:Int)<0:=af0
   have hu1:¬ (i:Int)<=(u:Int):=af0
   rw[hu,afH]at ht hf;generalize nod t u=y at *;clear q2 q3 qi;refine nx fun _=>?_
   by_cases q4:x.blk.root∈m
   ·obtain⟨j,j1,j2,j3⟩:=th q4;obtain rfl:=ht (afA q4) af2;clear ht hf;exact aw
   have j1:=yg q4;rw[afx q4,afx af0]at ht hf;refine nx fun _=>?_
   by_cases q5:x.blk.parent=y.blk.root
   case neg=>
    obtain rfl:=ht (afA q5) af2;clear ht hf;exact aw
   rw[afx (fun h=>h q5)]at ht hf;have e5:(x.blk.parent=y.blk.root)=True:=eq_true q5;clear q5;by_cases q6:x.blk.slot<=y.blk.slot
   ·obtain rfl:=ht (afA q6) af2;clear ht hf;exact aw
   rw[afx q6]at ht hf;have hf:=hf rfl;clear ht;exact aw
 ·rw[ux]at hn;clear hR hz;subst hn;exact aw
theorem KD(t:List Nod)(hb:t.length<=2097152):PC Tryz.prog 137 [.agg [.sl 240 false (rows aT t)]] (.int .i64 (statV t)):=by
 refine aQ 17 ?_;have c1:=Nk t hb;generalize hR:statV t=R;unfold statV at hR;have hok:=fun h=>sS (t:=t) h
 generalize mW t=V at *;by_cases q1:V=0
 case neg=>
  rw[afA q1]at hR;subst hR;clear hok;exact aw
 subst q1;rw[afx (fun h=>h rfl)]at hR;obtain⟨ht,hl⟩:=hok rfl;have hp:=ht.pos;have hdl:(rows aT t).drop 1=rows aT (t.drop 1):=by unfold rows;rw[ad7]
 have hln:(t.drop 1).length=t.length-1:=af1
 rw[<-hln]at hR;clear hln;have h1le:(1:Int)<=(t.length:Int):=af0
 have htk:List.take (t.length-1) (rows aT (t.drop 1))=rows aT (t.drop 1):=afD af1;clear hok;refine nx fun _=>?_
 clear hdl htk;refine oU (t.drop 1).length (fun i=>R=frE (pp t) ((t.drop 1).length-i) i) (fun i=>[(16,.int .i64 i)]) (fun i=>[.var [.sl 240 false (rows aT t)]]) hR.symm (fun i h1 hn hw h2=>?_) (fun hn _=>?_) (hn:=by simp;omega)
 ·have hgd:(rows aT (t.drop 1)).getD i []=aT (nod t (i+1)):=by
   rw[aK (f:=aT) kr h1];unfold nod;rw[afy,afy,ae4,afg]
  have hf0:∀ {v:Int},pp t i=v->v≠0->R=v:=fun h0 h2=>by rw[hn,uz h1 (by rw[h0];exact h2),h0]
  have hf:pp t i=0->R=frE (pp t) ((t.drop 1).length-(i+1)) (i+1):=fun h0=>by rw[hn,uy h1 h0]
  clear hn hR;generalize frE (pp t) ((t.drop 1).length-(i+1)) (i+1)=G at *;have hlen:(t.drop 1).length=t.length-1:=af1
  obtain⟨u0,u1⟩:=ht.ok (i+1) af0 af0;obtain⟨k,hk⟩:=afF u0;have hU:=dv (t:=t) (i:=k) af0;have hub:k<t.length:=af0
  clear hlen;unfold pp at hf0 hf;generalize nod t (i+1)=x at *;rw[hk,afH]at hf0 hf;clear u0 u1 ht hl;generalize nod t k=y at *;by_cases q1:x.status=1
  ·by_cases q2:y.status=1
   ·have hf:=hf (afx (by rintro (h|h);exact h.2 q2;have:=h.1;omega));clear hf0;exact aw
   ·obtain rfl:=hf0 (afA (.inl ⟨q1,q2⟩)) af2;clear hf0 hf;exact aw
  ·by_cases q2:y.status=2
   ·by_cases q3:x.status=2
    ·have hf:=hf (afx (by rintro (h|h);exact q1 h.1;exact h.2 q3));clear hf0;exact aw
    ·obtain rfl:=hf0 (afA (.inr ⟨q2,q3⟩)) af2;clear hf0 hf;exact aw
   ·have hf:=hf (afx (by rintro (h|h);exact q1 h.1;exact q2 h.1));clear hf0;exact aw
 ·rw[ux]at hn;subst hn;exact aw
theorem sC(s:af)(n:Int):PC Tryz.prog 230 [.agg (ak s.a),.int .u64 n] (.int .u64 (iC n s.cfg.spe).1):=by
 refine aQ 7 ?_;have c1:=pG n s.cfg.spe;exact aw
def En(s:af):Bool:=
 (decide ((nod s.nodes 0).blk.root=s.f.rt)&&(decide (0<=ab s.nodes s.j.rt)&&(decide ((nod s.nodes (ab s.nodes s.j.rt).toNat).status≠2)&&decide (s.f.ep<=s.j.ep)))) &&
 ((decide (s.boost=rt0) || decide (0<=ab s.nodes s.boost))&&(decide (s.now<=1099511627776)&&decide (s.j.ep<=(iC s.now s.cfg.spe).1)))&&(decide ((cH s.f.ep s.cfg.spe).2=0)&&decide ((nod s.nodes 0).blk.slot<=(cH s.f.ep s.cfg.spe).1))
def mO(s:af)(i:Nat):Int:=if 0<i/\0<=gT (tab s.tabs (i-1)).cp (tab s.tabs i).cp then 1 else if fY (tab s.tabs i) s.cfg.bals.length≠0 then 1 else 0
def mP(s:af):Bool:=!(cm (fun i=>!(vot s.latest i).has&&decide (vot s.latest i≠eY)) s.latest.length).isSome&&(decide ((s.latest.length:Int)=s.cfg.bals.length)&&(decide ((s.eqv.length:Int)=0) || decide (cM s.eqv s.cfg.bals.length=0)))
def wv(s:af)(b:Blk):Bool:=decide (b.fin.ep<=b.just.ep)&&decide (b.just.ep<=b.pul.j.ep)&&decide (b.fin.ep<=b.pul.f.ep)&&decide (b.pul.f.ep<=b.pul.j.ep)&&decide (b.pul.j.ep<=(iC b.slot s.cfg.spe).1)
def sv(s:af):Bool:=!(cm (fun i=>decide (s.now<(nod s.nodes i).blk.slot) || !wv s (nod s.nodes i).blk) s.nodes.length).isSome
theorem Q5(s:af)(hb:s.nodes.length<=2097152)(h0:0<s.nodes.length)(hf:U64 s.f.ep):PC Tryz.prog 138 [.agg (ak s.a)] (.bool (En s)):=by
 refine aQ 6 ?_;have c1:=dW s.nodes s.j.rt hb;have c2:=gP s.boost;have c3:=dW s.nodes s.boost hb;have c4:=sC s s.now;have c5:=oV (e:=s.f.ep) (p:=s.cfg.spe) hf.1 hf.2;have b1:=dl s.nodes s.j.rt;have hg0:=dv h0;have hgi:∀k:Nat,ab s.nodes s.j.rt=k->(rows aT s.nodes).getD k []=aT (nod s.nodes k)/\k<s.nodes.length:=fun k h=>⟨dv af0,af0⟩
 have hb0:(0:Int)<((s.nodes.length:Nat):Int):=af0
 generalize hR:En s=R;unfold En at hR;generalize ab s.nodes s.j.rt=I at *;generalize ab s.nodes s.boost=B at *;generalize (iC s.now s.cfg.spe).1=E at *;generalize cH s.f.ep s.cfg.spe=S at *;generalize nod s.nodes 0=y at *;obtain⟨S1,S2⟩:=S;dsimp only at c5 hR;by_cases q1:y.blk.root=s.f.rt
 case neg=>
  obtain rfl:R=false:=by rw[<-hR];simp[q1]
  clear hR hgi;exact aw
 have e1:(y.blk.root=s.f.rt)=True:=eq_true q1;clear q1;by_cases q2:I<0
 ·obtain rfl:R=false:=by rw[<-hR,aD (show ¬0<=I by omega)];simp
  clear hR hgi;exact aw
 obtain⟨k,rfl⟩:=afF (ac8.1 q2);have hgk:=hgi k rfl;clear hgi;obtain⟨hgi,hki⟩:=hgk;rw[afH]at hR;generalize nod s.nodes k=x at *;clear b1;by_cases q3:x.status=2
 ·obtain rfl:R=false:=by rw[<-hR];simp[q3]
  clear hR;exact aw
 by_cases q4:s.j.ep<s.f.ep
 ·obtain rfl:R=false:=by rw[<-hR,aD (show ¬s.f.ep<=s.j.ep by omega)];simp
  clear hR;exact aw
 rw[ax (of_eq_true e1),ax (show s.f.ep<=s.j.ep by omega),ax (show (0:Int)<=k by omega),ax (p:=x.status≠2) q3]at hR;simp only[acD]at hR;refine nx fun _=>?_
 clear c1 q2 q3 q4 e1 hgi hki;by_cases q5:s.boost=rt0\/¬s.boost=rt0/\¬B<0
 case neg=>
  rw[GG,not_and]at q5;obtain⟨q5,q6⟩:=q5;have q6:=Decidable.not_not.1 (q6 q5);obtain rfl:R=false:=by rw[<-hR,aD q5,aD (show ¬0<=B by omega)];simp
  clear hR;exact aw
 rw[show (decide (s.boost=rt0) || decide (0<=B))=true by rw[adm,afJ,afJ];exact q5.imp id (fun h=>af0),acD]at hR;rcases q5 with q5|⟨q5,q6⟩
 case' inl=>have e5:(s.boost=rt0)=True:=eq_true q5;clear q5
 all_goals
  by_cases q7:1099511627776<s.now
  ·obtain rfl:R=false:=by rw[<-hR,aD (show ¬s.now<=1099511627776 by omega)];simp
   clear hR;exact aw
  by_cases q8:E<s.j.ep
  ·obtain rfl:R=false:=by rw[<-hR,aD (show ¬s.j.ep<=E by omega)];simp
   clear hR;exact aw
  rw[ax (show s.now<=1099511627776 by omega),ax (show s.j.ep<=E by omega)]at hR;simp only[acD]at hR;subst hR;by_cases q9:S2=0
  ·subst q9;exact aw
  ·rw[aD q9,acI];exact aw
end Go.Proofs.YtmpddimhleianaaGreat
