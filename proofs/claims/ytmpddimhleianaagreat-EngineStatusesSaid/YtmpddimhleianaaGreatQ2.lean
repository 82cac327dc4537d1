/- Joined. -/
import Derived.Test.YtmpddimhleianaaGreatQ4
import Derived.Test.YtmpddimhleianaaGreatI1
import Derived.Test.YtmpddimhleianaaGreatP4
import Derived.Test.YtmpddimhleianaaGreatT1
set_option linter.unusedVariables false
set_option linter.unusedSimpArgs false
set_option maxRecDepth 8000
set_option maxHeartbeats 4000000
namespace Go.Proofs.YtmpddimhleianaaGreat
open Go Go.FH Go.RowKit
theorem Gn{l:List aW}{c:Cp}(h:0<=dJ l c):∃i,i<l.length/\(tab l i).cp=c:=by
 unfold dJ at h;cases hf:dW (fun i=>decide ((tab l i).cp=c)) l.length with
 |none=>rw[hf]at h;exact absurd h WN
 | some i =>
   obtain⟨h1,h2,_⟩:=fZ hf;exact⟨i,h1,by simpa using h2⟩
theorem TN{l:List aW}{n:Int}(h:sc l n)(c:Cp):∃i,kf l c l.length 0=i/\i<=l.length/\(∀j,j<i->kW (l.getD j default).cp c<0)/\(∀j,i<=j->j<l.length->¬kW (l.getD j default).cp c<0)/\(decide (i<l.length)&&decide (kW (l.getD i default).cp c=0))=decide (0<=dJ l c):=by
 obtain⟨p1,p2,p3⟩:=CE l c l.length 0 WL (fun k hk=>absurd hk (aju k));refine⟨_,rfl,p1,p2,?_⟩;generalize kf l c l.length 0=i at *;have hpw:=ajW.1 h.2;have pR:∀j (hj:j<l.length),tab l j=l[j]:=fun j hj=>by unfold tab;rw[alt,al6 hj];rfl
 have hs:∀a b,a<b->b<l.length->kW (tab l a).cp (tab l b).cp<0:=fun a b hab hb=>by rw[pR a WL,pR b hb];exact hpw a b WL hb hab
 have h2:∀j,i<=j->j<l.length->¬kW (tab l j).cp c<0:=fun j hij hj hlt=>by
  by_cases he:i=j
  ·subst he;exact p3 hj hlt
  ·exact p3 WL (DD (hs i j WL hj) hlt)
 refine⟨h2,?_⟩;have h00:kW c c=0:=by have:=GX c c;omega
 rw[ajZ,amk,amg,amg,amg];constructor
 ·rintro⟨k1,k2⟩;have k3:=Mz k2;have:=Xc (l:=l) (t:=l.getD i default) (by rw[alt,al6 k1];exact amS _);rw[k3]at this;exact this
 ·intro k1
  obtain⟨j,hj,hc⟩:=Gn k1
  have hji:i<=j:=Ww fun hlt=>by
   have:=p2 j hlt;rw[hc,h00]at this;exact absurd this WN
  have hij:i=j:=by
   apply alC
   intro hne;have h5:=hs i j WL hj;rw[hc]at h5;exact p3 WL h5
  subst hij;exact⟨hj,by show kW (tab l i).cp c=0;rw[hc];exact h00⟩
theorem xk(set l:List Int)(h:set.Pairwise (· < ·)):∀i,(bg (IB l) set i).Pairwise (· < ·)
 |0=>h
 |i+1=>by rw[cX];exact lM _ _ (xk set l h i)
theorem Qk(l:List Int)(v:Int)(i:Nat)(hi:i<=l.length)(hb:l.length<=2097152)(h1:∀j,j<i->l.getD j 0<v)(h2:∀j,i<=j->j<l.length->¬l.getD j 0<v):
 ay Tryz.prog 184 [.hs 1 0 0 l.length,.int .i64 v] [.vec 1 (aH .i64 l)] (.tup [.int .i64 i,.bool (decide (i<l.length)&&decide (l.getD i 0=v))]) [.vec 1 (aH .i64 l)]:=by
 refine ay.lend rfl ?_;have ht:List.take l.length (aH .i64 l)=aH .i64 l:=amf WM;(try simp only[go_sem,ht,al8,ama,ake,ako])
 exact Ql l false v i hi hb h1 h2
theorem EM(s:ap)(m:Nat)(h:bP s m)(hq:s.eqv.Pairwise (· < ·))(x:fe)(h1:x.fst.vals.length<=100)(h2:x.snd.vals.length<=100):PC Tryz.prog 109 [.agg (aE s.a),.agg (d7 x.a)] (.tup [.agg (aE (ik s x).1.a),.int .i64 (ik s x).2]):=by
 refine ae 28 ?_;have c0:=el s h.cp;unfold BO at c0;have c1:=Iw x.a x.fst.vals x.snd.vals false false s.cfg.bals.length rfl rfl h1 h2;have c2:=M8 x.a x.fst.vals x.snd.vals false false rfl rfl h1 h2;have hcl:(kr x.fst.vals x.snd.vals x.fst.vals.length).length<=x.fst.vals.length:=rO _ _ _;have hqq:=h.qq;have hii:=h.ii;have hln:=O5 s.eqv (kr x.fst.vals x.snd.vals x.fst.vals.length);have hsr:=xk s.eqv (kr x.fst.vals x.snd.vals x.fst.vals.length) hq;unfold ik Gb;generalize evE x.a x.fst.vals x.snd.vals s.cfg.bals.length=V at *;generalize kr x.fst.vals x.snd.vals x.fst.vals.length=C at *;by_cases q1:V=0
 case neg=>
  have e1:(V != 0)=true:=by simp[q1]
  rw[al7 q1];refine gon ?_;refine am c1 ?_;refine aM e1 ?_;exact pZ (by first|rfl|exact evd) (by first|rfl|exact evd)
 subst q1;rw[al5 WM];refine gon ?_;refine am c1 ?_;refine bk ?_;refine ocg [] c0 ?_;refine ahG c2 ?_
 refine az (fun i:Nat=>[(27,.int .i64 i),(23,.dead)]) (fun i=>[.var (aE s.a),.var (d7 x.a),.var (aE kU),.vec 1 (aH .u64 s.cfg.bals),.vec 34 (rows al s.latest),.vec 1 (aH .i64 (bg (IB C) s.eqv i)),.vec 67 (rows bp.c s.early),.vec 238 (rows aO s.orph),.vec 240 (rows bB s.nodes),.vec 34 (rows aW.c s.tabs),.var (aE ⟨⟨s.cfg.lim,s.cfg.spe,s.cfg.boost,s.cfg.ttd,s.cfg.gen,.hs 1 3 0 s.cfg.bals.length⟩,.hs 34 4 0 s.latest.length,.hs 1 5 0 (bg (IB C) s.eqv i).length,s.j,s.f,.hs 67 6 0 s.early.length,.hs 238 7 0 s.orph.length,.hs 240 8 0 s.nodes.length,s.now,s.boost,.hs 34 9 0 s.tabs.length⟩)]) (fun i=>C.length-i) (fun i=>i<=C.length) 0 (amc _) ?_ ?_
 ·exact ais [] [0,1,2,3,4,5,6,7,8,9,10]
 intro i hi;refine dp ?_;by_cases h1:i<C.length
 ·have e1:=inT h1
  have hw:=af h1 WL;have hgd:=gdn (k:=.i64) h1;have hs:bg (IB C) s.eqv (i+1)=pX (bg (IB C) s.eqv i) (C.getD i 0):=cX (IB C) s.eqv i;have hl:=hln i;have hsi:=hsr i;obtain⟨p,p1,p2,p3⟩:=Td (C.getD i 0) _ hsi;have c3:=Qk _ (C.getD i 0) p p1 WL p2 p3;have c4:=IA _ p (C.getD i 0) p1 WL;have hin:=MI _ (C.getD i 0) p p1 p2 (fun hp=>p3 p (amb _) hp);rw[hin]at hs;generalize bg (IB C) s.eqv i=U at *;generalize C.getD i 0=v at *;refine bw e1 ?_;refine ah hgd ?_;refine oce [5] c3 ?_;by_cases q:p<U.length/\U.getD p 0=v
  ·rw[al7 q]at hs;have e2:(decide (p<U.length)&&decide (U.getD p 0=v))=true:=by rw[au q.1,am2];exact au q.2
   refine bJ e2 ?_;refine ah hw ?_;refine⟨i+1,h1,WL,?_⟩;rw[hs];exact ais [] [0,1,2,3,4,5,6,7,8,9,10]
  ·rw[al5 q]at hs
   have e2:(decide (p<U.length)&&decide (U.getD p 0=v))=false:=by
    rw[<-amZ,amk,amg,amg];exact q
   have hs2:bg (IB C) s.eqv (i+1)=U.take p++v::U.drop p:=by rw[hs];simp
   have hlu:(U.take p++v::U.drop p).length=U.length+1:=by simp;omega
   refine aM e2 ?_;refine oce [5] c4 ?_;refine ah hw ?_;refine⟨i+1,h1,WL,?_⟩;rw[hs2,hlu];exact ais [] [0,1,2,3,4,11,6,7,8,9,10]
 ·obtain rfl:i=C.length:=WL
  have e1:=inF (C.length);have hl:=hln C.length;generalize bg (IB C) s.eqv C.length=U at *;refine aF e1 ?_;by_cases q2:U.length=s.eqv.length
  ·have e2:(((U.length:Nat):Int)==((s.eqv.length:Nat):Int))=true:=by simp[q2]
   have e3:IntKind.i64.wrap ((U.length:Int)-s.eqv.length)=0:=by rw[q2,Int.sub_self];rfl
   rw[al7 e3];refine aM e2 ?_;exact pZ (by first|rfl|exact evd) (by first|rfl|exact evd)
  ·have e2:(((U.length:Nat):Int)==((s.eqv.length:Nat):Int))=false:=by simp;omega
   have e3:¬IntKind.i64.wrap ((U.length:Int)-s.eqv.length)=0:=by rw[aL WL WL];omega
   rw[al5 e3];refine aF e2 ?_;unfold Nq;exact ai
theorem Om(s:ap)(m:Nat)(h:bP s m)(hv:sc s.tabs s.cfg.bals.length)(t:aW)(ht:t.bals.length<=2097152)(hu:∀x∈t.bals,0<=x/\x<18446744073709551616):PC Tryz.prog 110 [.agg (aE s.a),.agg (ar t.a)] (.tup [.agg (aE (kY s t).1.a),.int .i64 (kY s t).2]):=by
 refine ae 10 ?_;have c0:=el s h.cp;unfold BO at c0;have c1:=G3 t s.cfg.bals.length ht hu;have htt:=h.tt;obtain⟨p,p0,p1,p2,p3,p4⟩:=TN hv t.cp;have c2:=NK s.tabs false t p p1 WL p2 p3;rw[p4]at c2;have c3:=yh t ht;have c4:=IE s.tabs p t p1 WL;rw[show rows aW.c [t]=[ar t.a]from rfl]at c4;have hL:(s.tabs.take p++t::s.tabs.drop p).length=s.tabs.length+1:=by simp;omega
 have hE:s.tabs.take p++[t]++s.tabs.drop p=s.tabs.take p++t::s.tabs.drop p:=WM
 unfold kY iZ my;rw[p0];generalize gh t s.cfg.bals.length=V at *;by_cases q1:V=0
 case neg=>
  have e1:(V != 0)=true:=by simp[q1]
  rw[al7 q1];refine gon ?_;refine am c1 ?_;refine aM e1 ?_;exact pZ (by first|rfl|exact evd) (by first|rfl|exact evd)
 subst q1;simp only[ajT,amp,amj];refine gon ?_;refine am c1 ?_;refine dQ ?_;by_cases q2:t.cp.ep<s.j.ep
 ·have e2:=au q2;rw[al7 q2];refine aM e2 ?_;exact pZ (by first|rfl|exact evd) (by first|rfl|exact evd)
 have e2:=aA q2;rw[al5 q2];refine aF e2 ?_;refine am c2 ?_;by_cases q3:0<=dJ s.tabs t.cp
 ·have e3:=au q3;rw[al7 q3];refine aM e3 ?_;exact pZ (by first|rfl|exact evd) (by first|rfl|exact evd)
 have e3:=aA q3;rw[al5 q3];refine bJ e3 ?_;by_cases q4:s.cfg.lim.table<=((s.tabs.length:Nat):Int)
 ·have e4:decide (((s.tabs.length:Nat):Int) ≥ s.cfg.lim.table)=true:=au q4;rw[al7 q4];repeat(first|refine bY ?_|simp only[go_sem,e4])
  refine agF ?_;exact pZ (by first|rfl|exact evd) (by first|rfl|exact evd)
 have e4:decide (((s.tabs.length:Nat):Int) ≥ s.cfg.lim.table)=false:=aA q4;rw[al5 q4];repeat(first|refine bY ?_|simp only[go_sem,e4])
 refine agE ?_;refine ocg [] c0 ?_;refine aK (c3) ?_;refine gon ?_;refine dse [9] c4 ?_;rw[hE];generalize s.tabs.take p++t::s.tabs.drop p=L at *;rw[<-hL];refine gon ?_;unfold withT;exact ai
end Go.Proofs.YtmpddimhleianaaGreat
