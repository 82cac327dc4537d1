/-
 My texts Nd, Ne, joined.
-/
import Derived.Test.YtnjdpnfglgcjcaaGreatV8
import Derived.Test.YtnjdpnfglgcjcaaGreatW6
set_option linter.unusedVariables false
set_option linter.unusedSimpArgs false
set_option maxRecDepth 8000
set_option maxHeartbeats 4000000
namespace Go.Proofs.YtnjdpnfglgcjcaaGreat
open Go Go.FH Go.RowKit
theorem ML(x:Sta)(v:AV):(bk x).set 151 v=bk { x with rets:=v }:=by
 simp only[bk,List.set_append,bV,List.length_cons,Nat.reduceSub,Nat.reduceLT,if_false,List.set_cons_succ,List.set_cons_zero]
theorem MK(x:Sta):(bk x).getD 151 .dead=x.rets:=by
 simp only[bk,List.getD_eq_getElem?_getD,List.getElem?_append,bV,List.length_cons,Nat.reduceSub,Nat.reduceLT,if_false,List.getElem?_cons_succ,List.getElem?_cons_zero,Option.getD_some]
theorem lh(l:List Req):List.take l.length (rows bp l)=rows bp l:=List.take_of_length_le (by simp)
theorem FD(s:aX)(h:StR s.sto)(r:Rt):PC Tryz.prog 301 [.agg (bk s.a),.agg (rtc r)] (.bool (FC s.sto r)):=by
 refine PC.fact 6 xk (by simp) puA puA ?_;unfold nF;refine bd ?_;have c1:=cm s.sto.nodes r h.bn;have b1:=dX s.sto.nodes r;unfold FC;generalize aj s.sto.nodes r=I at *;refine gon ?_;refine ai c1 ?_;by_cases q:0<=I
 ·have e1:=ak q;have hg:=dy (t:=s.sto.nodes) (i:=I.toNat) (by omega);refine aO e1 hg ?_;have e2:((nod s.sto.nodes I.toNat).status==0)=decide ((nod s.sto.nodes I.toNat).status=0):=by rw[Bool.eq_iff_iff];simp
  refine⟨_,(by first|rfl|exact evd),.inl ?_⟩;exact nN e2
 ·have e1:=au q;refine ap e1 ?_;exact af
theorem Yb(s:aX)(h:StR s.sto)(r:Rt):aI Tryz.prog 301 [.agg (bk { s.a with rets:=.hs 35 0 0 s.rets.length }),.agg (rtc r)] [.vec 35 (rows bp s.rets)] (.bool (FC s.sto r)) [.vec 35 (rows bp s.rets)]:=by
 refine aI.lend rfl ?_;(try simp only[go_sem,lh,List.length_cons,List.length_nil,List.range_succ,List.range_zero])
 exact FD s h r
theorem Vj(s:aX)(r:Rt)(k:Int)(hb:s.reqs.length<=1000000):PC Tryz.prog 302 [.agg (bk s.a),.agg (rtc r),.int .i64 k] (.agg (bk (vY s r k).a)):=by
 refine PC.fact 8 yI (by simp) puA puA ?_;unfold qB;refine bd ?_;have hsn:rows bp s.reqs++[bp ⟨s.tag,r,k,0⟩]=rows bp (s.reqs++[⟨s.tag,r,k,0⟩]):=da bp s.reqs _;have ht:List.take (s.reqs.length+1) (rows bp (s.reqs++[⟨s.tag,r,k,0⟩]))=rows bp (s.reqs++[⟨s.tag,r,k,0⟩]):=List.take_of_length_le (by simp);refine aO hsn lh ?_;refine⟨_,(by first|rfl|exact evd),.inl ?_⟩;exact nN ht
theorem X9(s:aX)(r:Rt)(k:Int)(hb:s.reqs.length<=1000000)(l:List Req)(n:Nat):aI Tryz.prog 302 [.agg (bk { s.a with rets:=.hs 35 0 0 n }),.agg (rtc r),.int .i64 k] [.vec 35 (rows bp l)] (.agg (bk { (vY s r k).a with rets:=.hs 35 0 0 n })) [.vec 35 (rows bp l)]:=by
 refine aI.fact 8 yI (by simp) ?_ (by simp);unfold qB;refine bd ?_;have hsn:rows bp s.reqs++[bp ⟨s.tag,r,k,0⟩]=rows bp (s.reqs++[⟨s.tag,r,k,0⟩]):=da bp s.reqs _;have ht:List.take (s.reqs.length+1) (rows bp (s.reqs++[⟨s.tag,r,k,0⟩]))=rows bp (s.reqs++[⟨s.tag,r,k,0⟩]):=List.take_of_length_le (by simp);refine aO hsn lh ?_;refine cw [2,3,4,5,6,7] [0] _ (by simp) (by first|rfl|exact evd) (by simp) rfl (by simp) (by simp) evd ?_;exact nN ht
theorem Ru(s:aX)(l:List Rt)(h:StR s.sto)(hb:s.reqs.length+l.length<=1000000):PC Tryz.prog 208 [.agg (bk s.a),.sl 32 false (rows rtc l)] (.agg (bk (xw s l).a)):=by
 refine PC.fact 6 LM (by simp) puA puA ?_;unfold yp;refine bd ?_;have hz:aL (jo l) s 0=s:=rfl
 have hS:∀k,(aL (jo l) s k).sto=s.sto/\(aL (jo l) s k).reqs.length<=s.reqs.length+k:=by
  intro k;induction k with
  |zero=>exact⟨rfl,Nat.le_refl _⟩
  | succ k ih =>
    rw[bH];generalize aL (jo l) s k=s1 at *;unfold jo;split
    ·refine⟨ih.1,?_⟩;unfold vY;simp only[List.length_append,List.length_singleton];omega
    ·exact⟨ih.1,by omega⟩
 show Tri _ _ _ _ (PQ _ (.agg (bk (aL (jo l) s l.length).a))) _ _
 refine gon ?_;refine ay (fun i:Nat=>[(5,.int .i64 i)]) (fun i=>[.var (bk (aL (jo l) s i).a),.var (bk rR)]) (fun i=>l.length-i) (fun i=>i<=l.length) 0 (Nat.zero_le _) ?_ ?_
 ·rw[hz];exact adk [] [0,1]
 intro i hi;refine dM ?_;by_cases h1:i<l.length
 ·have e1:=inT h1
  have hw:=ah h1 (by omega);have hgd:=aM (f:=rtc) rt0 h1;have hs:=bH (jo l) s i;obtain⟨hS1,hS2⟩:=hS i;have hc:jo l i (aL (jo l) s i)=if FC (aL (jo l) s i).sto (l.getD i rt0)=true then vY (aL (jo l) s i) (l.getD i rt0) 0 else aL (jo l) s i:=rfl
  have c1:=FD (aL (jo l) s i) (by rw[hS1];exact h) (l.getD i rt0);have c2:=Vj (aL (jo l) s i) (l.getD i rt0) 0 (by omega);generalize aL (jo l) s i=s1 at *;generalize l.getD i rt0=r at *;generalize FC s1.sto r=B at *;rw[hc]at hs;refine bg e1 ?_;refine ap hgd ?_;refine aC (c1) ?_;cases B with
  | true =>
    rw[if_pos rfl]at hs;refine kO ?_;refine ap hgd ?_;refine aC (c2) ?_;refine ap hw ?_;refine⟨i+1,h1,by omega,?_⟩;rw[hs];exact adk [] [0,1]
  | false =>
    rw[if_neg (by simp)]at hs;refine dk ?_;refine ap hw ?_;refine⟨i+1,h1,by omega,?_⟩;rw[hs];exact adk [] [0,1]
 ·obtain rfl:i=l.length:=by omega
  have e1:=inF (l.length);refine aD e1 ?_;exact af
theorem Ze:WkC (aw gY) (aw d9.a):=by
 unfold gY d9 am.a aw;dsimp only;refine WkC.app ?_ ?_
 ·unfold qD cU.a cD;dsimp only;exact(WkC.refl _).app (.same _ (.same _ ((WkC.refl _).app ((WkC.refl _).app (.one (Wk.empty _ _ _) fun h=>h)))))
 ·exact .cons (Wk.empty _ _ _) (fun h=>h) (.cons (Wk.empty _ _ _) (fun h=>h) ((WkC.refl _).app ((WkC.refl _).app (.cons (Wk.empty _ _ _) (fun h=>h) (.cons (Wk.empty _ _ _) (fun h=>h) (.cons (Wk.empty _ _ _) (fun h=>h) (.same _ ((WkC.refl _).app (.one (Wk.empty _ _ _) fun h=>h)))))))))
theorem TP:Wk (.agg (bk rR)) (.agg (bk PP.a)):=by
 refine Wk.agg ?_;unfold rR PP aX.a bk;dsimp only;exact Ze.app (.cons (Wk.empty _ _ _) (fun h=>h) (.cons (Wk.empty _ _ _) (fun h=>h) (WkC.refl _)))
theorem Nm:PuL (bk rR):=by simp[rR,bk,eo,PuL,Pu,fG,gY,aw,jW,dS,jY,fF,qD,cD,cp0,pD]
theorem Rp(s:aX)(v:Vdt)(hb:s.reqs.length<=1000000):PC Tryz.prog 307 [.agg (bk s.a),.agg (en v)] (.tup [.agg (bp (df s v).1),.agg (bk (df s v).2.1.a),.int .i64 (df s v).2.2]):=by
 refine PC.fact 9 Hw (by simp) puA ⟨gA _,aX.pul _,trivial,trivial⟩ ?_;unfold vG;refine bd ?_;obtain⟨R,hR⟩:∃R,R=df s v:=⟨_,rfl⟩
 rw[<-hR];unfold df cE at hR;refine gon ?_
 refine ay (fun i:Nat=>[(7,.int .i64 i)]) (fun _=>[.var (bk s.a),.var (en v),.var (bp xC),.var (bk rR)]) (fun i=>s.reqs.length-i)
  (fun i=>i<=s.reqs.length/\R=(match fw (fun i=>decide ((fI s.reqs i).tag=v.tag)) (s.reqs.length-i) i with
 |some i=>(fI s.reqs i,abc s (zx s.reqs i),0)
 |none=>(xC,PP,23))) 0 ⟨Nat.zero_le _,hR⟩ ?_ ?_
 ·exact adk [] [0,1,2,3]
 clear hR;rintro i ⟨hi,hn⟩;refine dM ?_;by_cases h1:i<s.reqs.length
 ·have e1:=inT h1
  have hw:=ah h1 (by omega);have hgd:(rows bp s.reqs).getD i []=bp (fI s.reqs i):=aM (f:=bp) xC h1;by_cases q:(fI s.reqs i).tag=v.tag
  ·rw[f9 h1 (ak q)]at hn;dsimp only at hn;generalize hrq:fI s.reqs i=r at *;have e2:(r.tag==v.tag)=true:=by simp[q]
   have hw1:IntKind.i64.wrap ((i:Int)+1)=((i+1:Nat):Int):=hw;have ht1:List.take i (rows bp s.reqs)=rows bp (s.reqs.take i):=qm _ _ _;have ht2:List.drop (i+1) (rows bp s.reqs)=rows bp (s.reqs.drop (i+1)):=ur _ _ _;have ht3:rows bp (s.reqs.take i)++rows bp (s.reqs.drop (i+1))=rows bp (zx s.reqs i):=FX _ _ _;have ht4:(s.reqs.take i).length+(s.reqs.drop (i+1)).length=(zx s.reqs i).length:=by unfold zx;rw[List.length_append]
   have ht5:List.take (s.reqs.length-(i+1)) (rows bp (s.reqs.drop (i+1)))=rows bp (s.reqs.drop (i+1)):=List.take_of_length_le (by simp);have hlo:(zx s.reqs i).length<=s.reqs.length:=(TG _ _).1;subst hn;dsimp only;refine bg e1 ?_;refine im hgd e2 ?_;refine jN hgd hw1 ht1 ht2 ht3 ht4 ht5 ?_;refine⟨_,(by first|rfl|exact evd),.inl ?_⟩;exact nN lh
  ·rw[fW h1 (au q)]at hn;have e2:((fI s.reqs i).tag==v.tag)=false:=by simp[q]
   refine bg e1 ?_;refine dD hgd e2 ?_;refine ap hw ?_;refine⟨i+1,⟨h1,hn⟩,by omega,?_⟩;exact adk [] [0,1,2,3]
 ·obtain rfl:i=s.reqs.length:=by omega
  have e1:=inF (s.reqs.length);rw[gQ]at hn;dsimp only at hn;subst hn;dsimp only;refine aD e1 ?_;refine⟨_,(by first|rfl|exact evd),.inr ⟨.tup [.agg (bp xC),.agg (bk rR),.int .i64 23],?_,?_,Wk.tup ⟨Wk.refl _,?_,Wk.refl _,trivial⟩⟩⟩
  ·exact evd
  ·exact⟨gA _,Nm,trivial,trivial⟩
  ·exact TP
theorem BU(s:aX)(l:List Req)(h:StR s.sto)(hb:l.length<=1000000):PC Tryz.prog 303 [.agg (bk s.a),.sl 35 false (rows bp l)] (.sl 35 false (rows bp (nU s.sto.nodes l))):=by
 refine PC.fact 7 Hx (by simp) puA puA ?_;unfold vH;refine bd ?_;have hz:aL (iV s.sto.nodes l) [] 0=[]:=rfl
 have hL:∀k,(aL (iV s.sto.nodes l) [] k).length<=k:=fun k=>by
  have:=mb (f:=iV s.sto.nodes l) (a:=[]) (fun i o=>by unfold iV;split<;>simp) k;simpa using this
 show Tri _ _ _ _ (PQ _ (.sl 35 false (rows bp (aL (iV s.sto.nodes l) [] l.length)))) _ _
 refine gon ?_;refine eY 5 35 ?_;simp only[go_sem];refine ay (fun i:Nat=>[(6,.int .i64 i),(5,.hs 35 1 0 (aL (iV s.sto.nodes l) [] i).length)]) (fun i=>[.var (bk s.a),.vec 35 (rows bp (aL (iV s.sto.nodes l) [] i))]) (fun i=>l.length-i) (fun i=>i<=l.length) 0 (Nat.zero_le _) ?_ ?_
 ·rw[hz];exact adk [] [0,1]
 intro i hi;have hLi:=hL i;refine dM ?_;by_cases h1:i<l.length
 ·have e1:=inT h1
  have hw:=ah h1 (by omega);have hgd:(rows bp l).getD i []=bp (fI l i):=aM (f:=bp) xC h1;have hs:=bH (iV s.sto.nodes l) [] i;have c1:=cm s.sto.nodes (fI l i).block h.bn;generalize aL (iV s.sto.nodes l) [] i=o at *;have hc:iV s.sto.nodes l i o=if 0<=aj s.sto.nodes (fI l i).block then o++[fI l i]else o:=rfl
  rw[hc]at hs;generalize fI l i=r at *;have hsn:rows bp o++[bp r]=rows bp (o++[r]):=da bp o r;refine bg e1 ?_;refine ap hgd ?_;refine aC (c1) ?_;refine gon ?_;by_cases q:0<=aj s.sto.nodes r.block
  ·have e2:=ak q;rw[if_pos q]at hs;refine bg e2 ?_;refine cZ hgd hsn hw ?_;refine⟨i+1,h1,by omega,?_⟩;rw[hs];exact adk [] [0,3]
  ·have e2:=au q;rw[if_neg q]at hs;refine aQ e2 ?_;refine ap hw ?_;refine⟨i+1,h1,by omega,?_⟩;rw[hs];exact adk [] [0,1]
 ·obtain rfl:i=l.length:=by omega
  have e1:=inF (l.length);generalize aL (iV s.sto.nodes l) [] l.length=o at *;refine aD e1 ?_;refine⟨_,(by first|rfl|exact evd),.inl ?_⟩;exact nN lh
theorem IU(s:aX)(h:StR s.sto)(h1:s.reqs.length<=1000000)(h2:s.rets.length<=1000000):PC Tryz.prog 206 [.agg (bk s.a)] (.agg (bk (pZ s).a)):=by
 refine PC.fact 3 LK (by simp) puA puA ?_;unfold yo;refine bd ?_;have c1:=BU s s.reqs h h1;have c2:=BU s s.rets h h2;unfold pZ;generalize nU s.sto.nodes s.reqs=k1 at *;generalize nU s.sto.nodes s.rets=k2 at *;refine gon ?_;refine aC (c1) ?_;refine gon ?_;refine aC (c2) ?_;refine gon ?_;exact af
theorem QC(t b:Int)(ht:t<=9223372036854775807):PC Tryz.prog 368 [.int .i64 t,.int .u64 b] (.int .u64 (K4 t b)):=by
 refine PC.fact 7 Hu (by simp) puA puA ?_;unfold vF;refine bd ?_;unfold K4;by_cases h0:b=0
 ·subst h0;refine aV ?_;exact af
 have e0:(b==0)=false:=by simp[h0]
 rw[if_neg h0];obtain⟨R,hR⟩:∃R,R=wx b (t-1).toNat 1:=⟨_,rfl⟩
 rw[<-hR];refine aD e0 ?_;refine ay (fun x:Nat×Int=>[(6,.int .i64 ((x.1:Int)+1)),(5,.int .u64 x.2)]) (fun _=>[]) (fun x=>(t-1).toNat-x.1) (fun x=>x.1<=(t-1).toNat/\R=wx b ((t-1).toNat-x.1) x.2) (0,1) ⟨Nat.zero_le _,hR⟩ ?_ ?_
 ·exact adk [] []
 clear hR;rintro⟨i,d⟩ ⟨hi,hn⟩;dsimp only at hi hn ⊢;(try simp only[db,cV,List.set_cons_zero,List.set_cons_succ])
 by_cases h1:(i:Int)+1<t
 ·have e1:=ak h1
  obtain⟨f,hf⟩:∃f,(t-1).toNat-i=f+1:=⟨(t-1).toNat-i-1,by omega⟩
  rw[hf]at hn;have hg:wx b (f+1) d=if IntKind.u64.wrap (b-d)<=d then b else wx b f (IntKind.u64.wrap (2*d)):=rfl
  rw[hg]at hn;have hw:IntKind.i64.wrap ((i:Int)+1+1)=((i+1:Nat):Int)+1:=by rw[aK (by omega) (by omega)];omega
  by_cases q:IntKind.u64.wrap (b-d)<=d
  ·have e2:=ak q;rw[if_pos q]at hn;subst hn;refine bg e1 ?_;refine aE e2 ?_;exact af
  ·have e2:=au q;rw[if_neg q]at hn;refine bg e1 ?_;refine aQ e2 ?_;refine ap hw ?_;refine⟨(i+1,IntKind.u64.wrap (2*d)),⟨by dsimp only;omega,by rw[hn,show (t-1).toNat-(i+1)=f by omega]⟩,by dsimp only;omega,?_⟩;exact adk [] []
 ·have e1:=au h1;rw[show (t-1).toNat-i=0 by omega]at hn;have hg:wx b 0 d=d:=rfl;rw[hg]at hn;subst hn;refine aD e1 ?_;exact af
theorem Xk(s:aX)(h:StR s.sto)(h1:s.reqs.length+s.rets.length<=1000000):PC Tryz.prog 205 [.agg (bk s.a)] (.agg (bk (QF s).a)):=by
 refine PC.fact 5 NZ (by simp) puA puA ?_;unfold BD;refine bd ?_;have hz:aL (qG s.rets) (gU s []) 0=gU s []:=rfl
 have hK : ∀ k, (aL (qG s.rets) (gU s []) k).sto = s.sto /\ (aL (qG s.rets) (gU s []) k).reqs.length <= s.reqs.length + k /\ (aL (qG s.rets) (gU s []) k).rets.length <= k := by
  intro k;induction k with
  |zero=>exact⟨rfl,Nat.le_refl _,Nat.le_refl _⟩
  | succ k ih =>
    rw[bH];generalize aL (qG s.rets) (gU s []) k=s1 at *;unfold qG;split
    ·unfold gU;simp only[List.length_append,List.length_singleton];exact⟨ih.1,by omega,by omega⟩
    ·split
     ·unfold vY;simp only[List.length_append,List.length_singleton];exact⟨ih.1,by omega,by omega⟩
     ·exact⟨ih.1,by omega,by omega⟩
 show Tri _ _ _ _ (PQ _ (.agg (bk (aL (qG s.rets) (gU s []) s.rets.length).a))) _ _
 refine gon ?_;refine oe 0 151 35 ?_ (by rfl) (by exact MK _);simp only[go_sem,ML];refine ay (fun i:Nat=>[(4,.int .i64 i)]) (fun i=>[.var (bk { (aL (qG s.rets) (gU s []) i).a with rets:=.hs 35 2 0 (aL (qG s.rets) (gU s []) i).rets.length }),.var (bk rR),.vec 35 (rows bp (aL (qG s.rets) (gU s []) i).rets)]) (fun i=>s.rets.length-i) (fun i=>i<=s.rets.length) 0 (Nat.zero_le _) ?_ ?_
 ·rw[hz];unfold gU;exact adk [] [0,1,2]
 intro i hi;obtain⟨hK1,hK2,hK3⟩:=hK i;refine dM ?_;by_cases h1:i<s.rets.length
 ·have e1:=inT h1
  have hw:=ah h1 (by omega);have hgd:(rows bp s.rets).getD i []=bp (fI s.rets i):=aM (f:=bp) xC h1;have hs:=bH (qG s.rets) (gU s []) i;clear hK;generalize aL (qG s.rets) (gU s []) i=s1 at *;have hc:qG s.rets i s1=if s1.sto.now<(fI s.rets i).due then gU s1 (s1.rets++[fI s.rets i])else if FC s1.sto (fI s.rets i).block=true then vY s1 (fI s.rets i).block (fI s.rets i).tries else s1:=rfl
  rw[hc]at hs;have c1:=Yb s1 (by rw[hK1];exact h) (fI s.rets i).block;have c2:=X9 s1 (fI s.rets i).block (fI s.rets i).tries (by omega) s1.rets s1.rets.length;generalize fI s.rets i=r at *;have hsn:rows bp s1.rets++[bp r]=rows bp (s1.rets++[r]):=da bp s1.rets r;refine bg e1 ?_;refine ap hgd ?_;by_cases q:s1.sto.now<r.due
  ·have e2:=ak q;rw[if_pos q]at hs;refine bg e2 ?_;refine cZ hgd hsn hw ?_;refine⟨i+1,h1,by omega,?_⟩;rw[hs];unfold gU;exact adk [] [0,1,3]
  ·have e2:=au q
   rw[if_neg q]at hs;refine aQ e2 ?_;refine ap hgd ?_;refine QB [2] (c1) evd (bx.mk' (by simp) evd) ?_;refine evg ?_;generalize FC s1.sto r.block=B at *;cases B with
   | true =>
     rw[if_pos rfl]at hs;refine kO ?_;refine ap hgd ?_;refine aa1 [2] (c2) (by simp) evd (bx.mk' (by simp) evd) ?_;refine evg ?_;refine ap hw ?_;refine⟨i+1,h1,by omega,?_⟩;rw[hs];unfold vY;exact adk [] [0,1,2]
   | false =>
     rw[if_neg (by simp)]at hs;refine dk ?_;refine ap hw ?_;refine⟨i+1,h1,by omega,?_⟩;rw[hs];exact adk [] [0,1,2]
 ·obtain rfl:i=s.rets.length:=by omega
  have e1:=inF (s.rets.length);generalize aL (qG s.rets) (gU s []) s.rets.length=s1 at *;refine aD e1 ?_;refine⟨_,(by first|rfl|exact evd),.inl ?_⟩;exact nN lh
theorem abB(n:Int):IntKind.i64.wrap n<=9223372036854775807:=by rw[IntKind.wrap_i64];omega
theorem U7(s:aX)(L:List Req)(n:Nat)(hL:L.length=n+1)(hb:n<=1000000)(r0:Req):
 Tri Tryz.prog 117 0 (dm.tl 6) (PQ [.cell 4 true 252] (.agg (bk (gU s (wg L n)).a))) ⟨7,[.dead,.dead,.ptr 0 0,.ptr 1 0,.ptr 2 0,.hs 35 3 0 (n+1),.dead],[]⟩ [.var (bk s.a),.var (bp r0),.var (bk rR),.vec 35 (rows bp L)]:=by
 unfold dm;refine bd ?_;simp only[ab.tl];obtain⟨R,hR⟩:∃R,R=wg L n:=⟨_,rfl⟩
 rw[<-hR];have hw0:IntKind.i64.wrap (((n+1:Nat):Int)-1)=(n:Int):=by rw[aK (by omega) (by omega)];omega
 have hw0':IntKind.i64.wrap ((n:Int)+1-1)=(n:Int):=by rw[aK (by omega) (by omega)];omega
 refine aO hw0 hw0' ?_;refine ay (fun x:Nat×List Req=>[(6,.int .i64 x.1)]) (fun x=>[.var (bk s.a),.var (bp r0),.var (bk rR),.vec 35 (rows bp x.2)]) (fun x=>x.1) (fun x=>x.1<=n/\x.2.length=n+1/\R=wg x.2 x.1) (n,L) ⟨Nat.le_refl _,hL,hR⟩ ?_ ?_
 ·exact adk [] [0,1,2,3]
 clear hR;rintro⟨k,l⟩ ⟨hk,hl,hn⟩;dsimp only at hk hl hn ⊢;(try simp only[db,cV,List.set_cons_zero,List.set_cons_succ])
 have ht:List.take (n+1) (rows bp l)=rows bp l:=List.take_of_length_le (by simp[hl]);cases k with
 | zero =>
   have e0:decide ((0:Int)<((0:Nat):Int))=false:=by decide
   have hr:R=l:=hn;subst hr;refine aD e0 ?_;refine⟨_,(by first|rfl|exact evd),.inl ?_⟩;exact Xm ht hl
 | succ k =>
   have e0:decide ((0:Int)<((k+1:Nat):Int))=true:=ak (by omega);have hw:IntKind.i64.wrap (((k+1:Nat):Int)-1)=(k:Int):=by rw[aK (by omega) (by omega)];omega
   have hg1:(rows bp l).getD (k+1) []=bp (fI l (k+1)):=aM (f:=bp) xC (by omega);have hg2:(rows bp l).getD k []=bp (fI l k):=aM (f:=bp) xC (by omega);have hsk:wg l (k+1)=if Xj (fI l (k+1)) (fI l k)=true then wg ((l.set (k+1) (fI l k)).set k (fI l (k+1))) k else l:=rfl
   rw[hsk]at hn;have hset:∀ (m:List Req) (j:Nat) (x:Req),(rows bp m).set j (bp x)=rows bp (m.set j x):=fun m j x=>zj bp m j x
   unfold Xj at hn;generalize ha:fI l (k+1)=a at *;generalize hb2:fI l k=b at *;have hg3:(rows bp (l.set (k+1) b)).getD k []=bp ((l.set (k+1) b).getD k xC):=aM (f:=bp) xC (by simp;omega);have hlt1:k+1<n+1:=by omega
   have hlt2:k<n+1:=by omega
   by_cases q1:a.due<b.due
   ·have e1:=ak q1;rw[e1,Bool.true_or,if_pos rfl]at hn;refine eI e0 hg1 hg2 hw e1 hl ?_;refine aF ?_;refine eI hg1 hg2 hg3 hw hl hset ?_;refine⟨(k,(l.set (k+1) b).set k a),⟨by dsimp only;omega,by simp[hl],hn⟩,by dsimp only;omega,?_⟩;exact adk [] [0,1,2,3]
   have e1:=au q1;rw[e1,Bool.false_or]at hn;by_cases q2:a.due=b.due
   ·have e2:(a.due==b.due)=true:=by simp[q2]
    rw[ak q2,Bool.true_and]at hn;by_cases q3:a.tag<b.tag
    ·have e3:=ak q3;rw[e3,if_pos rfl]at hn;refine th e0 hg1 hg2 hw e1 e2 e3 hl ?_;refine aF ?_;refine eI hg1 hg2 hg3 hw hl hset ?_;refine⟨(k,(l.set (k+1) b).set k a),⟨by dsimp only;omega,by simp[hl],hn⟩,by dsimp only;omega,?_⟩;exact adk [] [0,1,2,3]
    ·have e3:=au q3;rw[e3,if_neg (by simp)]at hn;subst hn;refine th e0 hg1 hg2 hw e1 e2 e3 hl ?_;refine abW ?_;refine⟨_,(by first|rfl|exact evd),.inl ?_⟩;exact Xm ht hl
   ·have e2:(a.due==b.due)=false:=by simp[q2]
    rw[au q2,Bool.false_and,if_neg (by simp)]at hn;subst hn;refine jN e0 hg1 hg2 hw e1 e2 hl ?_;refine abW ?_;refine⟨_,(by first|rfl|exact evd),.inl ?_⟩;exact Xm ht hl
theorem Q9(s:aX)(r:Req)(h:StR s.sto)(hy:s.rets.length<=1000):PC Tryz.prog 308 [.agg (bk s.a),.agg (bp r)] (.agg (bk (pq s r).a)):=by
 have tl:=U7 s (s.rets++[Al s r]) s.rets.length (by simp) (by omega) (Al s r);refine PC.fact 7 Hv (by simp) puA puA ?_;have hc:dm=.seq dm.hd (.seq (dm.tl 1).hd (.seq (dm.tl 2).hd (.seq (dm.tl 3).hd (.seq (dm.tl 4).hd (.seq (dm.tl 5).hd (dm.tl 6)))))):=rfl;rw[hc];clear hc;generalize dm.tl 6=cT at *;unfold dm;refine bd ?_;simp only[ab.tl,ab.hd];have c1:=FD s h r.block;have c2:=QC (IntKind.i64.wrap (r.tries+1)) s.sto.cfg.lim.backoff (abB _);unfold pq;generalize FC s.sto r.block=B at *;cases B with
 | false =>
   rw[if_pos rfl];refine gon ?_;refine ai c1 ?_;refine aV ?_;exact af
 | true =>
   rw[if_neg (by simp)];by_cases q:s.sto.cfg.lim.retry<=s.rets.length
   ·have e1:decide (s.sto.cfg.lim.retry<=(s.rets.length:Int))=true:=ak q;rw[if_pos q];refine gon ?_;refine ai c1 ?_;refine dk ?_;refine aE e1 ?_;exact af
   ·have e1:decide (s.sto.cfg.lim.retry<=(s.rets.length:Int))=false:=au q;have hsn:rows bp s.rets++[bp (Al s r)]=rows bp (s.rets++[Al s r]):=da bp s.rets _;have hlr:bp { tag:=r.tag,block:=r.block,tries:=IntKind.i64.wrap (r.tries+1),due:=IntKind.u64.wrap (s.sto.now+K4 (IntKind.i64.wrap (r.tries+1)) s.sto.cfg.lim.backoff) }=bp (Al s r):=rfl;rw[if_neg q];refine gon ?_;refine ai c1 ?_;refine dk ?_;refine aD e1 ?_;refine aC (c2) ?_;refine cZ hlr hsn lh ?_;refine dR ?_ tl;exact adk [] [0,1,2,5]
theorem VQ(s:am)(h:StR s):PC Tryz.prog 311 [.agg (aw s.a)] (.agg (rtc (Tr s))):=by
 refine PC.fact 4 LN (by simp) puA puA ?_;unfold yq;refine bd ?_;have c1:=cm s.nodes s.j.rt h.bn;have b1:=dX s.nodes s.j.rt;unfold Tr;generalize aj s.nodes s.j.rt=I at *;refine gon ?_;refine ai c1 ?_;by_cases q:0<=I
 ·have e1:=ak q
  have hg:=dy (t:=s.nodes) (i:=I.toNat) (by omega);by_cases q2:(nod s.nodes I.toNat).status=1
  ·have e2:((nod s.nodes I.toNat).status==1)=true:=by simp[q2]
   rw[if_pos ⟨q,q2⟩];refine fK e1 hg e2 ?_;exact af
  ·have e2:((nod s.nodes I.toNat).status==1)=false:=by simp[q2]
   rw[if_neg (fun h=>q2 h.2)];refine xt e1 hg e2 ?_;exact af
 ·have e1:=au q;rw[if_neg (fun h=>q h.1)];refine aD e1 ?_;exact af
theorem XG{s:am}(h:StR s):0<=E4 s/\E4 s<s.nodes.length:=by
 have h1:=dX s.nodes s.j.rt;have h2:=Oo h.tree (mc s) (Fu s) (s.nodes.length+1) (aj s.nodes s.j.rt) (by omega);have h3:=h.jf;unfold E4;omega
theorem W7(s:am)(h:StR s):PC Tryz.prog 210 [.agg (aw s.a)] (.agg (eS (UB s))):=by
 refine PC.fact 3 CH (by simp) puA puA ?_;unfold rm;refine bd ?_;have c1:=UT s h;have c2:=VQ s h;have hb:=XG h;unfold UB;generalize E4 s=I at *;generalize Tr s=S at *;have hg:=dy (t:=s.nodes) (i:=I.toNat) (by omega);refine gon ?_;refine aC (c1) ?_;refine ap hg ?_;refine aC (c2) ?_;refine gon ?_;exact af
theorem IV(s:aX)(h:StR s.sto):PC Tryz.prog 84 [.agg (bk s.a)] (.tup [.agg (bk (jK s).1.a),.sl 96 false (rows eS (jK s).2)]):=by
 refine PC.fact 5 LL (by simp) puA ⟨aX.pul _,fh _,trivial⟩ ?_;have c1:=W7 s.sto h;unfold jK;generalize UB s.sto=C at *;by_cases q:s.sent=true/\s.last=C
 ·rw[if_pos q];obtain⟨q1,q2⟩:=q;have e2:decide (s.last=C)=true:=ak q2;unfold j9;refine bd ?_;refine gon ?_;refine ai c1 ?_;refine cn q1 e2 ?_;refine⟨_,(by first|rfl|exact evd),.inr ⟨.tup [.agg (bk s.a),.sl 0 true []],?_,⟨aX.pul _,trivial,trivial⟩,Wk.tup ⟨Wk.refl _,Wk.empty _ _ _,trivial⟩⟩⟩;exact evd
 ·rw [if_neg q]
  have key:∀b:Bool,s.sent=b->(b=true->decide (s.last=C)=false)->Tri Tryz.prog 23 0 j9 (PQ [.cell 2 true 252,.tmp 3] (.tup [.agg (bk (aX.a ⟨s.sto,s.reqs,s.rets,s.tag,true,C,s.over,s.halt⟩)),.sl 96 false (rows eS [C])])) ⟨5,[.agg (bk s.a),.dead,.dead,.dead,.dead],[]⟩ []:=by
   intro b h1 h2;cases b with
   | false =>
     unfold j9;dsimp only[nfO,Int.reduceOfNat,Int.reduceNegSucc,wA,wB,wC,wD,wE,wF,wG,wH,wI,wJ,wK,wL,wM,wN,wO,wP,wQ,wR,wS,wT,wU,wV,wW,wX,wY,wZ,om,oo,on,omg,og,ong,ci,cu,cb,cf,fA,lA,lF,bI,bC,sO,eX,lN,iX,kA,kB,kC,sR,cN];refine gon ?_;refine ai c1 ?_;refine aD h1 ?_;refine⟨_,(by first|rfl|exact evd),.inr ⟨.tup [.agg (bk (aX.a ⟨s.sto,s.reqs,s.rets,s.tag,true,C,s.over,s.halt⟩)),.sl 96 true (rows eS [C])],?_,⟨aX.pul _,fh _,trivial⟩,Wk.tup ⟨Wk.refl _,Wk.open_ _ _ _,trivial⟩⟩⟩;exact evd
   | true =>
     have e2:=h2 rfl;unfold j9;dsimp only[nfO,Int.reduceOfNat,Int.reduceNegSucc,wA,wB,wC,wD,wE,wF,wG,wH,wI,wJ,wK,wL,wM,wN,wO,wP,wQ,wR,wS,wT,wU,wV,wW,wX,wY,wZ,om,oo,on,omg,og,ong,ci,cu,cb,cf,fA,lA,lF,bI,bC,sO,eX,lN,iX,kA,kB,kC,sR,cN];refine gon ?_;refine ai c1 ?_;refine eC h1 e2 ?_;refine⟨_,(by first|rfl|exact evd),.inr ⟨.tup [.agg (bk (aX.a ⟨s.sto,s.reqs,s.rets,s.tag,true,C,s.over,s.halt⟩)),.sl 96 true (rows eS [C])],?_,⟨aX.pul _,fh _,trivial⟩,Wk.tup ⟨Wk.refl _,Wk.open_ _ _ _,trivial⟩⟩⟩;exact evd
  exact key s.sent rfl fun hb=>au fun hl=>q ⟨hb,hl⟩
end Go.Proofs.YtnjdpnfglgcjcaaGreat
