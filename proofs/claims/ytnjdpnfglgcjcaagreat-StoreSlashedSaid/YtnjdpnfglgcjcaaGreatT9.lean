/-
 My texts Ra, Rb, Rc, joined.
-/
import Derived.Test.YtnjdpnfglgcjcaaGreatT8
set_option linter.unusedVariables false
set_option linter.unusedSimpArgs false
set_option maxRecDepth 8000
set_option maxHeartbeats 4000000
namespace Go.Proofs.YtnjdpnfglgcjcaaGreat
open Go Go.FH Go.RowKit
theorem FF(a b:Wd):PC Tryz.prog 346 [.agg (wdc a),.agg (wdc b)] (.int .i64 (G6 a b)):=by
 refine PC.fact 19 EP (by simp) puA puA ?_;unfold sK;refine bd ?_;refine gon ?_;refine ay (fun i:Nat=>[(5,.int .i64 ((i:Int)-1)),(10,.dead),(18,.dead)]) (fun _=>[.var (wdc a),.var (wdc b)]) (fun i=>i) (fun i=>i<=4/\G6 a b=BL a b i) 4 ⟨by omega,rfl⟩ ?_ ?_
 ·exact adk [] [0,1]
 rintro i ⟨hi,hn⟩;rw[hn];cases i with
 | zero =>
   refine bh ?_;exact af
 | succ i =>
   have h1:i<4:=by omega
   have e1:((i+1:Nat):Int)-1=(i:Int):=by omega
   have e2:decide ((i:Int) ≥ 0)=true:=ak (by omega);have e3:decide ((0:Int)<=i)=true:=ak (by omega);have hw:IntKind.i64.wrap ((i:Int)-1)=(i:Int)-1:=aK (by omega) (by omega);have g1:=yB a h1;have g2:=yB b h1;have ga:a.1.getD i 0=a.1[i]'(by rw[a.2];exact h1):=by simp[List.getD_eq_getElem?_getD,a.2,h1]
   have gb:b.1.getD i 0=b.1[i]'(by rw[b.2];exact h1):=by simp[List.getD_eq_getElem?_getD,b.2,h1]
   rw[<-ga]at g1;rw[<-gb]at g2;have hs:BL a b (i+1)=if a.1.getD i 0<b.1.getD i 0 then -1 else if b.1.getD i 0<a.1.getD i 0 then 1 else BL a b i:=rfl
   rw[hs];generalize a.1.getD i 0=x at *;generalize b.1.getD i 0=y at *;have h0:(0:Int)<=i:=by omega
   have hn1:(i:Int)<4:=by omega
   rw[e1];refine vX e1 e2 e3 ?_;refine eW g1 g2 Nat.mul_one Nat.zero_add ?_;refine bw (fun h=>?_) (fun h=>?_)
   ·rw[if_pos (by simpa using h)];refine gon ?_;exact af
   ·rw[if_neg (by simpa using h)]
    refine eW g1 g2 Nat.mul_one Nat.zero_add ?_;refine bw (fun h=>?_) (fun h=>?_)
    ·rename_i h';rw[if_pos (by simpa using h)];refine gon ?_;exact af
    ·rename_i h';rw[if_neg (by simpa using h)];refine ap hw ?_;refine⟨i,⟨by omega,rfl⟩,by omega,?_⟩;exact adk [] [0,1]
theorem RE(p b:Blk):PC Tryz.prog 345 [.agg (aA p),.agg (aA b)] (.bool (decide (p.payload=rt0)&&!decide (b.payload=rt0))):=by
 refine PC.fact 5 sY (by simp) puA puA ?_;unfold lH;refine bd ?_;have c1:=jk p.payload;have c2:=jk b.payload;refine gon ?_;refine ai c1 ?_;cases decide (p.payload=rt0)with
 | true =>
   refine gon ?_;refine acT c2 ?_;exact af
 | false =>
   refine gon ?_;exact af
theorem OV(ttd:Wd)(p b:Blk):PC Tryz.prog 268 [.agg (wdc ttd),.agg (aA p),.agg (aA b)] (.bool (vR ttd p b)):=by
 refine PC.fact 7 Lv (by simp) puA puA ?_;unfold yd;refine bd ?_;have c1:=RE p b;have c2:=FF b.pdiff ttd;have c3:=FF b.diff ttd;have c4:=jk p.payload;have c5:=jk b.payload;unfold vR;generalize G6 b.pdiff ttd=x at *;generalize G6 b.diff ttd=y at *;by_cases h2:p.payload=rt0
 ·rw [ak h2] at c1 c4
  by_cases h:b.payload=rt0
  ·rw[if_pos h,ak h2];rw[ak h]at c1 c5;refine gon ?_;refine ai c1 ?_;refine bh ?_;refine acT c4 ?_;exact af
  ·rw[if_neg h,if_pos h2]
   rw[au h]at c1 c5;refine gon ?_;refine ai c1 ?_;refine aV ?_;refine ai c2 ?_;cases h3:decide (x<0)with
   | true =>
     refine ap h3 ?_;refine acT c3 ?_;exact af
   | false =>
     refine ap h3 ?_;exact af
 ·rw[au h2]at c1 c4
  by_cases h:b.payload=rt0
  ·rw[if_pos h,au h2];rw[ak h]at c1 c5;refine gon ?_;refine ai c1 ?_;refine bh ?_;refine acT c4 ?_;refine acT c5 ?_;exact af
  ·rw[if_neg h,if_neg h2];rw[au h]at c1 c5;refine gon ?_;refine ai c1 ?_;refine bh ?_;refine acT c4 ?_;refine acT c5 ?_;exact af
theorem OB(x:Blk)(r:Rt):aI Tryz.prog 342 [.agg (aA x),.ptr 0 0] [.var (rtc r)] (.bool (decide (x.root=r))) [.var (rtc r)]:=by
 refine aI.fact 4 uD (by simp) ?_ (by simp);unfold mo;refine bd ?_;refine gon ?_;exact adb [] [0]
theorem OW(s:am)(r:Rt)(hb:s.nodes.length<=1000000)(ho:s.orph.length<=1000000):PC Tryz.prog 266 [.agg (aw s.a),.agg (rtc r)] (.bool (iW s r)):=by
 refine PC.fact 5 yE (by simp) puA puA ?_;unfold oE;refine bd ?_;have c1:=eD s.nodes r hb;have c2:=Xa s.orph false 342 ⟨rtc r,dS r⟩ (fun i=>decide ((cF s.orph i).root=r)) ho (fun i _=>OB _ r);unfold iW;generalize aj s.nodes r=I at *;generalize (cE (fun i=>decide ((cF s.orph i).root=r)) s.orph.length).isSome=K at *;refine gon ?_;refine ai c1 ?_;by_cases q:0<=I
 ·have e:decide (I ≥ 0)=true:=ak q;have e':decide (0<=I)=true:=ak q;rw[e',Bool.or_true];refine aO e e' ?_;exact af
 ·have e:decide (I ≥ 0)=false:=au q;have e':decide (0<=I)=false:=au q;rw[e',Bool.or_false];refine aO e e' ?_;refine bP [1] (c2) evd (bx.mk' (by simp) evd) ?_;refine evg ?_;refine gon ?_;exact af
theorem Vs(s:am)(b:Blk):PC Tryz.prog 343 [.agg (aw s.a),.agg (aA b)] (.bool (tH s b)):=by
 refine PC.fact 9 rM (by simp) puA puA ?_;unfold kL;refine bd ?_;unfold tH;have c1:=kX b.slot s.cfg.spe;generalize fC b.slot s.cfg.spe=E at *;obtain⟨E1,E2⟩:=E;dsimp only at c1 ⊢;refine gon ?_;refine ai c1 ?_;by_cases q0:b.fin.ep<=b.just.ep
 case neg=>
  have k0:=au q0;rw[k0];refine ap k0 ?_;exact af
 have k0:=ak q0;rw[k0];by_cases q1:b.just.ep<=b.pul.j.ep
 case neg=>
  have k1:=au q1;rw[k1];refine aO k0 k1 ?_;exact af
 have k1:=ak q1;rw[k1];by_cases q2:b.fin.ep<=b.pul.f.ep
 case neg=>
  have k2:=au q2;rw[k2];refine cZ k0 k1 k2 ?_;exact af
 have k2:=ak q2;rw[k2];by_cases q3:b.pul.f.ep<=b.pul.j.ep
 case neg=>
  have k3:=au q3;rw[k3];refine eW k0 k1 k2 k3 ?_;exact af
 have k3:=ak q3;rw[k3];refine eW k0 k1 k2 k3 ?_;exact af
def Jp(s:am)(b:Blk)(p:Int)(c:Cp):Bool:=if (bD c.ep s.cfg.spe).2≠0 then false else if b.slot<=(bD c.ep s.cfg.spe).1 then decide (c.rt=b.root)
 else decide (0<=atT s.nodes p (bD c.ep s.cfg.spe).1)&&decide ((nod s.nodes (atT s.nodes p (bD c.ep s.cfg.spe).1).toNat).blk.root=c.rt)
theorem abr{t:List Nod}(ht:dc t)(i slot:Int):atT t i slot<t.length:=by
 by_cases h:isN t i=true
 ·obtain ⟨h0, h1⟩ := oR.1 h
  obtain⟨k,rfl⟩:=Int.eq_ofNat_of_zero_le h0
  have key:∀n k:Nat,k<=n->k<t.length->atT t k slot<t.length:=by
   intro n;induction n with
   | zero =>
     intro k hk hl;rw[P3 ht hl];split
     ·omega
     ·rw[xU]
      ·omega
      ·obtain rfl:k=0:=by omega
       rw[E9];have:=ht.root;omega
   | succ n ih =>
     intro k hk hl;rw[P3 ht hl];split
     ·omega
     ·by_cases hu:0<=(nod t k).up
      ·have h2:(nod t k).up<k:=by
        rcases Nat.eq_zero_or_pos k with h3|h3
        ·subst h3;have:=ht.root;omega
        ·exact(ht.ok k h3 hl).2
       obtain⟨m,hm⟩:=Int.eq_ofNat_of_zero_le hu;rw[hm];exact ih m (by omega) (by omega)
      ·rw[xU _ (by rw[E9];omega)];omega
  exact key k k (Nat.le_refl _) (by omega)
 ·rw[xU _ (by simpa using h)];have:=ht.pos;omega
theorem RF(s:am)(ht:dc s.nodes)(hb:s.nodes.length<=1000000)(b:Blk)(p:Int)(c:Cp)(hc:U64 c.ep):PC Tryz.prog 344 [.agg (aw s.a),.agg (aA b),.int .i64 p,.agg (cpC c)] (.bool (Jp s b p c)):=by
 refine PC.fact 12 uE (by simp) puA puA ?_;unfold mq;refine bd ?_;have c1:=iw (e:=c.ep) (p:=s.cfg.spe) hc.1 hc.2;have c2:=OP s.nodes ht hb p (bD c.ep s.cfg.spe).1;have b2:=abr ht p (bD c.ep s.cfg.spe).1;unfold Jp;generalize atT s.nodes p (bD c.ep s.cfg.spe).1=I at *;generalize bD c.ep s.cfg.spe=S at *;obtain⟨S1,S2⟩:=S;dsimp only at c1 c2 ⊢;have hgi:0<=I->(rows aP s.nodes).getD I.toNat []=aP (nod s.nodes I.toNat):=fun h=>aM (f:=aP) jm (by omega)
 refine gon ?_;refine ai c1 ?_;by_cases q1:S2=0
 case neg=>
  have k:(S2 != 0)=true:=by simp[q1]
  rw[if_pos q1];refine aE k ?_;exact af
 have k:(S2 != 0)=false:=by simp[q1]
 rw[if_neg (by simp[q1])];refine aQ k ?_;by_cases q2:b.slot<=S1
 ·have k2:=ak q2;rw[if_pos q2];refine aE k2 ?_;exact af
 have k2:=au q2;rw[if_neg q2];refine aD k2 ?_;refine ai c2 ?_;by_cases q3:0<=I
 ·have e:decide (I ≥ 0)=true:=ak q3;have e':decide (0<=I)=true:=ak q3;have hgi:=hgi q3;rw[e',Bool.true_and];refine cZ e e' hgi ?_;exact af
 ·have e:decide (I ≥ 0)=false:=au q3;have e':decide (0<=I)=false:=au q3;rw[e',Bool.false_and];refine aO e e' ?_;exact af
theorem AW(l:List Cp):fG (rows cpC l):=cK fun x _=>fF x
theorem VF(ρ:Nat->Nat)(l:List Cp):dF ρ (rows cpC l)=rows cpC l:=(AW l).ren ρ
theorem Xx(σ:St)(zs:List Nat)(l:List Cp):gX σ zs (rows cpC l)=rows cpC l:=(AW l).fz σ zs
attribute [go_sem] VF Xx
def te(s:am)(b:Blk)(p:Int)(c:Cp):Bool:=decide (c.ep<=s.f.ep) || Jp s b p c
def N7(s:am)(b:Blk):Bool:=decide (0<=aj s.nodes b.parent)&&(tH s b&&(cE (fun k=>!te s b (aj s.nodes b.parent) ((cps b).getD k cp0)) 4).isNone)
theorem RB(s:am)(ht:dc s.nodes)(hb:s.nodes.length<=1000000)(b:Blk)(hu:WI b):PC Tryz.prog 267 [.agg (aw s.a),.agg (aA b)] (.bool (N7 s b)):=by
 refine PC.fact 34 xa (by simp) puA puA ?_;unfold nq;refine bd ?_;have c1:=eD s.nodes b.parent hb;have c2:=Vs s b;have c3:=fun p c=>RF s ht hb b p c
 obtain⟨R,hR⟩:∃R,R=N7 s b:=⟨_,rfl⟩
 rw[<-hR];unfold N7 at hR
 have hcu:∀k,k<4->U64 ((cps b).getD k cp0).ep:=fun k hk=>by
  have:k=0\/k=1\/k=2\/k=3:=by omega
  rcases this with rfl|rfl|rfl|rfl
  ·exact hu.just
  ·exact hu.fin
  ·exact hu.j
  ·exact hu.f
 generalize aj s.nodes b.parent=P at *;refine gon ?_;refine ai c1 ?_;by_cases q1:P<0
 ·have e1:=ak q1;rw[au (show ¬0<=P by omega),Bool.false_and]at hR;subst hR;refine aE e1 ?_;exact af
 have e1:=au q1;rw[ak (show 0<=P by omega),Bool.true_and]at hR;refine ap e1 ?_;refine ai c2 ?_;cases hO:tH s b with
 | false =>
   rw[hO,Bool.false_and]at hR;subst hR;refine aV ?_;exact af
 | true =>
   rw[hO,Bool.true_and]at hR;have hcp:[cpC b.just,cpC b.fin,cpC b.pul.j,cpC b.pul.f]=rows cpC (cps b):=rfl;have hl4:(cps b).length=4:=rfl;generalize cps b=L at *;refine dk ?_;refine aO hcp hl4 ?_;have hN:cE (fun k=>!te s b P (L.getD k cp0)) 4=fw (fun k=>!te s b P (L.getD k cp0)) (4-0) 0:=rfl;refine ay (fun i:Nat=>[(33,.int .i64 i)]) (fun i=>[.var (aw s.a),.var (aA b)]) (fun i=>4-i) (fun i=>i<=4/\cE (fun k=>!te s b P (L.getD k cp0)) 4=fw (fun k=>!te s b P (L.getD k cp0)) (4-i) i) 0 ⟨Nat.zero_le _,hN⟩ ?_ ?_
   ·exact adk [] [0,1]
   clear hN;rintro i ⟨hi,hn⟩;rw[hn]at hR;(try simp only[db,cV,List.set_cons_zero,List.set_cons_succ])
   by_cases h1:i<4
   ·have e1:decide ((i:Int)<4)=true:=ak (by omega)
    have e1':decide ((i:Int)<((4:Nat):Int))=true:=ak (by omega);have hw:=ah h1 (by omega);have hgd:(rows cpC L).getD i []=cpC (L.getD i cp0):=aM (f:=cpC) cp0 (by omega);have c3:=c3 P (L.getD i cp0) (hcu i h1);have hll:i<L.length:=by omega
    have hpx:(fun k=>!te s b P (L.getD k cp0)) i=!te s b P (L.getD i cp0):=rfl;generalize L.getD i cp0=x at *;refine vX e1 e1' hl4 ?_;refine aO hgd hl4 ?_;have gt:decide (x.ep > s.f.ep)=decide (s.f.ep<x.ep):=rfl;by_cases q2:s.f.ep<x.ep
    ·have e2:=ak q2
     have hF:te s b P x=Jp s b P x:=by unfold te;rw[au (show ¬x.ep<=s.f.ep by omega),Bool.false_or]
     refine aO gt e2 ?_;refine ai c3 ?_;cases hL:Jp s b P x with
     | true =>
       have hp:(fun k=>!te s b P (L.getD k cp0)) i=false:=by rw[hpx];rw[hF,hL];rfl
       rw[fW h1 hp]at hn hR;refine dk ?_;refine ap hw ?_;refine⟨i+1,⟨h1,hn⟩,by omega,?_⟩;exact adk [] [0,1]
     | false =>
       have hp:(fun k=>!te s b P (L.getD k cp0)) i=true:=by rw[hpx];rw[hF,hL];rfl
       rw[f9 h1 hp]at hR;subst hR;refine aV ?_;exact af
    ·have e2:=au q2;have hF:te s b P x=true:=by unfold te;rw[ak (show x.ep<=s.f.ep by omega),Bool.true_or]
     have hp:(fun k=>!te s b P (L.getD k cp0)) i=false:=by rw[hpx];rw[hF];rfl
     rw[fW h1 hp]at hn hR;refine dD gt e2 ?_;refine ap hw ?_;refine⟨i+1,⟨h1,hn⟩,by omega,?_⟩;exact adk [] [0,1]
   ·obtain rfl:i=4:=by omega
    rw[gQ]at hR;subst hR;have e1:decide (((4:Nat):Int)<4)=false:=by decide
    have e1':decide (((4:Nat):Int)<((4:Nat):Int))=false:=by decide
    have e2:decide ((4:Int)<4)=false:=by decide
    refine eC hl4 e2 ?_;exact af
theorem I0{p q:Nat->Bool}:∀ (k i:Nat),(∀j,i<=j->j<i+k->p j=q j)->fw p k i=fw q k i
 |0,_,_=>rfl
 | k + 1, i, h => by
   have h0:=h i (Nat.le_refl _) (by omega);have ih:=I0 k (i+1) fun j h1 h2=>h j (by omega) (by omega)
   cases hp:p i with
   |true=>rw[show k+1=(i+(k+1))-i by omega,f9 (by omega) hp,f9 (by omega) (by rw[<-h0];exact hp)]
   | false =>
     have e1:=fW (p:=p) (n:=i+(k+1)) (i:=i) (by omega) hp;have e2:=fW (p:=q) (n:=i+(k+1)) (i:=i) (by omega) (by rw[<-h0];exact hp);rw[show i+(k+1)-i=k+1 by omega,show i+(k+1)-(i+1)=k by omega]at e1 e2;rw[e1,e2,ih]
theorem Z4{s:am}(h1:1<=s.cfg.spe)(h2:s.cfg.spe<=64)(b:Blk):tH s b=lX s b:=by
 unfold tH lX;rw[m6 h1 h2]
theorem Xp{s:am}{i:Nat}(h:bi s i){b:Blk}(hu:jx i b):N7 s b=rD s b:=by
 unfold N7 rD;rw[Z4 h.spe.1 h.spe.2];cases hO:lX s b with
 |false=>simp
 | true =>
   have hO2:=hO;unfold lX at hO2;simp only[Bool.and_eq_true,decide_eq_true_eq]at hO2;obtain⟨⟨⟨⟨o1,o2⟩,o3⟩,o4⟩,o5⟩:=hO2
   have key:∀k,k<4->te s b (aj s.nodes b.parent) ((cps b).getD k cp0)=nP s b (aj s.nodes b.parent) ((cps b).getD k cp0):=fun k hk=>by
    have hc:U64 ((cps b).getD k cp0).ep/\((cps b).getD k cp0).ep<=bY s b.slot:=by
     have:k=0\/k=1\/k=2\/k=3:=by omega
     rcases this with rfl|rfl|rfl|rfl
     ·exact⟨hu.just,Int.le_trans o2 o5⟩
     ·exact⟨hu.fin,Int.le_trans o1 (Int.le_trans o2 o5)⟩
     ·exact⟨hu.j,o5⟩
     ·exact⟨hu.f,Int.le_trans o4 o5⟩
    have hs:(bD ((cps b).getD k cp0).ep s.cfg.spe).2=0:=tU hc.1.1 h.spe.1 h.spe.2 hu.slot.1 hu.slot.2 hc.2;generalize (cps b).getD k cp0=c at *;unfold te nP Jp cR;rw[if_neg (by simp[hs])];dsimp only;by_cases q:b.slot<=(bD c.ep s.cfg.spe).1
    ·rw[if_pos q,if_neg (by omega)];congr 1;exact decide_eq_decide.2 ⟨fun h=>h.symm,fun h=>h.symm⟩
    ·rw[if_neg q,if_pos (by omega)]
   have:cE (fun k=>!te s b (aj s.nodes b.parent) ((cps b).getD k cp0)) 4=cE (fun k=>!nP s b (aj s.nodes b.parent) ((cps b).getD k cp0)) 4:=
    I0 4 0 fun j h1 h2=>by rw[key j (by omega)]
   rw[this]
theorem ze(s:am)(i:Nat)(h:bi s i)(b:Blk)(hu:jx i b):PC Tryz.prog 145 [.agg (aw s.a),.agg (aA b)] (.int .i64 (bG s b)):=by
 refine PC.fact 79 yD (by simp) puA puA ?_;unfold oD;refine bd ?_;obtain⟨R,hR⟩:∃R,R=bG s b:=⟨_,rfl⟩
 rw[<-hR];unfold bG cR at hR;have c1:=iw (e:=s.f.ep) (p:=s.cfg.spe) h.uf.1 h.uf.2;have c2:=jk b.root;have c3:=OW s b.root h.r.bn h.r.bo;have c4:=eD s.nodes b.parent h.r.bn;have b4:=dX s.nodes b.parent;have c5:=RB s h.tree h.r.bn b hu.u;rw[Xp h hu]at c5;have c6:=OV s.cfg.ttd (nod s.nodes (aj s.nodes b.parent).toNat).blk b;have hgi:0<=aj s.nodes b.parent->(rows aP s.nodes).getD (aj s.nodes b.parent).toNat []=aP (nod s.nodes (aj s.nodes b.parent).toNat):=fun h=>aM (f:=aP) jm (by omega)
 generalize aj s.nodes b.parent=I at *;generalize nod s.nodes I.toNat=x at *;generalize vR s.cfg.ttd x.blk b=M at *;generalize rD s b=F at *;generalize iW s b.root=K at *;generalize bD s.f.ep s.cfg.spe=S at *;obtain⟨S1,S2⟩:=S;dsimp only at c1 hR;have gt:decide (b.slot > s.now)=decide (s.now<b.slot):=rfl;refine gon ?_;refine acT c1 ?_;refine ai c2 ?_;by_cases q1:b.root=rt0
 ·have e1:=ak q1;rw[if_pos q1]at hR;subst hR;refine aE e1 ?_;exact af
 have e1:=au q1;rw[if_neg q1]at hR;refine aD e1 ?_;refine ai c3 ?_;cases K with
 | true =>
   rw[if_pos rfl]at hR;subst hR;refine aV ?_;exact af
 |false=>
 rw[if_neg (by simp)]at hR;refine bh ?_;by_cases q3:s.now<b.slot
 ·have e3:=ak q3;rw[if_pos q3]at hR;subst hR;refine cn gt e3 ?_;exact af
 have e3:=au q3;rw[if_neg q3]at hR;refine eC gt e3 ?_;by_cases q4:b.slot<=S1
 ·have e4:=ak q4;rw[if_pos q4]at hR;subst hR;refine aE e4 ?_;exact af
 have e4:=au q4;rw[if_neg q4]at hR;refine aD e4 ?_;refine ai c4 ?_;by_cases q5:I<0
 ·have e5:=ak q5;rw[if_pos q5]at hR;subst hR;refine aE e5 ?_;exact af
 have e5:=au q5;have hgi:=hgi (by omega);rw[if_neg q5]at hR;refine aQ e5 ?_;refine ap hgi ?_;by_cases q6:b.slot<=x.blk.slot
 ·have e6:=ak q6;rw[if_pos q6]at hR;subst hR;refine aE e6 ?_;exact af
 have e6:=au q6;rw[if_neg q6]at hR;refine aD e6 ?_;by_cases q7:x.status=2
 ·have e7:(x.status==2)=true:=by simp[q7]
  rw[if_pos q7]at hR;subst hR;refine aE e7 ?_;exact af
 have e7:(x.status==2)=false:=by simp[q7]
 rw[if_neg q7]at hR;refine aD e7 ?_;refine ai c5 ?_;cases F with
 | false =>
   rw[if_pos rfl]at hR;subst hR;refine aV ?_;exact af
 |true=>
 rw[if_neg (by simp)]at hR;refine bh ?_;refine ai c6 ?_;cases M with
 | false =>
   rw[if_pos rfl]at hR;subst hR;refine aV ?_;exact af
 |true=>
 rw[if_neg (by simp)]at hR;refine dk ?_;have ge:decide ((s.nodes.length:Int) ≥ s.cfg.lim.node)=decide (s.cfg.lim.node<=(s.nodes.length:Int)):=rfl;by_cases q10:s.cfg.lim.node<=(s.nodes.length:Int)
 ·have e10:=ak q10;rw[if_pos q10]at hR;subst hR;refine cn ge e10 ?_;exact af
 have e10:=au q10;rw[if_neg q10]at hR;subst hR;refine eC ge e10 ?_;exact af
theorem zf(s:am)(i:Nat)(h:bi s i)(b:Blk)(hu:jx i b)(hc:bG s b=0):
 ∃z:List Blk,aI Tryz.prog 147 [.agg (aw s.a),.agg (aA b)] [] (.agg (aw (rE (gi s b)))) [.vec 238 (rows aA ((gi s b).orph++z))]:=by
 have hI:=h.insN hc hu;have c1:PC Tryz.prog 270 [.agg (aA b)] (.int .i64 (ck b)):=RN b;have c2:=Vq s.nodes b (ck b) h.r.bn;obtain⟨z1,c3⟩:=AH (dh s (eP s.nodes b (ck b)).1) i hI b.just b.fin hu.just hu.fin;have hU:=hI.upd (j:=b.just) (f:=b.fin) hu.just hu.fin;obtain⟨z2,c4⟩:=AH (dl (dh s (eP s.nodes b (ck b)).1) b.just b.fin) i hU b.pul.j b.pul.f hu.j hu.f;have c5:=kX b.slot (dl (dh s (eP s.nodes b (ck b)).1) b.just b.fin).cfg.spe;have c6:=kX (dl (dh s (eP s.nodes b (ck b)).1) b.just b.fin).now (dl (dh s (eP s.nodes b (ck b)).1) b.just b.fin).cfg.spe;have f5:=m6 hU.spe.1 hU.spe.2 b.slot;have f6:=m6 hU.spe.1 hU.spe.2 (dl (dh s (eP s.nodes b (ck b)).1) b.just b.fin).now;unfold gi;have hN:(dh s (eP s.nodes b (ck b)).1).a={ s.a with nodes:=.sl 240 false (rows aP (eP s.nodes b (ck b)).1) }:=rfl;rw[hN]at c3;generalize hT:eP s.nodes b (ck b)=T at *;generalize ck b=st at *;obtain⟨T1,T2⟩:=T;dsimp only at c2 c3 c4 c5 c6 f5 f6 hU ⊢;generalize dl (dh s T1) b.just b.fin=U at *;generalize dl U b.pul.j b.pul.f=U2 at *;generalize fC b.slot U.cfg.spe=E1 at *;generalize fC U.now U.cfg.spe=E2 at *;obtain⟨e11,e12⟩:=E1;obtain⟨e21,e22⟩:=E2;dsimp only at c5 c6 f5 f6;subst f5 f6;unfold rE at c3 c4;by_cases q:bY U b.slot<bY U U.now
 ·have e1:=ak q;rw[if_pos q];refine⟨z2,?_⟩;unfold rE;refine aI.fact 9 s8 (by simp) ?_ (by simp);unfold nJ;refine bd ?_;refine gon ?_;refine aC (c1) ?_;refine gon ?_;refine aC (c2) ?_;refine gon ?_;refine bP [] (c3) evd (bx.mk' (by simp) evd) ?_;refine evg ?_;refine gon ?_;refine acT c5 ?_;refine ai c6 ?_;refine bg e1 ?_;refine Gp [5] ?_;simp only[evZ,E0];(try simp only[go_sem,Nat.reduceAdd,Nat.reduceSub,Nat.reduceMul,Nat.reduceLT,Nat.reduceLeDiff,Nat.reduceEqDiff,reduceIte,Int.reduceToNat,Int.reduceLT,Int.reduceLE,Int.reduceEq,Int.reduceNeg,reduceCtorEq,Int.reduceBEq,Int.reduceBNe])
  refine gon ?_;refine bP [] (c4) evd (bx.mk' (by simp) evd) ?_;refine evg ?_;refine gon ?_;exact adb [] [6]
 ·have e1:=au q;rw[if_neg q];refine⟨z1,?_⟩;unfold rE;refine aI.fact 9 s8 (by simp) ?_ (by simp);unfold nJ;refine bd ?_;refine gon ?_;refine aC (c1) ?_;refine gon ?_;refine aC (c2) ?_;refine gon ?_;refine bP [] (c3) evd (bx.mk' (by simp) evd) ?_;refine evg ?_;refine gon ?_;refine acT c5 ?_;refine ai c6 ?_;refine aD e1 ?_;exact adb [] [5]
theorem Jz(s:am)(m:Nat)(h:bi s m)(a:aW)(ha:a.vals.length<=1000000):PC Tryz.prog 47 [.agg (aw s.a),.agg (bZ a.a)] (.tup [.agg (aw (i9 s a).1.a),.int .i64 (i9 s a).2]):=by
 refine PC.fact 9 EM (by simp) puA puA ?_;unfold sI;refine bd ?_;have c1:=BY s m h a ha;have c2:=FE s m h a ha;have c3:=kW s h.cp;unfold OO at c3;have c4:=IG a ha
 have hj:(dB s a).2=0->∀j∈a.vals,0<=j/\j<s.latest.length:=fun hq j hjm=>by
  have hv:dr a.vals s.cfg.bals.length=0:=by
   unfold dB at hq;split at hq
   ·rename_i h1;exact absurd hq h1
   ·rename_i h1;simpa using h1
  obtain⟨u,hm,rfl⟩:=List.getElem_of_mem hjm;have:=(jw hv).2 u hm;rw[List.getD_eq_getElem?_getD,List.getElem?_eq_getElem hm,Option.getD_some]at this;have hll:=h.ll;omega
 have hcl:(castIn s a).early=s.early:=rfl;have haa:=h.aa;have hla:=h.cfg.la;unfold i9;generalize dB s a=R at *;obtain⟨R1,R2⟩:=R;dsimp only at c1 hj ⊢;refine gon ?_;refine ai c1 ?_;by_cases q1:R2=0
 case neg=>
  have k:(R2 != 0)=true:=by simp[q1]
  rw[if_pos q1];refine aE k ?_;exact gS (by first|rfl|exact evd) (by first|rfl|exact evd)
 have k:(R2 != 0)=false:=by simp[q1]
 rw[if_neg (by simp[q1])];have c2:=c2 (hj q1);refine aQ k ?_;cases R1 with
 | false =>
   rw[if_pos rfl];generalize castIn s a=s3 at *;rw[<-hcl]at c2;refine aV ?_;refine bP [] (c2) evd (bx.mk' (by simp) evd) ?_;refine evg ?_;refine gon ?_;refine⟨_,(by first|rfl|exact evd),.inl ?_⟩;refine evg ?_
   rfl
 | true =>
   rw[if_neg (by simp)];have ge:decide ((s.early.length:Int) ≥ s.cfg.lim.early)=decide (s.cfg.lim.early<=(s.early.length:Int)):=rfl;by_cases q2:s.cfg.lim.early<=(s.early.length:Int)
   ·have e2:=ak q2;rw[if_pos q2];refine dk ?_;refine cn ge e2 ?_;exact gS (by first|rfl|exact evd) (by first|rfl|exact evd)
   ·have e2:=au q2;rw[if_neg q2];have hr:rows aW.c s.early++[bZ a.a]=rows aW.c (s.early++[a]):=da aW.c s.early a;have ht:List.take (s.early.length+1) (rows aW.c (s.early++[a]))=rows aW.c (s.early++[a]):=List.take_of_length_le (by simp);refine dk ?_;refine eC ge e2 ?_;refine bP [] (c3) evd (bx.mk' (by simp) evd) ?_;refine evg ?_;refine gon ?_;refine aC (c4) ?_;refine ap hr ?_;refine⟨_,(by first|rfl|exact evd),.inl ?_⟩;exact nN ht
end Go.Proofs.YtnjdpnfglgcjcaaGreat
