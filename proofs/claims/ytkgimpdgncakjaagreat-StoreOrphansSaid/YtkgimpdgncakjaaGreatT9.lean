/-
 My texts Ra, Rb, Rc, joined.
-/
import Derived.Test.YtkgimpdgncakjaaGreatT8
namespace Go.Proofs.YtkgimpdgncakjaaGreat
open Go Go.FH Go.RowKit
set_option linter.unusedVariables false
set_option linter.unusedSimpArgs false
set_option maxRecDepth 8000
set_option maxHeartbeats 4000000
theorem wa_(a b:Wd):PC Tryz.prog 199 [.agg (wdc a),.agg (wdc b)] (.int .i64 (xz_ a b)):=by
 refine PC.fact 19 vk_ (by simp) puA puA ?_;unfold mr_;refine bd ?_;try refine aa_ ?_
 refine ao_ (fun i:Nat=>[(5,.int .i64 ((i:Int)-1)),(10,.dead),(18,.dead)]) (fun _=>[.var (wdc a),.var (wdc b)]) (fun i=>i) (fun i=>i≤4∧xz_ a b=sA_ a b i) 4 ⟨by omega,rfl⟩ ?_ ?_
 ·exact ST_ [] [0,1]
 rintro i ⟨hi,hn⟩;rw[hn];cases i with
 | zero =>
   try refine aa_ ?_
   refine Rm_ ?_
   exact ag_
 | succ i =>
   have h1:i<4:=by omega
   have e1:((i+1:Nat):Int)-1=(i:Int):=by omega
   have e2:decide ((i:Int) ≥ 0)=true:=decide_eq_true (by omega);have e3:decide ((0:Int)≤i)=true:=decide_eq_true (by omega);have hw:IntKind.i64.wrap ((i:Int)-1)=(i:Int)-1:=ax_ (by omega) (by omega);have g1:=qq_ a h1;have g2:=qq_ b h1;have ga:a.1.getD i 0=a.1[i]'(by rw[a.2];exact h1):=by simp[List.getD_eq_getElem?_getD,a.2,h1]
   have gb:b.1.getD i 0=b.1[i]'(by rw[b.2];exact h1):=by simp[List.getD_eq_getElem?_getD,b.2,h1]
   rw[←ga]at g1;rw[←gb]at g2;have hs:sA_ a b (i+1)=if a.1.getD i 0<b.1.getD i 0 then -1 else if b.1.getD i 0<a.1.getD i 0 then 1 else sA_ a b i:=rfl
   rw[hs];generalize a.1.getD i 0=x at *;generalize b.1.getD i 0=y at *;have h0:(0:Int)≤i:=by omega
   have hn1:(i:Int)<4:=by omega
   rw[e1];repeat(first|refine aa_ ?_|simp only[go_sem,e1,e2,e3])
   refine ac_ ?_;repeat(first|refine aa_ ?_|simp only[go_sem,g1,g2,Nat.mul_one,Nat.zero_add])
   refine aP_ (fun h=>?_) (fun h=>?_)
   ·rw[if_pos (by simpa using h)];try refine aa_ ?_
    exact ag_
   ·rw[if_neg (by simpa using h)]
    repeat(first|refine aa_ ?_|simp only[go_sem,g1,g2,Nat.mul_one,Nat.zero_add])
    refine aP_ (fun h=>?_) (fun h=>?_)
    ·rename_i h';rw[if_pos (by simpa using h)];try refine aa_ ?_
     exact ag_
    ·rename_i h';rw[if_neg (by simpa using h)];repeat(first|refine aa_ ?_|simp only[go_sem,hw])
     refine⟨i,⟨by omega,rfl⟩,by omega,?_⟩;exact ST_ [] [0,1]
theorem GT_(p b:Blk):PC Tryz.prog 198 [.agg (al_ p),.agg (al_ b)] (.bool (decide (p.payload=rt0)&&!decide (b.payload=rt0))):=by
 refine PC.fact 5 mE_ (by simp) puA puA ?_;unfold gY_;refine bd ?_;have c1:=fm_ p.payload;have c2:=fm_ b.payload;try refine aa_ ?_
 refine ae_ c1 ?_;cases decide (p.payload=rt0)with
 | true =>
   try refine aa_ ?_
   refine Sv_ c2 ?_
   exact ag_
 | false =>
   try refine aa_ ?_
   exact ag_
theorem Eu_(ttd:Wd)(p b:Blk):PC Tryz.prog 148 [.agg (wdc ttd),.agg (al_ p),.agg (al_ b)] (.bool (vm_ ttd p b)):=by
 refine PC.fact 7 Bj_ (by simp) puA puA ?_;unfold pV_;refine bd ?_;have c1:=GT_ p b;have c2:=wa_ b.pdiff ttd;have c3:=wa_ b.diff ttd;have c4:=fm_ p.payload;have c5:=fm_ b.payload;unfold vm_;generalize xz_ b.pdiff ttd=x at *;generalize xz_ b.diff ttd=y at *;by_cases h2:p.payload=rt0
 ·rw [decide_eq_true h2] at c1 c4
  by_cases h:b.payload=rt0
  ·rw[if_pos h,decide_eq_true h2];rw[decide_eq_true h]at c1 c5;try refine aa_ ?_
   refine Sv_ c1 ?_
   refine Rm_ ?_
   refine Sv_ c4 ?_
   exact ag_
  ·rw[if_neg h,if_pos h2]
   rw[decide_eq_false h]at c1 c5;try refine aa_ ?_
   refine Sv_ c1 ?_
   refine Rn_ ?_
   refine ae_ c2 ?_;cases h3:decide (x<0)with
   | true =>
     repeat(first|refine aa_ ?_|simp only[go_sem,h3])
     refine Sv_ c3 ?_
     exact ag_
   | false =>
     repeat(first|refine aa_ ?_|simp only[go_sem,h3])
     exact ag_
 ·rw[decide_eq_false h2]at c1 c4
  by_cases h:b.payload=rt0
  ·rw[if_pos h,decide_eq_false h2];rw[decide_eq_true h]at c1 c5;try refine aa_ ?_
   refine Sv_ c1 ?_
   refine Rm_ ?_
   refine Sv_ c4 ?_
   refine Sv_ c5 ?_
   exact ag_
  ·rw[if_neg h,if_neg h2];rw[decide_eq_false h]at c1 c5;try refine aa_ ?_
   refine Sv_ c1 ?_
   refine Rm_ ?_
   refine Sv_ c4 ?_
   refine Sv_ c5 ?_
   exact ag_
theorem Ee_(x:Blk)(r:Rt):ap_ Tryz.prog 195 [.agg (al_ x),.ptr 0 0] [.var (rtc r)] (.bool (decide (x.root=r))) [.var (rtc r)]:=by
 refine ap_.fact 4 nH_ (by simp) ?_ (by simp);unfold hB_;refine bd ?_;try refine aa_ ?_
 exact SM_ [] [0]
theorem Ev_(s:ai_)(r:Rt)(hb:s.nodes.length≤1000000)(ho:s.orph.length≤1000000):PC Tryz.prog 146 [.agg (aj_ s.a),.agg (rtc r)] (.bool (ek_ s r)):=by
 refine PC.fact 5 qt_ (by simp) puA puA ?_;unfold jd_;refine bd ?_;have c1:=cG_ s.nodes r hb;have c2:=Mk_ s.orph false 195 ⟨rtc r,cf_ r⟩ (fun i=>decide ((ce_ s.orph i).root=r)) ho (fun i _=>Ee_ _ r);unfold ek_;generalize ak_ s.nodes r=I at *;generalize (ca_ (fun i=>decide ((ce_ s.orph i).root=r)) s.orph.length).isSome=K at *;try refine aa_ ?_
 refine ae_ c1 ?_;by_cases q:0≤I
 ·have e:decide (I ≥ 0)=true:=decide_eq_true q;have e':decide (0≤I)=true:=decide_eq_true q;rw[e',Bool.or_true];repeat(first|refine aa_ ?_|simp only[go_sem,e,e'])
  exact ag_
 ·have e:decide (I ≥ 0)=false:=decide_eq_false q;have e':decide (0≤I)=false:=decide_eq_false q;rw[e',Bool.or_false];repeat(first|refine aa_ ?_|simp only[go_sem,e,e'])
  refine bj_ [1] (c2) evd (aV_.mk' (by simp) evd) ?_;refine evg ?_;try refine aa_ ?_
  exact ag_
theorem Kw_(s:ai_)(b:Blk):PC Tryz.prog 196 [.agg (aj_ s.a),.agg (al_ b)] (.bool (qR_ s b)):=by
 refine PC.fact 9 lD_ (by simp) puA puA ?_;unfold go_;refine bd ?_;unfold qR_;have c1:=gz_ b.slot s.cfg.spe;generalize dE_ b.slot s.cfg.spe=E at *;obtain⟨E1,E2⟩:=E;dsimp only at c1 ⊢;try refine aa_ ?_
 refine ae_ c1 ?_;by_cases q0:b.fin.ep≤b.just.ep
 case neg=>
  have k0:=decide_eq_false q0;rw[k0];repeat(first|refine aa_ ?_|simp only[go_sem,k0])
  exact ag_
 have k0:=decide_eq_true q0;rw[k0];by_cases q1:b.just.ep≤b.pul.j.ep
 case neg=>
  have k1:=decide_eq_false q1;rw[k1];repeat(first|refine aa_ ?_|simp only[go_sem,k0,k1])
  exact ag_
 have k1:=decide_eq_true q1;rw[k1];by_cases q2:b.fin.ep≤b.pul.f.ep
 case neg=>
  have k2:=decide_eq_false q2;rw[k2];repeat(first|refine aa_ ?_|simp only[go_sem,k0,k1,k2])
  exact ag_
 have k2:=decide_eq_true q2;rw[k2];by_cases q3:b.pul.f.ep≤b.pul.j.ep
 case neg=>
  have k3:=decide_eq_false q3;rw[k3];repeat(first|refine aa_ ?_|simp only[go_sem,k0,k1,k2,k3])
  exact ag_
 have k3:=decide_eq_true q3;rw[k3];repeat(first|refine aa_ ?_|simp only[go_sem,k0,k1,k2,k3])
 exact ag_
def zK_(s:ai_)(b:Blk)(p:Int)(c:Cp):Bool:=if (bx_ c.ep s.cfg.spe).2≠0 then false else if b.slot≤(bx_ c.ep s.cfg.spe).1 then decide (c.rt=b.root)
 else decide (0≤atT s.nodes p (bx_ c.ep s.cfg.spe).1)&&decide ((nod s.nodes (atT s.nodes p (bx_ c.ep s.cfg.spe).1).toNat).blk.root=c.rt)
theorem QN_{t:List Nod}(ht:cj_ t)(i slot:Int):atT t i slot<t.length:=by
 by_cases h:isN t i=true
 ·obtain ⟨h0, h1⟩ := jq_.1 h
  obtain⟨k,rfl⟩:=Int.eq_ofNat_of_zero_le h0
  have key:∀n k:Nat,k≤n→k<t.length→atT t k slot<t.length:=by
   intro n;induction n with
   | zero =>
     intro k hk hl;rw[FE_ ht hl];split
     ·omega
     ·rw[pN_]
      ·omega
      ·obtain rfl:k=0:=by omega
       rw[vA_];have:=ht.root;omega
   | succ n ih =>
     intro k hk hl;rw[FE_ ht hl];split
     ·omega
     ·by_cases hu:0≤(nod t k).up
      ·have h2:(nod t k).up<k:=by
        rcases Nat.eq_zero_or_pos k with h3|h3
        ·subst h3;have:=ht.root;omega
        ·exact(ht.ok k h3 hl).2
       obtain⟨m,hm⟩:=Int.eq_ofNat_of_zero_le hu;rw[hm];exact ih m (by omega) (by omega)
      ·rw[pN_ _ (by rw[vA_];omega)];omega
  exact key k k (Nat.le_refl _) (by omega)
 ·rw[pN_ _ (by simpa using h)];have:=ht.pos;omega
theorem GU_(s:ai_)(ht:cj_ s.nodes)(hb:s.nodes.length≤1000000)(b:Blk)(p:Int)(c:Cp)(hc:U64 c.ep):PC Tryz.prog 197 [.agg (aj_ s.a),.agg (al_ b),.int .i64 p,.agg (cpC c)] (.bool (zK_ s b p c)):=by
 refine PC.fact 12 nI_ (by simp) puA puA ?_;unfold hC_;refine bd ?_;have c1:=eE_ (e:=c.ep) (p:=s.cfg.spe) hc.1 hc.2;have c2:=Eo_ s.nodes ht hb p (bx_ c.ep s.cfg.spe).1;have b2:=QN_ ht p (bx_ c.ep s.cfg.spe).1;unfold zK_;generalize atT s.nodes p (bx_ c.ep s.cfg.spe).1=I at *;generalize bx_ c.ep s.cfg.spe=S at *;obtain⟨S1,S2⟩:=S;dsimp only at c1 c2 ⊢;have hgi:0≤I→(rows aE_ s.nodes).getD I.toNat []=aE_ (nod s.nodes I.toNat):=fun h=>aB_ (f:=aE_) hz_ (by omega)
 try refine aa_ ?_
 refine ae_ c1 ?_;by_cases q1:S2=0
 case neg=>
  have k:(S2 != 0)=true:=by simp[q1]
  rw[if_pos q1];repeat(first|refine aa_ ?_|simp only[go_sem,k])
  refine Rn_ ?_
  exact ag_
 have k:(S2 != 0)=false:=by simp[q1]
 rw[if_neg (by simp[q1])];repeat(first|refine aa_ ?_|simp only[go_sem,k])
 refine ab_ ?_;by_cases q2:b.slot≤S1
 ·have k2:=decide_eq_true q2;rw[if_pos q2];repeat(first|refine aa_ ?_|simp only[go_sem,k2])
  refine Rn_ ?_
  exact ag_
 have k2:=decide_eq_false q2;rw[if_neg q2];repeat(first|refine aa_ ?_|simp only[go_sem,k2])
 refine Rm_ ?_
 refine ae_ c2 ?_;by_cases q3:0≤I
 ·have e:decide (I ≥ 0)=true:=decide_eq_true q3;have e':decide (0≤I)=true:=decide_eq_true q3;have hgi:=hgi q3;rw[e',Bool.true_and];repeat(first|refine aa_ ?_|simp only[go_sem,e,e',hgi])
  exact ag_
 ·have e:decide (I ≥ 0)=false:=decide_eq_false q3;have e':decide (0≤I)=false:=decide_eq_false q3;rw[e',Bool.false_and];repeat(first|refine aa_ ?_|simp only[go_sem,e,e'])
  exact ag_
theorem sm_(l:List Cp):du_ (rows cpC l):=bq_ fun x _=>dv_ x
theorem KH_(ρ:Nat→Nat)(l:List Cp):cb_ ρ (rows cpC l)=rows cpC l:=(sm_ l).ren ρ
theorem ME_(σ:St)(zs:List Nat)(l:List Cp):ez_ σ zs (rows cpC l)=rows cpC l:=(sm_ l).fz σ zs
attribute [go_sem] KH_ ME_
def mN_(s:ai_)(b:Blk)(p:Int)(c:Cp):Bool:=decide (c.ep≤s.f.ep) || zK_ s b p c
def DD_(s:ai_)(b:Blk):Bool:=decide (0≤ak_ s.nodes b.parent)&&(qR_ s b&&(ca_ (fun k=>!mN_ s b (ak_ s.nodes b.parent) ((cps b).getD k cp0)) 4).isNone)
theorem GS_(s:ai_)(ht:cj_ s.nodes)(hb:s.nodes.length≤1000000)(b:Blk)(hu:LH_ b):PC Tryz.prog 147 [.agg (aj_ s.a),.agg (al_ b)] (.bool (DD_ s b)):=by
 refine PC.fact 34 pg_ (by simp) puA puA ?_;unfold ip_;refine bd ?_;have c1:=cG_ s.nodes b.parent hb;have c2:=Kw_ s b;have c3:=fun p c=>GU_ s ht hb b p c
 obtain⟨R,hR⟩:∃R,R=DD_ s b:=⟨_,rfl⟩
 rw[←hR];unfold DD_ at hR
 have hcu:∀k,k<4→U64 ((cps b).getD k cp0).ep:=fun k hk=>by
  have:k=0∨k=1∨k=2∨k=3:=by omega
  rcases this with rfl|rfl|rfl|rfl
  ·exact hu.just
  ·exact hu.fin
  ·exact hu.j
  ·exact hu.f
 generalize ak_ s.nodes b.parent=P at *;try refine aa_ ?_
 refine ae_ c1 ?_;by_cases q1:P<0
 ·have e1:=decide_eq_true q1;rw[decide_eq_false (show ¬0≤P by omega),Bool.false_and]at hR;subst hR;repeat(first|refine aa_ ?_|simp only[go_sem,e1])
  refine Rn_ ?_
  exact ag_
 have e1:=decide_eq_false q1;rw[decide_eq_true (show 0≤P by omega),Bool.true_and]at hR;repeat(first|refine aa_ ?_|simp only[go_sem,e1])
 refine ae_ c2 ?_;cases hO:qR_ s b with
 | false =>
   rw[hO,Bool.false_and]at hR;subst hR;try refine aa_ ?_
   refine Rn_ ?_
   exact ag_
 | true =>
   rw[hO,Bool.true_and]at hR;have hcp:[cpC b.just,cpC b.fin,cpC b.pul.j,cpC b.pul.f]=rows cpC (cps b):=rfl;have hl4:(cps b).length=4:=rfl;generalize cps b=L at *;try refine aa_ ?_
   refine ab_ ?_;repeat(first|refine aa_ ?_|simp only[go_sem,hcp,hl4])
   have hN:ca_ (fun k=>!mN_ s b P (L.getD k cp0)) 4=dH_ (fun k=>!mN_ s b P (L.getD k cp0)) (4-0) 0:=rfl;refine ao_ (fun i:Nat=>[(33,.int .i64 i)]) (fun i=>[.var (aj_ s.a),.var (al_ b)]) (fun i=>4-i) (fun i=>i≤4∧ca_ (fun k=>!mN_ s b P (L.getD k cp0)) 4=dH_ (fun k=>!mN_ s b P (L.getD k cp0)) (4-i) i) 0 ⟨Nat.zero_le _,hN⟩ ?_ ?_
   ·exact ST_ [] [0,1]
   clear hN;rintro i ⟨hi,hn⟩;rw[hn]at hR;(try simp only[bz_,bt_,List.set_cons_zero,List.set_cons_succ])
   by_cases h1:i<4
   ·have e1:decide ((i:Int)<4)=true:=decide_eq_true (by omega)
    have e1':decide ((i:Int)<((4:Nat):Int))=true:=decide_eq_true (by omega);have hw:=af_ h1 (by omega);have hgd:(rows cpC L).getD i []=cpC (L.getD i cp0):=aB_ (f:=cpC) cp0 (by omega);have c3:=c3 P (L.getD i cp0) (hcu i h1);have hll:i<L.length:=by omega
    have hpx:(fun k=>!mN_ s b P (L.getD k cp0)) i=!mN_ s b P (L.getD i cp0):=rfl;generalize L.getD i cp0=x at *;repeat(first|refine aa_ ?_|simp only[go_sem,e1,e1',hl4])
    refine ac_ ?_;repeat(first|refine aa_ ?_|simp only[go_sem,hgd,hl4])
    have gt:decide (x.ep > s.f.ep)=decide (s.f.ep<x.ep):=rfl;by_cases q2:s.f.ep<x.ep
    ·have e2:=decide_eq_true q2
     have hF:mN_ s b P x=zK_ s b P x:=by unfold mN_;rw[decide_eq_false (show ¬x.ep≤s.f.ep by omega),Bool.false_or]
     repeat(first|refine aa_ ?_|simp only[go_sem,gt,e2])
     refine ae_ c3 ?_;cases hL:zK_ s b P x with
     | true =>
       have hp:(fun k=>!mN_ s b P (L.getD k cp0)) i=false:=by rw[hpx];rw[hF,hL];rfl
       rw[dU_ h1 hp]at hn hR;try refine aa_ ?_
       refine ab_ ?_;repeat(first|refine aa_ ?_|simp only[go_sem,hw])
       refine⟨i+1,⟨h1,hn⟩,by omega,?_⟩;exact ST_ [] [0,1]
     | false =>
       have hp:(fun k=>!mN_ s b P (L.getD k cp0)) i=true:=by rw[hpx];rw[hF,hL];rfl
       rw[ej_ h1 hp]at hR;subst hR;try refine aa_ ?_
       refine Rn_ ?_
       exact ag_
    ·have e2:=decide_eq_false q2;have hF:mN_ s b P x=true:=by unfold mN_;rw[decide_eq_true (show x.ep≤s.f.ep by omega),Bool.true_or]
     have hp:(fun k=>!mN_ s b P (L.getD k cp0)) i=false:=by rw[hpx];rw[hF];rfl
     rw[dU_ h1 hp]at hn hR;repeat(first|refine aa_ ?_|simp only[go_sem,gt,e2])
     refine ab_ ?_;repeat(first|refine aa_ ?_|simp only[go_sem,hw])
     refine⟨i+1,⟨h1,hn⟩,by omega,?_⟩;exact ST_ [] [0,1]
   ·obtain rfl:i=4:=by omega
    rw[fa_]at hR;subst hR;have e1:decide (((4:Nat):Int)<4)=false:=by decide
    have e1':decide (((4:Nat):Int)<((4:Nat):Int))=false:=by decide
    have e2:decide ((4:Int)<4)=false:=by decide
    repeat(first|refine aa_ ?_|simp only[go_sem,hl4,e2])
    refine Rm_ ?_
    exact ag_
theorem zw_{p q:Nat→Bool}:∀ (k i:Nat),(∀j,i≤j→j<i+k→p j=q j)→dH_ p k i=dH_ q k i
 |0,_,_=>rfl
 | k + 1, i, h => by
   have h0:=h i (Nat.le_refl _) (by omega);have ih:=zw_ k (i+1) fun j h1 h2=>h j (by omega) (by omega)
   cases hp:p i with
   |true=>rw[show k+1=(i+(k+1))-i by omega,ej_ (by omega) hp,ej_ (by omega) (by rw[←h0];exact hp)]
   | false =>
     have e1:=dU_ (p:=p) (n:=i+(k+1)) (i:=i) (by omega) hp;have e2:=dU_ (p:=q) (n:=i+(k+1)) (i:=i) (by omega) (by rw[←h0];exact hp);rw[show i+(k+1)-i=k+1 by omega,show i+(k+1)-(i+1)=k by omega]at e1 e2;rw[e1,e2,ih]
theorem Pq_{s:ai_}(h1:1≤s.cfg.spe)(h2:s.cfg.spe≤64)(b:Blk):qR_ s b=Em_ s b:=by
 unfold qR_ Em_;rw[id_ h1 h2]
theorem My_{s:ai_}{i:Nat}(h:aJ_ s i){b:Blk}(hu:eL_ i b):DD_ s b=vn_ s b:=by
 unfold DD_ vn_;rw[Pq_ h.spe.1 h.spe.2];cases hO:Em_ s b with
 |false=>simp
 | true =>
   have hO2:=hO;unfold Em_ at hO2;simp only[Bool.and_eq_true,decide_eq_true_eq]at hO2;obtain⟨⟨⟨⟨o1,o2⟩,o3⟩,o4⟩,o5⟩:=hO2
   have key:∀k,k<4→mN_ s b (ak_ s.nodes b.parent) ((cps b).getD k cp0)=lG_ s b (ak_ s.nodes b.parent) ((cps b).getD k cp0):=fun k hk=>by
    have hc:U64 ((cps b).getD k cp0).ep∧((cps b).getD k cp0).ep≤aU_ s b.slot:=by
     have:k=0∨k=1∨k=2∨k=3:=by omega
     rcases this with rfl|rfl|rfl|rfl
     ·exact⟨hu.just,Int.le_trans o2 o5⟩
     ·exact⟨hu.fin,Int.le_trans o1 (Int.le_trans o2 o5)⟩
     ·exact⟨hu.j,o5⟩
     ·exact⟨hu.f,Int.le_trans o4 o5⟩
    have hs:(bx_ ((cps b).getD k cp0).ep s.cfg.spe).2=0:=rd_ hc.1.1 h.spe.1 h.spe.2 hu.slot.1 hu.slot.2 hc.2;generalize (cps b).getD k cp0=c at *;unfold mN_ lG_ zK_ bK_;rw[if_neg (by simp[hs])];dsimp only;by_cases q:b.slot≤(bx_ c.ep s.cfg.spe).1
    ·rw[if_pos q,if_neg (by omega)];congr 1;exact decide_eq_decide.2 ⟨fun h=>h.symm,fun h=>h.symm⟩
    ·rw[if_neg q,if_pos (by omega)]
   have:ca_ (fun k=>!mN_ s b (ak_ s.nodes b.parent) ((cps b).getD k cp0)) 4=ca_ (fun k=>!lG_ s b (ak_ s.nodes b.parent) ((cps b).getD k cp0)) 4:=
    zw_ 4 0 fun j h1 h2=>by rw[key j (by omega)]
   rw[this]
theorem qS_(s:ai_)(i:Nat)(h:aJ_ s i)(b:Blk)(hu:eL_ i b):PC Tryz.prog 77 [.agg (aj_ s.a),.agg (al_ b)] (.int .i64 (aI_ s b)):=by
 refine PC.fact 79 qs_ (by simp) puA puA ?_;unfold jc_;refine bd ?_;obtain⟨R,hR⟩:∃R,R=aI_ s b:=⟨_,rfl⟩
 rw[←hR];unfold aI_ bK_ at hR;have c1:=eE_ (e:=s.f.ep) (p:=s.cfg.spe) h.uf.1 h.uf.2;have c2:=fm_ b.root;have c3:=Ev_ s b.root h.r.bn h.r.bo;have c4:=cG_ s.nodes b.parent h.r.bn;have b4:=cl_ s.nodes b.parent;have c5:=GS_ s h.tree h.r.bn b hu.u;rw[My_ h hu]at c5;have c6:=Eu_ s.cfg.ttd (nod s.nodes (ak_ s.nodes b.parent).toNat).blk b;have hgi:0≤ak_ s.nodes b.parent→(rows aE_ s.nodes).getD (ak_ s.nodes b.parent).toNat []=aE_ (nod s.nodes (ak_ s.nodes b.parent).toNat):=fun h=>aB_ (f:=aE_) hz_ (by omega)
 generalize ak_ s.nodes b.parent=I at *;generalize nod s.nodes I.toNat=x at *;generalize vm_ s.cfg.ttd x.blk b=M at *;generalize vn_ s b=F at *;generalize ek_ s b.root=K at *;generalize bx_ s.f.ep s.cfg.spe=S at *;obtain⟨S1,S2⟩:=S;dsimp only at c1 hR;have gt:decide (b.slot > s.now)=decide (s.now<b.slot):=rfl;try refine aa_ ?_
 refine Sv_ c1 ?_
 refine ae_ c2 ?_;by_cases q1:b.root=rt0
 ·have e1:=decide_eq_true q1;rw[if_pos q1]at hR;subst hR;repeat(first|refine aa_ ?_|simp only[go_sem,e1])
  refine Rn_ ?_
  exact ag_
 have e1:=decide_eq_false q1;rw[if_neg q1]at hR;repeat(first|refine aa_ ?_|simp only[go_sem,e1])
 refine Rm_ ?_
 refine ae_ c3 ?_;cases K with
 | true =>
   rw[if_pos rfl]at hR;subst hR;try refine aa_ ?_
   refine Rn_ ?_
   exact ag_
 |false=>
 rw[if_neg (by simp)]at hR;try refine aa_ ?_
 refine Rm_ ?_
 by_cases q3:s.now<b.slot
 ·have e3:=decide_eq_true q3;rw[if_pos q3]at hR;subst hR;repeat(first|refine aa_ ?_|simp only[go_sem,gt,e3])
  refine Rn_ ?_
  exact ag_
 have e3:=decide_eq_false q3;rw[if_neg q3]at hR;repeat(first|refine aa_ ?_|simp only[go_sem,gt,e3])
 refine Rm_ ?_
 by_cases q4:b.slot≤S1
 ·have e4:=decide_eq_true q4;rw[if_pos q4]at hR;subst hR;repeat(first|refine aa_ ?_|simp only[go_sem,e4])
  refine Rn_ ?_
  exact ag_
 have e4:=decide_eq_false q4;rw[if_neg q4]at hR;repeat(first|refine aa_ ?_|simp only[go_sem,e4])
 refine Rm_ ?_
 refine ae_ c4 ?_;by_cases q5:I<0
 ·have e5:=decide_eq_true q5;rw[if_pos q5]at hR;subst hR;repeat(first|refine aa_ ?_|simp only[go_sem,e5])
  refine Rn_ ?_
  exact ag_
 have e5:=decide_eq_false q5;have hgi:=hgi (by omega);rw[if_neg q5]at hR;repeat(first|refine aa_ ?_|simp only[go_sem,e5])
 refine ab_ ?_;repeat(first|refine aa_ ?_|simp only[go_sem,hgi])
 by_cases q6:b.slot≤x.blk.slot
 ·have e6:=decide_eq_true q6;rw[if_pos q6]at hR;subst hR;repeat(first|refine aa_ ?_|simp only[go_sem,e6])
  refine Rn_ ?_
  exact ag_
 have e6:=decide_eq_false q6;rw[if_neg q6]at hR;repeat(first|refine aa_ ?_|simp only[go_sem,e6])
 refine Rm_ ?_
 by_cases q7:x.status=2
 ·have e7:(x.status==2)=true:=by simp[q7]
  rw[if_pos q7]at hR;subst hR;repeat(first|refine aa_ ?_|simp only[go_sem,e7])
  refine Rn_ ?_
  exact ag_
 have e7:(x.status==2)=false:=by simp[q7]
 rw[if_neg q7]at hR;repeat(first|refine aa_ ?_|simp only[go_sem,e7])
 refine Rm_ ?_
 refine ae_ c5 ?_;cases F with
 | false =>
   rw[if_pos rfl]at hR;subst hR;try refine aa_ ?_
   refine Rn_ ?_
   exact ag_
 |true=>
 rw[if_neg (by simp)]at hR;try refine aa_ ?_
 refine Rm_ ?_
 refine ae_ c6 ?_;cases M with
 | false =>
   rw[if_pos rfl]at hR;subst hR;try refine aa_ ?_
   refine Rn_ ?_
   exact ag_
 |true=>
 rw[if_neg (by simp)]at hR;try refine aa_ ?_
 refine ab_ ?_;have ge:decide ((s.nodes.length:Int) ≥ s.cfg.lim.node)=decide (s.cfg.lim.node≤(s.nodes.length:Int)):=rfl;by_cases q10:s.cfg.lim.node≤(s.nodes.length:Int)
 ·have e10:=decide_eq_true q10;rw[if_pos q10]at hR;subst hR;repeat(first|refine aa_ ?_|simp only[go_sem,ge,e10])
  refine Rn_ ?_
  exact ag_
 have e10:=decide_eq_false q10;rw[if_neg q10]at hR;subst hR;repeat(first|refine aa_ ?_|simp only[go_sem,ge,e10])
 refine Rm_ ?_
 exact ag_
theorem qT_(s:ai_)(i:Nat)(h:aJ_ s i)(b:Blk)(hu:eL_ i b)(hc:aI_ s b=0):
 ∃z:List Blk,ap_ Tryz.prog 79 [.agg (aj_ s.a),.agg (al_ b)] [] (.agg (aj_ (lv_ (cO_ s b)))) [.vec 238 (rows al_ ((cO_ s b).orph++z))]:=by
 have hI:=h.insN hc hu;have c1:PC Tryz.prog 150 [.agg (al_ b)] (.int .i64 (cz_ b)):=Hc_ b;have c2:=Ku_ s.nodes b (cz_ b) h.r.bn;obtain⟨z1,c3⟩:=rV_ (ch_ s (dM_ s.nodes b (cz_ b)).1) i hI b.just b.fin hu.just hu.fin;have hU:=hI.upd (j:=b.just) (f:=b.fin) hu.just hu.fin;obtain⟨z2,c4⟩:=rV_ (bp_ (ch_ s (dM_ s.nodes b (cz_ b)).1) b.just b.fin) i hU b.pul.j b.pul.f hu.j hu.f;have c5:=gz_ b.slot (bp_ (ch_ s (dM_ s.nodes b (cz_ b)).1) b.just b.fin).cfg.spe;have c6:=gz_ (bp_ (ch_ s (dM_ s.nodes b (cz_ b)).1) b.just b.fin).now (bp_ (ch_ s (dM_ s.nodes b (cz_ b)).1) b.just b.fin).cfg.spe;have f5:=id_ hU.spe.1 hU.spe.2 b.slot;have f6:=id_ hU.spe.1 hU.spe.2 (bp_ (ch_ s (dM_ s.nodes b (cz_ b)).1) b.just b.fin).now;unfold cO_;have hN:(ch_ s (dM_ s.nodes b (cz_ b)).1).a={ s.a with nodes:=.sl 240 false (rows aE_ (dM_ s.nodes b (cz_ b)).1) }:=rfl;rw[hN]at c3;generalize hT:dM_ s.nodes b (cz_ b)=T at *;generalize cz_ b=st at *;obtain⟨T1,T2⟩:=T;dsimp only at c2 c3 c4 c5 c6 f5 f6 hU ⊢;generalize bp_ (ch_ s T1) b.just b.fin=U at *;generalize bp_ U b.pul.j b.pul.f=U2 at *;generalize dE_ b.slot U.cfg.spe=E1 at *;generalize dE_ U.now U.cfg.spe=E2 at *;obtain⟨e11,e12⟩:=E1;obtain⟨e21,e22⟩:=E2;dsimp only at c5 c6 f5 f6;subst f5 f6;unfold lv_ at c3 c4;by_cases q:aU_ U b.slot<aU_ U U.now
 ·have e1:=decide_eq_true q;rw[if_pos q];refine⟨z2,?_⟩;unfold lv_;refine ap_.fact 9 mJ_ (by simp) ?_ (by simp);unfold iz_;refine bd ?_;try refine aa_ ?_
  refine as_ (c1) ?_;try refine aa_ ?_
  refine as_ (c2) ?_;try refine aa_ ?_
  refine bj_ [] (c3) evd (aV_.mk' (by simp) evd) ?_;refine evg ?_;try refine aa_ ?_
  refine Sv_ c5 ?_
  refine ae_ c6 ?_;repeat(first|refine aa_ ?_|simp only[go_sem,e1])
  refine ac_ ?_;refine wN_ [5] ?_;simp only[evZ,vw_];(try simp only[go_sem,Nat.reduceAdd,Nat.reduceSub,Nat.reduceMul,Nat.reduceLT,Nat.reduceLeDiff,Nat.reduceEqDiff,reduceIte,Int.reduceToNat,Int.reduceLT,Int.reduceLE,Int.reduceEq,Int.reduceNeg,reduceCtorEq,Int.reduceBEq,Int.reduceBNe])
  try refine aa_ ?_
  refine bj_ [] (c4) evd (aV_.mk' (by simp) evd) ?_;refine evg ?_;try refine aa_ ?_
  exact SM_ [] [6]
 ·have e1:=decide_eq_false q;rw[if_neg q];refine⟨z1,?_⟩;unfold lv_;refine ap_.fact 9 mJ_ (by simp) ?_ (by simp);unfold iz_;refine bd ?_;try refine aa_ ?_
  refine as_ (c1) ?_;try refine aa_ ?_
  refine as_ (c2) ?_;try refine aa_ ?_
  refine bj_ [] (c3) evd (aV_.mk' (by simp) evd) ?_;refine evg ?_;try refine aa_ ?_
  refine Sv_ c5 ?_
  refine ae_ c6 ?_;repeat(first|refine aa_ ?_|simp only[go_sem,e1])
  refine Rm_ ?_
  exact SM_ [] [5]
end Go.Proofs.YtkgimpdgncakjaaGreat
