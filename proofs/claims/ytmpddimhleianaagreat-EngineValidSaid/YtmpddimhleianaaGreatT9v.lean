/- Joined. -/
import Derived.Test.YtmpddimhleianaaGreatT6v
set_option linter.unusedVariables false
set_option linter.unusedSimpArgs false
set_option maxRecDepth 8000
set_option maxHeartbeats 4000000
namespace Go.Proofs.YtmpddimhleianaaGreat
open Go Go.FH Go.RowKit
theorem CF(a b:Wd):PC Tryz.prog 328 [.agg (wdc a),.agg (wdc b)] (.int .i64 (Ea a b)):=by
 refine aQ 19 ?_;refine gon ?_;refine aE (fun i:Nat=>[(5,.int .i64 ((i:Int)-1)),(10,.dead),(18,.dead)]) (fun _=>[.var (wdc a),.var (wdc b)]) (fun i=>i) (fun i=>i<=4/\Ea a b=yR a b i) 4 ⟨af0,rfl⟩ ?_ ?_
 ·exact abS [] [0,1]
 rintro i ⟨hi,hn⟩;rw[hn];cases i with
 | zero =>
   refine bY ?_;exact aj
 | succ i =>
   have h1:i<4:=af0
   have e1:((i+1:Nat):Int)-1=(i:Int):=af0
   have e2:decide ((i:Int) ≥ 0)=true:=ax af0;have e3:decide ((0:Int)<=i)=true:=ax af0;have hw:IntKind.i64.wrap ((i:Int)-1)=(i:Int)-1:=ar af0 af0;have g1:=vO a h1;have g2:=vO b h1;have ga:a.1.getD i 0=a.1[i]'(by rw[a.2];exact h1):=by simp[afy,a.2,h1]
   have gb:b.1.getD i 0=b.1[i]'(by rw[b.2];exact h1):=by simp[afy,b.2,h1]
   rw[<-ga]at g1;rw[<-gb]at g2;have hs:yR a b (i+1)=if a.1.getD i 0<b.1.getD i 0 then -1 else if b.1.getD i 0<a.1.getD i 0 then 1 else yR a b i:=rfl
   rw[hs];generalize a.1.getD i 0=x at *;generalize b.1.getD i 0=y at *;have h0:(0:Int)<=i:=af0
   have hn1:(i:Int)<4:=af0
   rw[e1];refine BP e1 e2 e3 ?_;refine fk g1 g2 acO acC ?_;refine eQ (fun h=>?_) (fun h=>?_)
   ·rw[afA (by simpa using h)];refine gon ?_;exact aj
   ·rw[afx (by simpa using h)]
    refine fk g1 g2 acO acC ?_;refine eQ (fun h=>?_) (fun h=>?_)
    ·rename_i h';rw[afA (by simpa using h)];refine gon ?_;exact aj
    ·rename_i h';rw[afx (by simpa using h)];refine aA hw ?_;refine⟨i,⟨af0,rfl⟩,af0,?_⟩;exact abS [] [0,1]
theorem M0(p b:Blk):PC Tryz.prog 327 [.agg (au p),.agg (au b)] (.bool (decide (p.payload=rt0)&&!decide (b.payload=rt0))):=by
 refine aQ 5 ?_;have c1:=gP p.payload;have c2:=gP b.payload;refine gon ?_;refine ap c1 ?_;cases decide (p.payload=rt0)with
 | true =>
   refine gon ?_;refine abl c2 ?_;exact aj
 | false =>
   refine gon ?_;exact aj
theorem Kt(ttd:Wd)(p b:Blk):PC Tryz.prog 260 [.agg (wdc ttd),.agg (au p),.agg (au b)] (.bool (uw ttd p b)):=by
 refine aQ 7 ?_;have c1:=M0 p b;have c2:=CF b.pdiff ttd;have c3:=CF b.diff ttd;have c4:=gP p.payload;have c5:=gP b.payload;unfold uw;generalize Ea b.pdiff ttd=x at *;generalize Ea b.diff ttd=y at *;by_cases h2:p.payload=rt0
 ·rw [ax h2] at c1 c4
  by_cases h:b.payload=rt0
  ·rw[afA h,ax h2];rw[ax h]at c1 c5;refine gon ?_;refine ap c1 ?_;refine bY ?_;refine abl c4 ?_;exact aj
  ·rw[afx h,afA h2]
   rw[aD h]at c1 c5;refine gon ?_;refine ap c1 ?_;refine bD ?_;refine ap c2 ?_;cases h3:decide (x<0)with
   | true =>
     refine aA h3 ?_;refine abl c3 ?_;exact aj
   | false =>
     refine aA h3 ?_;exact aj
 ·rw[aD h2]at c1 c4
  by_cases h:b.payload=rt0
  ·rw[afA h,aD h2];rw[ax h]at c1 c5;refine gon ?_;refine ap c1 ?_;refine bY ?_;refine abl c4 ?_;refine abl c5 ?_;exact aj
  ·rw[afx h,afx h2];rw[aD h]at c1 c5;refine gon ?_;refine ap c1 ?_;refine bY ?_;refine abl c4 ?_;refine abl c5 ?_;exact aj
theorem J5(x:Blk)(r:Rt):aJ Tryz.prog 324 [.agg (au x),.ptr 0 0] [.var (rtc r)] (.bool (decide (x.root=r))) [.var (rtc r)]:=by
 refine cZ 4 ?_;refine gon ?_;exact abF [] [0]
theorem Kv(s:af)(r:Rt)(hb:s.nodes.length<=2097152)(ho:s.orph.length<=2097152):PC Tryz.prog 258 [.agg (ak s.a),.agg (rtc r)] (.bool (ju s r)):=by
 refine aQ 5 ?_;have c1:=dW s.nodes r hb;have c2:=Th s.orph false 324 ⟨rtc r,dH r⟩ (fun i=>decide ((cU s.orph i).root=r)) ho (fun i _=>J5 _ r);unfold ju;generalize ab s.nodes r=I at *;generalize (cm (fun i=>decide ((cU s.orph i).root=r)) s.orph.length).isSome=K at *;refine gon ?_;refine ap c1 ?_;by_cases q:0<=I
 ·have e:decide (I ≥ 0)=true:=ax q;have e':decide (0<=I)=true:=ax q;rw[e',aeT];refine bm e e' ?_;exact aj
 ·have e:decide (I ≥ 0)=false:=aD q;have e':decide (0<=I)=false:=aD q;rw[e',aeE];refine bm e e' ?_;refine ocg [1] c2 ?_;exact aj
theorem Q8(s:af)(b:Blk):PC Tryz.prog 325 [.agg (ak s.a),.agg (au b)] (.bool (wv s b)):=by
 refine aQ 9 ?_;unfold wv;have c1:=pG b.slot s.cfg.spe;generalize iC b.slot s.cfg.spe=E at *;obtain⟨E1,E2⟩:=E;dsimp only at c1 ⊢;refine gon ?_;refine ap c1 ?_;by_cases q0:b.fin.ep<=b.just.ep
 case neg=>
  have k0:=aD q0;rw[k0];refine aA k0 ?_;exact aj
 have k0:=ax q0;rw[k0];by_cases q1:b.just.ep<=b.pul.j.ep
 case neg=>
  have k1:=aD q1;rw[k1];refine bm k0 k1 ?_;exact aj
 have k1:=ax q1;rw[k1];by_cases q2:b.fin.ep<=b.pul.f.ep
 case neg=>
  have k2:=aD q2;rw[k2];refine eS k0 k1 k2 ?_;exact aj
 have k2:=ax q2;rw[k2];by_cases q3:b.pul.f.ep<=b.pul.j.ep
 case neg=>
  have k3:=aD q3;rw[k3];refine fk k0 k1 k2 k3 ?_;exact aj
 have k3:=ax q3;rw[k3];refine fk k0 k1 k2 k3 ?_;exact aj
def F1(s:af)(b:Blk)(p:Int)(c:Cp):Bool:=if (cH c.ep s.cfg.spe).2≠0 then false else if b.slot<=(cH c.ep s.cfg.spe).1 then decide (c.rt=b.root)
 else decide (0<=atT s.nodes p (cH c.ep s.cfg.spe).1)&&decide ((nod s.nodes (atT s.nodes p (cH c.ep s.cfg.spe).1).toNat).blk.root=c.rt)
theorem Zm {t : List Nod} (ht : bk t) (i slot : Int) : atT t i slot < t.length := by
 by_cases h:isN t i=true
 ·obtain ⟨h0, h1⟩ := ez.1 h
  obtain⟨k,rfl⟩:=afF h0
  have key:∀n k:Nat,k<=n->k<t.length->atT t k slot<t.length:=by
   intro n;induction n with
   | zero =>
     intro k hk hl;rw[LI ht hl];split
     ·omega
     ·rw[vy]
      ·omega
      ·obtain rfl:k=0:=af0
       rw[BY];have:=ht.root;omega
   | succ n ih =>
     intro k hk hl;rw[LI ht hl];split
     ·omega
     ·by_cases hu:0<=(nod t k).up
      ·have h2:(nod t k).up<k:=by
        rcases acF k with h3|h3
        ·subst h3;have:=ht.root;omega
        ·exact(ht.ok k h3 hl).2
       obtain⟨m,hm⟩:=afF hu;rw[hm];exact ih m af0 af0
      ·rw[vy _ (by rw[BY];omega)];omega
  exact key k k (afE _) af0
 ·rw[vy _ (by simpa using h)];have:=ht.pos;omega
theorem M5(s:af)(ht:bk s.nodes)(hb:s.nodes.length<=2097152)(b:Blk)(p:Int)(c:Cp)(hc:U64 c.ep):PC Tryz.prog 326 [.agg (ak s.a),.agg (au b),.int .i64 p,.agg (cpC c)] (.bool (F1 s b p c)):=by
 refine aQ 12 ?_;have c1:=oV (e:=c.ep) (p:=s.cfg.spe) hc.1 hc.2;have c2:=Vc s.nodes ht hb p (cH c.ep s.cfg.spe).1;have b2:=Zm ht p (cH c.ep s.cfg.spe).1;unfold F1;generalize atT s.nodes p (cH c.ep s.cfg.spe).1=I at *;generalize cH c.ep s.cfg.spe=S at *;obtain⟨S1,S2⟩:=S;dsimp only at c1 c2 ⊢;have hgi:0<=I->(rows aT s.nodes).getD I.toNat []=aT (nod s.nodes I.toNat):=fun h=>aK (f:=aT) kr af0
 refine gon ?_;refine ap c1 ?_;by_cases q1:S2=0
 case neg=>
  have k:(S2 != 0)=true:=by simp[q1]
  rw[afA q1];refine aW k ?_;exact aj
 have k:(S2 != 0)=false:=by simp[q1]
 rw[afx (by simp[q1])];refine da k ?_;by_cases q2:b.slot<=S1
 ·have k2:=ax q2;rw[afA q2];refine aW k2 ?_;exact aj
 have k2:=aD q2;rw[afx q2];refine aS k2 ?_;refine ap c2 ?_;by_cases q3:0<=I
 ·have e:decide (I ≥ 0)=true:=ax q3;have e':decide (0<=I)=true:=ax q3;have hgi:=hgi q3;rw[e',acD];refine eS e e' hgi ?_;exact aj
 ·have e:decide (I ≥ 0)=false:=aD q3;have e':decide (0<=I)=false:=aD q3;rw[e',acI];refine bm e e' ?_;exact aj
theorem yI(l:List Cp):fU (rows cpC l):=cY fun x _=>gG x
theorem Ru(ρ:Nat->Nat)(l:List Cp):dm ρ (rows cpC l)=rows cpC l:=(yI l).ren ρ
theorem TL(σ:St)(zs:List Nat)(l:List Cp):gm σ zs (rows cpC l)=rows cpC l:=(yI l).fz σ zs
attribute [go_sem] Ru TL
def sa(s:af)(b:Blk)(p:Int)(c:Cp):Bool:=decide (c.ep<=s.f.ep) || F1 s b p c
def JI(s:af)(b:Blk):Bool:=decide (0<=ab s.nodes b.parent)&&(wv s b&&(cm (fun k=>!sa s b (ab s.nodes b.parent) ((cps b).getD k cp0)) 4).isNone)
theorem MW(s:af)(ht:bk s.nodes)(hb:s.nodes.length<=2097152)(b:Blk)(hu:I1 b):PC Tryz.prog 259 [.agg (ak s.a),.agg (au b)] (.bool (JI s b)):=by
 refine aQ 34 ?_;have c1:=dW s.nodes b.parent hb;have c2:=Q8 s b;have c3:=fun p c=>M5 s ht hb b p c
 obtain⟨R,hR⟩:∃R,R=JI s b:=⟨_,rfl⟩
 rw[<-hR];unfold JI at hR
 have hcu:∀k,k<4->U64 ((cps b).getD k cp0).ep:=fun k hk=>by
  have:k=0\/k=1\/k=2\/k=3:=af0
  rcases this with rfl|rfl|rfl|rfl
  ·exact hu.just
  ·exact hu.fin
  ·exact hu.j
  ·exact hu.f
 generalize ab s.nodes b.parent=P at *;refine gon ?_;refine ap c1 ?_;by_cases q1:P<0
 ·have e1:=ax q1;rw[aD (show ¬0<=P by omega),acI]at hR;subst hR;refine aW e1 ?_;exact aj
 have e1:=aD q1;rw[ax (show 0<=P by omega),acD]at hR;refine aA e1 ?_;refine ap c2 ?_;cases hO:wv s b with
 | false =>
   rw[hO,acI]at hR;subst hR;refine bD ?_;exact aj
 | true =>
   rw[hO,acD]at hR;have hcp:[cpC b.just,cpC b.fin,cpC b.pul.j,cpC b.pul.f]=rows cpC (cps b):=rfl;have hl4:(cps b).length=4:=rfl;generalize cps b=L at *;refine d6 ?_;refine bm hcp hl4 ?_;have hN:cm (fun k=>!sa s b P (L.getD k cp0)) 4=gl (fun k=>!sa s b P (L.getD k cp0)) (4-0) 0:=rfl;refine aE (fun i:Nat=>[(33,.int .i64 i)]) (fun i=>[.var (ak s.a),.var (au b)]) (fun i=>4-i) (fun i=>i<=4/\cm (fun k=>!sa s b P (L.getD k cp0)) 4=gl (fun k=>!sa s b P (L.getD k cp0)) (4-i) i) 0 ⟨afK _,hN⟩ ?_ ?_
   ·exact abS [] [0,1]
   clear hN;rintro i ⟨hi,hn⟩;rw[hn]at hR;(try simp only[dS,dE,act,acx])
   by_cases h1:i<4
   ·have e1:decide ((i:Int)<4)=true:=ax af0
    have e1':decide ((i:Int)<((4:Nat):Int))=true:=ax af0;have hw:=ae h1 af0;have hgd:(rows cpC L).getD i []=cpC (L.getD i cp0):=aK (f:=cpC) cp0 af0;have c3:=c3 P (L.getD i cp0) (hcu i h1);have hll:i<L.length:=af0
    have hpx:(fun k=>!sa s b P (L.getD k cp0)) i=!sa s b P (L.getD i cp0):=rfl;generalize L.getD i cp0=x at *;refine BP e1 e1' hl4 ?_;refine bm hgd hl4 ?_;have gt:decide (x.ep > s.f.ep)=decide (s.f.ep<x.ep):=rfl;by_cases q2:s.f.ep<x.ep
    ·have e2:=ax q2
     have hF:sa s b P x=F1 s b P x:=by unfold sa;rw[aD (show ¬x.ep<=s.f.ep by omega),ac9]
     refine bm gt e2 ?_;refine ap c3 ?_;cases hL:F1 s b P x with
     | true =>
       have hp:(fun k=>!sa s b P (L.getD k cp0)) i=false:=by rw[hpx];rw[hF,hL];rfl
       rw[jt h1 hp]at hn hR;refine d6 ?_;refine aA hw ?_;refine⟨i+1,⟨h1,hn⟩,af0,?_⟩;exact abS [] [0,1]
     | false =>
       have hp:(fun k=>!sa s b P (L.getD k cp0)) i=true:=by rw[hpx];rw[hF,hL];rfl
       rw[jP h1 hp]at hR;subst hR;refine bD ?_;exact aj
    ·have e2:=aD q2;have hF:sa s b P x=true:=by unfold sa;rw[ax (show x.ep<=s.f.ep by omega),aeh]
     have hp:(fun k=>!sa s b P (L.getD k cp0)) i=false:=by rw[hpx];rw[hF];rfl
     rw[jt h1 hp]at hn hR;refine iJ gt e2 ?_;refine aA hw ?_;refine⟨i+1,⟨h1,hn⟩,af0,?_⟩;exact abS [] [0,1]
   ·obtain rfl:i=4:=af0
    rw[lK]at hR;subst hR;have e1:decide (((4:Nat):Int)<4)=false:=af2
    have e1':decide (((4:Nat):Int)<((4:Nat):Int))=false:=af2
    have e2:decide ((4:Int)<4)=false:=af2
    refine pi hl4 e2 ?_;exact aj
theorem FM{p q:Nat->Bool}:∀ (k i:Nat),(∀j,i<=j->j<i+k->p j=q j)->gl p k i=gl q k i
 |0,_,_=>rfl
 | k + 1, i, h => by
   have h0:=h i (afE _) af0;have ih:=FM k (i+1) fun j h1 h2=>h j af0 af0
   cases hp:p i with
   |true=>rw[show k+1=(i+(k+1))-i by omega,jP af0 hp,jP af0 (by rw[<-h0];exact hp)]
   | false =>
     have e1:=jt (p:=p) (n:=i+(k+1)) (i:=i) af0 hp;have e2:=jt (p:=q) (n:=i+(k+1)) (i:=i) af0 (by rw[<-h0];exact hp);rw[show i+(k+1)-i=k+1 by omega,show i+(k+1)-(i+1)=k by omega]at e1 e2;rw[e1,e2,ih]
theorem XL{s:af}(h1:1<=s.cfg.spe)(h2:s.cfg.spe<=64)(b:Blk):wv s b=mw s b:=by
 unfold wv mw;rw[ta h1 h2]
theorem TA{s:af}{i:Nat}(h:bi s i){b:Blk}(hu:jL i b):JI s b=rc s b:=by
 unfold JI rc;rw[XL h.spe.1 h.spe.2];cases hO:mw s b with
 |false=>simp
 | true =>
   have hO2:=hO;unfold mw at hO2;simp only[afL,afJ]at hO2;obtain⟨⟨⟨⟨o1,o2⟩,o3⟩,o4⟩,o5⟩:=hO2
   have key:∀k,k<4->sa s b (ab s.nodes b.parent) ((cps b).getD k cp0)=nV s b (ab s.nodes b.parent) ((cps b).getD k cp0):=fun k hk=>by
    have hc:U64 ((cps b).getD k cp0).ep/\((cps b).getD k cp0).ep<=dg s b.slot:=by
     have:k=0\/k=1\/k=2\/k=3:=af0
     rcases this with rfl|rfl|rfl|rfl
     ·exact⟨hu.just,adK o2 o5⟩
     ·exact⟨hu.fin,adK o1 (adK o2 o5)⟩
     ·exact⟨hu.j,o5⟩
     ·exact⟨hu.f,adK o4 o5⟩
    have hs:(cH ((cps b).getD k cp0).ep s.cfg.spe).2=0:=sM hc.1.1 h.spe.1 h.spe.2 hu.slot.1 hu.slot.2 hc.2;generalize (cps b).getD k cp0=c at *;unfold sa nV F1 di;rw[afx (by simp[hs])];dsimp only;by_cases q:b.slot<=(cH c.ep s.cfg.spe).1
    ·rw[afA q,afx af0];congr 1;exact adU.2 ⟨fun h=>h.symm,fun h=>h.symm⟩
    ·rw[afx q,afA af0]
   have:cm (fun k=>!sa s b (ab s.nodes b.parent) ((cps b).getD k cp0)) 4=cm (fun k=>!nV s b (ab s.nodes b.parent) ((cps b).getD k cp0)) 4:=
    FM 4 0 fun j h1 h2=>by rw[key j af0]
   rw[this]
theorem wy(s:af)(i:Nat)(h:bi s i)(b:Blk)(hu:jL i b):PC Tryz.prog 176 [.agg (ak s.a),.agg (au b)] (.int .i64 (bG s b)):=by
 refine aQ 79 ?_;obtain⟨R,hR⟩:∃R,R=bG s b:=⟨_,rfl⟩
 rw[<-hR];unfold bG di at hR;have c1:=oV (e:=s.f.ep) (p:=s.cfg.spe) h.uf.1 h.uf.2;have c2:=gP b.root;have c3:=Kv s b.root h.r.bn h.r.bo;have c4:=dW s.nodes b.parent h.r.bn;have b4:=dl s.nodes b.parent;have c5:=MW s h.tree h.r.bn b hu.u;rw[TA h hu]at c5;have c6:=Kt s.cfg.ttd (nod s.nodes (ab s.nodes b.parent).toNat).blk b;have hgi:0<=ab s.nodes b.parent->(rows aT s.nodes).getD (ab s.nodes b.parent).toNat []=aT (nod s.nodes (ab s.nodes b.parent).toNat):=fun h=>aK (f:=aT) kr af0
 generalize ab s.nodes b.parent=I at *;generalize nod s.nodes I.toNat=x at *;generalize uw s.cfg.ttd x.blk b=M at *;generalize rc s b=F at *;generalize ju s b.root=K at *;generalize cH s.f.ep s.cfg.spe=S at *;obtain⟨S1,S2⟩:=S;dsimp only at c1 hR;have gt:decide (b.slot > s.now)=decide (s.now<b.slot):=rfl;refine gon ?_;refine abl c1 ?_;refine ap c2 ?_;by_cases q1:b.root=rt0
 ·have e1:=ax q1;rw[afA q1]at hR;subst hR;refine aW e1 ?_;exact aj
 have e1:=aD q1;rw[afx q1]at hR;refine aS e1 ?_;refine ap c3 ?_;cases K with
 | true =>
   rw[afA rfl]at hR;subst hR;refine bD ?_;exact aj
 |false=>
 rw[afx af1]at hR;refine bY ?_;by_cases q3:s.now<b.slot
 ·have e3:=ax q3;rw[afA q3]at hR;subst hR;refine dV gt e3 ?_;exact aj
 have e3:=aD q3;rw[afx q3]at hR;refine pi gt e3 ?_;by_cases q4:b.slot<=S1
 ·have e4:=ax q4;rw[afA q4]at hR;subst hR;repeat(first|refine aM ?_|simp only[go_sem,e4])
  refine aac ?_;exact aj
 have e4:=aD q4;rw[afx q4]at hR;repeat(first|refine aM ?_|simp only[go_sem,e4])
 refine aab ?_;refine ap c4 ?_;by_cases q5:I<0
 ·have e5:=ax q5;rw[afA q5]at hR;subst hR;repeat(first|refine aM ?_|simp only[go_sem,e5])
  refine aac ?_;exact aj
 have e5:=aD q5;have hgi:=hgi af0;rw[afx q5]at hR;repeat(first|refine aM ?_|simp only[go_sem,e5])
 refine aI ?_;refine aA hgi ?_;by_cases q6:b.slot<=x.blk.slot
 ·have e6:=ax q6;rw[afA q6]at hR;subst hR;repeat(first|refine aM ?_|simp only[go_sem,e6])
  refine aac ?_;exact aj
 have e6:=aD q6;rw[afx q6]at hR;repeat(first|refine aM ?_|simp only[go_sem,e6])
 refine aab ?_;by_cases q7:x.status=2
 ·have e7:(x.status==2)=true:=by simp[q7]
  rw[afA q7]at hR;subst hR;repeat(first|refine aM ?_|simp only[go_sem,e7])
  refine aac ?_;exact aj
 have e7:(x.status==2)=false:=by simp[q7]
 rw[afx q7]at hR;repeat(first|refine aM ?_|simp only[go_sem,e7])
 refine aab ?_;refine ap c5 ?_;cases F with
 | false =>
   rw[afA rfl]at hR;subst hR;refine bD ?_;exact aj
 |true=>
 rw[afx af1]at hR;refine bY ?_;refine ap c6 ?_;cases M with
 | false =>
   rw[afA rfl]at hR;subst hR;refine bD ?_;exact aj
 |true=>
 rw[afx af1]at hR;refine d6 ?_;have ge:decide ((s.nodes.length:Int) ≥ s.cfg.lim.node)=decide (s.cfg.lim.node<=(s.nodes.length:Int)):=rfl;by_cases q10:s.cfg.lim.node<=(s.nodes.length:Int)
 ·have e10:=ax q10;rw[afA q10]at hR;subst hR;refine dV ge e10 ?_;exact aj
 have e10:=aD q10;rw[afx q10]at hR;subst hR;refine pi ge e10 ?_;exact aj
theorem wz(s:af)(i:Nat)(h:bi s i)(b:Blk)(hu:jL i b)(hc:bG s b=0):
 ∃z:List Blk,aJ Tryz.prog 177 [.agg (ak s.a),.agg (au b)] [] (.agg (ak (y8 (gE s b)))) [.vec 238 (rows au ((gE s b).orph++z))]:=by
 have hI:=h.insN hc hu;have c1:PC Tryz.prog 262 [.agg (au b)] (.int .i64 (cC b)):=Ng b;have c2:=Q6 s.nodes b (cC b) h.r.bn;obtain⟨z1,c3⟩:=ab4 (bQ s (eZ s.nodes b (cC b)).1) i hI b.just b.fin hu.just hu.fin;have hU:=hI.upd (j:=b.just) (f:=b.fin) hu.just hu.fin;obtain⟨z2,c4⟩:=ab4 (dw (bQ s (eZ s.nodes b (cC b)).1) b.just b.fin) i hU b.pul.j b.pul.f hu.j hu.f;have c5:=pG b.slot (dw (bQ s (eZ s.nodes b (cC b)).1) b.just b.fin).cfg.spe;have c6:=pG (dw (bQ s (eZ s.nodes b (cC b)).1) b.just b.fin).now (dw (bQ s (eZ s.nodes b (cC b)).1) b.just b.fin).cfg.spe;have f5:=ta hU.spe.1 hU.spe.2 b.slot;have f6:=ta hU.spe.1 hU.spe.2 (dw (bQ s (eZ s.nodes b (cC b)).1) b.just b.fin).now;unfold gE;have hN:(bQ s (eZ s.nodes b (cC b)).1).a={ s.a with nodes:=.sl 240 false (rows aT (eZ s.nodes b (cC b)).1) }:=rfl;rw[hN]at c3;generalize hT:eZ s.nodes b (cC b)=T at *;generalize cC b=st at *;obtain⟨T1,T2⟩:=T;dsimp only at c2 c3 c4 c5 c6 f5 f6 hU ⊢;generalize dw (bQ s T1) b.just b.fin=U at *;generalize dw U b.pul.j b.pul.f=U2 at *;generalize iC b.slot U.cfg.spe=E1 at *;generalize iC U.now U.cfg.spe=E2 at *;obtain⟨e11,e12⟩:=E1;obtain⟨e21,e22⟩:=E2;dsimp only at c5 c6 f5 f6;subst f5 f6;unfold y8 at c3 c4;by_cases q:dg U b.slot<dg U U.now
 ·have e1:=ax q;rw[afA q];refine⟨z2,?_⟩;unfold y8;refine cZ 9 ?_;refine gon ?_;refine aP (c1) ?_;refine gon ?_;refine aP (c2) ?_;refine gon ?_;refine ocg [] c3 ?_;refine abl c5 ?_;refine ap c6 ?_;refine bO e1 ?_;refine Dt [5] ?_;simp only[evZ,BO];refine evg ?_
  refine gon ?_;refine ocg [] c4 ?_;exact abF [] [6]
 ·have e1:=aD q;rw[afx q];refine⟨z1,?_⟩;unfold y8;refine cZ 9 ?_;refine gon ?_;refine aP (c1) ?_;refine gon ?_;refine aP (c2) ?_;refine gon ?_;refine ocg [] c3 ?_;refine abl c5 ?_;refine ap c6 ?_;refine aS e1 ?_;exact abF [] [5]
theorem QQ(s:af)(m:Nat)(h:bi s m)(a:aX)(ha:a.vals.length<=2097152):PC Tryz.prog 108 [.agg (ak s.a),.agg (cK a.a)] (.tup [.agg (ak (kH s a).1.a),.int .i64 (kH s a).2]):=by
 refine aQ 9 ?_;have c1:=ab5 s m h a ha;have c2:=CE s m h a ha;have c3:=lH s h.cp;unfold Ki at c3;have c4:=Fo a ha
 have hj:(ei s a).2=0->∀j∈a.vals,0<=j/\j<s.latest.length:=fun hq j hjm=>by
  have hv:cM a.vals s.cfg.bals.length=0:=by
   unfold ei at hq;split at hq
   ·rename_i h1;exact absurd hq h1
   ·rename_i h1;simpa using h1
  obtain⟨u,hm,rfl⟩:=acp hjm;have:=(ie hv).2 u hm;rw[afy,afz hm,ac7]at this;have hll:=h.ll;omega
 have hcl:(castIn s a).early=s.early:=rfl;have haa:=h.aa;have hla:=h.cfg.la;unfold kH;generalize ei s a=R at *;obtain⟨R1,R2⟩:=R;dsimp only at c1 hj ⊢;refine gon ?_;refine ap c1 ?_;by_cases q1:R2=0
 case neg=>
  have k:(R2 != 0)=true:=by simp[q1]
  rw[afA q1];refine aW k ?_;exact iG (by first|rfl|exact evd) (by first|rfl|exact evd)
 have k:(R2 != 0)=false:=by simp[q1]
 rw[afx (by simp[q1])];have c2:=c2 (hj q1);refine da k ?_;cases R1 with
 | false =>
   rw[afA rfl];generalize castIn s a=s3 at *;rw[<-hcl]at c2;refine bD ?_;refine ocg [] c2 ?_;refine⟨_,(by first|rfl|exact evd),.inl ?_⟩;refine evg ?_
   rfl
 | true =>
   rw[afx af1];have ge:decide ((s.early.length:Int) ≥ s.cfg.lim.early)=decide (s.cfg.lim.early<=(s.early.length:Int)):=rfl;by_cases q2:s.cfg.lim.early<=(s.early.length:Int)
   ·have e2:=ax q2;rw[afA q2];refine d6 ?_;refine dV ge e2 ?_;exact iG (by first|rfl|exact evd) (by first|rfl|exact evd)
   ·have e2:=aD q2;rw[afx q2];have hr:rows aX.c s.early++[cK a.a]=rows aX.c (s.early++[a]):=dn aX.c s.early a;have ht:List.take (s.early.length+1) (rows aX.c (s.early++[a]))=rows aX.c (s.early++[a]):=afD af1;refine d6 ?_;refine pi ge e2 ?_;refine ocg [] c3 ?_;refine aP (c4) ?_;refine aA hr ?_;refine⟨_,(by first|rfl|exact evd),.inl ?_⟩;exact uv ht
end Go.Proofs.YtmpddimhleianaaGreat
