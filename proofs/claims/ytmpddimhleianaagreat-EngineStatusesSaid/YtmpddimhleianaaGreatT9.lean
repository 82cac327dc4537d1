/- Joined. -/
import Derived.Test.YtmpddimhleianaaGreatT6
set_option linter.unusedVariables false
set_option linter.unusedSimpArgs false
set_option maxRecDepth 8000
set_option maxHeartbeats 4000000
namespace Go.Proofs.YtmpddimhleianaaGreat
open Go Go.FH Go.RowKit
theorem vV(a b:Wd):PC Tryz.prog 328 [.agg (wdc a),.agg (wdc b)] (.int .i64 (X5 a b)):=by
 refine ae 19 ?_;refine gon ?_;refine az (fun i:Nat=>[(5,.int .i64 ((i:Int)-1)),(10,.dead),(18,.dead)]) (fun _=>[.var (wdc a),.var (wdc b)]) (fun i=>i) (fun i=>i<=4/\X5 a b=QQ a b i) 4 ⟨WL,rfl⟩ ?_ ?_
 ·exact ais [] [0,1]
 rintro i ⟨hi,hn⟩;rw[hn];cases i with
 | zero =>
   refine bk ?_;exact ai
 | succ i =>
   have h1:i<4:=WL
   have e1:((i+1:Nat):Int)-1=(i:Int):=WL
   have e2:decide ((i:Int) ≥ 0)=true:=au WL;have e3:decide ((0:Int)<=i)=true:=au WL;have hw:IntKind.i64.wrap ((i:Int)-1)=(i:Int)-1:=aL WL WL;have g1:=Ov a h1;have g2:=Ov b h1;have ga:a.1.getD i 0=a.1[i]'(by rw[a.2];exact h1):=by simp[alt,a.2,h1]
   have gb:b.1.getD i 0=b.1[i]'(by rw[b.2];exact h1):=by simp[alt,b.2,h1]
   rw[<-ga]at g1;rw[<-gb]at g2;have hs:QQ a b (i+1)=if a.1.getD i 0<b.1.getD i 0 then -1 else if b.1.getD i 0<a.1.getD i 0 then 1 else QQ a b i:=rfl
   rw[hs];generalize a.1.getD i 0=x at *;generalize b.1.getD i 0=y at *;have h0:(0:Int)<=i:=WL
   have hn1:(i:Int)<4:=WL
   rw[e1];refine HV e1 e2 e3 ?_;refine pz g1 g2 amv amO ?_;refine EB (fun h=>?_) (fun h=>?_)
   ·rw[al7 (by simpa using h)];refine gon ?_;exact ai
   ·rw[al5 (by simpa using h)]
    refine pz g1 g2 amv amO ?_;refine EB (fun h=>?_) (fun h=>?_)
    ·rename_i h';rw[al7 (by simpa using h)];refine gon ?_;exact ai
    ·rename_i h';rw[al5 (by simpa using h)];refine ah hw ?_;refine⟨i,⟨WL,rfl⟩,WL,?_⟩;exact ais [] [0,1]
theorem IF(p b:Blk):PC Tryz.prog 327 [.agg (aO p),.agg (aO b)] (.bool (decide (p.payload=rt0)&&!decide (b.payload=rt0))):=by
 refine ae 5 ?_;have c1:=H1 p.payload;have c2:=H1 b.payload;refine gon ?_;refine am c1 ?_;cases decide (p.payload=rt0)with
 | true =>
   refine gon ?_;refine ahG c2 ?_;exact ai
 | false =>
   refine gon ?_;exact ai
theorem Eh(ttd:Wd)(p b:Blk):PC Tryz.prog 260 [.agg (wdc ttd),.agg (aO p),.agg (aO b)] (.bool (HP ttd p b)):=by
 refine ae 7 ?_;have c1:=IF p b;have c2:=vV b.pdiff ttd;have c3:=vV b.diff ttd;have c4:=H1 p.payload;have c5:=H1 b.payload;unfold HP;generalize X5 b.pdiff ttd=x at *;generalize X5 b.diff ttd=y at *;by_cases h2:p.payload=rt0
 ·rw [au h2] at c1 c4
  by_cases h:b.payload=rt0
  ·rw[al7 h,au h2];rw[au h]at c1 c5;refine gon ?_;refine am c1 ?_;refine bk ?_;refine ahG c4 ?_;exact ai
  ·rw[al5 h,al7 h2]
   rw[aA h]at c1 c5;refine gon ?_;refine am c1 ?_;refine aX ?_;refine am c2 ?_;cases h3:decide (x<0)with
   | true =>
     refine ah h3 ?_;refine ahG c3 ?_;exact ai
   | false =>
     refine ah h3 ?_;exact ai
 ·rw[aA h2]at c1 c4
  by_cases h:b.payload=rt0
  ·rw[al7 h,aA h2];rw[au h]at c1 c5;refine gon ?_;refine am c1 ?_;refine bk ?_;refine ahG c4 ?_;refine ahG c5 ?_;exact ai
  ·rw[al5 h,al5 h2];rw[aA h]at c1 c5;refine gon ?_;refine am c1 ?_;refine bk ?_;refine ahG c4 ?_;refine ahG c5 ?_;exact ai
theorem Du(x:Blk)(r:Rt):ay Tryz.prog 324 [.agg (aO x),.ptr 0 0] [.var (rtc r)] (.bool (decide (x.root=r))) [.var (rtc r)]:=by
 refine dS 4 ?_;refine gon ?_;exact ahY [] [0]
theorem En(s:ap)(r:Rt)(hb:s.nodes.length<=2097152)(ho:s.orph.length<=2097152):PC Tryz.prog 258 [.agg (aE s.a),.agg (rtc r)] (.bool (nL s r)):=by
 refine ae 5 ?_;have c1:=zU s.nodes r hb;have c2:=Pp s.orph false 324 ⟨rtc r,dI r⟩ (fun i=>decide ((dn s.orph i).root=r)) ho (fun i _=>Du _ r);unfold nL;generalize aj s.nodes r=I at *;generalize (dW (fun i=>decide ((dn s.orph i).root=r)) s.orph.length).isSome=K at *;refine gon ?_;refine am c1 ?_;by_cases q:0<=I
 ·have e:decide (I ≥ 0)=true:=au q;have e':decide (0<=I)=true:=au q;rw[e',alo];refine aZ e e' ?_;exact ai
 ·have e:decide (I ≥ 0)=false:=aA q;have e':decide (0<=I)=false:=aA q;rw[e',alG];refine aZ e e' ?_;refine ocg [1] c2 ?_;exact ai
theorem Ol(s:ap)(b:Blk):PC Tryz.prog 325 [.agg (aE s.a),.agg (aO b)] (.bool (RU s b)):=by
 refine ae 9 ?_;unfold RU;have c1:=ae9 b.slot s.cfg.spe;generalize kJ b.slot s.cfg.spe=E at *;obtain⟨E1,E2⟩:=E;dsimp only at c1 ⊢;refine gon ?_;refine am c1 ?_;by_cases q0:b.fin.ep<=b.just.ep
 case neg=>
  have k0:=aA q0;rw[k0];refine ah k0 ?_;exact ai
 have k0:=au q0;rw[k0];by_cases q1:b.just.ep<=b.pul.j.ep
 case neg=>
  have k1:=aA q1;rw[k1];refine aZ k0 k1 ?_;exact ai
 have k1:=au q1;rw[k1];by_cases q2:b.fin.ep<=b.pul.f.ep
 case neg=>
  have k2:=aA q2;rw[k2];refine dC k0 k1 k2 ?_;exact ai
 have k2:=au q2;rw[k2];by_cases q3:b.pul.f.ep<=b.pul.j.ep
 case neg=>
  have k3:=aA q3;rw[k3];refine pz k0 k1 k2 k3 ?_;exact ai
 have k3:=au q3;rw[k3];refine pz k0 k1 k2 k3 ?_;exact ai
def zR(s:ap)(b:Blk)(p:Int)(c:Cp):Bool:=if (dk c.ep s.cfg.spe).2≠0 then false else if b.slot<=(dk c.ep s.cfg.spe).1 then decide (c.rt=b.root)
 else decide (0<=atT s.nodes p (dk c.ep s.cfg.spe).1)&&decide ((nod s.nodes (atT s.nodes p (dk c.ep s.cfg.spe).1).toNat).blk.root=c.rt)
theorem Sg {t : List Nod} (ht : dU t) (i slot : Int) : atT t i slot < t.length := by
 by_cases h:isN t i=true
 ·obtain ⟨h0, h1⟩ := dR.1 h
  obtain⟨k,rfl⟩:=ajO h0
  have key:∀n k:Nat,k<=n->k<t.length->atT t k slot<t.length:=by
   intro n;induction n with
   | zero =>
     intro k hk hl;rw[TQ ht hl];split
     ·omega
     ·rw[pp]
      ·omega
      ·obtain rfl:k=0:=WL
       rw[uV];have:=ht.root;omega
   | succ n ih =>
     intro k hk hl;rw[TQ ht hl];split
     ·omega
     ·by_cases hu:0<=(nod t k).up
      ·have h2:(nod t k).up<k:=by
        rcases ajQ k with h3|h3
        ·subst h3;have:=ht.root;omega
        ·exact(ht.ok k h3 hl).2
       obtain⟨m,hm⟩:=ajO hu;rw[hm];exact ih m WL WL
      ·rw[pp _ (by rw[uV];omega)];omega
  exact key k k (amb _) WL
 ·rw[pp _ (by simpa using h)];have:=ht.pos;omega
theorem IH(s:ap)(ht:dU s.nodes)(hb:s.nodes.length<=2097152)(b:Blk)(p:Int)(c:Cp)(hc:U64 c.ep):PC Tryz.prog 326 [.agg (aE s.a),.agg (aO b),.int .i64 p,.agg (cpC c)] (.bool (zR s b p c)):=by
 refine ae 12 ?_;have c1:=Fv (e:=c.ep) (p:=s.cfg.spe) hc.1 hc.2;have c2:=D3 s.nodes ht hb p (dk c.ep s.cfg.spe).1;have b2:=Sg ht p (dk c.ep s.cfg.spe).1;unfold zR;generalize atT s.nodes p (dk c.ep s.cfg.spe).1=I at *;generalize dk c.ep s.cfg.spe=S at *;obtain⟨S1,S2⟩:=S;dsimp only at c1 c2 ⊢;have hgi:0<=I->(rows bB s.nodes).getD I.toNat []=bB (nod s.nodes I.toNat):=fun h=>aS (f:=bB) gr WL
 refine gon ?_;refine am c1 ?_;by_cases q1:S2=0
 case neg=>
  have k:(S2 != 0)=true:=by simp[q1]
  rw[al7 q1];refine aM k ?_;exact ai
 have k:(S2 != 0)=false:=by simp[q1]
 rw[al5 (by simp[q1])];refine bJ k ?_;by_cases q2:b.slot<=S1
 ·have k2:=au q2;rw[al7 q2];refine aM k2 ?_;exact ai
 have k2:=aA q2;rw[al5 q2];refine aF k2 ?_;refine am c2 ?_;by_cases q3:0<=I
 ·have e:decide (I ≥ 0)=true:=au q3;have e':decide (0<=I)=true:=au q3;have hgi:=hgi q3;rw[e',am2];refine dC e e' hgi ?_;exact ai
 ·have e:decide (I ≥ 0)=false:=aA q3;have e':decide (0<=I)=false:=aA q3;rw[e',ajq];refine aZ e e' ?_;exact ai
theorem sa(l:List Cp):fy (rows cpC l):=cQ fun x _=>gV x
theorem OE(ρ:Nat->Nat)(l:List Cp):bH ρ (rows cpC l)=rows cpC l:=(sa l).ren ρ
theorem PK(σ:St)(zs:List Nat)(l:List Cp):dh σ zs (rows cpC l)=rows cpC l:=(sa l).fz σ zs
attribute [go_sem] OE PK
def ls(s:ap)(b:Blk)(p:Int)(c:Cp):Bool:=decide (c.ep<=s.f.ep) || zR s b p c
def C7(s:ap)(b:Blk):Bool:=decide (0<=aj s.nodes b.parent)&&(RU s b&&(dW (fun k=>!ls s b (aj s.nodes b.parent) ((cps b).getD k cp0)) 4).isNone)
theorem Iz(s:ap)(ht:dU s.nodes)(hb:s.nodes.length<=2097152)(b:Blk)(hu:NQ b):PC Tryz.prog 259 [.agg (aE s.a),.agg (aO b)] (.bool (C7 s b)):=by
 refine ae 34 ?_;have c1:=zU s.nodes b.parent hb;have c2:=Ol s b;have c3:=fun p c=>IH s ht hb b p c
 obtain⟨R,hR⟩:∃R,R=C7 s b:=⟨_,rfl⟩
 rw[<-hR];unfold C7 at hR
 have hcu:∀k,k<4->U64 ((cps b).getD k cp0).ep:=fun k hk=>by
  have:k=0\/k=1\/k=2\/k=3:=WL
  rcases this with rfl|rfl|rfl|rfl
  ·exact hu.just
  ·exact hu.fin
  ·exact hu.j
  ·exact hu.f
 generalize aj s.nodes b.parent=P at *;refine gon ?_;refine am c1 ?_;by_cases q1:P<0
 ·have e1:=au q1;rw[aA (show ¬0<=P by omega),ajq]at hR;subst hR;refine aM e1 ?_;exact ai
 have e1:=aA q1;rw[au (show 0<=P by omega),am2]at hR;refine ah e1 ?_;refine am c2 ?_;cases hO:RU s b with
 | false =>
   rw[hO,ajq]at hR;subst hR;refine aX ?_;exact ai
 | true =>
   rw[hO,am2]at hR;have hcp:[cpC b.just,cpC b.fin,cpC b.pul.j,cpC b.pul.f]=rows cpC (cps b):=rfl;have hl4:(cps b).length=4:=rfl;generalize cps b=L at *;refine dQ ?_;refine aZ hcp hl4 ?_;have hN:dW (fun k=>!ls s b P (L.getD k cp0)) 4=iK (fun k=>!ls s b P (L.getD k cp0)) (4-0) 0:=rfl;refine az (fun i:Nat=>[(33,.int .i64 i)]) (fun i=>[.var (aE s.a),.var (aO b)]) (fun i=>4-i) (fun i=>i<=4/\dW (fun k=>!ls s b P (L.getD k cp0)) 4=iK (fun k=>!ls s b P (L.getD k cp0)) (4-i) i) 0 ⟨amc _,hN⟩ ?_ ?_
   ·exact ais [] [0,1]
   clear hN;rintro i ⟨hi,hn⟩;rw[hn]at hR;(try simp only[dE,dr,amx,amy])
   by_cases h1:i<4
   ·have e1:decide ((i:Int)<4)=true:=au WL
    have e1':decide ((i:Int)<((4:Nat):Int))=true:=au WL;have hw:=af h1 WL;have hgd:(rows cpC L).getD i []=cpC (L.getD i cp0):=aS (f:=cpC) cp0 WL;have c3:=c3 P (L.getD i cp0) (hcu i h1);have hll:i<L.length:=WL
    have hpx:(fun k=>!ls s b P (L.getD k cp0)) i=!ls s b P (L.getD i cp0):=rfl;generalize L.getD i cp0=x at *;refine HV e1 e1' hl4 ?_;refine aZ hgd hl4 ?_;have gt:decide (x.ep > s.f.ep)=decide (s.f.ep<x.ep):=rfl;by_cases q2:s.f.ep<x.ep
    ·have e2:=au q2
     have hF:ls s b P x=zR s b P x:=by unfold ls;rw[aA (show ¬x.ep<=s.f.ep by omega),aj9]
     refine aZ gt e2 ?_;refine am c3 ?_;cases hL:zR s b P x with
     | true =>
       have hp:(fun k=>!ls s b P (L.getD k cp0)) i=false:=by rw[hpx];rw[hF,hL];rfl
       rw[nz h1 hp]at hn hR;refine dQ ?_;refine ah hw ?_;refine⟨i+1,⟨h1,hn⟩,WL,?_⟩;exact ais [] [0,1]
     | false =>
       have hp:(fun k=>!ls s b P (L.getD k cp0)) i=true:=by rw[hpx];rw[hF,hL];rfl
       rw[nB h1 hp]at hR;subst hR;refine aX ?_;exact ai
    ·have e2:=aA q2;have hF:ls s b P x=true:=by unfold ls;rw[au (show x.ep<=s.f.ep by omega),alp]
     have hp:(fun k=>!ls s b P (L.getD k cp0)) i=false:=by rw[hpx];rw[hF];rfl
     rw[nz h1 hp]at hn hR;refine fp gt e2 ?_;refine ah hw ?_;refine⟨i+1,⟨h1,hn⟩,WL,?_⟩;exact ais [] [0,1]
   ·obtain rfl:i=4:=WL
    rw[nu]at hR;subst hR;have e1:decide (((4:Nat):Int)<4)=false:=WN
    have e1':decide (((4:Nat):Int)<((4:Nat):Int))=false:=WN
    have e2:decide ((4:Int)<4)=false:=WN
    refine fU hl4 e2 ?_;exact ai
theorem zF{p q:Nat->Bool}:∀ (k i:Nat),(∀j,i<=j->j<i+k->p j=q j)->iK p k i=iK q k i
 |0,_,_=>rfl
 | k + 1, i, h => by
   have h0:=h i (amb _) WL;have ih:=zF k (i+1) fun j h1 h2=>h j WL WL
   cases hp:p i with
   |true=>rw[show k+1=(i+(k+1))-i by omega,nB WL hp,nB WL (by rw[<-h0];exact hp)]
   | false =>
     have e1:=nz (p:=p) (n:=i+(k+1)) (i:=i) WL hp;have e2:=nz (p:=q) (n:=i+(k+1)) (i:=i) WL (by rw[<-h0];exact hp);rw[show i+(k+1)-i=k+1 by omega,show i+(k+1)-(i+1)=k by omega]at e1 e2;rw[e1,e2,ih]
theorem RT{s:ap}(h1:1<=s.cfg.spe)(h2:s.cfg.spe<=64)(b:Blk):RU s b=pY s b:=by
 unfold RU pY;rw[gv h1 h2]
theorem Pz{s:ap}{i:Nat}(h:bP s i){b:Blk}(hu:np i b):C7 s b=EG s b:=by
 unfold C7 EG;rw[RT h.spe.1 h.spe.2];cases hO:pY s b with
 |false=>simp
 | true =>
   have hO2:=hO;unfold pY at hO2;simp only[amk,amg]at hO2;obtain⟨⟨⟨⟨o1,o2⟩,o3⟩,o4⟩,o5⟩:=hO2
   have key:∀k,k<4->ls s b (aj s.nodes b.parent) ((cps b).getD k cp0)=rV s b (aj s.nodes b.parent) ((cps b).getD k cp0):=fun k hk=>by
    have hc:U64 ((cps b).getD k cp0).ep/\((cps b).getD k cp0).ep<=dg s b.slot:=by
     have:k=0\/k=1\/k=2\/k=3:=WL
     rcases this with rfl|rfl|rfl|rfl
     ·exact⟨hu.just,akT o2 o5⟩
     ·exact⟨hu.fin,akT o1 (akT o2 o5)⟩
     ·exact⟨hu.j,o5⟩
     ·exact⟨hu.f,akT o4 o5⟩
    have hs:(dk ((cps b).getD k cp0).ep s.cfg.spe).2=0:=CY hc.1.1 h.spe.1 h.spe.2 hu.slot.1 hu.slot.2 hc.2;generalize (cps b).getD k cp0=c at *;unfold ls rV zR da;rw[al5 (by simp[hs])];dsimp only;by_cases q:b.slot<=(dk c.ep s.cfg.spe).1
    ·rw[al7 q,al5 WL];congr 1;exact ald.2 ⟨fun h=>h.symm,fun h=>h.symm⟩
    ·rw[al5 q,al7 WL]
   have:dW (fun k=>!ls s b (aj s.nodes b.parent) ((cps b).getD k cp0)) 4=dW (fun k=>!rV s b (aj s.nodes b.parent) ((cps b).getD k cp0)) 4:=
    zF 4 0 fun j h1 h2=>by rw[key j WL]
   rw[this]
theorem qa(s:ap)(i:Nat)(h:bP s i)(b:Blk)(hu:np i b):PC Tryz.prog 176 [.agg (aE s.a),.agg (aO b)] (.int .i64 (de s b)):=by
 refine ae 79 ?_;obtain⟨R,hR⟩:∃R,R=de s b:=⟨_,rfl⟩
 rw[<-hR];unfold de da at hR;have c1:=Fv (e:=s.f.ep) (p:=s.cfg.spe) h.uf.1 h.uf.2;have c2:=H1 b.root;have c3:=En s b.root h.r.bn h.r.bo;have c4:=zU s.nodes b.parent h.r.bn;have b4:=fM s.nodes b.parent;have c5:=Iz s h.tree h.r.bn b hu.u;rw[Pz h hu]at c5;have c6:=Eh s.cfg.ttd (nod s.nodes (aj s.nodes b.parent).toNat).blk b;have hgi:0<=aj s.nodes b.parent->(rows bB s.nodes).getD (aj s.nodes b.parent).toNat []=bB (nod s.nodes (aj s.nodes b.parent).toNat):=fun h=>aS (f:=bB) gr WL
 generalize aj s.nodes b.parent=I at *;generalize nod s.nodes I.toNat=x at *;generalize HP s.cfg.ttd x.blk b=M at *;generalize EG s b=F at *;generalize nL s b.root=K at *;generalize dk s.f.ep s.cfg.spe=S at *;obtain⟨S1,S2⟩:=S;dsimp only at c1 hR;have gt:decide (b.slot > s.now)=decide (s.now<b.slot):=rfl;refine gon ?_;refine ahG c1 ?_;refine am c2 ?_;by_cases q1:b.root=rt0
 ·have e1:=au q1;rw[al7 q1]at hR;subst hR;refine aM e1 ?_;exact ai
 have e1:=aA q1;rw[al5 q1]at hR;refine aF e1 ?_;refine am c3 ?_;cases K with
 | true =>
   rw[al7 rfl]at hR;subst hR;refine aX ?_;exact ai
 |false=>
 rw[al5 WM]at hR;refine bk ?_;by_cases q3:s.now<b.slot
 ·have e3:=au q3;rw[al7 q3]at hR;subst hR;refine cH gt e3 ?_;exact ai
 have e3:=aA q3;rw[al5 q3]at hR;refine fU gt e3 ?_;by_cases q4:b.slot<=S1
 ·have e4:=au q4;rw[al7 q4]at hR;subst hR;repeat(first|refine bY ?_|simp only[go_sem,e4])
  refine agF ?_;exact ai
 have e4:=aA q4;rw[al5 q4]at hR;repeat(first|refine bY ?_|simp only[go_sem,e4])
 refine agE ?_;refine am c4 ?_;by_cases q5:I<0
 ·have e5:=au q5;rw[al7 q5]at hR;subst hR;repeat(first|refine bY ?_|simp only[go_sem,e5])
  refine agF ?_;exact ai
 have e5:=aA q5;have hgi:=hgi WL;rw[al5 q5]at hR;repeat(first|refine bY ?_|simp only[go_sem,e5])
 refine aB ?_;refine ah hgi ?_;by_cases q6:b.slot<=x.blk.slot
 ·have e6:=au q6;rw[al7 q6]at hR;subst hR;repeat(first|refine bY ?_|simp only[go_sem,e6])
  refine agF ?_;exact ai
 have e6:=aA q6;rw[al5 q6]at hR;repeat(first|refine bY ?_|simp only[go_sem,e6])
 refine agE ?_;by_cases q7:x.status=2
 ·have e7:(x.status==2)=true:=by simp[q7]
  rw[al7 q7]at hR;subst hR;repeat(first|refine bY ?_|simp only[go_sem,e7])
  refine agF ?_;exact ai
 have e7:(x.status==2)=false:=by simp[q7]
 rw[al5 q7]at hR;repeat(first|refine bY ?_|simp only[go_sem,e7])
 refine agE ?_;refine am c5 ?_;cases F with
 | false =>
   rw[al7 rfl]at hR;subst hR;refine aX ?_;exact ai
 |true=>
 rw[al5 WM]at hR;refine bk ?_;refine am c6 ?_;cases M with
 | false =>
   rw[al7 rfl]at hR;subst hR;refine aX ?_;exact ai
 |true=>
 rw[al5 WM]at hR;refine dQ ?_;have ge:decide ((s.nodes.length:Int) ≥ s.cfg.lim.node)=decide (s.cfg.lim.node<=(s.nodes.length:Int)):=rfl;by_cases q10:s.cfg.lim.node<=(s.nodes.length:Int)
 ·have e10:=au q10;rw[al7 q10]at hR;subst hR;refine cH ge e10 ?_;exact ai
 have e10:=aA q10;rw[al5 q10]at hR;subst hR;refine fU ge e10 ?_;exact ai
theorem qc(s:ap)(i:Nat)(h:bP s i)(b:Blk)(hu:np i b)(hc:de s b=0):
 ∃z:List Blk,ay Tryz.prog 177 [.agg (aE s.a),.agg (aO b)] [] (.agg (aE (lh (kL s b)))) [.vec 238 (rows aO ((kL s b).orph++z))]:=by
 have hI:=h.insN hc hu;have c1:PC Tryz.prog 262 [.agg (aO b)] (.int .i64 (dc b)):=Jd b;have c2:=Oj s.nodes b (dc b) h.r.bn;obtain⟨z1,c3⟩:=Wa (dD s (BV s.nodes b (dc b)).1) i hI b.just b.fin hu.just hu.fin;have hU:=hI.upd (j:=b.just) (f:=b.fin) hu.just hu.fin;obtain⟨z2,c4⟩:=Wa (dK (dD s (BV s.nodes b (dc b)).1) b.just b.fin) i hU b.pul.j b.pul.f hu.j hu.f;have c5:=ae9 b.slot (dK (dD s (BV s.nodes b (dc b)).1) b.just b.fin).cfg.spe;have c6:=ae9 (dK (dD s (BV s.nodes b (dc b)).1) b.just b.fin).now (dK (dD s (BV s.nodes b (dc b)).1) b.just b.fin).cfg.spe;have f5:=gv hU.spe.1 hU.spe.2 b.slot;have f6:=gv hU.spe.1 hU.spe.2 (dK (dD s (BV s.nodes b (dc b)).1) b.just b.fin).now;unfold kL;have hN:(dD s (BV s.nodes b (dc b)).1).a={ s.a with nodes:=.sl 240 false (rows bB (BV s.nodes b (dc b)).1) }:=rfl;rw[hN]at c3;generalize hT:BV s.nodes b (dc b)=T at *;generalize dc b=st at *;obtain⟨T1,T2⟩:=T;dsimp only at c2 c3 c4 c5 c6 f5 f6 hU ⊢;generalize dK (dD s T1) b.just b.fin=U at *;generalize dK U b.pul.j b.pul.f=U2 at *;generalize kJ b.slot U.cfg.spe=E1 at *;generalize kJ U.now U.cfg.spe=E2 at *;obtain⟨e11,e12⟩:=E1;obtain⟨e21,e22⟩:=E2;dsimp only at c5 c6 f5 f6;subst f5 f6;unfold lh at c3 c4;by_cases q:dg U b.slot<dg U U.now
 ·have e1:=au q;rw[al7 q];refine⟨z2,?_⟩;unfold lh;refine dS 9 ?_;refine gon ?_;refine aK (c1) ?_;refine gon ?_;refine aK (c2) ?_;refine gon ?_;refine ocg [] c3 ?_;refine ahG c5 ?_;refine am c6 ?_;refine bw e1 ?_;refine EK [5] ?_;simp only[evZ,F7];refine evg ?_
  refine gon ?_;refine ocg [] c4 ?_;exact ahY [] [6]
 ·have e1:=aA q;rw[al5 q];refine⟨z1,?_⟩;unfold lh;refine dS 9 ?_;refine gon ?_;refine aK (c1) ?_;refine gon ?_;refine aK (c2) ?_;refine gon ?_;refine ocg [] c3 ?_;refine ahG c5 ?_;refine am c6 ?_;refine aF e1 ?_;exact ahY [] [5]
theorem Uo(s:ap)(m:Nat)(h:bP s m)(a:bp)(ha:a.vals.length<=2097152):PC Tryz.prog 108 [.agg (aE s.a),.agg (cy a.a)] (.tup [.agg (aE (mA s a).1.a),.int .i64 (mA s a).2]):=by
 refine ae 9 ?_;have c1:=Wb s m h a ha;have c2:=vq s m h a ha;have c3:=el s h.cp;unfold BO at c3;have c4:=yd a ha
 have hj:(cm s a).2=0->∀j∈a.vals,0<=j/\j<s.latest.length:=fun hq j hjm=>by
  have hv:cE a.vals s.cfg.bals.length=0:=by
   unfold cm at hq;split at hq
   ·rename_i h1;exact absurd hq h1
   ·rename_i h1;simpa using h1
  obtain⟨u,hm,rfl⟩:=amJ hjm;have:=(iS hv).2 u hm;rw[alt,al6 hm,amT]at this;have hll:=h.ll;omega
 have hcl:(castIn s a).early=s.early:=rfl;have haa:=h.aa;have hla:=h.cfg.la;unfold mA;generalize cm s a=R at *;obtain⟨R1,R2⟩:=R;dsimp only at c1 hj ⊢;refine gon ?_;refine am c1 ?_;by_cases q1:R2=0
 case neg=>
  have k:(R2 != 0)=true:=by simp[q1]
  rw[al7 q1];refine aM k ?_;exact pZ (by first|rfl|exact evd) (by first|rfl|exact evd)
 have k:(R2 != 0)=false:=by simp[q1]
 rw[al5 (by simp[q1])];have c2:=c2 (hj q1);refine bJ k ?_;cases R1 with
 | false =>
   rw[al7 rfl];generalize castIn s a=s3 at *;rw[<-hcl]at c2;refine aX ?_;refine ocg [] c2 ?_;refine⟨_,(by first|rfl|exact evd),.inl ?_⟩;refine evg ?_
   rfl
 | true =>
   rw[al5 WM];have ge:decide ((s.early.length:Int) ≥ s.cfg.lim.early)=decide (s.cfg.lim.early<=(s.early.length:Int)):=rfl;by_cases q2:s.cfg.lim.early<=(s.early.length:Int)
   ·have e2:=au q2;rw[al7 q2];refine dQ ?_;refine cH ge e2 ?_;exact pZ (by first|rfl|exact evd) (by first|rfl|exact evd)
   ·have e2:=aA q2;rw[al5 q2];have hr:rows bp.c s.early++[cy a.a]=rows bp.c (s.early++[a]):=cR bp.c s.early a;have ht:List.take (s.early.length+1) (rows bp.c (s.early++[a]))=rows bp.c (s.early++[a]):=amf WM;refine dQ ?_;refine fU ge e2 ?_;refine ocg [] c3 ?_;refine aK (c4) ?_;refine ah hr ?_;refine⟨_,(by first|rfl|exact evd),.inl ?_⟩;exact uZ ht
end Go.Proofs.YtmpddimhleianaaGreat
