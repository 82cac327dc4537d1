/- Joined. -/
import Derived.Test.YtnjdpnfglgcjcaaGreatV7
import Derived.Test.YtnjdpnfglgcjcaaGreatW3
import Derived.Test.YtnjdpnfglgcjcaaGreatW6
set_option linter.unusedVariables false
set_option linter.unusedSimpArgs false
set_option maxRecDepth 8000
set_option maxHeartbeats 4000000
namespace Go.Proofs.YtnjdpnfglgcjcaaGreat
open Go Go.FH Go.RowKit
def atN(l:List Int)(i:Nat):Int:=
 if l.length=0 then lI .i64 i 65535 else IntKind.i64.wrap (lI .i64 (l.getD (i%l.length) 0) 16777215+((i / l.length:Nat):Int))
theorem kf(l:List Int)(i:Nat)(hi:i<=1000):0<=atN l i/\atN l i<=16778215:=by
 unfold atN;split
 ·obtain⟨r,h1,h2⟩:=Ci (i:Int) 65535 (by decide) (by decide);rw[h1];omega
 ·obtain⟨r,h1,h2⟩:=Ci (l.getD (i%l.length) 0) 16777215 (by decide) (by decide);have h3:i / l.length<=i:=Nat.div_le_self _ _;rw[h1];generalize i / l.length=q at *;rw[aL (by omega) (by omega)];omega
theorem fL(l:List Int)(c:Bool)(i:Nat)(hi:i<=1000):PC Tryz.prog 153 [.sl 1 c (aH .i64 l),.int .i64 i] (.int .i64 (atN l i)):=by
 refine PC.fact 5 afa (by simp) puA puA ?_;unfold Mj;refine bd ?_;unfold atN;by_cases h0:l.length=0
 ·have e0:((l.length:Int)==0)=true:=by simp[h0]
  rw[al7 h0];refine aM e0 ?_;exact ai
 ·have e0:((l.length:Int)==0)=false:=by simp;intro h;exact h0 (by simp[h])
  have e1:Int.tmod (i:Int) (l.length:Int)=((i%l.length:Nat):Int):=(Int.ofNat_tmod i l.length).symm;have e2:Int.tdiv (i:Int) (l.length:Int)=((i / l.length:Nat):Int):=(Int.ofNat_tdiv i l.length).symm;have hm:i%l.length<l.length:=alZ _ (by omega);have hd:i / l.length<=i:=Nat.div_le_self _ _;have hgd:=gdn (k:=.i64) hm;rw[al5 h0];refine bJ e0 ?_;generalize i%l.length=m at *;generalize i / l.length=q at *;have e3:IntKind.i64.wrap (q:Int)=(q:Int):=aL (by omega) (by omega);refine pz e1 e2 hgd e3 ?_;exact ai
theorem xx:WdG wd0:=fun n hn=>by
 have:n=0:=by simpa[wd0]using hn
 subst this;decide
def abW(s:ap)(i e:Int):Cp:=if atT s.nodes i (IntKind.u64.wrap (e*s.cfg.spe))<0 then s.f else ⟨e,(nod s.nodes (atT s.nodes i (IntKind.u64.wrap (e*s.cfg.spe))).toNat).blk.root⟩
theorem Ps{s:ap}{i e:Int}(h:U64 s.f.ep)(he:U64 e):U64 (abW s i e).ep:=by unfold abW;split<;>assumption
theorem Ny(s:ap)(h:StR s)(i e:Int):PC Tryz.prog 127 [.agg (aE s.a),.int .i64 i,.int .u64 e] (.agg (cpC (abW s i e))):=by
 refine PC.fact 8 afc (by simp) puA puA ?_;unfold Wz;refine bd ?_;have c1:=KF s.nodes h.tree.ok h.bn i (IntKind.u64.wrap (e*s.cfg.spe));have hb:=agG h.tree.ok i (IntKind.u64.wrap (e*s.cfg.spe));unfold abW;generalize atT s.nodes i (IntKind.u64.wrap (e*s.cfg.spe))=A at *;refine gon ?_;refine ahG c1 ?_;by_cases q1:A<0
 ·have e1:=au q1;rw[al7 q1];refine aM e1 ?_;exact ai
 ·have e1:=aA q1;have hg:=dy (t:=s.nodes) (i:=A.toNat) (by omega);rw[al5 q1];refine bJ e1 ?_;refine ah hg ?_;exact ai
theorem WdG.set{w:Wd}(h:WdG w)(j:Nat){x:Int}(hx:U64 x):WdG (w.set j x):=fun n hn=>by
 rcases akU hn with h1|rfl
 ·exact h n h1
 ·exact⟨hx.lo,hx.hi⟩
theorem abQ(n:Int):Sm WdG fun w=>PC Tryz.prog 152 [.int .i64 n] (.agg (wdc w)):=by
 refine md 30 aan (by simp) puA (fun r _=>puA) ?_;unfold QL;refine bd ?_;obtain⟨r2,h2,h2'⟩:=Ci (fJ .i64 n 9) 3 (by decide) (by decide);have u0:U64 0:=⟨by decide,by decide⟩;have u1:U64 18446744073709551615:=⟨by decide,by decide⟩
 have u2:U64 (fJ .u64 18446744073709551615 (IntKind.u64.wrap (lI .i64 (fJ .i64 n 9) 63)).toNat):=by
  obtain⟨r3,h3,h3'⟩:=Ci (fJ .i64 n 9) 63 (by decide) (by decide);rw[h3,aN (by omega) (by omega),amw];unfold fJ;have hp:(0:Int)<2 ^ (min r3 IntKind.u64.bits):=Int.pow_pos (by decide);rw[aj4 _ (ala hp)];exact⟨akD (by decide) (ala hp),alA (akS _ (by decide)) (by decide)⟩
 have sw:∀ (w:Wd) (x:Int),spl (wdc w) r2 [.int .u64 x]=wdc (w.set r2 x):=fun w x=>oI w (by omega) x
 have sw3:∀ (w:Wd) (x:Int),spl (wdc w) 3 [.int .u64 x]=wdc (w.set 3 x):=fun w x=>oI w (by decide) x
 have sw0:∀ (w:Wd) (x:Int),spl (wdc w) 0 [.int .u64 x]=wdc (w.set 0 x):=fun w x=>oI w (by decide) x
 have sw1:∀ (w:Wd) (x:Int),spl (wdc w) 1 [.int .u64 x]=wdc (w.set 1 x):=fun w x=>oI w (by decide) x
 repeat'(first|refine cM ?_|simp only[go_sem,h2,amv,sw,sw0,sw1,sw3]|(refine bR (fun h=>?_) (fun h=>?_)<;>try(exact absurd h (by decide)))|refine eo (fun h=>?_) (fun h=>?_))
 all_goals refine I5 (by first|rfl|exact evd) (by first|rfl|exact evd) ?_
 ·exact(xx.set _ (cO _)).set _ (cO _)
 ·exact(xx.set _ u1).set _ u2
 ·exact(xx.set _ (cO _)).set _ (cO _)
 ·exact xx.set _ (cO _)
structure Di(b:Blk):Prop where
 slot:U64 b.slot
 just:U64 b.just.ep
 fin:U64 b.fin.ep
 j:U64 b.pul.j.ep
 f:U64 b.pul.f.ep
 diff:WdG b.diff
 pdiff:WdG b.pdiff
 rt:b.root≠Y1
theorem Di.u{b:Blk}(h:Di b):NQ b:=⟨h.slot,h.just,h.fin,h.j,h.f⟩
theorem Di.w{b:Blk}{i:Nat}(h:Di b):np i b:=⟨h.slot,h.just,h.fin,h.j,h.f,fun _=>h.rt,h.diff,h.pdiff⟩
theorem WV{n:Int}(h0:0<=n)(h1:n<=99):zk n≠Y1:=by
 intro h;have h2:(zk n).1.getD 0 0=Y1.1.getD 0 0:=by rw[h]
 have h3:(zk n).1.getD 0 0=LM n:=rfl;rw[h3]at h2;have h4:Y1.1.getD 0 0=LM 100:=rfl;rw[h4]at h2;have h5:=vQ n;rw[h2,<-vQ 100,show IntKind.u8.wrap 100=100 from rfl,show IntKind.u8.wrap n=n from by rw[IntKind.wrap_u8];omega]at h5;omega
theorem dF{k:Int}{n:Nat}(hk:0<=k)(hn:0<n):∃p:Nat,Int.tmod k (n:Int)=p/\p<n:=by
 obtain⟨m,rfl⟩:=ajO hk;exact⟨m%n,(Int.ofNat_tmod m n).symm,alZ _ hn⟩
theorem FO{k:Int}(n:Nat)(hk:0<=k):0<=fJ .i64 k n:=by
 unfold fJ;have hp:(0:Int)<2 ^ (min n IntKind.i64.bits):=Int.pow_pos (by decide);rw[aj4 _ (ala hp)];exact akD hk (ala hp)
theorem aed(s:ap)(i:Nat)(hi:bP s i)(httd:WdG s.cfg.ttd)(n k:Int)(hk:0<=k)(hn0:0<=n)(hn1:n<=99)(h24:i<=24):Sm Di fun b=>PC Tryz.prog 54 [.agg (aE s.a),.int .i64 n,.int .i64 k] (.agg (aO b)):=by
 have hr:=hi.r;have hpos:=hi.tree.pos;have hn:=hi.nn;refine md 12 XW (by simp) puA (fun r _=>puA) ?_;unfold Nz;refine bd ?_;obtain⟨p0,hp0,hp0'⟩:=dF hk hpos
 obtain⟨m,hm,hm0,hm1⟩:∃m:Nat,(if (s.nodes.length:Int)<3 then (s.nodes.length:Int)else 3)=m/\0<m/\m<=s.nodes.length:=by
  by_cases h3:(s.nodes.length:Int)<3
  ·rw[al7 h3];exact⟨_,rfl,hpos,amb _⟩
  ·rw[al5 h3];exact⟨3,rfl,by decide,by omega⟩
 obtain⟨q,hq,hq'⟩:=dF (k:=(p0:Int)) (by omega) hm0;have hl1:IntKind.i64.wrap ((s.nodes.length:Int)-1)=((s.nodes.length-1:Nat):Int):=by rw[aL (by omega) (by omega)];omega
 have hl2:IntKind.i64.wrap (((s.nodes.length-1:Nat):Int)-q)=((s.nodes.length-1-q:Nat):Int):=by rw[aL (by omega) (by omega)];omega
 refine dv ?_;refine gU ?_;refine dv ?_;repeat(first|refine gU ?_|simp only[go_sem,hp0])
 refine dv ?_;refine Pm (fun p:Nat=>p<s.nodes.length) (fun p=>[(7,.int .i64 p)]) ?_ (fun p hp=>?_)
 ·repeat'(first|refine cM ?_|simp only[go_sem,hm,hq,hl1,hl2]|(refine bR (fun h=>?_) (fun h=>?_)<;>try(exact absurd h (by decide)))|refine eo (fun h=>?_) (fun h=>?_))
  ·exact⟨s.nodes.length-1-q,by omega,by exact ais [] [0,1]⟩
  ·exact⟨p0,hp0',by exact ais [] [0,1]⟩
 clear hm hq hl1 hl2 hp0;have hg:=dy (t:=s.nodes) hp;have hu:=hi.blk hp;generalize nod s.nodes p=up at *;refine dv ?_;repeat(first|refine gU ?_|simp only[go_sem,hg])
 refine dv ?_;refine gU ?_;refine dZ (ig n) ?_;refine lz ?_;have hnw:=hi.nw.1;have huf:=hi.uf;have hsp:=hi.cfg.s1;obtain⟨v1,v2,v3,v4,v5,v6⟩:=hu;have v7:=WV hn0 hn1;have v6:=v6 h24;have hw0:=xx;refine dv ?_;refine DO Di aO 4 [] ?_ (fun b h=>?_)
 ·repeat'(first|refine cM ?_|(refine bR (fun h=>?_) (fun h=>?_)<;>try(exact absurd h (by decide)))|refine eo (fun h=>?_) (fun h=>?_))
  all_goals(refine C7 aO 4 rfl ?_ (by exact ais [] [0,1,2,3,4]);constructor<;>(try dsimp only)<;>first|assumption|exact cO _)
 obtain⟨a1,a2,a3,a4,a5,a6,a7,a8⟩:=h;refine dv ?_;refine DO Di aO 4 [] ?_ (fun b h=>?_)
 ·repeat'(first|refine cM ?_|(refine bR (fun h=>?_) (fun h=>?_)<;>try(exact absurd h (by decide)))|refine eo (fun h=>?_) (fun h=>?_))
  ·refine db (ig _) ?_;repeat'(first|refine cM ?_|(refine bR (fun h=>?_) (fun h=>?_)<;>try(exact absurd h (by decide)))|refine eo (fun h=>?_) (fun h=>?_))
   (refine C7 aO 4 rfl ?_ (by exact ais [] [0,1,2,3,4]);constructor<;>(try dsimp only)<;>first|assumption|exact cO _)
  ·(refine C7 aO 4 rfl ?_ (by exact ais [] [0,1,2,3,4]);constructor<;>(try dsimp only)<;>first|assumption|exact cO _)
 obtain⟨a1,a2,a3,a4,a5,a6,a7,a8⟩:=h;refine dv ?_;refine gU ?_;generalize hE:IntKind.u64.wrap (Int.tdiv b.slot s.cfg.spe)=E at *;have hE':U64 E:=hE▸cO _;have hc:=Ps (s:=s) (i:=(p:Int)) huf hE';have c1:=Ny s hr p E;generalize abW s p E=c at *;refine dv ?_;refine DO Di aO 4 [] ?_ (fun b h=>?_)
 ·repeat'(first|refine cM ?_|(refine bR (fun h=>?_) (fun h=>?_)<;>try(exact absurd h (by decide)))|refine eo (fun h=>?_) (fun h=>?_))
  refine db c1 ?_;repeat'(first|refine cM ?_|(refine bR (fun h=>?_) (fun h=>?_)<;>try(exact absurd h (by decide)))|refine eo (fun h=>?_) (fun h=>?_))
  all_goals(refine C7 aO 4 rfl ?_ (by exact ais [] [0,1,2,3,4]);constructor<;>(try dsimp only)<;>first|assumption|exact cO _)
 obtain⟨a1,a2,a3,a4,a5,a6,a7,a8⟩:=h;refine dv ?_;refine DO Di aO 4 [] ?_ (fun b h=>?_)
 ·repeat'(first|refine cM ?_|(refine bR (fun h=>?_) (fun h=>?_)<;>try(exact absurd h (by decide)))|refine eo (fun h=>?_) (fun h=>?_))
  all_goals(refine C7 aO 4 rfl ?_ (by exact ais [] [0,1,2,3,4]);constructor<;>(try dsimp only)<;>first|assumption|exact cO _)
 obtain⟨a1,a2,a3,a4,a5,a6,a7,a8⟩:=h;have sw0:∀ (w:Wd) (x:Int),spl (wdc w) 0 [.int .u64 x]=wdc (w.set 0 x):=fun w x=>oI w (by decide) x
 have hw9:WdG (wd0.set 0 99):=hw0.set _ ⟨by decide,by decide⟩;refine dv ?_;refine DO Di aO 4 [] ?_ (fun b h=>?_)
 ·repeat'(first|refine cM ?_|simp only[go_sem,sw0]|(refine bR (fun h=>?_) (fun h=>?_)<;>try(exact absurd h (by decide)))|refine eo (fun h=>?_) (fun h=>?_))
  all_goals try refine db (ig _) ?_
  all_goals try repeat'(first|refine cM ?_|simp only[go_sem,sw0]|(refine bR (fun h=>?_) (fun h=>?_)<;>try(exact absurd h (by decide)))|refine eo (fun h=>?_) (fun h=>?_))
  all_goals(refine C7 aO 4 rfl ?_ (by exact ais [] [0,1,2,3,4]);constructor<;>(try dsimp only)<;>first|assumption|exact cO _)
 obtain⟨a1,a2,a3,a4,a5,a6,a7,a8⟩:=h;obtain⟨w1,hw1,cw1⟩:=abQ (fJ .i64 k 3);obtain⟨p5,hp5,hp5'⟩:=dF (FO 3 hk) hpos;have hg5:=dy (t:=s.nodes) hp5';have v8:=(hi.blk hp5').rt h24;refine dv ?_;refine DO Di aO 4 [] ?_ (fun b h=>?_)
 ·repeat'(first|refine cM ?_|simp only[go_sem,hp5,hg5]|(refine bR (fun h=>?_) (fun h=>?_)<;>try(exact absurd h (by decide)))|refine eo (fun h=>?_) (fun h=>?_))
  all_goals try first|refine db (ig _) ?_|refine db cw1 ?_
  all_goals try repeat'(first|refine cM ?_|simp only[go_sem,hp5,hg5]|(refine bR (fun h=>?_) (fun h=>?_)<;>try(exact absurd h (by decide)))|refine eo (fun h=>?_) (fun h=>?_))
  all_goals(refine C7 aO 4 rfl ?_ (by exact ais [] [0,1,2,3,4]);constructor<;>(try dsimp only)<;>first|assumption|exact cO _)
 refine cM ?_;refine I5 (by first|rfl|exact evd) (by first|rfl|exact evd) ?_;exact h
end Go.Proofs.YtnjdpnfglgcjcaaGreat
