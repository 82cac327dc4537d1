/-
 My texts Ma, Mb, joined.
-/
import Derived.Test.YtnjdpnfglgcjcaaGreatV7
import Derived.Test.YtnjdpnfglgcjcaaGreatW3
import Derived.Test.YtnjdpnfglgcjcaaGreatW6
set_option linter.unusedVariables false
set_option linter.unusedSimpArgs false
set_option maxRecDepth 8000
set_option maxHeartbeats 4000000
namespace Go.Proofs.YtnjdpnfglgcjcaaGreat
open Go Go.FH Go.RowKit
def atN(l:List Int)(i:Nat):Int:=
 if l.length=0 then gr .i64 i 65535 else IntKind.i64.wrap (gr .i64 (l.getD (i%l.length) 0) 16777215+((i / l.length:Nat):Int))
theorem j4(l:List Int)(i:Nat)(hi:i<=1000):0<=atN l i/\atN l i<=16778215:=by
 unfold atN;split
 ·obtain⟨r,h1,h2⟩:=yU (i:Int) 65535 (by decide) (by decide);rw[h1];omega
 ·obtain⟨r,h1,h2⟩:=yU (l.getD (i%l.length) 0) 16777215 (by decide) (by decide);have h3:i / l.length<=i:=Nat.div_le_self _ _;rw[h1];generalize i / l.length=q at *;rw[aK (by omega) (by omega)];omega
theorem fN(l:List Int)(c:Bool)(i:Nat)(hi:i<=1000):PC Tryz.prog 153 [.sl 1 c (ax .i64 l),.int .i64 i] (.int .i64 (atN l i)):=by
 refine PC.fact 5 UF (by simp) puA puA ?_;unfold IC;refine bd ?_;unfold atN;by_cases h0:l.length=0
 ·have e0:((l.length:Int)==0)=true:=by simp[h0]
  rw[if_pos h0];refine aE e0 ?_;exact af
 ·have e0:((l.length:Int)==0)=false:=by simp;intro h;exact h0 (by simp[h])
  have e1:Int.tmod (i:Int) (l.length:Int)=((i%l.length:Nat):Int):=(Int.ofNat_tmod i l.length).symm;have e2:Int.tdiv (i:Int) (l.length:Int)=((i / l.length:Nat):Int):=(Int.ofNat_tdiv i l.length).symm;have hm:i%l.length<l.length:=Nat.mod_lt _ (by omega);have hd:i / l.length<=i:=Nat.div_le_self _ _;have hgd:=gdn (k:=.i64) hm;rw[if_neg h0];refine aQ e0 ?_;generalize i%l.length=m at *;generalize i / l.length=q at *;have e3:IntKind.i64.wrap (q:Int)=(q:Int):=aK (by omega) (by omega);refine eW e1 e2 hgd e3 ?_;exact af
theorem Ch:WdG wd0:=fun n hn=>by
 have:n=0:=by simpa[wd0]using hn
 subst this;decide
def Qu(s:am)(i e:Int):Cp:=if atT s.nodes i (IntKind.u64.wrap (e*s.cfg.spe))<0 then s.f else ⟨e,(nod s.nodes (atT s.nodes i (IntKind.u64.wrap (e*s.cfg.spe))).toNat).blk.root⟩
theorem zN{s:am}{i e:Int}(h:U64 s.f.ep)(he:U64 e):U64 (Qu s i e).ep:=by unfold Qu;split<;>assumption
theorem xW(s:am)(h:StR s)(i e:Int):PC Tryz.prog 127 [.agg (aw s.a),.int .i64 i,.int .u64 e] (.agg (cpC (Qu s i e))):=by
 refine PC.fact 8 UH (by simp) puA puA ?_;unfold IE;refine bd ?_;have c1:=KD s.nodes h.tree.ok h.bn i (IntKind.u64.wrap (e*s.cfg.spe));have hb:=WQ h.tree.ok i (IntKind.u64.wrap (e*s.cfg.spe));unfold Qu;generalize atT s.nodes i (IntKind.u64.wrap (e*s.cfg.spe))=A at *;refine gon ?_;refine acT c1 ?_;by_cases q1:A<0
 ·have e1:=ak q1;rw[if_pos q1];refine aE e1 ?_;exact af
 ·have e1:=au q1;have hg:=dy (t:=s.nodes) (i:=A.toNat) (by omega);rw[if_neg q1];refine aQ e1 ?_;refine ap hg ?_;exact af
theorem WdG.set{w:Wd}(h:WdG w)(j:Nat){x:Int}(hx:U64 x):WdG (w.set j x):=fun n hn=>by
 rcases List.mem_or_eq_of_mem_set hn with h1|rfl
 ·exact h n h1
 ·exact⟨hx.lo,hx.hi⟩
theorem P8(n:Int):Sm WdG fun w=>PC Tryz.prog 152 [.int .i64 n] (.agg (wdc w)):=by
 refine lu 30 NU (by simp) puA (fun r _=>puA) ?_;unfold Bz;refine bd ?_;obtain⟨r2,h2,h2'⟩:=yU (fH .i64 n 9) 3 (by decide) (by decide);have u0:U64 0:=⟨by decide,by decide⟩;have u1:U64 18446744073709551615:=⟨by decide,by decide⟩
 have u2:U64 (fH .u64 18446744073709551615 (IntKind.u64.wrap (gr .i64 (fH .i64 n 9) 63)).toNat):=by
  obtain⟨r3,h3,h3'⟩:=yU (fH .i64 n 9) 63 (by decide) (by decide);rw[h3,aU (by omega) (by omega),Int.toNat_natCast];unfold fH;have hp:(0:Int)<2 ^ (min r3 IntKind.u64.bits):=Int.pow_pos (by decide);rw[Int.fdiv_eq_ediv_of_nonneg _ (Int.le_of_lt hp)];exact⟨Int.ediv_nonneg (by decide) (Int.le_of_lt hp),Int.lt_of_le_of_lt (Int.ediv_le_self _ (by decide)) (by decide)⟩
 have sw:∀ (w:Wd) (x:Int),spl (wdc w) r2 [.int .u64 x]=wdc (w.set r2 x):=fun w x=>oZ w (by omega) x
 have sw3:∀ (w:Wd) (x:Int),spl (wdc w) 3 [.int .u64 x]=wdc (w.set 3 x):=fun w x=>oZ w (by decide) x
 have sw0:∀ (w:Wd) (x:Int),spl (wdc w) 0 [.int .u64 x]=wdc (w.set 0 x):=fun w x=>oZ w (by decide) x
 have sw1:∀ (w:Wd) (x:Int),spl (wdc w) 1 [.int .u64 x]=wdc (w.set 1 x):=fun w x=>oZ w (by decide) x
 repeat'(first|refine cQ ?_|simp only[go_sem,h2,Nat.mul_one,sw,sw0,sw1,sw3]|(refine bB (fun h=>?_) (fun h=>?_)<;>try(exact absurd h (by decide)))|refine eA (fun h=>?_) (fun h=>?_))
 all_goals refine F7 (by first|rfl|exact evd) (by first|rfl|exact evd) ?_
 ·exact(Ch.set _ (cH _)).set _ (cH _)
 ·exact(Ch.set _ u1).set _ u2
 ·exact(Ch.set _ (cH _)).set _ (cH _)
 ·exact Ch.set _ (cH _)
structure zE(b:Blk):Prop where
 slot:U64 b.slot
 just:U64 b.just.ep
 fin:U64 b.fin.ep
 j:U64 b.pul.j.ep
 f:U64 b.pul.f.ep
 diff:WdG b.diff
 pdiff:WdG b.pdiff
 rt:b.root≠Vy
theorem zE.u{b:Blk}(h:zE b):WI b:=⟨h.slot,h.just,h.fin,h.j,h.f⟩
theorem zE.w{b:Blk}{i:Nat}(h:zE b):jx i b:=⟨h.slot,h.just,h.fin,h.j,h.f,fun _=>h.rt⟩
theorem Tq{n:Int}(h0:0<=n)(h1:n<=99):wa n≠Vy:=by
 intro h;have h2:(wa n).1.getD 0 0=Vy.1.getD 0 0:=by rw[h]
 have h3:(wa n).1.getD 0 0=Il n:=rfl;rw[h3]at h2;have h4:Vy.1.getD 0 0=Il 100:=rfl;rw[h4]at h2;have h5:=tX n;rw[h2,<-tX 100,show IntKind.u8.wrap 100=100 from rfl,show IntKind.u8.wrap n=n from by rw[IntKind.wrap_u8];omega]at h5;omega
theorem dN{k:Int}{n:Nat}(hk:0<=k)(hn:0<n):∃p:Nat,Int.tmod k (n:Int)=p/\p<n:=by
 obtain⟨m,rfl⟩:=Int.eq_ofNat_of_zero_le hk;exact⟨m%n,(Int.ofNat_tmod m n).symm,Nat.mod_lt _ hn⟩
theorem mU{k:Int}(n:Nat)(hk:0<=k):0<=fH .i64 k n:=by
 unfold fH;have hp:(0:Int)<2 ^ (min n IntKind.i64.bits):=Int.pow_pos (by decide);rw[Int.fdiv_eq_ediv_of_nonneg _ (Int.le_of_lt hp)];exact Int.ediv_nonneg hk (Int.le_of_lt hp)
theorem IA(s:am)(i:Nat)(hi:bi s i)(httd:WdG s.cfg.ttd)(n k:Int)(hk:0<=k)(hn0:0<=n)(hn1:n<=99)(h24:i<=24):Sm zE fun b=>PC Tryz.prog 54 [.agg (aw s.a),.int .i64 n,.int .i64 k] (.agg (aA b)):=by
 have hr:=hi.r;have hpos:=hi.tree.pos;have hn:=hi.nn;refine lu 12 K6 (by simp) puA (fun r _=>puA) ?_;unfold xZ;refine bd ?_;obtain⟨p0,hp0,hp0'⟩:=dN hk hpos
 obtain⟨m,hm,hm0,hm1⟩:∃m:Nat,(if (s.nodes.length:Int)<3 then (s.nodes.length:Int)else 3)=m/\0<m/\m<=s.nodes.length:=by
  by_cases h3:(s.nodes.length:Int)<3
  ·rw[if_pos h3];exact⟨_,rfl,hpos,Nat.le_refl _⟩
  ·rw[if_neg h3];exact⟨3,rfl,by decide,by omega⟩
 obtain⟨q,hq,hq'⟩:=dN (k:=(p0:Int)) (by omega) hm0;have hl1:IntKind.i64.wrap ((s.nodes.length:Int)-1)=((s.nodes.length-1:Nat):Int):=by rw[aK (by omega) (by omega)];omega
 have hl2:IntKind.i64.wrap (((s.nodes.length-1:Nat):Int)-q)=((s.nodes.length-1-q:Nat):Int):=by rw[aK (by omega) (by omega)];omega
 refine dz ?_;refine fX ?_;refine dz ?_;repeat(first|refine fX ?_|simp only[go_sem,hp0])
 refine dz ?_;refine zq (fun p:Nat=>p<s.nodes.length) (fun p=>[(7,.int .i64 p)]) ?_ (fun p hp=>?_)
 ·repeat'(first|refine cQ ?_|simp only[go_sem,hm,hq,hl1,hl2]|(refine bB (fun h=>?_) (fun h=>?_)<;>try(exact absurd h (by decide)))|refine eA (fun h=>?_) (fun h=>?_))
  ·exact⟨s.nodes.length-1-q,by omega,by exact adk [] [0,1]⟩
  ·exact⟨p0,hp0',by exact adk [] [0,1]⟩
 clear hm hq hl1 hl2 hp0;have hg:=dy (t:=s.nodes) hp;have hu:=hi.blk hp;generalize nod s.nodes p=up at *;refine dz ?_;repeat(first|refine fX ?_|simp only[go_sem,hg])
 refine dz ?_;refine fX ?_;refine d6 (ie n) ?_;refine kQ ?_;have hnw:=hi.nw.1;have huf:=hi.uf;have hsp:=hi.cfg.s1;obtain⟨v1,v2,v3,v4,v5,v6⟩:=hu;have v7:=Tq hn0 hn1;have v6:=v6 h24;have hw0:=Ch;refine dz ?_;refine jq zE aA 4 [] ?_ (fun b h=>?_)
 ·repeat'(first|refine cQ ?_|(refine bB (fun h=>?_) (fun h=>?_)<;>try(exact absurd h (by decide)))|refine eA (fun h=>?_) (fun h=>?_))
  all_goals(refine iL aA 4 rfl ?_ (by exact adk [] [0,1,2,3,4]);constructor<;>(try dsimp only)<;>first|assumption|exact cH _)
 obtain⟨a1,a2,a3,a4,a5,a6,a7,a8⟩:=h;refine dz ?_;refine jq zE aA 4 [] ?_ (fun b h=>?_)
 ·repeat'(first|refine cQ ?_|(refine bB (fun h=>?_) (fun h=>?_)<;>try(exact absurd h (by decide)))|refine eA (fun h=>?_) (fun h=>?_))
  ·refine dg (ie _) ?_;repeat'(first|refine cQ ?_|(refine bB (fun h=>?_) (fun h=>?_)<;>try(exact absurd h (by decide)))|refine eA (fun h=>?_) (fun h=>?_))
   (refine iL aA 4 rfl ?_ (by exact adk [] [0,1,2,3,4]);constructor<;>(try dsimp only)<;>first|assumption|exact cH _)
  ·(refine iL aA 4 rfl ?_ (by exact adk [] [0,1,2,3,4]);constructor<;>(try dsimp only)<;>first|assumption|exact cH _)
 obtain⟨a1,a2,a3,a4,a5,a6,a7,a8⟩:=h;refine dz ?_;refine fX ?_;generalize hE:IntKind.u64.wrap (Int.tdiv b.slot s.cfg.spe)=E at *;have hE':U64 E:=hE▸cH _;have hc:=zN (s:=s) (i:=(p:Int)) huf hE';have c1:=xW s hr p E;generalize Qu s p E=c at *;refine dz ?_;refine jq zE aA 4 [] ?_ (fun b h=>?_)
 ·repeat'(first|refine cQ ?_|(refine bB (fun h=>?_) (fun h=>?_)<;>try(exact absurd h (by decide)))|refine eA (fun h=>?_) (fun h=>?_))
  refine dg c1 ?_;repeat'(first|refine cQ ?_|(refine bB (fun h=>?_) (fun h=>?_)<;>try(exact absurd h (by decide)))|refine eA (fun h=>?_) (fun h=>?_))
  all_goals(refine iL aA 4 rfl ?_ (by exact adk [] [0,1,2,3,4]);constructor<;>(try dsimp only)<;>first|assumption|exact cH _)
 obtain⟨a1,a2,a3,a4,a5,a6,a7,a8⟩:=h;refine dz ?_;refine jq zE aA 4 [] ?_ (fun b h=>?_)
 ·repeat'(first|refine cQ ?_|(refine bB (fun h=>?_) (fun h=>?_)<;>try(exact absurd h (by decide)))|refine eA (fun h=>?_) (fun h=>?_))
  all_goals(refine iL aA 4 rfl ?_ (by exact adk [] [0,1,2,3,4]);constructor<;>(try dsimp only)<;>first|assumption|exact cH _)
 obtain⟨a1,a2,a3,a4,a5,a6,a7,a8⟩:=h;have sw0:∀ (w:Wd) (x:Int),spl (wdc w) 0 [.int .u64 x]=wdc (w.set 0 x):=fun w x=>oZ w (by decide) x
 have hw9:WdG (wd0.set 0 99):=hw0.set _ ⟨by decide,by decide⟩;refine dz ?_;refine jq zE aA 4 [] ?_ (fun b h=>?_)
 ·repeat'(first|refine cQ ?_|simp only[go_sem,sw0]|(refine bB (fun h=>?_) (fun h=>?_)<;>try(exact absurd h (by decide)))|refine eA (fun h=>?_) (fun h=>?_))
  all_goals try refine dg (ie _) ?_
  all_goals try repeat'(first|refine cQ ?_|simp only[go_sem,sw0]|(refine bB (fun h=>?_) (fun h=>?_)<;>try(exact absurd h (by decide)))|refine eA (fun h=>?_) (fun h=>?_))
  all_goals(refine iL aA 4 rfl ?_ (by exact adk [] [0,1,2,3,4]);constructor<;>(try dsimp only)<;>first|assumption|exact cH _)
 obtain⟨a1,a2,a3,a4,a5,a6,a7,a8⟩:=h;obtain⟨w1,hw1,cw1⟩:=P8 (fH .i64 k 3);obtain⟨p5,hp5,hp5'⟩:=dN (mU 3 hk) hpos;have hg5:=dy (t:=s.nodes) hp5';have v8:=(hi.blk hp5').rt h24;refine dz ?_;refine jq zE aA 4 [] ?_ (fun b h=>?_)
 ·repeat'(first|refine cQ ?_|simp only[go_sem,hp5,hg5]|(refine bB (fun h=>?_) (fun h=>?_)<;>try(exact absurd h (by decide)))|refine eA (fun h=>?_) (fun h=>?_))
  all_goals try first|refine dg (ie _) ?_|refine dg cw1 ?_
  all_goals try repeat'(first|refine cQ ?_|simp only[go_sem,hp5,hg5]|(refine bB (fun h=>?_) (fun h=>?_)<;>try(exact absurd h (by decide)))|refine eA (fun h=>?_) (fun h=>?_))
  all_goals(refine iL aA 4 rfl ?_ (by exact adk [] [0,1,2,3,4]);constructor<;>(try dsimp only)<;>first|assumption|exact cH _)
 refine cQ ?_;refine F7 (by first|rfl|exact evd) (by first|rfl|exact evd) ?_;exact h
end Go.Proofs.YtnjdpnfglgcjcaaGreat
