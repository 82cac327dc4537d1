/- Joined. -/
import Derived.Test.YtmpddimhleianaaGreatV7
import Derived.Test.YtmpddimhleianaaGreatW3
import Derived.Test.YtmpddimhleianaaGreatW6
import Derived.Test.YtmpddimhleianaaGreatU1
set_option linter.unusedVariables false
set_option linter.unusedSimpArgs false
set_option maxRecDepth 8000
set_option maxHeartbeats 4000000
namespace Go.Proofs.YtmpddimhleianaaGreat
open Go Go.FH Go.RowKit
def atN(l:List Int)(i:Nat):Int:=
 if l.length=0 then lI .i64 i 65535 else IntKind.i64.wrap (lI .i64 (l.getD (i%l.length) 0) 16777215+((i / l.length:Nat):Int))
theorem er(l:List Int)(i:Nat)(hi:i<=1000):0<=atN l i/\atN l i<=16778215:=by
 unfold atN;split
 ·obtain⟨r,h1,h2⟩:=Ci (i:Int) 65535 WN WN;rw[h1];omega
 ·obtain⟨r,h1,h2⟩:=Ci (l.getD (i%l.length) 0) 16777215 WN WN;have h3:i / l.length<=i:=Nat.div_le_self _ _;rw[h1];generalize i / l.length=q at *;rw[aL WL WL];omega
theorem fL(l:List Int)(c:Bool)(i:Nat)(hi:i<=1000):PC Tryz.prog 41 [.sl 1 c (aH .i64 l),.int .i64 i] (.int .i64 (atN l i)):=by
 refine ae 5 ?_;unfold atN;by_cases h0:l.length=0
 ·have e0:((l.length:Int)==0)=true:=by simp[h0]
  rw[al7 h0];refine aM e0 ?_;exact ai
 ·have e0:((l.length:Int)==0)=false:=by simp;intro h;exact h0 (by simp[h])
  have e1:Int.tmod (i:Int) (l.length:Int)=((i%l.length:Nat):Int):=(Int.ofNat_tmod i l.length).symm;have e2:Int.tdiv (i:Int) (l.length:Int)=((i / l.length:Nat):Int):=(Int.ofNat_tdiv i l.length).symm;have hm:i%l.length<l.length:=Nat.mod_lt _ WL;have hd:i / l.length<=i:=Nat.div_le_self _ _;have hgd:=gdn (k:=.i64) hm;rw[al5 h0];refine bJ e0 ?_;generalize i%l.length=m at *;generalize i / l.length=q at *;have e3:IntKind.i64.wrap (q:Int)=(q:Int):=aL WL WL;refine pz e1 e2 hgd e3 ?_;exact ai
theorem xx:WdG wd0:=fun n hn=>by
 have:n=0:=by simpa[wd0]using hn
 subst this;decide
def DF(s:ap)(i e:Int):Cp:=if atT s.nodes i (IntKind.u64.wrap (e*s.cfg.spe))<0 then s.f else ⟨e,(nod s.nodes (atT s.nodes i (IntKind.u64.wrap (e*s.cfg.spe))).toNat).blk.root⟩
theorem tM{s:ap}{i e:Int}(h:U64 s.f.ep)(he:U64 e):U64 (DF s i e).ep:=by unfold DF;split<;>assumption
theorem rx(s:ap)(h:StR s)(i e:Int):PC Tryz.prog 97 [.agg (aE s.a),.int .i64 i,.int .u64 e] (.agg (cpC (DF s i e))):=by
 refine ae 8 ?_;have c1:=KF s.nodes h.tree.ok h.bn i (IntKind.u64.wrap (e*s.cfg.spe));have hb:=Ib h.tree.ok i (IntKind.u64.wrap (e*s.cfg.spe));unfold DF;generalize atT s.nodes i (IntKind.u64.wrap (e*s.cfg.spe))=A at *;refine gon ?_;refine ahG c1 ?_;by_cases q1:A<0
 ·have e1:=au q1;rw[al7 q1];refine aM e1 ?_;exact ai
 ·have e1:=aA q1;have hg:=dy (t:=s.nodes) (i:=A.toNat) WL;rw[al5 q1];refine bJ e1 ?_;refine ah hg ?_;exact ai
theorem WdG.set{w:Wd}(h:WdG w)(j:Nat){x:Int}(hx:U64 x):WdG (w.set j x):=fun n hn=>by
 rcases akU hn with h1|rfl
 ·exact h n h1
 ·exact⟨hx.lo,hx.hi⟩
theorem DA(n:Int):Sm WdG fun w=>PC Tryz.prog 98 [.int .i64 n] (.agg (wdc w)):=by
 refine md 30 BW WM puA (fun r _=>puA) ?_;unfold uL;refine bd ?_;obtain⟨r2,h2,h2'⟩:=Ci (fJ .i64 n 9) 3 WN WN;have u0:U64 0:=⟨WN,WN⟩;have u1:U64 18446744073709551615:=⟨WN,WN⟩
 have u2:U64 (fJ .u64 18446744073709551615 (IntKind.u64.wrap (lI .i64 (fJ .i64 n 9) 63)).toNat):=by
  obtain⟨r3,h3,h3'⟩:=Ci (fJ .i64 n 9) 63 WN WN;rw[h3,aN WL WL,amw];unfold fJ;have hp:(0:Int)<2 ^ (min r3 IntKind.u64.bits):=Int.pow_pos WN;rw[aj4 _ (ala hp)];exact⟨akD WN (ala hp),Int.lt_of_le_of_lt (akS _ WN) WN⟩
 have sw:∀ (w:Wd) (x:Int),spl (wdc w) r2 [.int .u64 x]=wdc (w.set r2 x):=fun w x=>oI w WL x
 have sw3:∀ (w:Wd) (x:Int),spl (wdc w) 3 [.int .u64 x]=wdc (w.set 3 x):=fun w x=>oI w WN x
 have sw0:∀ (w:Wd) (x:Int),spl (wdc w) 0 [.int .u64 x]=wdc (w.set 0 x):=fun w x=>oI w WN x
 have sw1:∀ (w:Wd) (x:Int),spl (wdc w) 1 [.int .u64 x]=wdc (w.set 1 x):=fun w x=>oI w WN x
 repeat'(first|refine cM ?_|simp only[go_sem,h2,amv,sw,sw0,sw1,sw3]|(refine bR (fun h=>?_) (fun h=>?_)<;>try(exact absurd h WN))|refine eo (fun h=>?_) (fun h=>?_))
 all_goals refine I5 (by first|rfl|exact evd) (by first|rfl|exact evd) ?_
 ·exact(xx.set _ (ce _)).set _ (ce _)
 ·exact(xx.set _ u1).set _ u2
 ·exact(xx.set _ (ce _)).set _ (ce _)
 ·exact xx.set _ (ce _)
structure Di(b:Blk):Prop where
 slot:U64 b.slot
 just:U64 b.just.ep
 fin:U64 b.fin.ep
 j:U64 b.pul.j.ep
 f:U64 b.pul.f.ep
 diff:WdG b.diff
 pdiff:WdG b.pdiff
theorem Di.u{b:Blk}(h:Di b):NQ b:=⟨h.slot,h.just,h.fin,h.j,h.f⟩
theorem Di.w{b:Blk}{i:Nat}(h:Di b):np i b:=⟨h.slot,h.just,h.fin,h.j,h.f,h.diff,h.pdiff⟩
theorem WV{n:Int}(h0:0<=n)(h1:n<=99):zk n≠Y1:=by
 intro h;have h2:(zk n).1.getD 0 0=Y1.1.getD 0 0:=by rw[h]
 have h3:(zk n).1.getD 0 0=LM n:=rfl;rw[h3]at h2;have h4:Y1.1.getD 0 0=LM 100:=rfl;rw[h4]at h2;have h5:=vQ n;rw[h2,<-vQ 100,show IntKind.u8.wrap 100=100 from rfl,show IntKind.u8.wrap n=n from by rw[IntKind.wrap_u8];omega]at h5;omega
theorem dF{k:Int}{n:Nat}(hk:0<=k)(hn:0<n):∃p:Nat,Int.tmod k (n:Int)=p/\p<n:=by
 obtain⟨m,rfl⟩:=ajO hk;exact⟨m%n,(Int.ofNat_tmod m n).symm,Nat.mod_lt _ hn⟩
theorem mr{k:Int}(n:Nat)(hk:0<=k):0<=fJ .i64 k n:=by
 unfold fJ;have hp:(0:Int)<2 ^ (min n IntKind.i64.bits):=Int.pow_pos WN;rw[aj4 _ (ala hp)];exact akD hk (ala hp)
theorem F3(s:ap)(i:Nat)(hi:bP s i)(httd:WdG s.cfg.ttd)(n k:Int)(hk:0<=k)(hn0:0<=n)(hn1:n<=99)(h24:i<=34):Sm Di fun b=>PC Tryz.prog 49 [.agg (aE s.a),.int .i64 n,.int .i64 k] (.agg (aO b)):=by
 have hr:=hi.r;have hpos:=hi.tree.pos;have hn:=hi.nn;refine md 12 Ag WM puA (fun r _=>puA) ?_;unfold rz;refine bd ?_;obtain⟨p0,hp0,hp0'⟩:=dF hk hpos
 obtain⟨m,hm,hm0,hm1⟩:∃m:Nat,(if (s.nodes.length:Int)<3 then (s.nodes.length:Int)else 3)=m/\0<m/\m<=s.nodes.length:=by
  by_cases h3:(s.nodes.length:Int)<3
  ·rw[al7 h3];exact⟨_,rfl,hpos,amb _⟩
  ·rw[al5 h3];exact⟨3,rfl,WN,WL⟩
 obtain⟨q,hq,hq'⟩:=dF (k:=(p0:Int)) WL hm0;have hl1:IntKind.i64.wrap ((s.nodes.length:Int)-1)=((s.nodes.length-1:Nat):Int):=by rw[aL WL WL];omega
 have hl2:IntKind.i64.wrap (((s.nodes.length-1:Nat):Int)-q)=((s.nodes.length-1-q:Nat):Int):=by rw[aL WL WL];omega
 refine dv ?_;refine gU ?_;refine dv ?_;repeat(first|refine gU ?_|simp only[go_sem,hp0])
 refine dv ?_;refine tE (fun p:Nat=>p<s.nodes.length) (fun p=>[(7,.int .i64 p)]) ?_ (fun p hp=>?_)
 ·repeat'(first|refine cM ?_|simp only[go_sem,hm,hq,hl1,hl2]|(refine bR (fun h=>?_) (fun h=>?_)<;>try(exact absurd h WN))|refine eo (fun h=>?_) (fun h=>?_))
  ·exact⟨s.nodes.length-1-q,WL,by exact ais [] [0,1]⟩
  ·exact⟨p0,hp0',by exact ais [] [0,1]⟩
 clear hm hq hl1 hl2 hp0;have hg:=dy (t:=s.nodes) hp;have hu:=hi.blk hp;generalize nod s.nodes p=up at *;refine dv ?_;repeat(first|refine gU ?_|simp only[go_sem,hg])
 refine dv ?_;refine gU ?_;refine dZ (ig n) ?_;refine lz ?_;have hnw:=hi.nw.1;have huf:=hi.uf;have hsp:=hi.cfg.s1;obtain⟨v1,v2,v3,v4,v5,v6⟩:=hu;have hw0:=xx;refine dv ?_;refine kj Di aO 4 [] ?_ (fun b h=>?_)
 ·repeat'(first|refine cM ?_|(refine bR (fun h=>?_) (fun h=>?_)<;>try(exact absurd h WN))|refine eo (fun h=>?_) (fun h=>?_))
  all_goals(refine jM aO 4 rfl ?_ (by exact ais [] [0,1,2,3,4]);constructor<;>(try dsimp only)<;>first|assumption|exact ce _)
 obtain⟨a1,a2,a3,a4,a5,a6,a7⟩:=h;refine dv ?_;refine kj Di aO 4 [] ?_ (fun b h=>?_)
 ·repeat'(first|refine cM ?_|(refine bR (fun h=>?_) (fun h=>?_)<;>try(exact absurd h WN))|refine eo (fun h=>?_) (fun h=>?_))
  ·refine db (ig _) ?_;repeat'(first|refine cM ?_|(refine bR (fun h=>?_) (fun h=>?_)<;>try(exact absurd h WN))|refine eo (fun h=>?_) (fun h=>?_))
   (refine jM aO 4 rfl ?_ (by exact ais [] [0,1,2,3,4]);constructor<;>(try dsimp only)<;>first|assumption|exact ce _)
  ·(refine jM aO 4 rfl ?_ (by exact ais [] [0,1,2,3,4]);constructor<;>(try dsimp only)<;>first|assumption|exact ce _)
 obtain⟨a1,a2,a3,a4,a5,a6,a7⟩:=h;refine dv ?_;refine gU ?_;generalize hE:IntKind.u64.wrap (Int.tdiv b.slot s.cfg.spe)=E at *;have hE':U64 E:=hE▸ce _;have hc:=tM (s:=s) (i:=(p:Int)) huf hE';have c1:=rx s hr p E;generalize DF s p E=c at *;refine dv ?_;refine kj Di aO 4 [] ?_ (fun b h=>?_)
 ·repeat'(first|refine cM ?_|(refine bR (fun h=>?_) (fun h=>?_)<;>try(exact absurd h WN))|refine eo (fun h=>?_) (fun h=>?_))
  refine db c1 ?_;repeat'(first|refine cM ?_|(refine bR (fun h=>?_) (fun h=>?_)<;>try(exact absurd h WN))|refine eo (fun h=>?_) (fun h=>?_))
  all_goals(refine jM aO 4 rfl ?_ (by exact ais [] [0,1,2,3,4]);constructor<;>(try dsimp only)<;>first|assumption|exact ce _)
 obtain⟨a1,a2,a3,a4,a5,a6,a7⟩:=h;refine dv ?_;refine kj Di aO 4 [] ?_ (fun b h=>?_)
 ·repeat'(first|refine cM ?_|(refine bR (fun h=>?_) (fun h=>?_)<;>try(exact absurd h WN))|refine eo (fun h=>?_) (fun h=>?_))
  all_goals(refine jM aO 4 rfl ?_ (by exact ais [] [0,1,2,3,4]);constructor<;>(try dsimp only)<;>first|assumption|exact ce _)
 obtain⟨a1,a2,a3,a4,a5,a6,a7⟩:=h;have sw0:∀ (w:Wd) (x:Int),spl (wdc w) 0 [.int .u64 x]=wdc (w.set 0 x):=fun w x=>oI w WN x
 have hw9:WdG (wd0.set 0 99):=hw0.set _ ⟨WN,WN⟩;refine dv ?_;refine kj Di aO 4 [] ?_ (fun b h=>?_)
 ·repeat'(first|refine cM ?_|simp only[go_sem,sw0]|(refine bR (fun h=>?_) (fun h=>?_)<;>try(exact absurd h WN))|refine eo (fun h=>?_) (fun h=>?_))
  all_goals try refine db (ig _) ?_
  all_goals try repeat'(first|refine cM ?_|simp only[go_sem,sw0]|(refine bR (fun h=>?_) (fun h=>?_)<;>try(exact absurd h WN))|refine eo (fun h=>?_) (fun h=>?_))
  all_goals(refine jM aO 4 rfl ?_ (by exact ais [] [0,1,2,3,4]);constructor<;>(try dsimp only)<;>first|assumption|exact ce _)
 obtain⟨a1,a2,a3,a4,a5,a6,a7⟩:=h;obtain⟨w1,hw1,cw1⟩:=DA (fJ .i64 k 3);obtain⟨p5,hp5,hp5'⟩:=dF (mr 3 hk) hpos;have hg5:=dy (t:=s.nodes) hp5';refine dv ?_;refine kj Di aO 4 [] ?_ (fun b h=>?_)
 ·repeat'(first|refine cM ?_|simp only[go_sem,hp5,hg5]|(refine bR (fun h=>?_) (fun h=>?_)<;>try(exact absurd h WN))|refine eo (fun h=>?_) (fun h=>?_))
  all_goals try first|refine db (ig _) ?_|refine db cw1 ?_
  all_goals try repeat'(first|refine cM ?_|simp only[go_sem,hp5,hg5]|(refine bR (fun h=>?_) (fun h=>?_)<;>try(exact absurd h WN))|refine eo (fun h=>?_) (fun h=>?_))
  all_goals(refine jM aO 4 rfl ?_ (by exact ais [] [0,1,2,3,4]);constructor<;>(try dsimp only)<;>first|assumption|exact ce _)
 refine cM ?_;refine I5 (by first|rfl|exact evd) (by first|rfl|exact evd) ?_;exact h
theorem Mc(n:Nat)(bits:Int)(hn:n<=2097152):agW Tryz.prog 31 0 (dm.tl 2).hd ⟨7,[.int .i64 n,.int .i64 bits,.dead,.dead,.sl 0 true [],.hs 1 0 0 0,.dead],[]⟩ [.vec 1 []]
 ⟨7,[.int .i64 n,.int .i64 bits,.dead,.dead,.sl 0 true [],.hs 1 0 0 (kc bits n).length,.dead],[]⟩ [.vec 1 (aH .i64 (kc bits n))]:=by
 refine Cf ?_;unfold dm;refine bd ?_;simp only[ab.tl,ab.hd];refine gon ?_;have hz:kc bits 0=[]:=rfl;refine az (fun i:Nat=>[(6,.int .i64 i),(5,.hs 1 0 0 (kc bits i).length)]) (fun i=>[.vec 1 (aH .i64 (kc bits i))]) (fun i=>n-i) (fun i=>i<=n) 0 (amc _) ?_ ?_
 ·rw[hz];exact ais [] [0]
 intro i hi;have hlen:=qk bits i;refine dp ?_;by_cases h1:i<n
 ·have e1:=inT h1
  have hw:=af h1 WL;have hu:IntKind.u64.wrap (i:Int)=(i:Int):=aN WL WL;have hs:=FK bits i;have hnum:∀l:List Int,aH .i64 l++[[.int .i64 (i:Int)]]=aH .i64 (l++[(i:Int)]):=fun l=>kP .i64 l [(i:Int)]
  cases hq:(lI .i64 (fJ .i64 bits i) 1==1)with
  | true =>
    rw[hq,al7 rfl]at hs;refine bw e1 ?_;refine mQ hu hq ?_;refine aZ hw hnum ?_;refine⟨i+1,h1,WL,?_⟩;simp only[hs,akC,al8,ama,amO];exact ais [] [1]
  | false =>
    rw[hq,al5 WM]at hs;refine bw e1 ?_;refine fp hu hq ?_;refine ah hw ?_;refine⟨i+1,h1,WL,?_⟩;simp only[hs];exact ais [] [0]
 ·obtain rfl:i=n:=WL
  have e1:decide ((i:Int)<(i:Int))=false:=aA WL;refine aF e1 ?_;exact ais [] [0]
theorem Kx(n:Nat)(bits:Int)(h0:0<n)(hn:n<=2097152):(∃l:List Int,l.length<=n/\ay Tryz.prog 99 [.int .i64 n,.int .i64 bits] [] (.hs 1 0 0 l.length) [.vec 1 (aH .i64 l)]) \/
 PC Tryz.prog 99 [.int .i64 n,.int .i64 bits] (.sl 1 true (aH .i64 [0])):=by
 have hg:=Mc n bits hn;have hc:dm=.seq dm.hd (.seq (dm.tl 1).hd (.seq (dm.tl 2).hd (dm.tl 3))):=rfl;have e3:decide ((0:Int)<(n:Int))=true:=au WL;have hlen:=qk bits n;by_cases hq:kc bits n=[]
 ·right
  refine pfn 7 pl ?_;rw[hc];generalize (dm.tl 2).hd=L at *;unfold dm;refine bd ?_;simp only[ab.hd,ab.tl];rw[hq]at hg;refine gon ?_;refine jx 5 1 ?_;simp only[go_sem];refine hg _ _ _ ?_;refine aM e3 ?_;exact ai
 ·left
  have hp:0<(kc bits n).length:=ajX.2 hq;refine⟨kc bits n,hlen,ay.fact 7 pl WM ?_ WM⟩;rw[hc];generalize (dm.tl 2).hd=L at *;unfold dm;refine bd ?_;simp only[ab.hd,ab.tl];generalize kc bits n=l at *;have e4:((l.length:Int)==0)=false:=by rw[<-amZ,am0];omega
  refine gon ?_;refine jx 5 1 ?_;simp only[go_sem];refine hg _ _ _ ?_;repeat(first|refine bY ?_|simp only[go_sem,e4])
  refine agE ?_;exact ahY [] [0]
structure Mm(x:bp):Prop where
 slot:U64 x.slot
 ep:U64 x.target.ep
 len:x.vals.length<=10
section
variable{fr:Fr}{σ:St}{rs:List gN}{G:bp->Prop}{l:List AV}{a:Int}{b:Rt}{c:Cp}{d:List Int}
theorem Fy(hl:dH fr σ rs=some l)(hv:fz σ (List.range σ.length) (gk l)=.agg (cy ⟨a,b,c,.sl 1 false (aH .i64 d)⟩))(hg:G ⟨a,b,c,d⟩):Sm G fun x=>PQ rs (.agg (cy x.a)) .ret fr σ:=⟨_,hg,l,hl,.inl hv⟩
theorem Kv(hl:dH fr σ rs=some l)(hv:fz σ (List.range σ.length) (gk l)=.agg (cy ⟨a,b,c,.sl 1 true (aH .i64 d)⟩))(hg:G ⟨a,b,c,d⟩):Sm G fun x=>PQ rs (.agg (cy x.a)) .ret fr σ:=
 ⟨_,hg,l,hl,.inr ⟨_,hv,(fB _).2 (bE _ _),Wk.agg (WkC.same _ ((WkC.refl _).app ((WkC.refl _).app (WkC.one (Wk.open_ _ _ _) fun h=>h))))⟩⟩
end
theorem FX(s:ap)(i:Nat)(hi:bP s i)(k:Int)(hk:0<=k):Sm Mm fun x=>PC Tryz.prog 50 [.agg (aE s.a),.int .i64 k] (.agg (cy x.a)):=by
 have hr:=hi.r;have hpos:=hi.tree.pos;have hb0:=hi.cfg.b0;have hb1:=hi.cfg.b1;have hnw:=hi.nw.1;have huf:=hi.uf;have hsp:=hi.cfg.s1;have hs0:=Kx s.cfg.bals.length (fJ .i64 k 3) hb0 WL;obtain⟨p,hp,hp'⟩:=dF hk hpos;obtain⟨p4,hp4,hp4'⟩:=dF (mr 4 hk) hpos;have hg:=dy (t:=s.nodes) hp';have hg4:=dy (t:=s.nodes) hp4';rcases hs0 with⟨l,hl,cs⟩|cs
 ·refine md 7 mz WM puA (fun r _=>puA) ?_
  unfold ko;refine bd ?_;repeat(first|refine cM ?_|simp only[go_sem,hp,hg])
  refine iR (fun r hr=>aQ [] cs WM evd (bj.mk' WM WM evd) hr) ?_;repeat(first|refine lz ?_|simp only[go_sem,hg])
  generalize (nod s.nodes p).blk.root=r0 at *;refine dv ?_;refine kj U64 (fun x:Int=>cy ⟨x,r0,⟨0,rt0⟩,.hs 1 2 0 l.length⟩) 3 [] ?_ (fun x hx=>?_)
  ·repeat'(first|refine cM ?_|(refine bR (fun h=>?_) (fun h=>?_)<;>try(exact absurd h WN))|refine eo (fun h=>?_) (fun h=>?_))
   all_goals(refine jM (fun x:Int=>cy ⟨x,r0,⟨0,rt0⟩,.hs 1 2 0 l.length⟩) 3 rfl ?_ (by exact ais [] [0,1,2,3]);first|assumption|exact ce _)
  (try simp only[dr])
  refine cM ?_;generalize hE:IntKind.u64.wrap (Int.tdiv x s.cfg.spe)=E at *;have hE':U64 E:=hE▸ce _;have hc:=tM (s:=s) (i:=(p:Int)) huf hE';have c1:=rx s hr p E;generalize DF s p E=c at *;refine dZ c1 ?_;repeat'(first|refine cM ?_|simp only[go_sem,hg4,hp4,o7]|(refine bR (fun h=>?_) (fun h=>?_)<;>try(exact absurd h WN))|refine eo (fun h=>?_) (fun h=>?_))
  all_goals try(refine db (ig _) ?_;refine cM ?_)
  all_goals(refine Fy (by first|rfl|exact evd) (by first|rfl|exact evd) ?_)
  all_goals(constructor<;>(try dsimp only)<;>first|assumption|exact ce _|exact tM huf (ce _)|(simp only[akC,al8,ama];omega)|omega)
 ·refine md 7 mz WM puA (fun r _=>puA) ?_
  unfold ko;refine bd ?_;repeat(first|refine cM ?_|simp only[go_sem,hp,hg])
  refine dZ cs ?_;repeat(first|refine lz ?_|simp only[go_sem,hg])
  generalize (nod s.nodes p).blk.root=r0 at *;refine dv ?_;refine kj U64 (fun x:Int=>cy ⟨x,r0,⟨0,rt0⟩,.sl 1 true (aH .i64 [0])⟩) 3 [] ?_ (fun x hx=>?_)
  ·repeat'(first|refine cM ?_|(refine bR (fun h=>?_) (fun h=>?_)<;>try(exact absurd h WN))|refine eo (fun h=>?_) (fun h=>?_))
   all_goals(refine jM (fun x:Int=>cy ⟨x,r0,⟨0,rt0⟩,.sl 1 true (aH .i64 [0])⟩) 3 rfl ?_ (by exact ais [] [0,1,2,3]);first|assumption|exact ce _)
  (try simp only[dr])
  refine cM ?_;generalize hE:IntKind.u64.wrap (Int.tdiv x s.cfg.spe)=E at *;have hE':U64 E:=hE▸ce _;have hc:=tM (s:=s) (i:=(p:Int)) huf hE';have c1:=rx s hr p E;generalize DF s p E=c at *;refine dZ c1 ?_;repeat'(first|refine cM ?_|simp only[go_sem,hg4,hp4,o7]|(refine bR (fun h=>?_) (fun h=>?_)<;>try(exact absurd h WN))|refine eo (fun h=>?_) (fun h=>?_))
  all_goals try(refine db (ig _) ?_;refine cM ?_)
  all_goals first|(refine Kv (by first|rfl|exact evd) (by first|rfl|exact evd) ?_)|(refine Fy (by first|rfl|exact evd) (by first|rfl|exact evd) ?_)
  all_goals(constructor<;>(try dsimp only)<;>first|assumption|exact ce _|exact tM huf (ce _)|(simp only[akC,al8,ama];omega)|(simp;done)|omega)
structure Mo(x:aW):Prop where
 ep:U64 x.cp.ep
 len:x.bals.length<=10
 bals:∀n∈x.bals,U64 n
def vD(k:Int)(n:Nat):List Int:=(List.range n).map fun v=>IntKind.u64.wrap (Int.tmod (fJ .i64 k v) 50)
theorem BL(k:Int)(n:Nat):(vD k n).length=n:=by simp[vD]
theorem Mu(k:Int)(n:Nat):vD k (n+1)=vD k n++[IntKind.u64.wrap (Int.tmod (fJ .i64 k n) 50)]:=by simp[vD,ake]
theorem Mw(k:Int)(n:Nat):∀x∈vD k n,U64 x:=fun x hx=>by
 unfold vD at hx;obtain⟨v,_,rfl⟩:=amV.1 hx;exact ce _
theorem Me(c:Cp)(u v:AV):(ar ⟨c,u⟩).set 33 v=ar ⟨c,v⟩:=by
 unfold ar;rw[akI 33 _ (by rw[aD];exact amb _),aD];rfl
theorem Md(c:Cp)(u:AV):(ar ⟨c,u⟩).getD 33 .dead=u:=by
 unfold ar;rw[alt,amX (by rw[aD];exact amb _),aD];rfl
theorem JS(k:IntKind)(l:List Int)(i:Nat)(x:Int):(aH k l).set i [.int k x]=aH k (l.set i x):=by simp[aH,al1]
section
variable{fr:Fr}{σ:St}{rs:List gN}{G:aW->Prop}{l:List AV}{c:Cp}{d:List Int}
theorem Mb(hl:dH fr σ rs=some l)(hv:fz σ (List.range σ.length) (gk l)=.agg (ar ⟨c,.sl 1 false (aH .u64 d)⟩))(hg:G ⟨c,d⟩):Sm G fun x=>PQ rs (.agg (ar x.a)) .ret fr σ:=⟨_,hg,l,hl,.inl hv⟩
end
theorem F5(s:ap)(i:Nat)(hi:bP s i)(k:Int)(hk:0<=k):Sm Mo fun x=>PC Tryz.prog 52 [.agg (aE s.a),.int .i64 k] (.agg (ar x.a)):=by
 have hr:=hi.r;have hpos:=hi.tree.pos;have hb0:=hi.cfg.b0;have hb1:=hi.cfg.b1;have hnw:=hi.nw.1;have huf:=hi.uf;have hsp:=hi.cfg.s1;obtain⟨p,hp,hp'⟩:=dF hk hpos;have hg:=dy (t:=s.nodes) hp';have hu:=(hi.blk hp').j;generalize (nod s.nodes p)=up at *;refine md 8 Ai WM puA (fun r _=>puA) ?_;unfold rC;refine bd ?_;refine dv ?_;refine gU ?_;refine dv ?_;repeat(first|refine gU ?_|simp only[go_sem,hp])
 refine dv ?_;repeat(first|refine gU ?_|simp only[go_sem,hg])
 refine dv ?_;refine kj (fun c:Cp=>U64 c.ep) (fun c:Cp=>ar ⟨c,.sl 0 true []⟩) 2 [] ?_ (fun c hc=>?_)
 ·repeat'(first|refine cM ?_|(refine bR (fun h=>?_) (fun h=>?_)<;>try(exact absurd h WN))|refine eo (fun h=>?_) (fun h=>?_))
  ·refine dZ (rx s hr p _) ?_;repeat'(first|refine cM ?_|(refine bR (fun h=>?_) (fun h=>?_)<;>try(exact absurd h WN))|refine eo (fun h=>?_) (fun h=>?_))
   refine jM (fun c:Cp=>ar ⟨c,.sl 0 true []⟩) 2 rfl ?_ (by exact ais [] [0,1,2]);exact tM huf (ce _)
  ·refine jM (fun c:Cp=>ar ⟨c,.sl 0 true []⟩) 2 rfl ?_ (by exact ais [] [0,1,2]);assumption
 (try simp only[dr])
 refine dv ?_;generalize hN:s.cfg.bals.length=N at *;refine I6 (fun l:List Int=>l.length=N/\∀n∈l,U64 n) (fun _=>[]) (fun l=>[.var (aE s.a),.var (ar ⟨⟨0,rt0⟩,.sl 0 true []⟩),.var (ar ⟨c,.hs 1 3 0 l.length⟩),.vec 1 (aH .u64 l)]) ?_ (fun l hl=>?_)
 ·refine W3 (vD k N) ⟨BL k N,Mw k N⟩ ?_
  refine gon ?_;refine pS 2 33 1 ?_ WQ (by exact Md _ _);simp only[go_sem,Me];refine az (fun i:Nat=>[(7,.int .i64 i)]) (fun i=>[.var (aE s.a),.var (ar ⟨⟨0,rt0⟩,.sl 0 true []⟩),.var (ar ⟨c,.hs 1 3 0 (vD k i).length⟩),.vec 1 (aH .u64 (vD k i))]) (fun i=>N-i) (fun i=>i<=N) 0 (amc _) ?_ ?_
  ·rw[show vD k 0=[]from rfl];exact ais [] [0,1,2,3]
  intro i hi;have hlen:=BL k i;by_cases h1:i<N
  ·have e1:decide ((i:Int)<(s.cfg.bals.length:Int))=true:=au WL;have hw:=af h1 WL;have hu:IntKind.u64.wrap (i:Int)=(i:Int):=aN WL WL;have hs:=Mu k i;refine bw e1 ?_;refine aZ hu hw ?_;refine⟨i+1,h1,WL,?_⟩;rw[hs];exact ais [] [0,1,2,4]
  ·obtain rfl:i=N:=WL
   have e1:decide ((i:Int)<(s.cfg.bals.length:Int))=false:=aA WL;refine aF e1 ?_;exact ais [] [0,1,2,3]
 obtain⟨hl1,hl2⟩:=hl;have hgd:=gdn (k:=.u64) (ns:=l) (i:=0) WL;repeat'(first|refine cM ?_|simp only[go_sem,JS,hgd]|(refine bR (fun h=>?_) (fun h=>?_)<;>try(exact absurd h WN))|refine eo (fun h=>?_) (fun h=>?_))
 all_goals(refine Mb (by first|rfl|exact evd) (by first|rfl|exact evd) ?_)
 ·refine⟨hc,by simp only[akC,al8,ama];omega,fun n hn=>?_⟩;rcases amm.1 hn with h|h
  ·exact hl2 n h
  ·rw[amn]at h;subst h;exact⟨WN,WN⟩
 ·refine⟨hc,by simp only[akB];omega,fun n hn=>?_⟩;rcases akU hn with h|rfl
  ·exact hl2 n h
  ·exact⟨WN,WN⟩
 ·exact⟨hc,by dsimp only;omega,hl2⟩
structure Nu(v:Vdt):Prop where
 tag:U64 v.tag
 lo:1<=v.kind
 hi:v.kind<=4
theorem Ga(s:aI)(i:Nat)(hi:fQ s i)(k:Int)(hk:0<=k):Sm Nu fun v=>PC Tryz.prog 53 [.agg (aV s.a),.int .i64 k] (.agg (cA v)):=by
 have hr:=hi.sto.r;have hpos:=hi.sto.tree.pos;have hrq:=hi.rq;have hii:=hi.sto.ii;have hut:=hi.ut;obtain⟨p,hp,hp'⟩:=dF hk hpos;have hg:=dy (t:=s.sto.nodes) hp';obtain⟨q,hq,hq'⟩:=dF (n:=6) (mr 4 hk) WN
 obtain⟨kd,hkd,hk1,hk4⟩:∃kd:Int,([[.int .i64 1],[.int .i64 1],[.int .i64 2],[.int .i64 2],[.int .i64 3],[.int .i64 4]]:List (List AV)).getD q []=[.int .i64 kd]/\1<=kd/\kd<=4:=by
  match q,hq' with
  |0,_|1,_=>exact⟨1,rfl,WN,WN⟩
  |2,_|3,_=>exact⟨2,rfl,WN,WN⟩
  |4,_=>exact⟨3,rfl,WN,WN⟩
  |5,_=>exact⟨4,rfl,WN,WN⟩
 have hq6:Int.tmod (fJ .i64 k 4) 6=(q:Int):=hq;refine md 11 vH WM puA (fun r _=>puA) ?_;unfold o6;refine bd ?_;refine dv ?_;refine gU ?_;refine dv ?_;repeat(first|refine gU ?_|simp only[go_sem,hq6,hkd])
 refine dv ?_;repeat(first|refine gU ?_|simp only[go_sem,hp,hg])
 generalize (nod s.sto.nodes p).blk.root=r0 at *;generalize hT:IntKind.u64.wrap (k.tmod 9)=T at *;have hT':U64 T:=hT▸ce _;refine dv ?_;refine I6 (fun b:Int×Rt=>U64 b.1) (fun _=>[(7,.int .i64 s.reqs.length)]) (fun b=>[.var (aV s.a),.var (cA ⟨0,0,rt0⟩),.var (cA ⟨b.1,kd,rt0⟩),.var (rtc b.2)]) ?_ (fun b hb=>?_)
 ·by_cases hrl:0<s.reqs.length
  ·obtain⟨q1,h1,h1'⟩:=dF (mr 11 hk) hrl;have e1:decide ((0:Int)<(s.reqs.length:Int))=true:=au WL;have hg1:(rows aP s.reqs).getD q1 []=aP (bm s.reqs q1):=aS (f:=aP) gT h1';have hq1:=hut _ (pM h1');generalize bm s.reqs q1=R at *;repeat'(first|refine cM ?_|simp only[go_sem,e1,h1,hg1]|(refine bR (fun h=>?_) (fun h=>?_)<;>try(exact absurd h WN))|refine eo (fun h=>?_) (fun h=>?_))
   ·exact⟨(R.tag,R.block),hq1,by exact ais [] [0,1,2,3]⟩
   all_goals exact⟨(T,r0),hT',by exact ais [] [0,1,2,3]⟩
  ·have e1:decide ((0:Int)<(s.reqs.length:Int))=false:=aA WL;repeat'(first|refine cM ?_|simp only[go_sem,e1]|(refine bR (fun h=>?_) (fun h=>?_)<;>try(exact absurd h WN))|refine eo (fun h=>?_) (fun h=>?_))
   exact⟨(T,r0),hT',by exact ais [] [0,1,2,3]⟩
 obtain⟨T1,r1⟩:=b;simp only[dE,dr,amx,amy]at hb ⊢;refine cM ?_;refine db (cC s.sto.nodes r1 hr.bn) ?_;generalize aj s.sto.nodes r1=I;refine lz ?_;refine dv ?_;have cp:=sd s.sto.nodes hr.tree.ok hr.bn I;have hpm:=fun x hx=>gu (x:=x) hr.tree.ok (i:=I) hx
 have hpl:=pF hr.tree.ok I;have hbn:=hr.bn;generalize AI s.sto.nodes I=L at *;refine kj (fun _:Rt=>True) (fun r:Rt=>cA ⟨T1,kd,r⟩) 2 [] ?_ (fun r2 _=>?_)
 ·by_cases hrl:0<L.length
  ·obtain⟨q1,h1,h1'⟩:=dF (mr 16 hk) hrl;have e1:decide ((0:Int)<(L.length:Int))=true:=au WL;have hg1:=gdn (k:=.i64) h1';have hm:=hpm _ (bK 0 h1');obtain⟨u,hu⟩:=ajO hm.1;rw[hu]at hg1 hm;have hg2:=dy (t:=s.sto.nodes) (i:=u) WL;refine cM ?_;refine db cp ?_;repeat'(first|refine cM ?_|simp only[go_sem,e1,h1,hg1,hg2]|(refine bR (fun h=>?_) (fun h=>?_)<;>try(exact absurd h WN))|refine eo (fun h=>?_) (fun h=>?_))
   all_goals refine jM (fun r:Rt=>cA ⟨T1,kd,r⟩) 2 rfl trivial (by exact ais [] [0,1,2,3])
  ·have e1:decide ((0:Int)<(L.length:Int))=false:=aA WL;refine cM ?_;refine db cp ?_;repeat'(first|refine cM ?_|simp only[go_sem,e1]|(refine bR (fun h=>?_) (fun h=>?_)<;>try(exact absurd h WN))|refine eo (fun h=>?_) (fun h=>?_))
   refine jM (fun r:Rt=>cA ⟨T1,kd,r⟩) 2 rfl trivial (by exact ais [] [0,1,2,3])
 (try simp only[dr])
 repeat'(first|refine cM ?_|(refine bR (fun h=>?_) (fun h=>?_)<;>try(exact absurd h WN))|refine eo (fun h=>?_) (fun h=>?_))
 ·refine db (ig _) ?_;refine cM ?_;refine I5 (by first|rfl|exact evd) (by first|rfl|exact evd) ?_;exact⟨hb,hk1,hk4⟩
 ·refine I5 (by first|rfl|exact evd) (by first|rfl|exact evd) ?_;exact⟨hb,hk1,hk4⟩
structure Qp(c:cU):Prop where
 r:afI c
 new:ib c=0
 bu:∀x∈c.bals,0<=x/\x<40
 bo:0<=c.boost
 g1:c.gen=zk 1
theorem Jo{l:List Int}(h:∀x∈l,0<=x/\x<40)(hl:l.length<=6):∀n,n<=l.length->(dN l n).2=0/\0<=(dN l n).1/\(dN l n).1<=40*n
 |0,_=>⟨rfl,amr _,by show (0:Int)<=_;omega⟩
 | n + 1, hn => by
   obtain⟨h1,h2,h3⟩:=Jo h hl n WL;have hs:dN l (n+1)=FA (dN l n).1 (l.getD n 0):=by show (if (dN l n).2≠0 then dN l n else _)=_;rw[al5 (by simp[h1])]
   have hx:=h _ (bK 0 (show n<l.length by omega));rw[hs];unfold FA;have hw:IntKind.u64.wrap ((dN l n).1+l.getD n 0)=(dN l n).1+l.getD n 0:=aN WL WL;have hw2:IntKind.u64.wrap (18446744073709551615-l.getD n 0)=18446744073709551615-l.getD n 0:=aN WL WL;split
   ·rename_i hh;first|(rw[hw2]at hh;omega)|omega
   ·dsimp only;rw[hw];exact⟨rfl,WL,WL⟩
theorem ad4{c:cU}(h1:1<=c.spe)(h2:c.spe<=64)(h3:c.boost<=100)(h4:c.bals.length<=6)(n1:1<=c.lim.node)(n2:c.lim.node<=4096)(o1:0<=c.lim.orph)(o2:c.lim.orph<=64)(e1:0<=c.lim.early)(e2:c.lim.early<=256)(t1:1<=c.lim.table)(t2:c.lim.table<=64)
 (r1:0<=c.lim.retry) (r2:c.lim.retry<=256) (b1:1<=c.lim.backoff) (b2:c.lim.backoff<=1048576) (hg:c.gen≠rt0) (hb:∀x∈c.bals,0<=x/\x<40):ib c=0:=by
 have w:∀ {n lo hi:Int},lo<=n->n<=hi->wit n lo hi=true:=fun h1 h2=>by unfold wit;rw[au h1,au h2];rfl
 have hs:=Jo hb h4 c.bals.length (amb _)
 have hv:gh ⟨⟨0,c.gen⟩,c.bals⟩ c.bals.length=0:=by
  unfold gh EI;dsimp only;rw[al5 WM,al5];rintro (h|h)
  ·exact h hs.1
  ·omega
 unfold ib;rw[al5 WL,al5 WL,al5 WL,al5 WL,w n1 n2,w o1 o2,w e1 e2,w t1 t2,w r1 r2,al5 WM,al5 WM,al5 WM,al5 WM,al5 WM,al5 WL,al5 WL,al5 hg,hv]
def GY(l:List Int)(n:Nat):List Int:=(List.range n).map fun i=>IntKind.u64.wrap (Int.tmod (atN l (10+i)) 40)
theorem QG(l:List Int)(n:Nat):(GY l n).length=n:=by simp[GY]
theorem adv(l:List Int)(n:Nat)(hn:n<=100):∀x∈GY l n,0<=x/\x<40:=fun x hx=>by
 unfold GY at hx;obtain⟨v,hv,rfl⟩:=amV.1 hx;rw[List.mem_range]at hv;obtain⟨r,h,h'⟩:=dF (n:=40) (er l (10+v) WL).1 WN;have h2:Int.tmod (atN l (10+v)) 40=(r:Int):=h;rw[h2,aN WL WL];omega
theorem afW(l:List Int)(n:Nat):GY l (n+1)=GY l n++[IntKind.u64.wrap (Int.tmod (atN l (10+n)) 40)]:=by simp[GY,ake]
theorem VK(x:Cfg)(v:AV):(bW x).set 44 v=bW { x with bals:=v }:=by
 simp only[bW,akf,cS,bq,ak,al8,Nat.reduceSub,Nat.reduceLT,amj,amy,amx]
theorem VJ(x:Cfg):(bW x).getD 44 .dead=x.bals:=by
 simp only[bW,alt,aj2,cS,bq,ak,al8,Nat.reduceSub,Nat.reduceLT,amj,ajB,amQ,amT]
section
variable{fr:Fr}{σ:St}{rs:List gN}{G:cU->Prop}{l:List AV}{a:Lim}{b c:Int}{d:Wd}{e:Rt}{f:List Int}
end
theorem acG{α:Type}{P:Program}{nt:Nat}{G:α->Prop}{f:FuncId}{rs:List gN}{ac:ab}{args:List AV}{A:α->AV}{S:α->St}(nv:Nat)(hf:aJ P f=some (nt,rs,ac))(ha:args.length<=nt)
 (h:Sm G fun r=>Tri P nt 0 ac (Qq rs 0 (S r) (A r)) ⟨nv,args++List.replicate (nv-args.length) .dead,[]⟩ []):Sm G fun r=>ay P f args [] (A r) (S r):=by
 obtain⟨r,h1,h2⟩:=h;exact⟨r,h1,ay.fact nv hf ha h2 WM⟩
theorem aaA(l:List Int):Sm Qp fun c=>ay Tryz.prog 12 [.sl 1 false (aH .i64 l)] [] (.agg (bW { c.a with bals:=.hs 1 0 0 c.bals.length })) [.vec 1 (aH .u64 c.bals)]:=by
 refine acG 5 J4 WM ?_;unfold yG;refine bd ?_;obtain⟨r0,h0,b0⟩:=dF (n:=8) (er l 0 WN).1 WN;have t0:Int.tmod (atN l 0) 8=(r0:Int):=h0;have a0:PC Tryz.prog 41 [.sl 1 false (aH .i64 l),.int .i64 0] (.int .i64 (atN l 0)):=fL l false 0 WN;obtain⟨r1,h1,b1⟩:=dF (n:=4) (er l 1 WN).1 WN;have t1:Int.tmod (atN l 1) 4=(r1:Int):=h1;have a1:PC Tryz.prog 41 [.sl 1 false (aH .i64 l),.int .i64 1] (.int .i64 (atN l 1)):=fL l false 1 WN;obtain⟨r2,h2,b2⟩:=dF (n:=4) (er l 2 WN).1 WN;have t2:Int.tmod (atN l 2) 4=(r2:Int):=h2;have a2:PC Tryz.prog 41 [.sl 1 false (aH .i64 l),.int .i64 2] (.int .i64 (atN l 2)):=fL l false 2 WN;obtain⟨r3,h3,b3⟩:=dF (n:=4) (er l 3 WN).1 WN;have t3:Int.tmod (atN l 3) 4=(r3:Int):=h3;have a3:PC Tryz.prog 41 [.sl 1 false (aH .i64 l),.int .i64 3] (.int .i64 (atN l 3)):=fL l false 3 WN;obtain⟨r4,h4,b4⟩:=dF (n:=4) (er l 4 WN).1 WN;have t4:Int.tmod (atN l 4) 4=(r4:Int):=h4;have a4:PC Tryz.prog 41 [.sl 1 false (aH .i64 l),.int .i64 4] (.int .i64 (atN l 4)):=fL l false 4 WN;obtain⟨r5,h5,b5⟩:=dF (n:=5) (er l 5 WN).1 WN;have t5:Int.tmod (atN l 5) 5=(r5:Int):=h5;have a5:PC Tryz.prog 41 [.sl 1 false (aH .i64 l),.int .i64 5] (.int .i64 (atN l 5)):=fL l false 5 WN;obtain⟨r6,h6,b6⟩:=dF (n:=4) (er l 6 WN).1 WN;have t6:Int.tmod (atN l 6) 4=(r6:Int):=h6;have a6:PC Tryz.prog 41 [.sl 1 false (aH .i64 l),.int .i64 6] (.int .i64 (atN l 6)):=fL l false 6 WN;obtain⟨r7,h7,b7⟩:=dF (n:=3) (er l 7 WN).1 WN;have t7:Int.tmod (atN l 7) 3=(r7:Int):=h7;have a7:PC Tryz.prog 41 [.sl 1 false (aH .i64 l),.int .i64 7] (.int .i64 (atN l 7)):=fL l false 7 WN;obtain⟨r8,h8,b8⟩:=dF (n:=2) (er l 8 WN).1 WN;have t8:Int.tmod (atN l 8) 2=(r8:Int):=h8;have a8:PC Tryz.prog 41 [.sl 1 false (aH .i64 l),.int .i64 8] (.int .i64 (atN l 8)):=fL l false 8 WN;obtain⟨r9,h9,b9⟩:=dF (n:=5) (er l 9 WN).1 WN;have t9:Int.tmod (atN l 9) 5=(r9:Int):=h9;have a9:PC Tryz.prog 41 [.sl 1 false (aH .i64 l),.int .i64 9] (.int .i64 (atN l 9)):=fL l false 9 WN
 obtain⟨bo,hbo,hbo0,hbo1⟩:∃bo:Int,([[.int .i64 0],[.int .i64 40],[.int .i64 100]]:List (List AV)).getD r7 []=[.int .i64 bo]/\0<=bo/\bo<=100:=by
  match r7,b7 with
  |0,_=>exact⟨0,rfl,WN,WN⟩
  |1,_=>exact⟨40,rfl,WN,WN⟩
  |2,_=>exact⟨100,rfl,WN,WN⟩
 have sw0:∀ (w:Wd) (x:Int),spl (wdc w) 0 [.int .u64 x]=wdc (w.set 0 x):=fun w x=>oI w WN x
 have sw1:∀ (w:Wd) (x:Int),spl (wdc w) 1 [.int .u64 x]=wdc (w.set 1 x):=fun w x=>oI w WN x
 have sw2:∀ (w:Wd) (x:Int),spl (wdc w) 2 [.int .u64 x]=wdc (w.set 2 x):=fun w x=>oI w WN x
 refine dv ?_;refine gU ?_;refine dv ?_;refine gU ?_;refine dZ (a0) ?_;repeat(first|refine lz ?_|simp only[go_sem,t0,hbo,sw0,sw1,sw2])
 refine dZ (a1) ?_;repeat(first|refine lz ?_|simp only[go_sem,t1,hbo,sw0,sw1,sw2])
 refine dZ (a2) ?_;repeat(first|refine lz ?_|simp only[go_sem,t2,hbo,sw0,sw1,sw2])
 refine dZ (a3) ?_;repeat(first|refine lz ?_|simp only[go_sem,t3,hbo,sw0,sw1,sw2])
 refine dZ (a4) ?_;repeat(first|refine lz ?_|simp only[go_sem,t4,hbo,sw0,sw1,sw2])
 refine dZ (a5) ?_;repeat(first|refine lz ?_|simp only[go_sem,t5,hbo,sw0,sw1,sw2])
 refine dZ (a6) ?_;repeat(first|refine lz ?_|simp only[go_sem,t6,hbo,sw0,sw1,sw2])
 refine dZ (a7) ?_;repeat(first|refine lz ?_|simp only[go_sem,t7,hbo,sw0,sw1,sw2])
 refine dZ (a8) ?_;repeat(first|refine lz ?_|simp only[go_sem,t8,hbo,sw0,sw1,sw2])
 refine dZ (ig 1) ?_;refine lz ?_
 refine ahh (fr2:=⟨5,[.sl 1 false (aH .i64 l),.dead,.ptr 0 0,.ptr 1 0,.dead],[]⟩) (σ2:=[.var (bW ui),.var (bW ⟨⟨IntKind.i64.wrap (6+r0),r1,r2,IntKind.i64.wrap (1+r3),r4,IntKind.u64.wrap (IntKind.i64.wrap (1+r5))⟩,IntKind.u64.wrap (IntKind.i64.wrap (1+r6)),IntKind.u64.wrap bo,((wd0.set 0 100).set 1 0).set 2 (IntKind.u64.wrap r8),zk 1,.sl 0 true []⟩)]) (by exact ais [] [0,11]) ?_;have hN:IntKind.i64.wrap (6+(r0:Int))<=13:=by rw[aL WL WL];omega
 have hN1:1<=IntKind.i64.wrap (6+(r0:Int)):=by rw[aL WL WL];omega
 have hT1:1<=IntKind.i64.wrap (1+(r3:Int)):=by rw[aL WL WL];omega
 have hB:IntKind.u64.wrap (IntKind.i64.wrap (1+(r5:Int)))=1+r5:=by rw[aL WL WL,aN WL WL]
 have hP:IntKind.u64.wrap bo<=100:=by rw[aN WL WL];exact hbo1
 have hG:zk 1≠rt0:=WN
 have hT:IntKind.i64.wrap (1+(r3:Int))<=4:=by rw[aL WL WL];omega
 have hS:IntKind.u64.wrap (IntKind.i64.wrap (1+(r6:Int)))=1+r6:=by rw[aL WL WL,aN WL WL]
 have hW:WdG (((wd0.set 0 100).set 1 0).set 2 (IntKind.u64.wrap r8)):=((xx.set _ ⟨WN,WN⟩).set _ ⟨WN,WN⟩).set _ (ce _);rw[hS];generalize IntKind.i64.wrap (6+(r0:Int))=cN at *;generalize IntKind.i64.wrap (1+(r3:Int))=cT at *;generalize IntKind.u64.wrap (IntKind.i64.wrap (1+(r5:Int)))=cB at *;have hcP:0<=IntKind.u64.wrap bo:=(ce bo).lo;generalize IntKind.u64.wrap bo=cP at *;generalize ((wd0.set 0 100).set 1 0).set 2 (IntKind.u64.wrap r8)=cW at *;have hn9:IntKind.i64.wrap (2+(r9:Int))=((2+r9:Nat):Int):=by rw[aL WL WL];omega
 refine dv ?_;refine I6 (fun L:List Int=>L.length=2+r9/\∀x∈L,0<=x/\x<40) (fun _=>[]) (fun L=>[.var (bW ui),.var (bW ⟨⟨cN,r1,r2,cT,r4,cB⟩,1+r6,cP,cW,zk 1,.hs 1 2 0 L.length⟩),.vec 1 (aH .u64 L)]) ?_ (fun L hL=>?_)
 ·refine W3 (GY l (2+r9)) ⟨QG _ _,adv _ _ WL⟩ ?_
  generalize hM:2+r9=M at *;refine gon ?_;refine pS 1 44 1 ?_ WQ (by exact VJ _);simp only[go_sem,VK];refine az (fun i:Nat=>[(4,.int .i64 i)]) (fun i=>[.var (bW ui),.var (bW ⟨⟨cN,r1,r2,cT,r4,cB⟩,1+r6,cP,cW,zk 1,.hs 1 2 0 (GY l i).length⟩),.vec 1 (aH .u64 (GY l i))]) (fun i=>M-i) (fun i=>i<=M) 0 (amc _) ?_ ?_
  ·rw[show GY l 0=[]from rfl];exact ais [] [0,1,2]
  intro i hi;have hlen:=QG l i;by_cases h1:i<M
  ·have e1:decide ((i:Int)<(M:Int))=true:=au WL;have hw:=af h1 WL;have hw2:IntKind.i64.wrap (10+(i:Int))=((10+i:Nat):Int):=by rw[aL WL WL];omega
   have hs:=afW l i;have aa:=fL l false (10+i) WL;refine gon ?_;refine am a9 ?_;refine HV t9 hn9 e1 ?_;refine ah hw2 ?_;refine aK (aa) ?_;refine ah hw ?_;refine⟨i+1,h1,WL,?_⟩;rw[hs];exact ais [] [0,1,4]
  ·obtain rfl:i=M:=WL
   have e1:decide ((i:Int)<(i:Int))=false:=aA WL;refine gon ?_;refine am a9 ?_;refine wg t9 hn9 e1 ?_;exact ais [] [0,1,2]
 (try simp only[dr])
 refine cM ?_;obtain⟨hL1,hL2⟩:=hL;refine W3 (⟨⟨cN,r1,r2,cT,r4,cB⟩,1+r6,cP,cW,zk 1,L⟩:cU) ?_ ?_;rotate_left
 ·exact ahY [] [2]
 refine⟨⟨?_,?_,?_,?_,?_,?_,?_,?_,?_,hW,WV (n:=1) WN WN⟩,ad4 ?_ ?_ ?_ ?_ ?_ ?_ ?_ ?_ ?_ ?_ ?_ ?_ ?_ ?_ ?_ ?_ hG hL2,hL2,?_,rfl⟩<;>dsimp only<;>omega
theorem L9(l:List Int):Sm Qp fun c=>PC Tryz.prog 12 [.sl 1 false (aH .i64 l)] (.agg (bW c.a)):=by
 obtain⟨c,hc,h⟩:=aaA l;refine⟨c,hc,h.pc puA puA ?_⟩;(try simp only[go_sem,Nat.reduceAdd,Nat.reduceSub,Nat.reduceMul,Nat.reduceLT,Nat.reduceLeDiff,Nat.reduceEqDiff,reduceIte,Int.reduceToNat,Int.reduceLT,Int.reduceLE,Int.reduceEq,Int.reduceNeg,reduceCtorEq,Int.reduceBEq,Int.reduceBNe])
 rfl
structure ai2(x:fe):Prop where
 a1:U64 x.fst.src
 a2:U64 x.fst.tgt
 b1:U64 x.snd.src
 b2:U64 x.snd.tgt
 l1:x.fst.vals.length<=10
 l2:x.snd.vals.length<=10
section
variable{fr:Fr}{σ:St}{rs:List gN}{G:fe->Prop}{l:List AV}{a1 a2 b1 b2:Int}{r1 r2:Rt}{m1 m2:List Int}
theorem Ma(hl:dH fr σ rs=some l)(hv:fz σ (List.range σ.length) (gk l)=.agg (d7 ⟨⟨a1,a2,r1,.sl 1 false (aH .i64 m1)⟩,⟨b1,b2,r2,.sl 1 false (aH .i64 m2)⟩⟩))(hg:G ⟨⟨a1,a2,r1,m1⟩,⟨b1,b2,r2,m2⟩⟩):Sm G fun x=>PQ rs (.agg (d7 x.a)) .ret fr σ:=⟨_,hg,l,hl,.inl hv⟩
end
theorem F4(n:Nat)(k:Int)(hn:n<=10):Sm ai2 fun x=>PC Tryz.prog 51 [.int .i64 n,.int .i64 k] (.agg (d7 x.a)):=by
 have S1:=zr n k WL;have S2:=zr n (fJ .i64 k 6) WL;have l1:=zc n k;have l2:=zc n (fJ .i64 k 6);generalize zb n k=A at *;generalize zb n (fJ .i64 k 6)=B at *;have u1:U64 1:=⟨WN,WN⟩;have u2:U64 2:=⟨WN,WN⟩;have u4:U64 4:=⟨WN,WN⟩;have u5:U64 5:=⟨WN,WN⟩;have u6:U64 6:=⟨WN,WN⟩;refine md 6 uY WM puA (fun r _=>puA) ?_;unfold nQ;refine bd ?_;refine dv ?_;refine gU ?_;refine dv ?_;refine gU ?_;refine db (ig 2) ?_;refine lz ?_;refine db (S1) ?_;refine lz ?_;refine db (ig 2) ?_;refine lz ?_;refine db (S2) ?_;refine lz ?_;repeat'(first|refine cM ?_|(refine bR (fun h=>?_) (fun h=>?_)<;>try(exact absurd h WN))|refine eo (fun h=>?_) (fun h=>?_))
 all_goals try(refine db (ig _) ?_;repeat'(first|refine cM ?_|(refine bR (fun h=>?_) (fun h=>?_)<;>try(exact absurd h WN))|refine eo (fun h=>?_) (fun h=>?_)))
 all_goals(refine Ma (by first|rfl|exact evd) (by first|rfl|exact evd) ?_)
 all_goals(refine⟨?_,?_,?_,?_,?_,?_⟩<;>(try dsimp only)<;>first|assumption|omega)
structure OpG(x:VOp):Prop where
 r:OpR x
 u:OpU (toV x)
 diff:WdG x.blk.diff
 pdiff:WdG x.blk.pdiff
 k1:1<=x.kind
 k6:x.kind<=6
structure OpE(x:VOp):Prop where
 r:OpR x
 u:OpU (toV x)
theorem OpG.e{x:VOp}(h:OpG x):OpE x:=⟨h.r,h.u⟩
def xo:bp:=⟨0,rt0,cp0,[]⟩
def FQ:fc:=⟨0,0,rt0,[]⟩
def uU:fe:=⟨FQ,FQ⟩
def uX:aW:=⟨cp0,[]⟩
theorem uq{k:Int}{b:Blk}{a:bp}{g:fe}{t:aW}{v:Vdt}(hb:Di b)(ha:Mm a)(hg:ai2 g)(ht:Mo t)(hv:U64 v.tag)(h1:1<=k)(h6:k<=6):OpG ⟨k,b,a,g,t,v,0,0⟩:=
 ⟨⟨hb.w,⟨ams ha.len WN,ha.slot,ha.ep⟩,ams hg.l1 WN,ams hg.l2 WN,ams ht.len WN,ht.ep⟩,⟨hb.u,ha.slot,ha.ep,ams ha.len WN,⟨hg.a1,hg.a2,rfl,ams hg.l1 WN⟩,⟨hg.b1,hg.b2,rfl,ams hg.l2 WN⟩,⟨ht.ep,rfl,ht.bals,ams ht.len WN⟩,hv⟩,hb.diff,hb.pdiff,h1,h6⟩
theorem u0:U64 0:=⟨WN,WN⟩
theorem vE:Di cw:=⟨u0,u0,u0,u0,u0,xx,xx⟩
theorem tI:Mm xo:=⟨u0,u0,by simp[xo]⟩
theorem tJ:ai2 uU:=⟨u0,u0,u0,u0,by simp[uU,FQ],by simp[uU,FQ]⟩
theorem tK:Mo uX:=⟨u0,by simp[uX],by simp[uX]⟩
theorem uA{fr:Fr}{σ:St}{rs:List gN}{G:VOp->Prop}{l:List AV}(y:SOp)(x:VOp)(hl:dH fr σ rs=some l)(hv:fz σ (List.range σ.length) (gk l)=.agg (dj y))(hp:PuL (dj y))(hw:WkC (dj y) (dj x.a))(hg:G x):Sm G fun x=>PQ rs (.agg (dj x.a)) .ret fr σ:=
 ⟨x,hg,l,hl,.inr ⟨_,hv,hp,Wk.agg hw⟩⟩
theorem yZ{k w p:Int}{b:Blk}{a:Att}{g:Slg}{t:Tab}{v:Vdt}(ha:PuL (cy a))(hg:PuL (d7 g))(ht:PuL (ar t)):PuL (dj ⟨k,b,a,g,t,v,w,p⟩):=by
 refine(jd _).2 ?_;have h1:=(fB _).1 ha;have h2:=(j7 _).1 hg;have h3:=(eP _).1 ht;exact⟨h1,h2,h3⟩
theorem Iv(s:aI)(i:Nat)(h:fQ s i)(httd:WdG s.sto.cfg.ttd)(n k:Int)(hk:0<=k)(hn0:0<=n)(hn1:n<=99)(h24:i<=34):Sm OpG fun x=>PC Tryz.prog 19 [.agg (aV s.a),.int .i64 n,.int .i64 k] (.agg (dj x.a)):=by
 obtain⟨b,hb,cb⟩:=F3 s.sto i h.sto httd n (fJ .i64 k 4) (mr 4 hk) hn0 hn1 h24;obtain⟨a,ha,ca⟩:=FX s.sto i h.sto (fJ .i64 k 4) (mr 4 hk);obtain⟨g,hg,cg⟩:=F4 s.sto.cfg.bals.length (fJ .i64 k 4) (by have:=h.sto.cfg.b1;omega);obtain⟨t,ht,ct⟩:=F5 s.sto i h.sto (fJ .i64 k 4) (mr 4 hk);obtain⟨v,hv,cv⟩:=Ga s i h (fJ .i64 k 4) (mr 4 hk);have pa:PuL (cy Do):=(fB _).2 trivial;have pg:PuL (d7 KY):=(j7 _).2 ⟨trivial,trivial⟩;have pt:PuL (ar yp):=(eP _).2 trivial;refine md 48 G1 WM puA (fun r _=>puA) ?_;unfold yM;refine bd ?_;refine dv ?_;refine gU ?_;refine dv ?_;refine gU ?_;refine dv ?_;refine dv ?_;refine gU ?_;refine dv ?_;refine tE (fun _:Bool=>True) (fun b=>[(12,.bool b)]) ?_ (fun bb _=>?_)
 ·repeat'(first|refine cM ?_|(refine bR (fun h=>?_) (fun h=>?_)<;>try(exact absurd h WN))|refine eo (fun h=>?_) (fun h=>?_))
  ·exact⟨(Int.tmod k 16==0),trivial,by exact ais [] [0,1]⟩
  ·exact⟨(Int.tmod k 16==1),trivial,by exact ais [] [0,1]⟩
  ·exact⟨(Int.tmod k 16==2),trivial,by exact ais [] [0,1]⟩
 (try simp only[dE,dr,amx,amy])
 refine bR (fun h=>?_) (fun h=>?_)
 ·refine cM ?_;refine uA ⟨1,cw,Do,KY,yp,lZ,0,0⟩ ⟨1,cw,xo,uU,uX,lZ,0,0⟩ (by first|rfl|exact evd) (by first|rfl|exact evd) (yZ pa pg pt) (lw rfl rfl jI jJ jL rfl rfl rfl) (uq vE tI tJ tK u0 WN WN)
 refine dv ?_;refine tE (fun _:Bool=>True) (fun b=>[(17,.bool b)]) ?_ (fun bb _=>?_)
 ·repeat'(first|refine cM ?_|(refine bR (fun h=>?_) (fun h=>?_)<;>try(exact absurd h WN))|refine eo (fun h=>?_) (fun h=>?_))
  ·exact⟨(Int.tmod k 16==3),trivial,by exact ais [] [0,1]⟩
  ·exact⟨(Int.tmod k 16==4),trivial,by exact ais [] [0,1]⟩
  ·exact⟨(Int.tmod k 16==5),trivial,by exact ais [] [0,1]⟩
  ·exact⟨(Int.tmod k 16==6),trivial,by exact ais [] [0,1]⟩
  ·exact⟨(Int.tmod k 16==7),trivial,by exact ais [] [0,1]⟩
 (try simp only[dE,dr,amx,amy])
 refine bR (fun h=>?_) (fun h=>?_)
 ·refine cM ?_;refine db cb ?_;refine cM ?_;refine uA ⟨2,b,Do,KY,yp,lZ,0,0⟩ ⟨2,b,xo,uU,uX,lZ,0,0⟩ (by first|rfl|exact evd) (by first|rfl|exact evd) (yZ pa pg pt) (lw rfl rfl jI jJ jL rfl rfl rfl) (uq hb tI tJ tK u0 WN WN)
 refine dv ?_;refine tE (fun _:Bool=>True) (fun b=>[(29,.bool b)]) ?_ (fun bb _=>?_)
 ·repeat'(first|refine cM ?_|(refine bR (fun h=>?_) (fun h=>?_)<;>try(exact absurd h WN))|refine eo (fun h=>?_) (fun h=>?_))
  ·exact⟨(Int.tmod k 16==8),trivial,by exact ais [] [0,1]⟩
  ·exact⟨(Int.tmod k 16==9),trivial,by exact ais [] [0,1]⟩
  ·exact⟨(Int.tmod k 16==10),trivial,by exact ais [] [0,1]⟩
 (try simp only[dE,dr,amx,amy])
 refine bR (fun h=>?_) (fun h=>?_)
 ·refine cM ?_;refine db ca ?_;refine cM ?_;refine uA ⟨3,cw,a.a,KY,yp,lZ,0,0⟩ ⟨3,cw,a,uU,uX,lZ,0,0⟩ (by first|rfl|exact evd) (by first|rfl|exact evd) (yZ a.pul pg pt) (lw rfl rfl (WkC.refl _) jJ jL rfl rfl rfl) (uq vE ha tJ tK u0 WN WN)
 repeat'(first|refine cM ?_|(refine bR (fun h=>?_) (fun h=>?_)<;>try(exact absurd h WN))|refine eo (fun h=>?_) (fun h=>?_))
 ·refine db cg ?_;refine cM ?_;refine uA ⟨4,cw,Do,g.a,yp,lZ,0,0⟩ ⟨4,cw,xo,g,uX,lZ,0,0⟩ (by first|rfl|exact evd) (by first|rfl|exact evd) (yZ pa g.pul pt) (lw rfl rfl jI (WkC.refl _) jL rfl rfl rfl) (uq vE tI hg tK u0 WN WN)
 ·refine db ct ?_;refine cM ?_;refine uA ⟨5,cw,Do,KY,t.a,lZ,0,0⟩ ⟨5,cw,xo,uU,t,lZ,0,0⟩ (by first|rfl|exact evd) (by first|rfl|exact evd) (yZ pa pg t.pul) (lw rfl rfl jI jJ (WkC.refl _) rfl rfl rfl) (uq vE tI tJ ht u0 WN WN)
 ·refine db cv ?_;refine cM ?_;refine uA ⟨6,cw,Do,KY,yp,v,0,0⟩ ⟨6,cw,xo,uU,uX,v,0,0⟩ (by first|rfl|exact evd) (by first|rfl|exact evd) (yZ pa pg pt) (lw rfl rfl jI jJ jL rfl rfl rfl) (uq vE tI tJ tK hv.tag WN WN)
theorem bP.new{c:cU}(h:afI c):bP (kO c) 0:=by
 refine⟨h,⟨fun k h1 h2=>?_,alj,by show (-1:Int)<0;decide⟩,?_,by simp[kO],by show 1<=13;decide,fun n hn=>?_,amc _,fun b hb=>absurd hb (by simp[kO]),amc _,fun b hb=>absurd hb (by simp[kO]),by show 1<=4;decide,fun t ht=>?_,amb _,u0,u0,⟨u0,fun _=>by show (0:Int)<=_;decide⟩,WN,fun v hv=>?_⟩
 ·have:k<1:=h2;omega
 ·exact lH (k:=0) alj rfl
 ·have:n=⟨adM c.gen,-1,1⟩:=by simpa[kO]using hn
  subst this;exact⟨u0,u0,u0,u0,u0,xx,xx⟩
 ·have:t=⟨⟨0,c.gen⟩,c.bals⟩:=by simpa[kO]using ht
  subst this;exact⟨h.b1,u0⟩
 ·rw[akX hv];exact u0
theorem Mh{c:cU}(h:Qp c):fQ (iW c).1 0:=by
 unfold iW;rw[al7 h.new];exact fQ.emit ⟨bP.new h.r,amb _,fun r hr=>absurd hr WM,amc _,(⟨WN,WN⟩:U64 1)⟩
def mu(f:aI×Nat×Int×Int->VOp)(l:List Int)(s0:aI):Nat->aI×List VOp
 |0=>(s0,[])
 |i+1=>((kl (mu f l s0 i).1 (f ((mu f l s0 i).1,i,((10+i:Nat):Int),if i=0 then 0 else atN l (18+i)))).1,(mu f l s0 i).2++[f ((mu f l s0 i).1,i,((10+i:Nat):Int),if i=0 then 0 else atN l (18+i))])
structure Nt(c:cU)(ops:List VOp)(s:aI):Prop where
 c:Qp c
 len:ops.length<=24
 ops:∀x∈ops,OpG x
 s:fQ s 24
theorem Kn(P:Nat->aI->Prop)(hP0:∀c,Qp c->P 0 (iW c).1)(hPs:∀s i x,fQ s i->i<24->P i s->OpG x->P (i+1) (kl s x).1)(l:List Int):∃ (c:cU) (ops:List VOp) (s:aI),(Nt c ops s/\∃i,i<=24/\P i s)/\PC Tryz.prog 48 [.sl 1 false (aH .i64 l)] (.tup [.agg (bW c.a),.sl 446 false (rows VOp.c ops),.agg (aV s.a)]):=by
 obtain⟨c,hc,cc⟩:=L9 l
 have hop:∀y:aI×Nat×Int×Int,∃x:VOp,fQ y.1 y.2.1->0<=y.2.2.2->0<=y.2.2.1/\y.2.2.1<=99/\y.2.1<=24->OpG x/\PC Tryz.prog 19 [.agg (aV y.1.a),.int .i64 y.2.2.1,.int .i64 y.2.2.2] (.agg (dj x.a)):=fun y=>by
  by_cases h1:fQ y.1 y.2.1
  ·by_cases h2:0<=y.2.2.2
   ·by_cases h3:0<=y.2.2.1/\y.2.2.1<=99/\y.2.1<=24
    ·obtain⟨x,hx⟩:=Iv y.1 y.2.1 h1 h1.sto.cfg.tt y.2.2.1 y.2.2.2 h2 h3.1 h3.2.1 WL;exact⟨x,fun _ _ _=>hx⟩
    ·exact⟨default,fun _ _ h=>absurd h h3⟩
   ·exact⟨default,fun _ h=>absurd h h2⟩
  ·exact⟨default,fun h=>absurd h h1⟩
 obtain⟨f,hf⟩:=Classical.axiomOfChoice hop;have h0:=Mh hc;have p0:=hP0 c hc;have cb:=GZ c (by have:=hc.r.b1;omega) fun _=>(bP.new hc.r).r
 generalize iW c=B at *;obtain⟨s0,B2,B3⟩:=B;dsimp only at h0 cb p0
 have hI:∀i,i<=24->(fQ (mu f l s0 i).1 i/\P i (mu f l s0 i).1)/\(mu f l s0 i).2.length=i/\∀x∈(mu f l s0 i).2,OpG x:=by
  intro i;induction i with
  |zero=>exact fun _=>⟨⟨h0,p0⟩,rfl,fun x hx=>by cases hx⟩
  | succ i ih =>
    intro hi;obtain⟨⟨h1,hp1⟩,h2,h3⟩:=ih WL;have hk:0<=(if i=0 then 0 else atN l (18+i)):=by split;exact amr _;exact(er l (18+i) WL).1
    have hx:=(hf ((mu f l s0 i).1,i,((10+i:Nat):Int),if i=0 then 0 else atN l (18+i)) h1 hk (by dsimp only;omega)).1;refine⟨⟨h1.step WL hx.r,hPs _ i _ h1 WL hp1 hx⟩,?_,fun x hm=>?_⟩
    ·show ((mu f l s0 i).2++[_]).length=i+1
     rw[akC,h2];rfl
    ·rcases amm.1 hm with h|h
     ·exact h3 x h
     ·rw[amn]at h;subst h;exact hx
 obtain⟨r16,h16,b16⟩:=dF (n:=25) (er l 16 WN).1 WN;have t16:Int.tmod (atN l 16) 25=(r16:Int):=h16;have a16:PC Tryz.prog 41 [.sl 1 false (aH .i64 l),.int .i64 16] (.int .i64 (atN l 16)):=fL l false 16 WN;have a17:PC Tryz.prog 41 [.sl 1 false (aH .i64 l),.int .i64 17] (.int .i64 (atN l 17)):=fL l false 17 WN
 obtain⟨N,hN,hN1,hN2⟩:∃N:Nat,N<=24/\(decide (0<Int.tmod (atN l 17) 4)=true->N=24)/\(decide (0<Int.tmod (atN l 17) 4)=false->N=r16):=by
  by_cases hd:decide (0<Int.tmod (atN l 17) 4)=true
  ·exact⟨24,WN,fun _=>rfl,fun h=>by rw[hd]at h;cases h⟩
  ·exact⟨r16,WL,fun h=>absurd h hd,fun _=>rfl⟩
 obtain⟨⟨i1,ip⟩,i2,i3⟩:=hI N hN;refine⟨c,(mu f l s0 N).2,(mu f l s0 N).1,⟨⟨hc,WL,i3,i1.up WL WN⟩,N,hN,ip⟩,PC.fact 14 DL WM puA puA ?_⟩;unfold vF;refine bd ?_;clear i1 i2 i3 ip p0 hP0 hPs;refine gon ?_;refine ahG cc ?_;refine ahG cb ?_;refine am a16 ?_;refine ah t16 ?_;refine ahG a17 ?_;refine xT (fun _=>[(10,.int .i64 N)]) (fun _=>[.var (bW ui),.var (aV rD),.var (bW c.a),.var (aV s0.a)]) (fun hT=>?_) (fun hF=>?_) ?_
 ·rw[hN1 hT];refine gon ?_;exact ais [] [0,1,2,3]
 ·rw[hN2 hF];refine gon ?_;exact ais [] [0,1,2,3]
 clear hN1 hN2 a16 a17 t16 h16;refine gon ?_;refine jx 9 446 ?_;simp only[go_sem];refine az (fun i:Nat=>[(11,.int .i64 i),(9,.hs 446 4 0 (mu f l s0 i).2.length),(12,.dead),(13,.dead)]) (fun i=>[.var (bW ui),.var (aV rD),.var (bW c.a),.var (aV (mu f l s0 i).1.a),.vec 446 (rows VOp.c (mu f l s0 i).2)]) (fun i=>N-i) (fun i=>i<=N) 0 (amc _) ?_ ?_
 ·show GC _ _ _ ⟨_,jc [(11,.int .i64 0),(9,.hs 446 4 0 0),(12,.dead),(13,.dead)] _,[]⟩ [.var (bW ui),.var (aV rD),.var (bW c.a),.var (aV s0.a),.vec 446 []]
  exact ais [] [0,1,2,3,4]
 intro i hi;obtain⟨⟨hA,_⟩,hl,_⟩:=hI i WL;by_cases h1:i<N
 ·have e1:decide ((i:Int)<(N:Int))=true:=au WL
  have hw:=af h1 WL;have hw1:IntKind.i64.wrap (18+(i:Int))=((18+i:Nat):Int):=by rw[aL WL WL];omega
  have hw2:IntKind.i64.wrap (10+(i:Int))=((10+i:Nat):Int):=by rw[aL WL WL];omega
  have aa:=fL l false (18+i) WL;have hk:0<=(if i=0 then 0 else atN l (18+i)):=by split;exact amr _;exact(er l (18+i) WL).1
  obtain⟨hx,co⟩:=hf ((mu f l s0 i).1,i,((10+i:Nat):Int),if i=0 then 0 else atN l (18+i)) hA hk (by dsimp only;omega);have hr:mu f l s0 (i+1)=((kl (mu f l s0 i).1 (f ((mu f l s0 i).1,i,((10+i:Nat):Int),if i=0 then 0 else atN l (18+i)))).1,(mu f l s0 i).2++[f ((mu f l s0 i).1,i,((10+i:Nat):Int),if i=0 then 0 else atN l (18+i))]):=rfl;have hK1:i=0->(if i=0 then 0 else atN l (18+i))=0:=fun h=>al7 h
  have hK2:i≠0->(if i=0 then 0 else atN l (18+i))=atN l (18+i):=fun h=>al5 h
  dsimp only at co;generalize (if i=0 then 0 else atN l (18+i))=K at *;generalize f ((mu f l s0 i).1,i,((10+i:Nat):Int),K)=x at *;clear hI;generalize mu f l s0 i=p at *;obtain⟨s1,o1⟩:=p;dsimp only at hA hl co hr ⊢;have cs:=HF s1 i hA WL x hx.r hx.u;generalize kl s1 x=T at *;obtain⟨T1,T2,T3⟩:=T;dsimp only at cs hr ⊢;have hsn:rows VOp.c o1++[dj x.a]=rows VOp.c (o1++[x]):=cR VOp.c o1 x;(try simp only[dE,dr,amx,amy])
  refine bw e1 ?_;refine ah hw1 ?_;refine ahG aa ?_;refine xT (fun _=>[(12,.int .i64 K)]) (fun _=>[.var (bW ui),.var (aV rD),.var (bW c.a),.var (aV s1.a),.vec 446 (rows VOp.c o1)]) (fun hT=>?_) (fun hF=>?_) ?_
  ·rw[hK1 (by rw[am0]at hT;omega)];refine gon ?_;exact ais [] [0,1,2,3,4]
  ·rw[hK2 (by rw[ajL]at hF;omega)];refine gon ?_;exact ais [] [0,1,2,3,4]
  (try simp only[dE,dr,amx,amy])
  refine ah hw2 ?_;refine am co ?_;refine ah hsn ?_;refine am cs ?_;refine ah hw ?_;refine⟨i+1,h1,WL,?_⟩;rw[hr];exact ais [] [0,1,2,3,6]
 ·have hiN:i=N:=WL
  subst hiN;have e1:decide ((i:Int)<(i:Int))=false:=aA WL;clear hI;generalize mu f l s0 i=p at *;obtain⟨s1,o1⟩:=p;dsimp only at hl ⊢;have ht:List.take o1.length (rows VOp.c o1)=rows VOp.c o1:=amf WM;(try simp only[dE,dr,amx,amy])
  refine aF e1 ?_;refine⟨_,(by first|rfl|exact evd),.inl ?_⟩;exact uZ ht
theorem Dd(P:Nat->aI->Prop)(hP0:∀c,Qp c->P 0 (iW c).1)(hPs:∀s i x,fQ s i->i<24->P i s->OpG x->P (i+1) (kl s x).1)(l:List Int):∃s:aI,(fQ s 24/\∃i,i<=24/\P i s)/\PC Tryz.prog 18 [.sl 1 false (aH .i64 l)] (.agg (aV s.a)):=by
 obtain⟨c,ops,s,⟨h,hp⟩,cr⟩:=Kn P hP0 hPs l;refine⟨s,⟨h.s,hp⟩,PC.fact 7 Ah WM puA puA ?_⟩;unfold rB;refine bd ?_;refine gon ?_;refine ahG cr ?_;exact ai
end Go.Proofs.YtmpddimhleianaaGreat
