/- Joined. -/
import Derived.Test.YtmpddimhleianaaGreatV7v
import Derived.Test.YtmpddimhleianaaGreatW3v
import Derived.Test.YtmpddimhleianaaGreatW6v
import Derived.Test.YtmpddimhleianaaGreatU1v
set_option linter.unusedVariables false
set_option linter.unusedSimpArgs false
set_option maxRecDepth 8000
set_option maxHeartbeats 4000000
namespace Go.Proofs.YtmpddimhleianaaGreat
open Go Go.FH Go.RowKit
def atN(l:List Int)(i:Nat):Int:=
 if l.length=0 then gD .i64 i 65535 else IntKind.i64.wrap (gD .i64 (l.getD (i%l.length) 0) 16777215+((i / l.length:Nat):Int))
theorem kG(l:List Int)(i:Nat)(hi:i<=1000):0<=atN l i/\atN l i<=16778215:=by
 unfold atN;split
 ·obtain⟨r,h1,h2⟩:=wc (i:Int) 65535 af2 af2;rw[h1];omega
 ·obtain⟨r,h1,h2⟩:=wc (l.getD (i%l.length) 0) 16777215 af2 af2;have h3:i / l.length<=i:=Nat.div_le_self _ _;rw[h1];generalize i / l.length=q at *;rw[ar af0 af0];omega
theorem gj(l:List Int)(c:Bool)(i:Nat)(hi:i<=1000):PC Tryz.prog 41 [.sl 1 c (ah .i64 l),.int .i64 i] (.int .i64 (atN l i)):=by
 refine aQ 5 ?_;unfold atN;by_cases h0:l.length=0
 ·have e0:((l.length:Int)==0)=true:=by simp[h0]
  rw[afA h0];refine aW e0 ?_;exact aj
 ·have e0:((l.length:Int)==0)=false:=by simp;intro h;exact h0 (by simp[h])
  have e1:Int.tmod (i:Int) (l.length:Int)=((i%l.length:Nat):Int):=(Int.ofNat_tmod i l.length).symm;have e2:Int.tdiv (i:Int) (l.length:Int)=((i / l.length:Nat):Int):=(Int.ofNat_tdiv i l.length).symm;have hm:i%l.length<l.length:=Nat.mod_lt _ af0;have hd:i / l.length<=i:=Nat.div_le_self _ _;have hgd:=gdn (k:=.i64) hm;rw[afx h0];refine da e0 ?_;generalize i%l.length=m at *;generalize i / l.length=q at *;have e3:IntKind.i64.wrap (q:Int)=(q:Int):=ar af0 af0;refine fk e1 e2 hgd e3 ?_;exact aj
theorem uK:WdG wd0:=fun n hn=>by
 have:n=0:=by simpa[wd0]using hn
 subst this;decide
def LY(s:af)(i e:Int):Cp:=if atT s.nodes i (IntKind.u64.wrap (e*s.cfg.spe))<0 then s.f else ⟨e,(nod s.nodes (atT s.nodes i (IntKind.u64.wrap (e*s.cfg.spe))).toNat).blk.root⟩
theorem xL{s:af}{i e:Int}(h:U64 s.f.ep)(he:U64 e):U64 (LY s i e).ep:=by unfold LY;split<;>assumption
theorem vz(s:af)(h:StR s)(i e:Int):PC Tryz.prog 97 [.agg (ak s.a),.int .i64 i,.int .u64 e] (.agg (cpC (LY s i e))):=by
 refine aQ 8 ?_;have c1:=G7 s.nodes h.tree.ok h.bn i (IntKind.u64.wrap (e*s.cfg.spe));have hb:=SW h.tree.ok i (IntKind.u64.wrap (e*s.cfg.spe));unfold LY;generalize atT s.nodes i (IntKind.u64.wrap (e*s.cfg.spe))=A at *;refine gon ?_;refine abl c1 ?_;by_cases q1:A<0
 ·have e1:=ax q1;rw[afA q1];refine aW e1 ?_;exact aj
 ·have e1:=aD q1;have hg:=dv (t:=s.nodes) (i:=A.toNat) af0;rw[afx q1];refine da e1 ?_;refine aA hg ?_;exact aj
theorem WdG.set{w:Wd}(h:WdG w)(j:Nat){x:Int}(hx:U64 x):WdG (w.set j x):=fun n hn=>by
 rcases aeB hn with h1|rfl
 ·exact h n h1
 ·exact⟨hx.lo,hx.hi⟩
theorem LP(n:Int):Sm WdG fun w=>PC Tryz.prog 98 [.int .i64 n] (.agg (wdc w)):=by
 refine lX 30 JE af1 puA (fun r _=>puA) ?_;unfold yN;refine bd ?_;obtain⟨r2,h2,h2'⟩:=wc (fd .i64 n 9) 3 af2 af2;have u0:U64 0:=⟨af2,af2⟩;have u1:U64 18446744073709551615:=⟨af2,af2⟩
 have u2:U64 (fd .u64 18446744073709551615 (IntKind.u64.wrap (gD .i64 (fd .i64 n 9) 63)).toNat):=by
  obtain⟨r3,h3,h3'⟩:=wc (fd .i64 n 9) 63 af2 af2;rw[h3,aC af0 af0,afH];unfold fd;have hp:(0:Int)<2 ^ (min r3 IntKind.u64.bits):=Int.pow_pos af2;rw[ade _ (aez hp)];exact⟨adx af2 (aez hp),Int.lt_of_le_of_lt (adB _ af2) af2⟩
 have sw:∀ (w:Wd) (x:Int),spl (wdc w) r2 [.int .u64 x]=wdc (w.set r2 x):=fun w x=>oS w af0 x
 have sw3:∀ (w:Wd) (x:Int),spl (wdc w) 3 [.int .u64 x]=wdc (w.set 3 x):=fun w x=>oS w af2 x
 have sw0:∀ (w:Wd) (x:Int),spl (wdc w) 0 [.int .u64 x]=wdc (w.set 0 x):=fun w x=>oS w af2 x
 have sw1:∀ (w:Wd) (x:Int),spl (wdc w) 1 [.int .u64 x]=wdc (w.set 1 x):=fun w x=>oS w af2 x
 repeat'(first|refine db ?_|simp only[go_sem,h2,acO,sw,sw0,sw1,sw3]|(refine bB (fun h=>?_) (fun h=>?_)<;>try(exact absurd h af2))|refine eK (fun h=>?_) (fun h=>?_))
 all_goals refine C9 (by first|rfl|exact evd) (by first|rfl|exact evd) ?_
 ·exact(uK.set _ (dc _)).set _ (dc _)
 ·exact(uK.set _ u1).set _ u2
 ·exact(uK.set _ (dc _)).set _ (dc _)
 ·exact uK.set _ (dc _)
structure xB(b:Blk):Prop where
 slot:U64 b.slot
 just:U64 b.just.ep
 fin:U64 b.fin.ep
 j:U64 b.pul.j.ep
 f:U64 b.pul.f.ep
 diff:WdG b.diff
 pdiff:WdG b.pdiff
theorem xB.u{b:Blk}(h:xB b):I1 b:=⟨h.slot,h.just,h.fin,h.j,h.f⟩
theorem xB.w{b:Blk}{i:Nat}(h:xB b):jL i b:=⟨h.slot,h.just,h.fin,h.j,h.f,h.diff,h.pdiff⟩
theorem XZ{n:Int}(h0:0<=n)(h1:n<=99):lz n≠XU:=by
 intro h;have h2:(lz n).1.getD 0 0=XU.1.getD 0 0:=by rw[h]
 have h3:(lz n).1.getD 0 0=E0 n:=rfl;rw[h3]at h2;have h4:XU.1.getD 0 0=E0 100:=rfl;rw[h4]at h2;have h5:=sT n;rw[h2,<-sT 100,show IntKind.u8.wrap 100=100 from rfl,show IntKind.u8.wrap n=n from by rw[IntKind.wrap_u8];omega]at h5;omega
theorem dP{k:Int}{n:Nat}(hk:0<=k)(hn:0<n):∃p:Nat,Int.tmod k (n:Int)=p/\p<n:=by
 obtain⟨m,rfl⟩:=afF hk;exact⟨m%n,(Int.ofNat_tmod m n).symm,Nat.mod_lt _ hn⟩
theorem ni{k:Int}(n:Nat)(hk:0<=k):0<=fd .i64 k n:=by
 unfold fd;have hp:(0:Int)<2 ^ (min n IntKind.i64.bits):=Int.pow_pos af2;rw[ade _ (aez hp)];exact adx hk (aez hp)
theorem Pz(s:af)(i:Nat)(hi:bi s i)(httd:WdG s.cfg.ttd)(n k:Int)(hk:0<=k)(hn0:0<=n)(hn1:n<=99)(h24:i<=34):Sm xB fun b=>PC Tryz.prog 49 [.agg (ak s.a),.int .i64 n,.int .i64 k] (.agg (au b)):=by
 have hr:=hi.r;have hpos:=hi.tree.pos;have hn:=hi.nn;refine lX 12 HD af1 puA (fun r _=>puA) ?_;unfold vA;refine bd ?_;obtain⟨p0,hp0,hp0'⟩:=dP hk hpos
 obtain⟨m,hm,hm0,hm1⟩:∃m:Nat,(if (s.nodes.length:Int)<3 then (s.nodes.length:Int)else 3)=m/\0<m/\m<=s.nodes.length:=by
  by_cases h3:(s.nodes.length:Int)<3
  ·rw[afA h3];exact⟨_,rfl,hpos,afE _⟩
  ·rw[afx h3];exact⟨3,rfl,af2,af0⟩
 obtain⟨q,hq,hq'⟩:=dP (k:=(p0:Int)) af0 hm0;have hl1:IntKind.i64.wrap ((s.nodes.length:Int)-1)=((s.nodes.length-1:Nat):Int):=by rw[ar af0 af0];omega
 have hl2:IntKind.i64.wrap (((s.nodes.length-1:Nat):Int)-q)=((s.nodes.length-1-q:Nat):Int):=by rw[ar af0 af0];omega
 refine dG ?_;refine gR ?_;refine dG ?_;repeat(first|refine gR ?_|simp only[go_sem,hp0])
 refine dG ?_;refine xn (fun p:Nat=>p<s.nodes.length) (fun p=>[(7,.int .i64 p)]) ?_ (fun p hp=>?_)
 ·repeat'(first|refine db ?_|simp only[go_sem,hm,hq,hl1,hl2]|(refine bB (fun h=>?_) (fun h=>?_)<;>try(exact absurd h af2))|refine eK (fun h=>?_) (fun h=>?_))
  ·exact⟨s.nodes.length-1-q,af0,by exact abS [] [0,1]⟩
  ·exact⟨p0,hp0',by exact abS [] [0,1]⟩
 clear hm hq hl1 hl2 hp0;have hg:=dv (t:=s.nodes) hp;have hu:=hi.blk hp;generalize nod s.nodes p=up at *;refine dG ?_;repeat(first|refine gR ?_|simp only[go_sem,hg])
 refine dG ?_;refine gR ?_;refine ee (gM n) ?_;refine lB ?_;have hnw:=hi.nw.1;have huf:=hi.uf;have hsp:=hi.cfg.s1;obtain⟨v1,v2,v3,v4,v5,v6⟩:=hu;have hw0:=uK;refine dG ?_;refine jE xB au 4 [] ?_ (fun b h=>?_)
 ·repeat'(first|refine db ?_|(refine bB (fun h=>?_) (fun h=>?_)<;>try(exact absurd h af2))|refine eK (fun h=>?_) (fun h=>?_))
  all_goals(refine jl au 4 rfl ?_ (by exact abS [] [0,1,2,3,4]);constructor<;>(try dsimp only)<;>first|assumption|exact dc _)
 obtain⟨a1,a2,a3,a4,a5,a6,a7⟩:=h;refine dG ?_;refine jE xB au 4 [] ?_ (fun b h=>?_)
 ·repeat'(first|refine db ?_|(refine bB (fun h=>?_) (fun h=>?_)<;>try(exact absurd h af2))|refine eK (fun h=>?_) (fun h=>?_))
  ·refine dt (gM _) ?_;repeat'(first|refine db ?_|(refine bB (fun h=>?_) (fun h=>?_)<;>try(exact absurd h af2))|refine eK (fun h=>?_) (fun h=>?_))
   (refine jl au 4 rfl ?_ (by exact abS [] [0,1,2,3,4]);constructor<;>(try dsimp only)<;>first|assumption|exact dc _)
  ·(refine jl au 4 rfl ?_ (by exact abS [] [0,1,2,3,4]);constructor<;>(try dsimp only)<;>first|assumption|exact dc _)
 obtain⟨a1,a2,a3,a4,a5,a6,a7⟩:=h;refine dG ?_;refine gR ?_;generalize hE:IntKind.u64.wrap (Int.tdiv b.slot s.cfg.spe)=E at *;have hE':U64 E:=hE▸dc _;have hc:=xL (s:=s) (i:=(p:Int)) huf hE';have c1:=vz s hr p E;generalize LY s p E=c at *;refine dG ?_;refine jE xB au 4 [] ?_ (fun b h=>?_)
 ·repeat'(first|refine db ?_|(refine bB (fun h=>?_) (fun h=>?_)<;>try(exact absurd h af2))|refine eK (fun h=>?_) (fun h=>?_))
  refine dt c1 ?_;repeat'(first|refine db ?_|(refine bB (fun h=>?_) (fun h=>?_)<;>try(exact absurd h af2))|refine eK (fun h=>?_) (fun h=>?_))
  all_goals(refine jl au 4 rfl ?_ (by exact abS [] [0,1,2,3,4]);constructor<;>(try dsimp only)<;>first|assumption|exact dc _)
 obtain⟨a1,a2,a3,a4,a5,a6,a7⟩:=h;refine dG ?_;refine jE xB au 4 [] ?_ (fun b h=>?_)
 ·repeat'(first|refine db ?_|(refine bB (fun h=>?_) (fun h=>?_)<;>try(exact absurd h af2))|refine eK (fun h=>?_) (fun h=>?_))
  all_goals(refine jl au 4 rfl ?_ (by exact abS [] [0,1,2,3,4]);constructor<;>(try dsimp only)<;>first|assumption|exact dc _)
 obtain⟨a1,a2,a3,a4,a5,a6,a7⟩:=h;have sw0:∀ (w:Wd) (x:Int),spl (wdc w) 0 [.int .u64 x]=wdc (w.set 0 x):=fun w x=>oS w af2 x
 have hw9:WdG (wd0.set 0 99):=hw0.set _ ⟨af2,af2⟩;refine dG ?_;refine jE xB au 4 [] ?_ (fun b h=>?_)
 ·repeat'(first|refine db ?_|simp only[go_sem,sw0]|(refine bB (fun h=>?_) (fun h=>?_)<;>try(exact absurd h af2))|refine eK (fun h=>?_) (fun h=>?_))
  all_goals try refine dt (gM _) ?_
  all_goals try repeat'(first|refine db ?_|simp only[go_sem,sw0]|(refine bB (fun h=>?_) (fun h=>?_)<;>try(exact absurd h af2))|refine eK (fun h=>?_) (fun h=>?_))
  all_goals(refine jl au 4 rfl ?_ (by exact abS [] [0,1,2,3,4]);constructor<;>(try dsimp only)<;>first|assumption|exact dc _)
 obtain⟨a1,a2,a3,a4,a5,a6,a7⟩:=h;obtain⟨w1,hw1,cw1⟩:=LP (fd .i64 k 3);obtain⟨p5,hp5,hp5'⟩:=dP (ni 3 hk) hpos;have hg5:=dv (t:=s.nodes) hp5';refine dG ?_;refine jE xB au 4 [] ?_ (fun b h=>?_)
 ·repeat'(first|refine db ?_|simp only[go_sem,hp5,hg5]|(refine bB (fun h=>?_) (fun h=>?_)<;>try(exact absurd h af2))|refine eK (fun h=>?_) (fun h=>?_))
  all_goals try first|refine dt (gM _) ?_|refine dt cw1 ?_
  all_goals try repeat'(first|refine db ?_|simp only[go_sem,hp5,hg5]|(refine bB (fun h=>?_) (fun h=>?_)<;>try(exact absurd h af2))|refine eK (fun h=>?_) (fun h=>?_))
  all_goals(refine jl au 4 rfl ?_ (by exact abS [] [0,1,2,3,4]);constructor<;>(try dsimp only)<;>first|assumption|exact dc _)
 refine db ?_;refine C9 (by first|rfl|exact evd) (by first|rfl|exact evd) ?_;exact h
theorem Yy(n:Nat)(bits:Int)(hn:n<=2097152):aar Tryz.prog 31 0 (d9.tl 2).hd ⟨7,[.int .i64 n,.int .i64 bits,.dead,.dead,.sl 0 true [],.hs 1 0 0 0,.dead],[]⟩ [.vec 1 []]
 ⟨7,[.int .i64 n,.int .i64 bits,.dead,.dead,.sl 0 true [],.hs 1 0 0 (jp bits n).length,.dead],[]⟩ [.vec 1 (ah .i64 (jp bits n))]:=by
 refine Ad ?_;unfold d9;refine bd ?_;simp only[am.tl,am.hd];refine gon ?_;have hz:jp bits 0=[]:=rfl;refine aE (fun i:Nat=>[(6,.int .i64 i),(5,.hs 1 0 0 (jp bits i).length)]) (fun i=>[.vec 1 (ah .i64 (jp bits i))]) (fun i=>n-i) (fun i=>i<=n) 0 (afK _) ?_ ?_
 ·rw[hz];exact abS [] [0]
 intro i hi;have hlen:=tC bits i;refine fM ?_;by_cases h1:i<n
 ·have e1:=inT h1
  have hw:=ae h1 af0;have hu:IntKind.u64.wrap (i:Int)=(i:Int):=aC af0 af0;have hs:=O1 bits i;have hnum:∀l:List Int,ah .i64 l++[[.int .i64 (i:Int)]]=ah .i64 (l++[(i:Int)]):=fun l=>kX .i64 l [(i:Int)]
  cases hq:(gD .i64 (fd .i64 bits i) 1==1)with
  | true =>
    rw[hq,afA rfl]at hs;refine bO e1 ?_;refine Om hu hq ?_;refine bm hw hnum ?_;refine⟨i+1,h1,af0,?_⟩;simp only[hs,afB,afG,afM,acC];exact abS [] [1]
  | false =>
    rw[hq,afx af1]at hs;refine bO e1 ?_;refine iJ hu hq ?_;refine aA hw ?_;refine⟨i+1,h1,af0,?_⟩;simp only[hs];exact abS [] [0]
 ·obtain rfl:i=n:=af0
  have e1:decide ((i:Int)<(i:Int))=false:=aD af0;refine aS e1 ?_;exact abS [] [0]
theorem VZ(n:Nat)(bits:Int)(h0:0<n)(hn:n<=2097152):(∃l:List Int,l.length<=n/\aJ Tryz.prog 99 [.int .i64 n,.int .i64 bits] [] (.hs 1 0 0 l.length) [.vec 1 (ah .i64 l)]) \/
 PC Tryz.prog 99 [.int .i64 n,.int .i64 bits] (.sl 1 true (ah .i64 [0])):=by
 have hg:=Yy n bits hn;have hc:d9=.seq d9.hd (.seq (d9.tl 1).hd (.seq (d9.tl 2).hd (d9.tl 3))):=rfl;have e3:decide ((0:Int)<(n:Int))=true:=ax af0;have hlen:=tC bits n;by_cases hq:jp bits n=[]
 ·right
  refine pfn 7 rU ?_;rw[hc];generalize (d9.tl 2).hd=L at *;unfold d9;refine bd ?_;simp only[am.hd,am.tl];rw[hq]at hg;refine gon ?_;refine dT 5 1 ?_;simp only[go_sem];refine hg _ _ _ ?_;refine aW e3 ?_;exact aj
 ·left
  have hp:0<(jp bits n).length:=adE.2 hq;refine⟨jp bits n,hlen,aJ.fact 7 rU af1 ?_ af1⟩;rw[hc];generalize (d9.tl 2).hd=L at *;unfold d9;refine bd ?_;simp only[am.hd,am.tl];generalize jp bits n=l at *;have e4:((l.length:Int)==0)=false:=by rw[<-acE,ac0];omega
  refine gon ?_;refine dT 5 1 ?_;simp only[go_sem];refine hg _ _ _ ?_;repeat(first|refine aM ?_|simp only[go_sem,e4])
  refine aab ?_;exact abF [] [0]
structure Zc(x:aX):Prop where
 slot:U64 x.slot
 ep:U64 x.target.ep
 len:x.vals.length<=10
section
variable{fr:Fr}{σ:St}{rs:List fS}{G:aX->Prop}{l:List AV}{a:Int}{b:Rt}{c:Cp}{d:List Int}
theorem OW(hl:dy fr σ rs=some l)(hv:fz σ (List.range σ.length) (fJ l)=.agg (cK ⟨a,b,c,.sl 1 false (ah .i64 d)⟩))(hg:G ⟨a,b,c,d⟩):Sm G fun x=>PQ rs (.agg (cK x.a)) .ret fr σ:=⟨_,hg,l,hl,.inl hv⟩
theorem VN(hl:dy fr σ rs=some l)(hv:fz σ (List.range σ.length) (fJ l)=.agg (cK ⟨a,b,c,.sl 1 true (ah .i64 d)⟩))(hg:G ⟨a,b,c,d⟩):Sm G fun x=>PQ rs (.agg (cK x.a)) .ret fr σ:=
 ⟨_,hg,l,hl,.inr ⟨_,hv,(gI _).2 (aY _ _),Wk.agg (WkC.same _ ((WkC.refl _).app ((WkC.refl _).app (WkC.one (Wk.open_ _ _ _) fun h=>h))))⟩⟩
end
theorem Py(s:af)(i:Nat)(hi:bi s i)(k:Int)(hk:0<=k):Sm Zc fun x=>PC Tryz.prog 50 [.agg (ak s.a),.int .i64 k] (.agg (cK x.a)):=by
 have hr:=hi.r;have hpos:=hi.tree.pos;have hb0:=hi.cfg.b0;have hb1:=hi.cfg.b1;have hnw:=hi.nw.1;have huf:=hi.uf;have hsp:=hi.cfg.s1;have hs0:=VZ s.cfg.bals.length (fd .i64 k 3) hb0 af0;obtain⟨p,hp,hp'⟩:=dP hk hpos;obtain⟨p4,hp4,hp4'⟩:=dP (ni 4 hk) hpos;have hg:=dv (t:=s.nodes) hp';have hg4:=dv (t:=s.nodes) hp4';rcases hs0 with⟨l,hl,cs⟩|cs
 ·refine lX 7 nT af1 puA (fun r _=>puA) ?_
  unfold jM;refine bd ?_;repeat(first|refine db ?_|simp only[go_sem,hp,hg])
  refine jm (fun r hr=>Bv [] cs af1 evd (qP.mk' af1 af1 evd) hr) ?_;repeat(first|refine lB ?_|simp only[go_sem,hg])
  generalize (nod s.nodes p).blk.root=r0 at *;refine dG ?_;refine jE U64 (fun x:Int=>cK ⟨x,r0,⟨0,rt0⟩,.hs 1 2 0 l.length⟩) 3 [] ?_ (fun x hx=>?_)
  ·repeat'(first|refine db ?_|(refine bB (fun h=>?_) (fun h=>?_)<;>try(exact absurd h af2))|refine eK (fun h=>?_) (fun h=>?_))
   all_goals(refine jl (fun x:Int=>cK ⟨x,r0,⟨0,rt0⟩,.hs 1 2 0 l.length⟩) 3 rfl ?_ (by exact abS [] [0,1,2,3]);first|assumption|exact dc _)
  (try simp only[dE])
  refine db ?_;generalize hE:IntKind.u64.wrap (Int.tdiv x s.cfg.spe)=E at *;have hE':U64 E:=hE▸dc _;have hc:=xL (s:=s) (i:=(p:Int)) huf hE';have c1:=vz s hr p E;generalize LY s p E=c at *;refine ee c1 ?_;repeat'(first|refine db ?_|simp only[go_sem,hg4,hp4,yi]|(refine bB (fun h=>?_) (fun h=>?_)<;>try(exact absurd h af2))|refine eK (fun h=>?_) (fun h=>?_))
  all_goals try(refine dt (gM _) ?_;refine db ?_)
  all_goals(refine OW (by first|rfl|exact evd) (by first|rfl|exact evd) ?_)
  all_goals(constructor<;>(try dsimp only)<;>first|assumption|exact dc _|exact xL huf (dc _)|(simp only[afB,afG,afM];omega)|omega)
 ·refine lX 7 nT af1 puA (fun r _=>puA) ?_
  unfold jM;refine bd ?_;repeat(first|refine db ?_|simp only[go_sem,hp,hg])
  refine ee cs ?_;repeat(first|refine lB ?_|simp only[go_sem,hg])
  generalize (nod s.nodes p).blk.root=r0 at *;refine dG ?_;refine jE U64 (fun x:Int=>cK ⟨x,r0,⟨0,rt0⟩,.sl 1 true (ah .i64 [0])⟩) 3 [] ?_ (fun x hx=>?_)
  ·repeat'(first|refine db ?_|(refine bB (fun h=>?_) (fun h=>?_)<;>try(exact absurd h af2))|refine eK (fun h=>?_) (fun h=>?_))
   all_goals(refine jl (fun x:Int=>cK ⟨x,r0,⟨0,rt0⟩,.sl 1 true (ah .i64 [0])⟩) 3 rfl ?_ (by exact abS [] [0,1,2,3]);first|assumption|exact dc _)
  (try simp only[dE])
  refine db ?_;generalize hE:IntKind.u64.wrap (Int.tdiv x s.cfg.spe)=E at *;have hE':U64 E:=hE▸dc _;have hc:=xL (s:=s) (i:=(p:Int)) huf hE';have c1:=vz s hr p E;generalize LY s p E=c at *;refine ee c1 ?_;repeat'(first|refine db ?_|simp only[go_sem,hg4,hp4,yi]|(refine bB (fun h=>?_) (fun h=>?_)<;>try(exact absurd h af2))|refine eK (fun h=>?_) (fun h=>?_))
  all_goals try(refine dt (gM _) ?_;refine db ?_)
  all_goals first|(refine VN (by first|rfl|exact evd) (by first|rfl|exact evd) ?_)|(refine OW (by first|rfl|exact evd) (by first|rfl|exact evd) ?_)
  all_goals(constructor<;>(try dsimp only)<;>first|assumption|exact dc _|exact xL huf (dc _)|(simp only[afB,afG,afM];omega)|(simp;done)|omega)
structure Zi(x:aB):Prop where
 ep:U64 x.cp.ep
 len:x.bals.length<=10
 bals:∀n∈x.bals,U64 n
def AN(k:Int)(n:Nat):List Int:=(List.range n).map fun v=>IntKind.u64.wrap (Int.tmod (fd .i64 k v) 50)
theorem Jh(k:Int)(n:Nat):(AN k n).length=n:=by simp[AN]
theorem Zn(k:Int)(n:Nat):AN k (n+1)=AN k n++[IntKind.u64.wrap (Int.tmod (fd .i64 k n) 50)]:=by simp[AN,acV]
theorem Zo(k:Int)(n:Nat):∀x∈AN k n,U64 x:=fun x hx=>by
 unfold AN at hx;obtain⟨v,_,rfl⟩:=acz.1 hx;exact dc _
theorem YE(c:Cp)(u v:AV):(bE ⟨c,u⟩).set 33 v=bE ⟨c,v⟩:=by
 unfold bE;rw[aeU 33 _ (by rw[aF];exact afE _),aF];rfl
theorem YD(c:Cp)(u:AV):(bE ⟨c,u⟩).getD 33 .dead=u:=by
 unfold bE;rw[afy,acS (by rw[aF];exact afE _),aF];rfl
theorem UW(k:IntKind)(l:List Int)(i:Nat)(x:Int):(ah k l).set i [.int k x]=ah k (l.set i x):=by simp[ah,afk]
section
variable{fr:Fr}{σ:St}{rs:List fS}{G:aB->Prop}{l:List AV}{c:Cp}{d:List Int}
theorem X6(hl:dy fr σ rs=some l)(hv:fz σ (List.range σ.length) (fJ l)=.agg (bE ⟨c,.sl 1 false (ah .u64 d)⟩))(hg:G ⟨c,d⟩):Sm G fun x=>PQ rs (.agg (bE x.a)) .ret fr σ:=⟨_,hg,l,hl,.inl hv⟩
end
theorem PJ(s:af)(i:Nat)(hi:bi s i)(k:Int)(hk:0<=k):Sm Zi fun x=>PC Tryz.prog 52 [.agg (ak s.a),.int .i64 k] (.agg (bE x.a)):=by
 have hr:=hi.r;have hpos:=hi.tree.pos;have hb0:=hi.cfg.b0;have hb1:=hi.cfg.b1;have hnw:=hi.nw.1;have huf:=hi.uf;have hsp:=hi.cfg.s1;obtain⟨p,hp,hp'⟩:=dP hk hpos;have hg:=dv (t:=s.nodes) hp';have hu:=(hi.blk hp').j;generalize (nod s.nodes p)=up at *;refine lX 8 HF af1 puA (fun r _=>puA) ?_;unfold vC;refine bd ?_;refine dG ?_;refine gR ?_;refine dG ?_;repeat(first|refine gR ?_|simp only[go_sem,hp])
 refine dG ?_;repeat(first|refine gR ?_|simp only[go_sem,hg])
 refine dG ?_;refine jE (fun c:Cp=>U64 c.ep) (fun c:Cp=>bE ⟨c,.sl 0 true []⟩) 2 [] ?_ (fun c hc=>?_)
 ·repeat'(first|refine db ?_|(refine bB (fun h=>?_) (fun h=>?_)<;>try(exact absurd h af2))|refine eK (fun h=>?_) (fun h=>?_))
  ·refine ee (vz s hr p _) ?_;repeat'(first|refine db ?_|(refine bB (fun h=>?_) (fun h=>?_)<;>try(exact absurd h af2))|refine eK (fun h=>?_) (fun h=>?_))
   refine jl (fun c:Cp=>bE ⟨c,.sl 0 true []⟩) 2 rfl ?_ (by exact abS [] [0,1,2]);exact xL huf (dc _)
  ·refine jl (fun c:Cp=>bE ⟨c,.sl 0 true []⟩) 2 rfl ?_ (by exact abS [] [0,1,2]);assumption
 (try simp only[dE])
 refine dG ?_;generalize hN:s.cfg.bals.length=N at *;refine Da (fun l:List Int=>l.length=N/\∀n∈l,U64 n) (fun _=>[]) (fun l=>[.var (ak s.a),.var (bE ⟨⟨0,rt0⟩,.sl 0 true []⟩),.var (bE ⟨c,.hs 1 3 0 l.length⟩),.vec 1 (ah .u64 l)]) ?_ (fun l hl=>?_)
 ·refine OX (AN k N) ⟨Jh k N,Zo k N⟩ ?_
  refine gon ?_;refine ou 2 33 1 ?_ af5 (by exact YD _ _);simp only[go_sem,YE];refine aE (fun i:Nat=>[(7,.int .i64 i)]) (fun i=>[.var (ak s.a),.var (bE ⟨⟨0,rt0⟩,.sl 0 true []⟩),.var (bE ⟨c,.hs 1 3 0 (AN k i).length⟩),.vec 1 (ah .u64 (AN k i))]) (fun i=>N-i) (fun i=>i<=N) 0 (afK _) ?_ ?_
  ·rw[show AN k 0=[]from rfl];exact abS [] [0,1,2,3]
  intro i hi;have hlen:=Jh k i;by_cases h1:i<N
  ·have e1:decide ((i:Int)<(s.cfg.bals.length:Int))=true:=ax af0;have hw:=ae h1 af0;have hu:IntKind.u64.wrap (i:Int)=(i:Int):=aC af0 af0;have hs:=Zn k i;refine bO e1 ?_;refine bm hu hw ?_;refine⟨i+1,h1,af0,?_⟩;rw[hs];exact abS [] [0,1,2,4]
  ·obtain rfl:i=N:=af0
   have e1:decide ((i:Int)<(s.cfg.bals.length:Int))=false:=aD af0;refine aS e1 ?_;exact abS [] [0,1,2,3]
 obtain⟨hl1,hl2⟩:=hl;have hgd:=gdn (k:=.u64) (ns:=l) (i:=0) af0;repeat'(first|refine db ?_|simp only[go_sem,UW,hgd]|(refine bB (fun h=>?_) (fun h=>?_)<;>try(exact absurd h af2))|refine eK (fun h=>?_) (fun h=>?_))
 all_goals(refine X6 (by first|rfl|exact evd) (by first|rfl|exact evd) ?_)
 ·refine⟨hc,by simp only[afB,afG,afM];omega,fun n hn=>?_⟩;rcases afR.1 hn with h|h
  ·exact hl2 n h
  ·rw[afN]at h;subst h;exact⟨af2,af2⟩
 ·refine⟨hc,by simp only[adO];omega,fun n hn=>?_⟩;rcases aeB hn with h|rfl
  ·exact hl2 n h
  ·exact⟨af2,af2⟩
 ·exact⟨hc,by dsimp only;omega,hl2⟩
structure abv(v:Vdt):Prop where
 tag:U64 v.tag
 lo:1<=v.kind
 hi:v.kind<=4
theorem PK(s:al)(i:Nat)(hi:fT s i)(k:Int)(hk:0<=k):Sm abv fun v=>PC Tryz.prog 53 [.agg (aG s.a),.int .i64 k] (.agg (dZ v)):=by
 have hr:=hi.sto.r;have hpos:=hi.sto.tree.pos;have hrq:=hi.rq;have hii:=hi.sto.ii;have hut:=hi.ut;obtain⟨p,hp,hp'⟩:=dP hk hpos;have hg:=dv (t:=s.sto.nodes) hp';obtain⟨q,hq,hq'⟩:=dP (n:=6) (ni 4 hk) af2
 obtain⟨kd,hkd,hk1,hk4⟩:∃kd:Int,([[.int .i64 1],[.int .i64 1],[.int .i64 2],[.int .i64 2],[.int .i64 3],[.int .i64 4]]:List (List AV)).getD q []=[.int .i64 kd]/\1<=kd/\kd<=4:=by
  match q,hq' with
  |0,_|1,_=>exact⟨1,rfl,af2,af2⟩
  |2,_|3,_=>exact⟨2,rfl,af2,af2⟩
  |4,_=>exact⟨3,rfl,af2,af2⟩
  |5,_=>exact⟨4,rfl,af2,af2⟩
 have hq6:Int.tmod (fd .i64 k 4) 6=(q:Int):=hq;refine lX 11 BA af1 puA (fun r _=>puA) ?_;unfold rK;refine bd ?_;refine dG ?_;refine gR ?_;refine dG ?_;repeat(first|refine gR ?_|simp only[go_sem,hq6,hkd])
 refine dG ?_;repeat(first|refine gR ?_|simp only[go_sem,hp,hg])
 generalize (nod s.sto.nodes p).blk.root=r0 at *;generalize hT:IntKind.u64.wrap (k.tmod 9)=T at *;have hT':U64 T:=hT▸dc _;refine dG ?_;refine Da (fun b:Int×Rt=>U64 b.1) (fun _=>[(7,.int .i64 s.reqs.length)]) (fun b=>[.var (aG s.a),.var (dZ ⟨0,0,rt0⟩),.var (dZ ⟨b.1,kd,rt0⟩),.var (rtc b.2)]) ?_ (fun b hb=>?_)
 ·by_cases hrl:0<s.reqs.length
  ·obtain⟨q1,h1,h1'⟩:=dP (ni 11 hk) hrl;have e1:decide ((0:Int)<(s.reqs.length:Int))=true:=ax af0;have hg1:(rows ay s.reqs).getD q1 []=ay (aO s.reqs q1):=aK (f:=ay) gU h1';have hq1:=hut _ (lc h1');generalize aO s.reqs q1=R at *;repeat'(first|refine db ?_|simp only[go_sem,e1,h1,hg1]|(refine bB (fun h=>?_) (fun h=>?_)<;>try(exact absurd h af2))|refine eK (fun h=>?_) (fun h=>?_))
   ·exact⟨(R.tag,R.block),hq1,by exact abS [] [0,1,2,3]⟩
   all_goals exact⟨(T,r0),hT',by exact abS [] [0,1,2,3]⟩
  ·have e1:decide ((0:Int)<(s.reqs.length:Int))=false:=aD af0;repeat'(first|refine db ?_|simp only[go_sem,e1]|(refine bB (fun h=>?_) (fun h=>?_)<;>try(exact absurd h af2))|refine eK (fun h=>?_) (fun h=>?_))
   exact⟨(T,r0),hT',by exact abS [] [0,1,2,3]⟩
 obtain⟨T1,r1⟩:=b;simp only[dS,dE,act,acx]at hb ⊢;refine db ?_;refine dt (cj s.sto.nodes r1 hr.bn) ?_;generalize ab s.sto.nodes r1=I;refine lB ?_;refine dG ?_;have cp:=pS s.sto.nodes hr.tree.ok hr.bn I;have hpm:=fun x hx=>dL (x:=x) hr.tree.ok (i:=I) hx
 have hpl:=iZ hr.tree.ok I;have hbn:=hr.bn;generalize aZ s.sto.nodes I=L at *;refine jE (fun _:Rt=>True) (fun r:Rt=>dZ ⟨T1,kd,r⟩) 2 [] ?_ (fun r2 _=>?_)
 ·by_cases hrl:0<L.length
  ·obtain⟨q1,h1,h1'⟩:=dP (ni 16 hk) hrl;have e1:decide ((0:Int)<(L.length:Int))=true:=ax af0;have hg1:=gdn (k:=.i64) h1';have hm:=hpm _ (cR 0 h1');obtain⟨u,hu⟩:=afF hm.1;rw[hu]at hg1 hm;have hg2:=dv (t:=s.sto.nodes) (i:=u) af0;refine db ?_;refine dt cp ?_;repeat'(first|refine db ?_|simp only[go_sem,e1,h1,hg1,hg2]|(refine bB (fun h=>?_) (fun h=>?_)<;>try(exact absurd h af2))|refine eK (fun h=>?_) (fun h=>?_))
   all_goals refine jl (fun r:Rt=>dZ ⟨T1,kd,r⟩) 2 rfl trivial (by exact abS [] [0,1,2,3])
  ·have e1:decide ((0:Int)<(L.length:Int))=false:=aD af0;refine db ?_;refine dt cp ?_;repeat'(first|refine db ?_|simp only[go_sem,e1]|(refine bB (fun h=>?_) (fun h=>?_)<;>try(exact absurd h af2))|refine eK (fun h=>?_) (fun h=>?_))
   refine jl (fun r:Rt=>dZ ⟨T1,kd,r⟩) 2 rfl trivial (by exact abS [] [0,1,2,3])
 (try simp only[dE])
 repeat'(first|refine db ?_|(refine bB (fun h=>?_) (fun h=>?_)<;>try(exact absurd h af2))|refine eK (fun h=>?_) (fun h=>?_))
 ·refine dt (gM _) ?_;refine db ?_;refine C9 (by first|rfl|exact evd) (by first|rfl|exact evd) ?_;exact⟨hb,hk1,hk4⟩
 ·refine C9 (by first|rfl|exact evd) (by first|rfl|exact evd) ?_;exact⟨hb,hk1,hk4⟩
structure uL(c:cI):Prop where
 r:Zd c
 new:gF c=0
 bu:∀x∈c.bals,0<=x/\x<40
 bo:0<=c.boost
 g1:c.gen=lz 1
theorem Do{l:List Int}(h:∀x∈l,0<=x/\x<40)(hl:l.length<=6):∀n,n<=l.length->(gS l n).2=0/\0<=(gS l n).1/\(gS l n).1<=40*n
 |0,_=>⟨rfl,afT _,by show (0:Int)<=_;omega⟩
 | n + 1, hn => by
   obtain⟨h1,h2,h3⟩:=Do h hl n af0;have hs:gS l (n+1)=uP (gS l n).1 (l.getD n 0):=by show (if (gS l n).2≠0 then gS l n else _)=_;rw[afx (by simp[h1])]
   have hx:=h _ (cR 0 (show n<l.length by omega));rw[hs];unfold uP;have hw:IntKind.u64.wrap ((gS l n).1+l.getD n 0)=(gS l n).1+l.getD n 0:=aC af0 af0;have hw2:IntKind.u64.wrap (18446744073709551615-l.getD n 0)=18446744073709551615-l.getD n 0:=aC af0 af0;split
   ·rename_i hh;first|(rw[hw2]at hh;omega)|omega
   ·dsimp only;rw[hw];exact⟨rfl,af0,af0⟩
theorem Xw{c:cI}(h1:1<=c.spe)(h2:c.spe<=64)(h3:c.boost<=100)(h4:c.bals.length<=6)(n1:1<=c.lim.node)(n2:c.lim.node<=4096)(o1:0<=c.lim.orph)(o2:c.lim.orph<=64)(e1:0<=c.lim.early)(e2:c.lim.early<=256)(t1:1<=c.lim.table)(t2:c.lim.table<=64)
 (r1:0<=c.lim.retry) (r2:c.lim.retry<=256) (b1:1<=c.lim.backoff) (b2:c.lim.backoff<=1048576) (hg:c.gen≠rt0) (hb:∀x∈c.bals,0<=x/\x<40):gF c=0:=by
 have w:∀ {n lo hi:Int},lo<=n->n<=hi->wit n lo hi=true:=fun h1 h2=>by unfold wit;rw[ax h1,ax h2];rfl
 have hs:=Do hb h4 c.bals.length (afE _)
 have hv:fY ⟨⟨0,c.gen⟩,c.bals⟩ c.bals.length=0:=by
  unfold fY ku;dsimp only;rw[afx af1,afx];rintro (h|h)
  ·exact h hs.1
  ·omega
 unfold gF;rw[afx af0,afx af0,afx af0,afx af0,w n1 n2,w o1 o2,w e1 e2,w t1 t2,w r1 r2,afx af1,afx af1,afx af1,afx af1,afx af1,afx af0,afx af0,afx hg,hv]
def AO(l:List Int)(n:Nat):List Int:=(List.range n).map fun i=>IntKind.u64.wrap (Int.tmod (atN l (10+i)) 40)
theorem Jj(l:List Int)(n:Nat):(AO l n).length=n:=by simp[AO]
theorem WG(l:List Int)(n:Nat)(hn:n<=100):∀x∈AO l n,0<=x/\x<40:=fun x hx=>by
 unfold AO at hx;obtain⟨v,hv,rfl⟩:=acz.1 hx;rw[List.mem_range]at hv;obtain⟨r,h,h'⟩:=dP (n:=40) (kG l (10+v) af0).1 af2;have h2:Int.tmod (atN l (10+v)) 40=(r:Int):=h;rw[h2,aC af0 af0];omega
theorem Zp(l:List Int)(n:Nat):AO l (n+1)=AO l n++[IntKind.u64.wrap (Int.tmod (atN l (10+n)) 40)]:=by simp[AO,acV]
theorem WT(x:Cfg)(v:AV):(cV x).set 44 v=cV { x with bals:=v }:=by
 simp only[cV,aek,dX,bj,ai,afG,Nat.reduceSub,Nat.reduceLT,acq,acx,act]
theorem WS(x:Cfg):(cV x).getD 44 .dead=x.bals:=by
 simp only[cV,afy,adr,dX,bj,ai,afG,Nat.reduceSub,Nat.reduceLT,acq,aed,adq,ac7]
section
variable{fr:Fr}{σ:St}{rs:List fS}{G:cI->Prop}{l:List AV}{a:Lim}{b c:Int}{d:Wd}{e:Rt}{f:List Int}
end
theorem VM{α:Type}{P:Program}{nt:Nat}{G:α->Prop}{f:FuncId}{rs:List fS}{ac:am}{args:List AV}{A:α->AV}{S:α->St}(nv:Nat)(hf:cE P f=some (nt,rs,ac))(ha:args.length<=nt)
 (h:Sm G fun r=>Tri P nt 0 ac (xC rs 0 (S r) (A r)) ⟨nv,args++List.replicate (nv-args.length) .dead,[]⟩ []):Sm G fun r=>aJ P f args [] (A r) (S r):=by
 obtain⟨r,h1,h2⟩:=h;exact⟨r,h1,aJ.fact nv hf ha h2 af1⟩
theorem S4(l:List Int):Sm uL fun c=>aJ Tryz.prog 12 [.sl 1 false (ah .i64 l)] [] (.agg (cV { c.a with bals:=.hs 1 0 0 c.bals.length })) [.vec 1 (ah .u64 c.bals)]:=by
 refine VM 5 Ee af1 ?_;unfold uk;refine bd ?_;obtain⟨r0,h0,b0⟩:=dP (n:=8) (kG l 0 af2).1 af2;have t0:Int.tmod (atN l 0) 8=(r0:Int):=h0;have a0:PC Tryz.prog 41 [.sl 1 false (ah .i64 l),.int .i64 0] (.int .i64 (atN l 0)):=gj l false 0 af2;obtain⟨r1,h1,b1⟩:=dP (n:=4) (kG l 1 af2).1 af2;have t1:Int.tmod (atN l 1) 4=(r1:Int):=h1;have a1:PC Tryz.prog 41 [.sl 1 false (ah .i64 l),.int .i64 1] (.int .i64 (atN l 1)):=gj l false 1 af2;obtain⟨r2,h2,b2⟩:=dP (n:=4) (kG l 2 af2).1 af2;have t2:Int.tmod (atN l 2) 4=(r2:Int):=h2;have a2:PC Tryz.prog 41 [.sl 1 false (ah .i64 l),.int .i64 2] (.int .i64 (atN l 2)):=gj l false 2 af2;obtain⟨r3,h3,b3⟩:=dP (n:=4) (kG l 3 af2).1 af2;have t3:Int.tmod (atN l 3) 4=(r3:Int):=h3;have a3:PC Tryz.prog 41 [.sl 1 false (ah .i64 l),.int .i64 3] (.int .i64 (atN l 3)):=gj l false 3 af2;obtain⟨r4,h4,b4⟩:=dP (n:=4) (kG l 4 af2).1 af2;have t4:Int.tmod (atN l 4) 4=(r4:Int):=h4;have a4:PC Tryz.prog 41 [.sl 1 false (ah .i64 l),.int .i64 4] (.int .i64 (atN l 4)):=gj l false 4 af2;obtain⟨r5,h5,b5⟩:=dP (n:=5) (kG l 5 af2).1 af2;have t5:Int.tmod (atN l 5) 5=(r5:Int):=h5;have a5:PC Tryz.prog 41 [.sl 1 false (ah .i64 l),.int .i64 5] (.int .i64 (atN l 5)):=gj l false 5 af2;obtain⟨r6,h6,b6⟩:=dP (n:=4) (kG l 6 af2).1 af2;have t6:Int.tmod (atN l 6) 4=(r6:Int):=h6;have a6:PC Tryz.prog 41 [.sl 1 false (ah .i64 l),.int .i64 6] (.int .i64 (atN l 6)):=gj l false 6 af2;obtain⟨r7,h7,b7⟩:=dP (n:=3) (kG l 7 af2).1 af2;have t7:Int.tmod (atN l 7) 3=(r7:Int):=h7;have a7:PC Tryz.prog 41 [.sl 1 false (ah .i64 l),.int .i64 7] (.int .i64 (atN l 7)):=gj l false 7 af2;obtain⟨r8,h8,b8⟩:=dP (n:=2) (kG l 8 af2).1 af2;have t8:Int.tmod (atN l 8) 2=(r8:Int):=h8;have a8:PC Tryz.prog 41 [.sl 1 false (ah .i64 l),.int .i64 8] (.int .i64 (atN l 8)):=gj l false 8 af2;obtain⟨r9,h9,b9⟩:=dP (n:=5) (kG l 9 af2).1 af2;have t9:Int.tmod (atN l 9) 5=(r9:Int):=h9;have a9:PC Tryz.prog 41 [.sl 1 false (ah .i64 l),.int .i64 9] (.int .i64 (atN l 9)):=gj l false 9 af2
 obtain⟨bo,hbo,hbo0,hbo1⟩:∃bo:Int,([[.int .i64 0],[.int .i64 40],[.int .i64 100]]:List (List AV)).getD r7 []=[.int .i64 bo]/\0<=bo/\bo<=100:=by
  match r7,b7 with
  |0,_=>exact⟨0,rfl,af2,af2⟩
  |1,_=>exact⟨40,rfl,af2,af2⟩
  |2,_=>exact⟨100,rfl,af2,af2⟩
 have sw0:∀ (w:Wd) (x:Int),spl (wdc w) 0 [.int .u64 x]=wdc (w.set 0 x):=fun w x=>oS w af2 x
 have sw1:∀ (w:Wd) (x:Int),spl (wdc w) 1 [.int .u64 x]=wdc (w.set 1 x):=fun w x=>oS w af2 x
 have sw2:∀ (w:Wd) (x:Int),spl (wdc w) 2 [.int .u64 x]=wdc (w.set 2 x):=fun w x=>oS w af2 x
 refine dG ?_;refine gR ?_;refine dG ?_;refine gR ?_;refine ee (a0) ?_;repeat(first|refine lB ?_|simp only[go_sem,t0,hbo,sw0,sw1,sw2])
 refine ee (a1) ?_;repeat(first|refine lB ?_|simp only[go_sem,t1,hbo,sw0,sw1,sw2])
 refine ee (a2) ?_;repeat(first|refine lB ?_|simp only[go_sem,t2,hbo,sw0,sw1,sw2])
 refine ee (a3) ?_;repeat(first|refine lB ?_|simp only[go_sem,t3,hbo,sw0,sw1,sw2])
 refine ee (a4) ?_;repeat(first|refine lB ?_|simp only[go_sem,t4,hbo,sw0,sw1,sw2])
 refine ee (a5) ?_;repeat(first|refine lB ?_|simp only[go_sem,t5,hbo,sw0,sw1,sw2])
 refine ee (a6) ?_;repeat(first|refine lB ?_|simp only[go_sem,t6,hbo,sw0,sw1,sw2])
 refine ee (a7) ?_;repeat(first|refine lB ?_|simp only[go_sem,t7,hbo,sw0,sw1,sw2])
 refine ee (a8) ?_;repeat(first|refine lB ?_|simp only[go_sem,t8,hbo,sw0,sw1,sw2])
 refine ee (gM 1) ?_;refine lB ?_
 refine aa1 (fr2:=⟨5,[.sl 1 false (ah .i64 l),.dead,.ptr 0 0,.ptr 1 0,.dead],[]⟩) (σ2:=[.var (cV rl),.var (cV ⟨⟨IntKind.i64.wrap (6+r0),r1,r2,IntKind.i64.wrap (1+r3),r4,IntKind.u64.wrap (IntKind.i64.wrap (1+r5))⟩,IntKind.u64.wrap (IntKind.i64.wrap (1+r6)),IntKind.u64.wrap bo,((wd0.set 0 100).set 1 0).set 2 (IntKind.u64.wrap r8),lz 1,.sl 0 true []⟩)]) (by exact abS [] [0,11]) ?_;have hN:IntKind.i64.wrap (6+(r0:Int))<=13:=by rw[ar af0 af0];omega
 have hN1:1<=IntKind.i64.wrap (6+(r0:Int)):=by rw[ar af0 af0];omega
 have hT1:1<=IntKind.i64.wrap (1+(r3:Int)):=by rw[ar af0 af0];omega
 have hB:IntKind.u64.wrap (IntKind.i64.wrap (1+(r5:Int)))=1+r5:=by rw[ar af0 af0,aC af0 af0]
 have hP:IntKind.u64.wrap bo<=100:=by rw[aC af0 af0];exact hbo1
 have hG:lz 1≠rt0:=af2
 have hT:IntKind.i64.wrap (1+(r3:Int))<=4:=by rw[ar af0 af0];omega
 have hS:IntKind.u64.wrap (IntKind.i64.wrap (1+(r6:Int)))=1+r6:=by rw[ar af0 af0,aC af0 af0]
 have hW:WdG (((wd0.set 0 100).set 1 0).set 2 (IntKind.u64.wrap r8)):=((uK.set _ ⟨af2,af2⟩).set _ ⟨af2,af2⟩).set _ (dc _);rw[hS];generalize IntKind.i64.wrap (6+(r0:Int))=cN at *;generalize IntKind.i64.wrap (1+(r3:Int))=cT at *;generalize IntKind.u64.wrap (IntKind.i64.wrap (1+(r5:Int)))=cB at *;have hcP:0<=IntKind.u64.wrap bo:=(dc bo).lo;generalize IntKind.u64.wrap bo=cP at *;generalize ((wd0.set 0 100).set 1 0).set 2 (IntKind.u64.wrap r8)=cW at *;have hn9:IntKind.i64.wrap (2+(r9:Int))=((2+r9:Nat):Int):=by rw[ar af0 af0];omega
 refine dG ?_;refine Da (fun L:List Int=>L.length=2+r9/\∀x∈L,0<=x/\x<40) (fun _=>[]) (fun L=>[.var (cV rl),.var (cV ⟨⟨cN,r1,r2,cT,r4,cB⟩,1+r6,cP,cW,lz 1,.hs 1 2 0 L.length⟩),.vec 1 (ah .u64 L)]) ?_ (fun L hL=>?_)
 ·refine OX (AO l (2+r9)) ⟨Jj _ _,WG _ _ af0⟩ ?_
  generalize hM:2+r9=M at *;refine gon ?_;refine ou 1 44 1 ?_ af5 (by exact WS _);simp only[go_sem,WT];refine aE (fun i:Nat=>[(4,.int .i64 i)]) (fun i=>[.var (cV rl),.var (cV ⟨⟨cN,r1,r2,cT,r4,cB⟩,1+r6,cP,cW,lz 1,.hs 1 2 0 (AO l i).length⟩),.vec 1 (ah .u64 (AO l i))]) (fun i=>M-i) (fun i=>i<=M) 0 (afK _) ?_ ?_
  ·rw[show AO l 0=[]from rfl];exact abS [] [0,1,2]
  intro i hi;have hlen:=Jj l i;by_cases h1:i<M
  ·have e1:decide ((i:Int)<(M:Int))=true:=ax af0;have hw:=ae h1 af0;have hw2:IntKind.i64.wrap (10+(i:Int))=((10+i:Nat):Int):=by rw[ar af0 af0];omega
   have hs:=Zp l i;have aa:=gj l false (10+i) af0;refine gon ?_;refine ap a9 ?_;refine BP t9 hn9 e1 ?_;refine aA hw2 ?_;refine aP (aa) ?_;refine aA hw ?_;refine⟨i+1,h1,af0,?_⟩;rw[hs];exact abS [] [0,1,4]
  ·obtain rfl:i=M:=af0
   have e1:decide ((i:Int)<(i:Int))=false:=aD af0;refine gon ?_;refine ap a9 ?_;refine xX t9 hn9 e1 ?_;exact abS [] [0,1,2]
 (try simp only[dE])
 refine db ?_;obtain⟨hL1,hL2⟩:=hL;refine OX (⟨⟨cN,r1,r2,cT,r4,cB⟩,1+r6,cP,cW,lz 1,L⟩:cI) ?_ ?_;rotate_left
 ·exact abF [] [2]
 refine⟨⟨?_,?_,?_,?_,?_,?_,?_,?_,?_,hW,XZ (n:=1) af2 af2⟩,Xw ?_ ?_ ?_ ?_ ?_ ?_ ?_ ?_ ?_ ?_ ?_ ?_ ?_ ?_ ?_ ?_ hG hL2,hL2,?_,rfl⟩<;>dsimp only<;>omega
theorem Fh(l:List Int):Sm uL fun c=>PC Tryz.prog 12 [.sl 1 false (ah .i64 l)] (.agg (cV c.a)):=by
 obtain⟨c,hc,h⟩:=S4 l;refine⟨c,hc,h.pc puA puA ?_⟩;(try simp only[go_sem,Nat.reduceAdd,Nat.reduceSub,Nat.reduceMul,Nat.reduceLT,Nat.reduceLeDiff,Nat.reduceEqDiff,reduceIte,Int.reduceToNat,Int.reduceLT,Int.reduceLE,Int.reduceEq,Int.reduceNeg,reduceCtorEq,Int.reduceBEq,Int.reduceBNe])
 rfl
structure Zh(x:gi):Prop where
 a1:U64 x.fst.src
 a2:U64 x.fst.tgt
 b1:U64 x.snd.src
 b2:U64 x.snd.tgt
 l1:x.fst.vals.length<=10
 l2:x.snd.vals.length<=10
section
variable{fr:Fr}{σ:St}{rs:List fS}{G:gi->Prop}{l:List AV}{a1 a2 b1 b2:Int}{r1 r2:Rt}{m1 m2:List Int}
theorem X5(hl:dy fr σ rs=some l)(hv:fz σ (List.range σ.length) (fJ l)=.agg (dU ⟨⟨a1,a2,r1,.sl 1 false (ah .i64 m1)⟩,⟨b1,b2,r2,.sl 1 false (ah .i64 m2)⟩⟩))(hg:G ⟨⟨a1,a2,r1,m1⟩,⟨b1,b2,r2,m2⟩⟩):Sm G fun x=>PQ rs (.agg (dU x.a)) .ret fr σ:=⟨_,hg,l,hl,.inl hv⟩
end
theorem PH(n:Nat)(k:Int)(hn:n<=10):Sm Zh fun x=>PC Tryz.prog 51 [.int .i64 n,.int .i64 k] (.agg (dU x.a)):=by
 have S1:=GK n k af0;have S2:=GK n (fd .i64 k 6) af0;have l1:=GJ n k;have l2:=GJ n (fd .i64 k 6);generalize GI n k=A at *;generalize GI n (fd .i64 k 6)=B at *;have u1:U64 1:=⟨af2,af2⟩;have u2:U64 2:=⟨af2,af2⟩;have u4:U64 4:=⟨af2,af2⟩;have u5:U64 5:=⟨af2,af2⟩;have u6:U64 6:=⟨af2,af2⟩;refine lX 6 zw af1 puA (fun r _=>puA) ?_;unfold qR;refine bd ?_;refine dG ?_;refine gR ?_;refine dG ?_;refine gR ?_;refine dt (gM 2) ?_;refine lB ?_;refine dt (S1) ?_;refine lB ?_;refine dt (gM 2) ?_;refine lB ?_;refine dt (S2) ?_;refine lB ?_;repeat'(first|refine db ?_|(refine bB (fun h=>?_) (fun h=>?_)<;>try(exact absurd h af2))|refine eK (fun h=>?_) (fun h=>?_))
 all_goals try(refine dt (gM _) ?_;repeat'(first|refine db ?_|(refine bB (fun h=>?_) (fun h=>?_)<;>try(exact absurd h af2))|refine eK (fun h=>?_) (fun h=>?_)))
 all_goals(refine X5 (by first|rfl|exact evd) (by first|rfl|exact evd) ?_)
 all_goals(refine⟨?_,?_,?_,?_,?_,?_⟩<;>(try dsimp only)<;>first|assumption|omega)
structure OpG(x:VOp):Prop where
 r:OpR x
 u:OpU (toV x)
 diff:WdG x.blk.diff
 pdiff:WdG x.blk.pdiff
 k1:1<=x.kind
 k6:x.kind<=6
structure OpE(x:VOp):Prop where
 r:OpR x
 u:OpU (toV x)
theorem OpG.e{x:VOp}(h:OpG x):OpE x:=⟨h.r,h.u⟩
def sU:aX:=⟨0,rt0,cp0,[]⟩
def Pe:gK:=⟨0,0,rt0,[]⟩
def rh:gi:=⟨Pe,Pe⟩
def ri:aB:=⟨cp0,[]⟩
theorem qG{k:Int}{b:Blk}{a:aX}{g:gi}{t:aB}{v:Vdt}(hb:xB b)(ha:Zc a)(hg:Zh g)(ht:Zi t)(hv:U64 v.tag)(h1:1<=k)(h6:k<=6):OpG ⟨k,b,a,g,t,v,0,0⟩:=
 ⟨⟨hb.w,⟨acn ha.len af2,ha.slot,ha.ep⟩,acn hg.l1 af2,acn hg.l2 af2,acn ht.len af2,ht.ep⟩,⟨hb.u,ha.slot,ha.ep,acn ha.len af2,⟨hg.a1,hg.a2,rfl,acn hg.l1 af2⟩,⟨hg.b1,hg.b2,rfl,acn hg.l2 af2⟩,⟨ht.ep,rfl,ht.bals,acn ht.len af2⟩,hv⟩,hb.diff,hb.pdiff,h1,h6⟩
theorem u0:U64 0:=⟨af2,af2⟩
theorem rJ:xB dx:=⟨u0,u0,u0,u0,u0,uK,uK⟩
theorem oW:Zc sU:=⟨u0,u0,by simp[sU]⟩
theorem oX:Zh rh:=⟨u0,u0,u0,u0,by simp[rh,Pe],by simp[rh,Pe]⟩
theorem oY:Zi ri:=⟨u0,by simp[ri],by simp[ri]⟩
theorem yB{fr:Fr}{σ:St}{rs:List fS}{G:VOp->Prop}{l:List AV}(y:SOp)(x:VOp)(hl:dy fr σ rs=some l)(hv:fz σ (List.range σ.length) (fJ l)=.agg (cG y))(hp:PuL (cG y))(hw:WkC (cG y) (cG x.a))(hg:G x):Sm G fun x=>PQ rs (.agg (cG x.a)) .ret fr σ:=
 ⟨x,hg,l,hl,.inr ⟨_,hv,hp,Wk.agg hw⟩⟩
theorem Gl{k w p:Int}{b:Blk}{a:Att}{g:Slg}{t:Tab}{v:Vdt}(ha:PuL (cK a))(hg:PuL (dU g))(ht:PuL (bE t)):PuL (cG ⟨k,b,a,g,t,v,w,p⟩):=by
 refine(iO _).2 ?_;have h1:=(gI _).1 ha;have h2:=(ij _).1 hg;have h3:=(gJ _).1 ht;exact⟨h1,h2,h3⟩
theorem AU(s:al)(i:Nat)(h:fT s i)(httd:WdG s.sto.cfg.ttd)(n k:Int)(hk:0<=k)(hn0:0<=n)(hn1:n<=99)(h24:i<=34):Sm OpG fun x=>PC Tryz.prog 19 [.agg (aG s.a),.int .i64 n,.int .i64 k] (.agg (cG x.a)):=by
 obtain⟨b,hb,cb⟩:=Pz s.sto i h.sto httd n (fd .i64 k 4) (ni 4 hk) hn0 hn1 h24;obtain⟨a,ha,ca⟩:=Py s.sto i h.sto (fd .i64 k 4) (ni 4 hk);obtain⟨g,hg,cg⟩:=PH s.sto.cfg.bals.length (fd .i64 k 4) (by have:=h.sto.cfg.b1;omega);obtain⟨t,ht,ct⟩:=PJ s.sto i h.sto (fd .i64 k 4) (ni 4 hk);obtain⟨v,hv,cv⟩:=PK s i h (fd .i64 k 4) (ni 4 hk);have pa:PuL (cK qj):=(gI _).2 trivial;have pg:PuL (dU qL):=(ij _).2 ⟨trivial,trivial⟩;have pt:PuL (bE ot):=(gJ _).2 trivial;refine lX 48 Qb af1 puA (fun r _=>puA) ?_;unfold Fl;refine bd ?_;refine dG ?_;refine gR ?_;refine dG ?_;refine gR ?_;refine dG ?_;refine dG ?_;refine gR ?_;refine dG ?_;refine xn (fun _:Bool=>True) (fun b=>[(12,.bool b)]) ?_ (fun bb _=>?_)
 ·repeat'(first|refine db ?_|(refine bB (fun h=>?_) (fun h=>?_)<;>try(exact absurd h af2))|refine eK (fun h=>?_) (fun h=>?_))
  ·exact⟨(Int.tmod k 16==0),trivial,by exact abS [] [0,1]⟩
  ·exact⟨(Int.tmod k 16==1),trivial,by exact abS [] [0,1]⟩
  ·exact⟨(Int.tmod k 16==2),trivial,by exact abS [] [0,1]⟩
 (try simp only[dS,dE,act,acx])
 refine bB (fun h=>?_) (fun h=>?_)
 ·refine db ?_;refine yB ⟨1,dx,qj,qL,ot,jn,0,0⟩ ⟨1,dx,sU,rh,ri,jn,0,0⟩ (by first|rfl|exact evd) (by first|rfl|exact evd) (Gl pa pg pt) (jv rfl rfl gw gz gA rfl rfl rfl) (qG rJ oW oX oY u0 af2 af2)
 refine dG ?_;refine xn (fun _:Bool=>True) (fun b=>[(17,.bool b)]) ?_ (fun bb _=>?_)
 ·repeat'(first|refine db ?_|(refine bB (fun h=>?_) (fun h=>?_)<;>try(exact absurd h af2))|refine eK (fun h=>?_) (fun h=>?_))
  ·exact⟨(Int.tmod k 16==3),trivial,by exact abS [] [0,1]⟩
  ·exact⟨(Int.tmod k 16==4),trivial,by exact abS [] [0,1]⟩
  ·exact⟨(Int.tmod k 16==5),trivial,by exact abS [] [0,1]⟩
  ·exact⟨(Int.tmod k 16==6),trivial,by exact abS [] [0,1]⟩
  ·exact⟨(Int.tmod k 16==7),trivial,by exact abS [] [0,1]⟩
 (try simp only[dS,dE,act,acx])
 refine bB (fun h=>?_) (fun h=>?_)
 ·refine db ?_;refine dt cb ?_;refine db ?_;refine yB ⟨2,b,qj,qL,ot,jn,0,0⟩ ⟨2,b,sU,rh,ri,jn,0,0⟩ (by first|rfl|exact evd) (by first|rfl|exact evd) (Gl pa pg pt) (jv rfl rfl gw gz gA rfl rfl rfl) (qG hb oW oX oY u0 af2 af2)
 refine dG ?_;refine xn (fun _:Bool=>True) (fun b=>[(29,.bool b)]) ?_ (fun bb _=>?_)
 ·repeat'(first|refine db ?_|(refine bB (fun h=>?_) (fun h=>?_)<;>try(exact absurd h af2))|refine eK (fun h=>?_) (fun h=>?_))
  ·exact⟨(Int.tmod k 16==8),trivial,by exact abS [] [0,1]⟩
  ·exact⟨(Int.tmod k 16==9),trivial,by exact abS [] [0,1]⟩
  ·exact⟨(Int.tmod k 16==10),trivial,by exact abS [] [0,1]⟩
 (try simp only[dS,dE,act,acx])
 refine bB (fun h=>?_) (fun h=>?_)
 ·refine db ?_;refine dt ca ?_;refine db ?_;refine yB ⟨3,dx,a.a,qL,ot,jn,0,0⟩ ⟨3,dx,a,rh,ri,jn,0,0⟩ (by first|rfl|exact evd) (by first|rfl|exact evd) (Gl a.pul pg pt) (jv rfl rfl (WkC.refl _) gz gA rfl rfl rfl) (qG rJ ha oX oY u0 af2 af2)
 repeat'(first|refine db ?_|(refine bB (fun h=>?_) (fun h=>?_)<;>try(exact absurd h af2))|refine eK (fun h=>?_) (fun h=>?_))
 ·refine dt cg ?_;refine db ?_;refine yB ⟨4,dx,qj,g.a,ot,jn,0,0⟩ ⟨4,dx,sU,g,ri,jn,0,0⟩ (by first|rfl|exact evd) (by first|rfl|exact evd) (Gl pa g.pul pt) (jv rfl rfl gw (WkC.refl _) gA rfl rfl rfl) (qG rJ oW hg oY u0 af2 af2)
 ·refine dt ct ?_;refine db ?_;refine yB ⟨5,dx,qj,qL,t.a,jn,0,0⟩ ⟨5,dx,sU,rh,t,jn,0,0⟩ (by first|rfl|exact evd) (by first|rfl|exact evd) (Gl pa pg t.pul) (jv rfl rfl gw gz (WkC.refl _) rfl rfl rfl) (qG rJ oW oX ht u0 af2 af2)
 ·refine dt cv ?_;refine db ?_;refine yB ⟨6,dx,qj,qL,ot,v,0,0⟩ ⟨6,dx,sU,rh,ri,v,0,0⟩ (by first|rfl|exact evd) (by first|rfl|exact evd) (Gl pa pg pt) (jv rfl rfl gw gz gA rfl rfl rfl) (qG rJ oW oX oY hv.tag af2 af2)
theorem bi.new{c:cI}(h:Zd c):bi (eG c) 0:=by
 refine⟨h,⟨fun k h1 h2=>?_,aeI,by show (-1:Int)<0;decide⟩,?_,by simp[eG],by show 1<=13;decide,fun n hn=>?_,afK _,fun b hb=>absurd hb (by simp[eG]),afK _,fun b hb=>absurd hb (by simp[eG]),by show 1<=4;decide,fun t ht=>?_,afE _,u0,u0,⟨u0,fun _=>by show (0:Int)<=_;decide⟩,af2,fun v hv=>?_⟩
 ·have:k<1:=h2;omega
 ·exact j5 (k:=0) aeI rfl
 ·have:n=⟨xV c.gen,-1,1⟩:=by simpa[eG]using hn
  subst this;exact⟨u0,u0,u0,u0,u0,uK,uK⟩
 ·have:t=⟨⟨0,c.gen⟩,c.bals⟩:=by simpa[eG]using ht
  subst this;exact⟨h.b1,u0⟩
 ·rw[aeD hv];exact u0
theorem Fj{c:cI}(h:uL c):fT (eh c).1 0:=by
 unfold eh;rw[afA h.new];exact fT.emit ⟨bi.new h.r,afE _,fun r hr=>absurd hr af1,afK _,(⟨af2,af2⟩:U64 1)⟩
def nk(f:al×Nat×Int×Int->VOp)(l:List Int)(s0:al):Nat->al×List VOp
 |0=>(s0,[])
 |i+1=>((bV (nk f l s0 i).1 (f ((nk f l s0 i).1,i,((10+i:Nat):Int),if i=0 then 0 else atN l (18+i)))).1,(nk f l s0 i).2++[f ((nk f l s0 i).1,i,((10+i:Nat):Int),if i=0 then 0 else atN l (18+i))])
structure abs(c:cI)(ops:List VOp)(s:al):Prop where
 c:uL c
 len:ops.length<=24
 ops:∀x∈ops,OpG x
 s:fT s 24
theorem Vz(P:Nat->al->Prop)(hP0:∀c,uL c->P 0 (eh c).1)(hPs:∀s i x,fT s i->i<24->P i s->OpG x->P (i+1) (bV s x).1)(l:List Int):∃ (c:cI) (ops:List VOp) (s:al),(abs c ops s/\∃i,i<=24/\P i s)/\PC Tryz.prog 48 [.sl 1 false (ah .i64 l)] (.tup [.agg (cV c.a),.sl 446 false (rows VOp.c ops),.agg (aG s.a)]):=by
 obtain⟨c,hc,cc⟩:=Fh l
 have hop:∀y:al×Nat×Int×Int,∃x:VOp,fT y.1 y.2.1->0<=y.2.2.2->0<=y.2.2.1/\y.2.2.1<=99/\y.2.1<=24->OpG x/\PC Tryz.prog 19 [.agg (aG y.1.a),.int .i64 y.2.2.1,.int .i64 y.2.2.2] (.agg (cG x.a)):=fun y=>by
  by_cases h1:fT y.1 y.2.1
  ·by_cases h2:0<=y.2.2.2
   ·by_cases h3:0<=y.2.2.1/\y.2.2.1<=99/\y.2.1<=24
    ·obtain⟨x,hx⟩:=AU y.1 y.2.1 h1 h1.sto.cfg.tt y.2.2.1 y.2.2.2 h2 h3.1 h3.2.1 af0;exact⟨x,fun _ _ _=>hx⟩
    ·exact⟨default,fun _ _ h=>absurd h h3⟩
   ·exact⟨default,fun _ h=>absurd h h2⟩
  ·exact⟨default,fun h=>absurd h h1⟩
 obtain⟨f,hf⟩:=Classical.axiomOfChoice hop;have h0:=Fj hc;have p0:=hP0 c hc;have cb:=LK c (by have:=hc.r.b1;omega) fun _=>(bi.new hc.r).r
 generalize eh c=B at *;obtain⟨s0,B2,B3⟩:=B;dsimp only at h0 cb p0
 have hI:∀i,i<=24->(fT (nk f l s0 i).1 i/\P i (nk f l s0 i).1)/\(nk f l s0 i).2.length=i/\∀x∈(nk f l s0 i).2,OpG x:=by
  intro i;induction i with
  |zero=>exact fun _=>⟨⟨h0,p0⟩,rfl,fun x hx=>by cases hx⟩
  | succ i ih =>
    intro hi;obtain⟨⟨h1,hp1⟩,h2,h3⟩:=ih af0;have hk:0<=(if i=0 then 0 else atN l (18+i)):=by split;exact afT _;exact(kG l (18+i) af0).1
    have hx:=(hf ((nk f l s0 i).1,i,((10+i:Nat):Int),if i=0 then 0 else atN l (18+i)) h1 hk (by dsimp only;omega)).1;refine⟨⟨h1.step af0 hx.r,hPs _ i _ h1 af0 hp1 hx⟩,?_,fun x hm=>?_⟩
    ·show ((nk f l s0 i).2++[_]).length=i+1
     rw[afB,h2];rfl
    ·rcases afR.1 hm with h|h
     ·exact h3 x h
     ·rw[afN]at h;subst h;exact hx
 obtain⟨r16,h16,b16⟩:=dP (n:=25) (kG l 16 af2).1 af2;have t16:Int.tmod (atN l 16) 25=(r16:Int):=h16;have a16:PC Tryz.prog 41 [.sl 1 false (ah .i64 l),.int .i64 16] (.int .i64 (atN l 16)):=gj l false 16 af2;have a17:PC Tryz.prog 41 [.sl 1 false (ah .i64 l),.int .i64 17] (.int .i64 (atN l 17)):=gj l false 17 af2
 obtain⟨N,hN,hN1,hN2⟩:∃N:Nat,N<=24/\(decide (0<Int.tmod (atN l 17) 4)=true->N=24)/\(decide (0<Int.tmod (atN l 17) 4)=false->N=r16):=by
  by_cases hd:decide (0<Int.tmod (atN l 17) 4)=true
  ·exact⟨24,af2,fun _=>rfl,fun h=>by rw[hd]at h;cases h⟩
  ·exact⟨r16,af0,fun h=>absurd h hd,fun _=>rfl⟩
 obtain⟨⟨i1,ip⟩,i2,i3⟩:=hI N hN;refine⟨c,(nk f l s0 N).2,(nk f l s0 N).1,⟨⟨hc,af0,i3,i1.up af0 af2⟩,N,hN,ip⟩,PC.fact 14 Me af1 puA puA ?_⟩;unfold AW;refine bd ?_;clear i1 i2 i3 ip p0 hP0 hPs;refine gon ?_;refine abl cc ?_;refine abl cb ?_;refine ap a16 ?_;refine aA t16 ?_;refine abl a17 ?_;refine tF (fun _=>[(10,.int .i64 N)]) (fun _=>[.var (cV rl),.var (aG mB),.var (cV c.a),.var (aG s0.a)]) (fun hT=>?_) (fun hF=>?_) ?_
 ·rw[hN1 hT];refine gon ?_;exact abS [] [0,1,2,3]
 ·rw[hN2 hF];refine gon ?_;exact abS [] [0,1,2,3]
 clear hN1 hN2 a16 a17 t16 h16;refine gon ?_;refine dT 9 446 ?_;simp only[go_sem];refine aE (fun i:Nat=>[(11,.int .i64 i),(9,.hs 446 4 0 (nk f l s0 i).2.length),(12,.dead),(13,.dead)]) (fun i=>[.var (cV rl),.var (aG mB),.var (cV c.a),.var (aG (nk f l s0 i).1.a),.vec 446 (rows VOp.c (nk f l s0 i).2)]) (fun i=>N-i) (fun i=>i<=N) 0 (afK _) ?_ ?_
 ·show GC _ _ _ ⟨_,fq [(11,.int .i64 0),(9,.hs 446 4 0 0),(12,.dead),(13,.dead)] _,[]⟩ [.var (cV rl),.var (aG mB),.var (cV c.a),.var (aG s0.a),.vec 446 []]
  exact abS [] [0,1,2,3,4]
 intro i hi;obtain⟨⟨hA,_⟩,hl,_⟩:=hI i af0;by_cases h1:i<N
 ·have e1:decide ((i:Int)<(N:Int))=true:=ax af0
  have hw:=ae h1 af0;have hw1:IntKind.i64.wrap (18+(i:Int))=((18+i:Nat):Int):=by rw[ar af0 af0];omega
  have hw2:IntKind.i64.wrap (10+(i:Int))=((10+i:Nat):Int):=by rw[ar af0 af0];omega
  have aa:=gj l false (18+i) af0;have hk:0<=(if i=0 then 0 else atN l (18+i)):=by split;exact afT _;exact(kG l (18+i) af0).1
  obtain⟨hx,co⟩:=hf ((nk f l s0 i).1,i,((10+i:Nat):Int),if i=0 then 0 else atN l (18+i)) hA hk (by dsimp only;omega);have hr:nk f l s0 (i+1)=((bV (nk f l s0 i).1 (f ((nk f l s0 i).1,i,((10+i:Nat):Int),if i=0 then 0 else atN l (18+i)))).1,(nk f l s0 i).2++[f ((nk f l s0 i).1,i,((10+i:Nat):Int),if i=0 then 0 else atN l (18+i))]):=rfl;have hK1:i=0->(if i=0 then 0 else atN l (18+i))=0:=fun h=>afA h
  have hK2:i≠0->(if i=0 then 0 else atN l (18+i))=atN l (18+i):=fun h=>afx h
  dsimp only at co;generalize (if i=0 then 0 else atN l (18+i))=K at *;generalize f ((nk f l s0 i).1,i,((10+i:Nat):Int),K)=x at *;clear hI;generalize nk f l s0 i=p at *;obtain⟨s1,o1⟩:=p;dsimp only at hA hl co hr ⊢;have cs:=GM s1 i hA af0 x hx.r hx.u;generalize bV s1 x=T at *;obtain⟨T1,T2,T3⟩:=T;dsimp only at cs hr ⊢;have hsn:rows VOp.c o1++[cG x.a]=rows VOp.c (o1++[x]):=dn VOp.c o1 x;(try simp only[dS,dE,act,acx])
  refine bO e1 ?_;refine aA hw1 ?_;refine abl aa ?_;refine tF (fun _=>[(12,.int .i64 K)]) (fun _=>[.var (cV rl),.var (aG mB),.var (cV c.a),.var (aG s1.a),.vec 446 (rows VOp.c o1)]) (fun hT=>?_) (fun hF=>?_) ?_
  ·rw[hK1 (by rw[ac0]at hT;omega)];refine gon ?_;exact abS [] [0,1,2,3,4]
  ·rw[hK2 (by rw[adu]at hF;omega)];refine gon ?_;exact abS [] [0,1,2,3,4]
  (try simp only[dS,dE,act,acx])
  refine aA hw2 ?_;refine ap co ?_;refine aA hsn ?_;refine ap cs ?_;refine aA hw ?_;refine⟨i+1,h1,af0,?_⟩;rw[hr];exact abS [] [0,1,2,3,6]
 ·have hiN:i=N:=af0
  subst hiN;have e1:decide ((i:Int)<(i:Int))=false:=aD af0;clear hI;generalize nk f l s0 i=p at *;obtain⟨s1,o1⟩:=p;dsimp only at hl ⊢;have ht:List.take o1.length (rows VOp.c o1)=rows VOp.c o1:=afD af1;(try simp only[dS,dE,act,acx])
  refine aS e1 ?_;refine⟨_,(by first|rfl|exact evd),.inl ?_⟩;exact uv ht
theorem zh(P:Nat->al->Prop)(hP0:∀c,uL c->P 0 (eh c).1)(hPs:∀s i x,fT s i->i<24->P i s->OpG x->P (i+1) (bV s x).1)(l:List Int):∃s:al,(fT s 24/\∃i,i<=24/\P i s)/\PC Tryz.prog 18 [.sl 1 false (ah .i64 l)] (.agg (aG s.a)):=by
 obtain⟨c,ops,s,⟨h,hp⟩,cr⟩:=Vz P hP0 hPs l;refine⟨s,⟨h.s,hp⟩,PC.fact 7 HE af1 puA puA ?_⟩;unfold vB;refine bd ?_;refine gon ?_;refine abl cr ?_;exact aj
end Go.Proofs.YtmpddimhleianaaGreat
