/- Joined. -/
import Derived.Test.YtblipkgpoaonaaaGreatW3
import Derived.Test.YtblipkgpoaonaaaGreatChecked
import Derived.KernelRfl
import Derived.Test.YtblipkgpoaonaaaGreatV5
import Derived.Test.YtblipkgpoaonaaaGreatV4
import Derived.Test.YtblipkgpoaonaaaGreatV7
set_option linter.unusedVariables false
set_option linter.unusedSimpArgs false
set_option maxRecDepth 8000
set_option maxHeartbeats 4000000
namespace Go.Proofs.YtblipkgpoaonaaaGreat
open Go Go.FH Go.RowKit
theorem Yv{n:Int}(h0:0<=n)(h1:n<18446744073709551616):lI .u64 n 4294967295=n%4294967296:=by
 obtain⟨m,rfl⟩:=ajO h0;unfold lI
 have:(BitVec.ofInt IntKind.u64.bits (m:Int) &&& BitVec.ofInt IntKind.u64.bits 4294967295).toNat=m%4294967296:=by
  rw[alc,akL,show BitVec.ofInt IntKind.u64.bits 4294967295=BitVec.ofNat IntKind.u64.bits (2 ^ 32-1)by decide,akl,akl];rw[show (2 ^ 32-1)%2 ^ IntKind.u64.bits=2 ^ 32-1 by decide,Nat.and_two_pow_sub_one_eq_mod];rw[Nat.mod_mod_of_dvd _ NE]
 rw[this,aN NB NB];omega
theorem adP(n:Int):fJ .u64 n 32=n / 4294967296:=by
 unfold fJ;rw[show ((2:Int) ^ (min 32 IntKind.u64.bits))=4294967296 by decide];exact aj4 _ NB
theorem Jr(n:Int):PC Tryz.prog 319 [.int .u64 n] (.bool (vy n)):=by
 refine cD 3 ?_;unfold vy;cases h:decide (1<=n)with
 | true =>
   refine ah h ?_;exact ai
 | false =>
   refine ah h ?_;exact ai
theorem ae9(s p:Int):PC Tryz.prog 327 [.int .u64 s,.int .u64 p] (.tup [.int .u64 (kJ s p).1,.int .i64 (kJ s p).2]):=by
 refine cD 6 ?_;have c1:=Jr p;unfold kJ;refine gon ?_;refine am c1 ?_;cases h:vy p with
 | true =>
   have h0:p≠0:=by simp[vy]at h;omega
   rw[al7 rfl];refine dQ ?_;refine ah h0 ?_;exact ai
 | false =>
   rw[al5 NC];refine aX ?_;exact ai
theorem UJ{x0 x1 y0 y1:Int}(hx0:0<=x0)(hx0':x0<4294967296)(hx1:0<=x1)(hx1':x1<4294967296)(hy0:0<=y0)(hy0':y0<4294967296)(hy1:0<=y1)(hy1':y1<4294967296)(x y:Int)(hx:x=x1*4294967296+x0)(hy:y=y1*4294967296+y0):
 PC Tryz.prog 444 [.int .u64 x,.int .u64 y] (.tup [.int .u64 (x*y / 18446744073709551616),.int .u64 (IntKind.u64.wrap (x*y))]):=by
 refine cD 14 ?_;obtain⟨b00,b10,b01,b11,hz⟩:=agm hx0 hx0' hx1 hx1' hy0 hy0' hy1 hy1';have mk:∀n:Int,0<=n->n<18446744073709551616->lI .u64 n 4294967295=n%4294967296:=fun n h1 h2=>Yv h1 h2
 have sh:∀n:Int,fJ .u64 n 32=n / 4294967296:=fun n=>adP n
 have e1:lI .u64 x 4294967295=x0:=by rw[mk x NB NB];omega
 have e2:fJ .u64 x 32=x1:=by rw[sh];omega
 have e3:lI .u64 y 4294967295=y0:=by rw[mk y NB NB];omega
 have e4:fJ .u64 y 32=y1:=by rw[sh];omega
 have hxy:x*y=x1*y1*18446744073709551616+(x1*y0+x0*y1)*4294967296+x0*y0:=by rw[hx,hy];exact hz
 have e5:IntKind.u64.wrap (x0*y0)=x0*y0:=lW b00.1 NB;have e6:IntKind.u64.wrap (x1*y0)=x1*y0:=lW b10.1 NB;have e7:IntKind.u64.wrap (x0*y1)=x0*y1:=lW b01.1 NB;have e8:IntKind.u64.wrap (x1*y1)=x1*y1:=lW b11.1 NB;generalize hpz:x*y=z at *;clear hz;generalize hp0:x0*y0=p00 at *;generalize hp1:x1*y0=p10 at *;generalize hp2:x0*y1=p01 at *;generalize hp3:x1*y1=p11 at *;have e9:fJ .u64 p00 32=p00 / 4294967296:=sh _;have e10:IntKind.u64.wrap (p10+p00 / 4294967296)=p10+p00 / 4294967296:=lW NB NB;have e11:lI .u64 (p10+p00 / 4294967296) 4294967295=(p10+p00 / 4294967296)%4294967296:=mk _ NB NB;have e12:fJ .u64 (p10+p00 / 4294967296) 32=(p10+p00 / 4294967296) / 4294967296:=sh _;generalize hT:p10+p00 / 4294967296=T at *;have e13:IntKind.u64.wrap (T%4294967296+p01)=T%4294967296+p01:=lW NB NB;have e14:IntKind.u64.wrap (p11+T / 4294967296)=p11+T / 4294967296:=lW NB NB;have e15:fJ .u64 (T%4294967296+p01) 32=(T%4294967296+p01) / 4294967296:=sh _;have e16:IntKind.u64.wrap (p11+T / 4294967296+(T%4294967296+p01) / 4294967296)=z / 18446744073709551616:=by rw[lW NB NB];omega
 repeat(first|refine bY ?_|simp only[go_sem,hpz,hp0,hp1,hp2,hp3,hT,e1,e2,e3,e4,e5,e6,e7,e8,e9,e10,e11,e12,e13,e14,e15,e16])
 exact ai
theorem Z5{a b:Int}(ha:0<=a)(ha2:a<18446744073709551616)(hb:0<=b)(hb2:b<18446744073709551616):PC Tryz.prog 400 [.int .u64 a,.int .u64 b] (.tup [.int .u64 (Ip a b).1,.int .i64 (Ip a b).2]):=by
 rw[<-ad3 ha ha2 hb hb2];refine cD 8 ?_;have c1:=UJ (x0:=a%4294967296) (x1:=a / 4294967296) (y0:=b%4294967296) (y1:=b / 4294967296) NB NB NB NB NB NB NB NB a b NB NB;unfold agl;refine gon ?_;refine am c1 ?_;by_cases h:a*b / 18446744073709551616=0
 ·have e1:(a*b / 18446744073709551616==0)=true:=by simp[h]
  rw[al7 h];refine aM e1 ?_;exact ai
 ·have e1:(a*b / 18446744073709551616==0)=false:=by simp[h]
  rw[al5 h];refine aF e1 ?_;exact ai
theorem Fv{e p:Int}(he:0<=e)(he2:e<18446744073709551616):PC Tryz.prog 324 [.int .u64 e,.int .u64 p] (.tup [.int .u64 (dk e p).1,.int .i64 (dk e p).2]):=by
 refine cD 6 ?_;have c1:=Jr p;unfold dk;refine gon ?_;refine am c1 ?_;cases h:vy p with
 | true =>
   have c2:=Z5 he he2 (b:=p) (by simp[vy]at h;omega) (by simp[vy]at h;omega);rw[al7 rfl];refine bk ?_;refine ahG c2 ?_;exact ai
 | false =>
   rw[al5 NC];refine aX ?_;exact ai
theorem H1(r:Rt):PC Tryz.prog 242 [.agg (rtc r)] (.bool (decide (r=rt0))):=by
 refine cD 3 ?_;refine gon ?_;exact ai
theorem XF(a b:Rt):ay Tryz.prog 456 [.va 1 0 0 32,.va 1 1 0 32] [.var (rtc a),.var (rtc b)] (.int .i64 (uk a b)) [.var (rtc a),.var (rtc b)]:=by
 refine dS 8 ?_;have e1:=adE a b;refine ah e1 ?_;exact ahY [] [0,1]
theorem Ze(a b:Rt):PC Tryz.prog 415 [.agg (rtc a),.agg (rtc b)] (.int .i64 (uk a b)):=by
 refine cD 5 ?_;have c1:=XF a b;refine gon ?_;refine drg [0,1] c1 ?_;exact ai
theorem Ea(n:Int):PC Tryz.prog 390 [.int .u64 n] (.bool false):=by
 refine cD 3 ?_;refine gon ?_;exact ai
theorem EL(a b:Int):PC Tryz.prog 296 [.int .u64 a,.int .u64 b] (.int .i64 (xX a b)):=by
 refine cD 7 ?_;have c1:=Ea a;have c2:=Ea b;unfold xX;refine gon ?_;refine ahG c1 ?_;refine am c2 ?_;refine bk ?_;refine agE ?_;by_cases h1:a<b
 ·have e1:=au h1;rw[al7 h1];refine aM e1 ?_;exact ai
 ·have e1:=aA h1
  rw[al5 h1];refine aF e1 ?_;by_cases h2:b<a
  ·have e2:=au h2;rw[al7 h2];refine aM e2 ?_;exact ai
  ·have e2:=aA h2;rw[al5 h2];refine aF e2 ?_;exact ai
theorem WD(l:List Int)(cl:Bool)(hl:l.length<=1000):PC Tryz.prog 295 [.sl 1 cl (aH .i64 l)] (.int .i64 (orI l)):=by
 refine cD 9 ?_;obtain⟨R,hR⟩:∃R,R=orI (l.drop 0):=⟨_,rfl⟩
 have hR0:orI l=R:=by rw[hR,ak9]
 rw[hR0];refine gon ?_;refine az (fun i:Nat=>[(8,.int .i64 i)]) (fun _=>[]) (fun i=>l.length-i) (fun i=>i<=l.length/\R=orI (l.drop i)) 0 ⟨amc _,hR⟩ ?_ ?_
 ·exact ais [] []
 clear hR hR0;rintro i ⟨hi,hn⟩;refine dp ?_;by_cases h1:i<l.length
 ·have e1:=inT h1
  have hw:=af h1 NB;rw[amG h1]at hn;have hg:l.getD i 0=l[i]:=by simp[List.getD,h1]
  rw[<-hg]at hn;have hgd:=gdn (k:=.i64) h1;generalize l.getD i 0=x at *;simp only[orI]at hn;refine bw e1 ?_;refine ah hgd ?_;by_cases h2:x=0
  ·subst h2;rw[al5 NC]at hn;refine dQ ?_;refine ah hw ?_;refine⟨i+1,⟨h1,hn⟩,NB,?_⟩;exact ais [] []
  ·have e2:(x != 0)=true:=by simp[h2]
   rw[al7 h2]at hn;subst hn;refine aM e2 ?_;exact ai
 ·obtain rfl:i=l.length:=NB
  have e1:=inF (l.length);rw[amB]at hn;subst hn;refine aF e1 ?_;exact ai
theorem abO(a b:Cp):PC Tryz.prog 344 [.agg (cpC a),.agg (cpC b)] (.int .i64 (kW a b)):=by
 refine cD 5 ?_;have c1:=EL a.ep b.ep;have c2:=Ze a.rt b.rt;have c3:=WD [xX a.ep b.ep,uk a.rt b.rt] true NC;rw[aee]at c3;refine gon ?_;refine aK (c1) ?_;refine gon ?_;refine aK (c2) ?_;refine gon ?_;refine aK (c3) ?_;refine gon ?_;exact ai
theorem YO(a b:aW):PC Tryz.prog 254 [.agg (cx a.a),.agg (cx b.a)] (.int .i64 (kW a.cp b.cp)):=by
 refine cD 5 ?_;have c1:=abO a.cp b.cp;refine gon ?_;refine ahG c1 ?_;exact ai
theorem XK(l:List Int)(cl:Bool)(hl:l.length<=2097152):PC Tryz.prog 343 [.sl 1 cl (aH .u64 l)] (.tup [.int .u64 (Gm l 0).1,.bool (Gm l 0).2]):=by
 refine cD 10 ?_;obtain⟨R,hR⟩:∃R,R=Gm (l.drop 0) 0:=⟨_,rfl⟩
 have hR0:Gm l 0=R:=by rw[hR,ak9]
 rw[hR0];refine gon ?_;refine az (fun x:Nat×Int=>[(9,.int .i64 x.1),(4,.int .u64 x.2)]) (fun _=>[]) (fun x=>l.length-x.1) (fun x=>x.1<=l.length/\R=Gm (l.drop x.1) x.2) (0,0) ⟨amc _,hR⟩ ?_ ?_
 ·exact ais [] []
 clear hR hR0;rintro⟨i,n⟩ ⟨hi,hn⟩;dsimp only at hi hn ⊢;refine dp ?_;by_cases h1:i<l.length
 ·have e1:=inT h1
  have hw:=af h1 NB;rw[amG h1]at hn;have hg:l.getD i 0=l[i]:=by simp[List.getD,h1]
  rw[<-hg]at hn;have hgd:=gdn (k:=.u64) h1;generalize l.getD i 0=x at *;simp only[Gm]at hn;refine bw e1 ?_;refine ah hgd ?_;by_cases h2:IntKind.u64.wrap (4611686018427387904-n)<x
  ·have e2:=au h2;rw[al7 h2]at hn;subst hn;refine aM e2 ?_;exact ai
  ·have e2:=aA h2;rw[al5 h2]at hn;refine bJ e2 ?_;refine ah hw ?_;refine⟨(i+1,IntKind.u64.wrap (n+x)),⟨h1,hn⟩,by dsimp only;omega,?_⟩;exact ais [] []
 ·obtain rfl:i=l.length:=NB
  have e1:=inF (l.length);rw[amB]at hn;subst hn;refine aF e1 ?_;exact ai
theorem G3(t:aW)(n:Int)(hl:t.bals.length<=2097152)(hu:∀x∈t.bals,0<=x/\x<18446744073709551616):PC Tryz.prog 252 [.agg (cx t.a),.int .i64 n] (.int .i64 (gh t n)):=by
 refine cD 7 ?_;have c1:=XK t.bals false hl;have h0:=aae hu;unfold gh;by_cases h1:(t.bals.length:Int)=n
 ·have e1:((t.bals.length:Int) != n)=false:=by simp[h1]
  rw[al5 (by simp[h1])];refine aF e1 ?_;refine am c1 ?_;cases h2:(Gm t.bals 0).2 with
  | true =>
    rw[al5 (fun h=>by have:=h0.1 h;rw[h2]at this;cases this)];refine bk ?_;exact ai
  | false =>
    rw[al7 (h0.2 h2)];refine aX ?_;exact ai
 ·have e1:((t.bals.length:Int) != n)=true:=by simp[h1]
  rw[al7 h1];refine aM e1 ?_;exact ai
structure CpR(s:ap):Prop where
 bn:s.nodes.length<=2097152
 bl:s.latest.length<=2097152
 be:s.eqv.length<=2097152
 bt:s.tabs.length<=1000
 bb:∀t∈s.tabs,t.bals.length<=2097152
 bo:s.orph.length<=2097152
 ba:s.early.length<=1000
 bv:∀a∈s.early,a.vals.length<=2097152
 bc:s.cfg.bals.length<=2097152
structure uF where
 cs:List AV
 pu:PuL cs
theorem uF.ren(c:uF)(ρ:Nat->Nat):bZ ρ c.cs=c.cs:=PuL.ren ρ c.pu
theorem uF.fz(c:uF)(σ:St)(zs:List Nat):fzL σ zs c.cs=c.cs:=PuL.fz σ zs c.pu
attribute [go_sem] uF.ren uF.fz
theorem RC(l:List Nod)(cl:Bool)(fn:FuncId)(c:uF)(p:Nat->Bool)(hl:l.length<=2097152)(hc:∀i,i<l.length->ay Tryz.prog fn [.agg (bB (l.getD i gr)),.ptr 0 0] [.var c.cs] (.bool (p i)) [.var c.cs]):ay Tryz.prog 329 [.sl 240 cl (rows bB l),.fn (.func fn) [.ptr 0 0]] [.var c.cs] (.int .i64 (Cj (dW p l.length))) [.var c.cs]:=by
 refine dS 9 ?_;have hN:dW p l.length=iK p (l.length-0) 0:=rfl;refine gon ?_;refine az (fun i:Nat=>[(8,.int .i64 i)]) (fun _=>[.var c.cs]) (fun i=>l.length-i) (fun i=>i<=l.length/\dW p l.length=iK p (l.length-i) i) 0 ⟨amc _,hN⟩ ?_ ?_
 ·exact ais [] [0]
 clear hN;rintro i ⟨hi,hn⟩;rw[hn];refine dp ?_;by_cases h1:i<l.length
 ·have e1:=inT h1
  have hw:=af h1 NB;have hgd:(rows bB l).getD i []=bB (l.getD i gr):=aS (f:=bB) gr h1;have c1:=hc i h1;refine bw e1 ?_;refine ah hgd ?_;refine oce [0] c1 ?_;cases h:p i with
  | true =>
    rw[nB h1 h];refine aX ?_;exact ahY [] [0]
  | false =>
    rw[nz h1 h];refine dQ ?_;refine ah hw ?_;refine⟨i+1,⟨h1,rfl⟩,NB,?_⟩;exact ais [] [0]
 ·obtain rfl:i=l.length:=NB
  have e1:=inF (l.length);rw[nu];refine aF e1 ?_;exact ahY [] [0]
theorem abv(l:List Vot)(cl:Bool)(fn:FuncId)(p:Nat->Bool)(hl:l.length<=2097152)(hc:∀i,i<l.length->PC Tryz.prog fn [.agg (al (l.getD i dL))] (.bool (p i))):PC Tryz.prog 441 [.sl 34 cl (rows al l),.fn (.func fn) []] (.int .i64 (Cj (dW p l.length))):=by
 refine cD 9 ?_;have hN:dW p l.length=iK p (l.length-0) 0:=rfl;refine gon ?_;refine az (fun i:Nat=>[(8,.int .i64 i)]) (fun _=>[]) (fun i=>l.length-i) (fun i=>i<=l.length/\dW p l.length=iK p (l.length-i) i) 0 ⟨amc _,hN⟩ ?_ ?_
 ·exact ais [] []
 clear hN;rintro i ⟨hi,hn⟩;rw[hn];refine dp ?_;by_cases h1:i<l.length
 ·have e1:=inT h1
  have hw:=af h1 NB;have hgd:(rows al l).getD i []=al (l.getD i dL):=aS (f:=al) dL h1;have c1:=hc i h1;refine bw e1 ?_;refine ah hgd ?_;refine am c1 ?_;cases h:p i with
  | true =>
    rw[nB h1 h];refine aX ?_;exact ai
  | false =>
    rw[nz h1 h];refine dQ ?_;refine ah hw ?_;refine⟨i+1,⟨h1,rfl⟩,NB,?_⟩;exact ais [] []
 ·obtain rfl:i=l.length:=NB
  have e1:=inF (l.length);rw[nu];refine aF e1 ?_;exact ai
theorem aaN(l:List Nod)(cl:Bool)(fn:FuncId)(c:uF)(p:Nat->Bool)(hl:l.length<=2097152)(hc:∀i,i<l.length->ay Tryz.prog fn [.agg (bB (l.getD i gr)),.ptr 0 0] [.var c.cs] (.bool (p i)) [.var c.cs]):ay Tryz.prog 388 [.sl 240 cl (rows bB l),.fn (.func fn) [.ptr 0 0]] [.var c.cs] (.bool (dW p l.length).isSome) [.var c.cs]:=by
 refine dS 5 ?_;have c1:=RC l cl fn c p hl hc;refine gon ?_;refine oce [0] c1 ?_;cases h:dW p l.length with
 | none =>
   refine gon ?_;exact ahY [] [0]
 | some i =>
   have e2:decide ((i:Int) ≥ 0)=true:=au NB;refine ah e2 ?_;exact ahY [] [0]
theorem aaO(l:List Vot)(cl:Bool)(fn:FuncId)(p:Nat->Bool)(hl:l.length<=2097152)(hc:∀i,i<l.length->PC Tryz.prog fn [.agg (al (l.getD i dL))] (.bool (p i))):PC Tryz.prog 386 [.sl 34 cl (rows al l),.fn (.func fn) []] (.bool (dW p l.length).isSome):=by
 refine cD 5 ?_;have c1:=abv l cl fn p hl hc;refine gon ?_;refine am c1 ?_;cases h:dW p l.length with
 | none =>
   refine gon ?_;exact ai
 | some i =>
   have e2:decide ((i:Int) ≥ 0)=true:=au NB;refine ah e2 ?_;exact ai
theorem Ui(x:Nod)(r:Rt):ay Tryz.prog 330 [.agg (bB x),.ptr 0 0] [.var (rtc r)] (.bool (decide (x.blk.root=r))) [.var (rtc r)]:=by
 refine dS 4 ?_;refine gon ?_;exact ahY [] [0]
theorem zU(t:List Nod)(r:Rt)(hb:t.length<=2097152):PC Tryz.prog 239 [.agg [.sl 240 false (rows bB t)],.agg (rtc r)] (.int .i64 (aj t r)):=by
 refine cD 5 ?_;have c1:=RC t false 330 ⟨rtc r,dI r⟩ (fun i=>decide ((nod t i).blk.root=r)) hb (fun i _=>Ui _ r);refine gon ?_;refine ocg [1] c1 ?_;exact ai
theorem UM(i:Int):PC Tryz.prog 408 [.int .i64 i] (.bool (decide (0<=i)&&decide (i<=2))):=by
 refine cD 3 ?_;by_cases h0:0<=i
 ·have e0:decide (i ≥ 0)=true:=au h0;have e1:=au h0;refine aZ e0 e1 ?_;exact ai
 ·have e0:decide (i ≥ 0)=false:=aA h0;have e1:=aA h0;refine aZ e0 e1 ?_;exact ai
structure LZ where
 xs:List (List AV)
 pu:fy xs
theorem LZ.fz(c:LZ)(σ:St)(zs:List Nat):dh σ zs c.xs=c.xs:=fy.fz σ zs c.pu
theorem Nj(ρ:Nat->Nat):∀ (a b:List (List AV)),bH ρ (a++b)=bH ρ a++bH ρ b
 | [],_=>rfl
 |x::a,b=>by simp only[amI,bH,Nj ρ a b]
theorem Rf(σ:St)(zs:List Nat):∀ (a b:List (List AV)),dh σ zs (a++b)=dh σ zs a++dh σ zs b
 | [],_=>rfl
 |x::a,b=>by simp only[amI,dh,Rf σ zs a b]
attribute [go_sem] LZ.fz Nj Rf
end Go.Proofs.YtblipkgpoaonaaaGreat
namespace Go.FH
open Go Go.RowKit
theorem CY{e p now:Int}(he:0<=e)(hp:1<=p)(hp2:p<=64)(hn:0<=now)(hn2:now<18446744073709551616)(h:e<=IntKind.u64.wrap (Int.tdiv now p)):(dk e p).2=0:=by
 have hd:Int.tdiv now p=now / p:=ajC hn;have h0:0<=now / p:=akD hn NB;have h1:now / p<=now:=akS _ hn;rw[hd,aN h0 NB]at h;have hb:vy p=true:=by simp[vy];omega
 unfold dk;rw[al7 hb];unfold Ip;have hd2:Int.tdiv 18446744073709551615 p=18446744073709551615 / p:=ajC NE;have hq0:0<=18446744073709551615 / p:=akD NE NB;have hq1:18446744073709551615 / p<=18446744073709551615:=akS _ NE;have hle:now / p<=18446744073709551615 / p:=Int.ediv_le_ediv NB NB;rw[hd2,aN hq0 NB,al5 NB]
end Go.FH
namespace Go.Proofs.YtblipkgpoaonaaaGreat
open Go Go.FH Go.RowKit
theorem bP.spe{s:ap}{i:Nat}(h:bP s i):1<=s.cfg.spe/\s.cfg.spe<=64:=⟨h.cfg.s1,by have:=h.cfg.s4;omega⟩
attribute [go_sem] Nat.le_add_right
end Go.Proofs.YtblipkgpoaonaaaGreat
