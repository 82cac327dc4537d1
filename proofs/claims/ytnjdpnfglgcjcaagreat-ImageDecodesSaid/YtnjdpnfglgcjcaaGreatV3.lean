/-
 My texts Ia, Ib, Ir, La, Lb, Lc, joined.
-/
import Derived.Test.YtnjdpnfglgcjcaaGreatV1
import Derived.Test.YtnjdpnfglgcjcaaGreatW3
import Derived.Test.YtnjdpnfglgcjcaaGreatW4
import Derived.Test.YtnjdpnfglgcjcaaGreatW5
set_option linter.unusedVariables false
set_option linter.unusedSimpArgs false
set_option maxRecDepth 8000
set_option maxHeartbeats 4000000
namespace Go.Proofs.YtnjdpnfglgcjcaaGreat
open Go Go.FH Go.RowKit
theorem HX(l:List Int)(cl:Bool)(v:Int)(hb:l.length<=140737488355328):PC Tryz.prog 40 [.sl 1 cl (aH .i64 l),.int .i64 v] (.bool (decide (v∈l))):=by
 refine PC.fact 6 Uh (by simp) ⟨bE _ _,trivial,trivial⟩ trivial ?_;unfold Hb;refine bd ?_;refine gon ?_;refine gM (fun i:Nat=>⟨6,[.sl 1 cl (aH .i64 l),.int .i64 v,.dead,.dead,.bool false,.int .i64 i],[]⟩) (fun _=>[]) (fun i=>l.length-i) (fun i=>i<=l.length/\v∉l.take i) [] 0 ⟨by omega,by simp⟩ evd rfl ?_;rintro i ⟨hi,hv⟩;try dsimp only
 refine gon ?_;refine aY evd (fun h=>?_) (fun h=>?_)
 ·have h1:i<l.length:=by simp at h;omega
  have hg:=fF (k:=.i64) h1;have hw:=af h1 (by omega);have e0:l[i]=l.getD i 0:=by rw[E3,Fh h1];rfl
  refine aZ hg aiL ?_;refine aY evd (fun h=>?_) (fun h=>?_)
  ·have e1:l.getD i 0=v:=by simpa using h
   have hm:v∈l:=by rw[<-e1,<-e0];exact ai7 h1
   rw[au hm];refine gon ?_;exact ai
  ·have e1:l.getD i 0≠v:=by simpa using h
   refine ah hw ?_;refine⟨i+1,⟨h1,?_⟩,by omega,rfl⟩;rw[aje,Fh h1];simp only[ak1,aiH,aiE,not_or];exact⟨hv,by rw[e0];exact fun e=>e1 e.symm⟩
 ·have h1:i=l.length:=by simp at h;omega
  subst h1;rw[ajp]at hv;rw[aA hv];refine gon ?_;exact ai
theorem kP(k:IntKind)(l m:List Int):aH k l++aH k m=aH k (l++m):=by simp[aH]
def pX:List Int->Int->List Int
 | [],v=>[v]
 |a::r,v=>if a<v then a::pX r v else if a=v then a::r else v::a::r
theorem Ry(l:List Int)(v:Int):(pX l v).length<=l.length+1:=by
 induction l with
 |nil=>simp[pX]
 | cons a r ih =>
   unfold pX;split
   ·simp;omega
   ·split<;>simp
def jm(l m:List Int)(i:Nat):List Int:=(l.take i).foldl (fun a v=>if v∈m then pX a v else a) []
theorem T5{l m:List Int}{i:Nat}(h:i<l.length):jm l m (i+1)=if l.getD i 0∈m then pX (jm l m i) (l.getD i 0)else jm l m i:=by
 have e0:l[i]=l.getD i 0:=by rw[E3,Fh h];rfl
 unfold jm;rw[aje,Fh h,ak1,List.foldl_append,akY,List.foldl_nil,e0]
theorem BC(l m:List Int):∀i,(jm l m i).length<=i
 |0=>by simp[jm]
 | i + 1 => by
   have ih:=BC l m i;by_cases h:i<l.length
   ·rw[T5 h];split
    ·have:=Ry (jm l m i) (l.getD i 0);omega
    ·omega
   ·have:jm l m (i+1)=jm l m i:=by unfold jm;rw[aiw (by omega),aiw (by omega)]
    rw[this];omega
def sur(a b:Clm):Bool:=decide (a.src<b.src)&&decide (b.tgt<a.tgt)
def dbl(a b:Clm):Bool:=(a.tgt==b.tgt)&&((a.src != b.src) || !decide (a.root=b.root))
def slb(a b:Clm):Bool:=dbl a b || sur a b || sur b a
def evE(x:Slg)(l m:List Int)(n:Int):Int:=
 if cE l n≠0 then cE l n else if cE m n≠0 then cE m n else if x.fst.tgt<x.fst.src\/x.snd.tgt<x.snd.src then 2
 else if slb x.fst x.snd=false\/jm l m l.length=[]then 20 else 0
def LM(z:Int):UInt8:=UInt8.ofNat (IntKind.u8.wrap z).toNat
theorem sw(z:Int):IntKind.u8.wrap z=((LM z).toNat:Int):=by
 have h:0<=IntKind.u8.wrap z/\IntKind.u8.wrap z<256:=by rw[IntKind.wrap_u8];omega
 unfold LM;rw[aj1,aki (by omega)];omega
theorem Ci(x m:Int)(h0:0<=m)(hm:m<9223372036854775808):∃r:Nat,lI .i64 x m=r/\(r:Int)<=m:=by
 unfold lI
 have h:(BitVec.ofInt IntKind.i64.bits x &&& BitVec.ofInt IntKind.i64.bits m).toNat<=m.toNat:=by
  rw[alc];refine aiK Nat.and_le_right ?_;rw[BitVec.toNat_ofInt];show (m % ((2 ^ 64:Nat):Int)).toNat<=m.toNat
  omega
 generalize (BitVec.ofInt IntKind.i64.bits x &&& BitVec.ofInt IntKind.i64.bits m).toNat=r at *;exact⟨r,aL (by omega) (by omega),by omega⟩
def zk(n:Int):Rt:=((rt0.set 0 (LM n)).set 1 (LM (fJ .i64 n 8))).set 31 (LM (IntKind.i64.wrap (n*7)))
theorem ig(n:Int):PC Tryz.prog 21 [.int .i64 n] (.agg (rtc (zk n))):=by
 refine PC.fact 3 QZ (by simp) ⟨trivial,trivial⟩ ((dI _)) ?_;unfold EQ zk;refine bd ?_;have h0:=sw n;have h1:=sw (fJ .i64 n 8);have h2:=sw (IntKind.i64.wrap (n*7));generalize LM n=b0 at *;generalize LM (fJ .i64 n 8)=b1 at *;generalize LM (IntKind.i64.wrap (n*7))=b2 at *;have s0:∀ (r:Rt) (b:UInt8),spl (rtc r) 0 [.int .u8 (b.toNat:Int)]=rtc (r.set 0 b):=fun r b=>CU r (by decide) b
 have s1:∀ (r:Rt) (b:UInt8),spl (rtc r) 1 [.int .u8 (b.toNat:Int)]=rtc (r.set 1 b):=fun r b=>CU r (by decide) b
 have s2:∀ (r:Rt) (b:UInt8),spl (rtc r) 31 [.int .u8 (b.toNat:Int)]=rtc (r.set 31 b):=fun r b=>CU r (by decide) b
 refine eV h0 h1 h2 s0 s1 s2 ?_;exact ai
theorem aas(a b:Int):PC Tryz.prog 330 [.int .u64 a,.int .u64 b] (.tup [.int .u64 (FA a b).1,.int .i64 (FA a b).2]):=by
 refine PC.fact 6 Ue (by simp) puA puA ?_;unfold G8;refine bd ?_;unfold FA;refine gon ?_;refine cd (fun h=>?_) (fun h=>?_)
 ·refine gon ?_;rw[Fy (by simpa using h)];exact ai
 ·refine gon ?_;rw[Fw (by simpa using h)];exact ai
theorem aa1(n:Int):PC Tryz.prog 388 [.int .u64 n] (.bool (vy n)):=by
 refine PC.fact 3 Ky (by simp) puA puA ?_;unfold yV;refine bd ?_;unfold vy;cases h:decide (1<=n)with
 | true =>
   refine ah h ?_;exact ai
 | false =>
   refine ah h ?_;exact ai
theorem abI(a b:Int):PC Tryz.prog 389 [.int .u64 a,.int .u64 b] (.tup [.int .u64 (Ip a b).1,.int .i64 (Ip a b).2]):=by
 refine PC.fact 6 Uf (by simp) puA puA ?_;unfold G9;refine bd ?_;unfold Ip;by_cases h0:b=0
 ·subst h0;refine bk ?_;rw[Fw (by simp)];exact ai
 ·have e0:(b != 0)=true:=by simp[h0]
  refine aZ e0 h0 ?_;refine cd (fun h=>?_) (fun h=>?_)
  ·refine gon ?_;rw[Fy (by simpa[h0]using h)];exact ai
  ·refine gon ?_;rw[Fw (by simpa[h0]using h)];exact ai
theorem Vn(e p:Int):PC Tryz.prog 331 [.int .u64 e,.int .u64 p] (.tup [.int .u64 (dk e p).1,.int .i64 (dk e p).2]):=by
 refine PC.fact 6 HG (by simp) puA puA ?_;unfold vc;refine bd ?_;unfold dk;have c1:=aa1 p;have c2:=abI e p;refine gon ?_;refine am c1 ?_;cases h:vy p with
 | true =>
   rw[Fy rfl];refine bk ?_;refine ahG c2 ?_;exact ai
 | false =>
   rw[Fw (by simp)];refine aX ?_;exact ai
theorem SZ(l:List Int){i:Nat}(h:(jr l i).2≠0):∀n,i<=n->jr l n=jr l i
 |0,hn=>by rw[show i=0 by omega]
 | n + 1, hn => by
   by_cases he:i=n+1
   ·rw[he]
   ·have:=SZ l h n (by omega);show (if (jr l n).2≠0 then jr l n else _)=_
    rw[this,Fy h]
theorem aar{a b:Int}(h:(FA a b).2≠0):FA a b=(0,(FA a b).2):=by
 unfold FA at *;split at h
 ·rw[Fy (by assumption)]
 ·exact absurd rfl h
theorem NG(l:List Int)(c:Bool)(hb:l.length<=2097152):PC Tryz.prog 240 [.sl 1 c (aH .u64 l)] (.tup [.int .u64 (EI l).1,.int .i64 (EI l).2]):=by
 refine PC.fact 8 Ug (by simp) puA puA ?_;unfold Ha;refine bd ?_;refine gon ?_;refine az (fun i:Nat=>[(5,.int .i64 i),(4,.int .u64 (jr l i).1)]) (fun _=>[]) (fun i=>l.length-i) (fun i=>i<=l.length/\(jr l i).2=0) 0 ⟨aix _,rfl⟩ ?_ ?_
 ·exact ais [] []
 rintro i ⟨hi,he⟩;by_cases h1:i<l.length
 ·have e1:decide ((i:Int)<(l.length:Int))=true:=au (by omega)
  have hgd:=gdn (k:=.u64) h1;have hw:=af h1 (by omega);have c1:=aas (jr l i).1 (l.getD i 0);have hs:jr l (i+1)=FA (jr l i).1 (l.getD i 0):=by show (if (jr l i).2≠0 then jr l i else _)=_;rw[Fw (by simp[he])]
  rw[<-hs]at c1;refine bw e1 ?_;refine aZ hgd aiL ?_;refine ahG c1 ?_;refine cd (fun h=>?_) (fun h=>?_)
  ·have h':(jr l (i+1)).2≠0:=by simpa using h
   have hE:EI l=jr l (i+1):=SZ l h' _ h1;rw[hE];have h2:=aar (by rw[<-hs];exact h');rw[<-hs]at h2;refine gon ?_;generalize jr l (i+1)=q at *;obtain⟨q1,q2⟩:=q;cases h2;exact ai
  ·have h':(jr l (i+1)).2=0:=by simpa using h
   refine ah hw ?_;refine⟨i+1,⟨h1,h'⟩,by omega,?_⟩;exact ais [] []
 ·obtain rfl:i=l.length:=by omega
  have e1:decide ((l.length:Int)<(l.length:Int))=false:=aA (by omega);refine aF e1 ?_;rw[show EI l=jr l l.length from rfl,he];exact ai
theorem J1(l:List Rt)(c:Bool)(r:Rt)(hb:l.length<=2097152):PC Tryz.prog 245 [.sl 32 c (rows rtc l),.agg (rtc r)] (.bool (decide (r∈l))):=by
 refine PC.fact 6 FV (by simp) ⟨(cQ fun x _=>dI x),dI _,trivial⟩ trivial ?_;unfold tL;refine bd ?_;refine gon ?_;refine az (fun i:Nat=>[(5,.int .i64 i)]) (fun _=>[.var (rtc r)]) (fun i=>l.length-i) (fun i=>i<=l.length/\∀j,j<i->l.getD j rt0≠r) 0 ⟨aix _,fun j hj=>by omega⟩ ?_ ?_
 ·exact ais [] [0]
 rintro i ⟨hi,hn⟩;by_cases h1:i<l.length
 ·have e1:decide ((i:Int)<(l.length:Int))=true:=au (by omega)
  have hgd:=aS (f:=rtc) rt0 h1;have hw:=af h1 (by omega);have hm:l.getD i rt0∈l:=by rw[E3,Fh h1];exact ai7 h1
  refine bw e1 ?_;refine ah hgd ?_;refine cd (fun h=>?_) (fun h=>?_)
  ·have hr:l.getD i rt0=r:=by simpa using h
   subst hr;refine gon ?_;rw[au hm];exact ai
  ·have hr:l.getD i rt0≠r:=by simpa using h
   refine ah hw ?_;refine⟨i+1,⟨h1,fun j hj=>?_⟩,by omega,?_⟩
   ·by_cases hji:j=i
    ·rw[hji];exact hr
    ·exact hn j (by omega)
   ·exact ais [] [0]
 ·obtain rfl:i=l.length:=by omega
  have e1:decide ((l.length:Int)<(l.length:Int))=false:=aA (by omega)
  have e2:decide (r∈l)=false:=by
   refine aA fun hr=>?_
   obtain⟨j,hj,rfl⟩:=aiZ hr;exact hn j hj (by simp[E3,hj])
  rw[e2];refine aF e1 ?_;exact ai
theorem Ms(a b:Rt):PC Tryz.prog 241 [.agg (rtc a),.agg (rtc b)] (.int .i64 (uk a b)):=by
 refine PC.fact 6 yc (by simp) puA puA ?_;unfold nK;refine bd ?_;refine gon ?_;refine az (fun i:Nat=>[(5,.int .i64 i)]) (fun _=>[.var (rtc a),.var (rtc b)]) (fun i=>32-i) (fun i=>i<=32/\uk a b=qz a b (32-i) i) 0 ⟨by omega,rfl⟩ ?_ ?_
 ·exact ais [] [0,1]
 rintro i ⟨hi,hn⟩;rw[hn];by_cases h1:i<32
 ·have e1:decide ((i:Int)<32)=true:=au (by omega)
  have hw:=af h1 (by omega);have g1:=Ou a h1;have g2:=Ou b h1;have ga:a.1.getD i 0=a.1[i]'(by rw[a.2];exact h1):=by simp[E3,a.2,h1]
  have gb:b.1.getD i 0=b.1[i]'(by rw[b.2];exact h1):=by simp[E3,b.2,h1]
  rw[<-ga]at g1;rw[<-gb]at g2;obtain⟨f,hf⟩:∃f,32-i=f+1:=⟨31-i,by omega⟩
  have hs:qz a b (32-i) i=if a.1.getD i 0<b.1.getD i 0 then -1 else if b.1.getD i 0<a.1.getD i 0 then 1 else qz a b (32-(i+1)) (i+1):=by
   rw[hf,show 32-(i+1)=f by omega];rfl
  rw[hs];generalize a.1.getD i 0=x at *;generalize b.1.getD i 0=y at *;have h0:(0:Int)<=i:=by omega
  have hn1:(i:Int)<32:=by omega
  refine bw e1 ?_;refine pz g1 g2 aiL ai6 ?_;refine cd (fun h=>?_) (fun h=>?_)
  ·rw[Fy (ajM.2 (by simpa using h))];refine gon ?_;exact ai
  ·rw[Fw (fun h'=>by have:=ajM.1 h';simp at h;omega)]
   refine pz g1 g2 aiL ai6 ?_;refine cd (fun h=>?_) (fun h=>?_)
   ·rename_i h';rw[Fy (ajM.2 (by simpa using h))];refine gon ?_;exact ai
   ·rename_i h';rw[Fw (fun h'=>by have:=ajM.1 h';simp at h;omega)];refine ah hw ?_;refine⟨i+1,⟨h1,rfl⟩,by omega,?_⟩;exact ais [] [0,1]
 ·obtain rfl:i=32:=by omega
  rw[akQ];refine bk ?_;exact ai
theorem xV(t:aW)(n:Int)(hb:t.bals.length<=2097152):PC Tryz.prog 112 [.agg (bS t.a),.int .i64 n] (.int .i64 (gh t n)):=by
 refine PC.fact 7 vT (by simp) puA puA ?_;unfold mJ;refine bd ?_;have c1:=NG t.bals false hb;unfold gh;generalize EI t.bals=q at *;obtain⟨q1,q2⟩:=q;dsimp only at c1 ⊢;refine gon ?_;refine cd (fun h=>?_) (fun h=>?_)
 ·rw[Fy (by grind)];refine gon ?_;exact ai
 ·rw [Fw (by grind)]
  refine gon ?_;refine am c1 ?_;by_cases h2:q2=0
  ·subst h2
   by_cases h3:4611686018427387904<q1
   ·have e3:=au h3;rw[Fy (.inr h3)];repeat(first|refine bY ?_|simp_all)
    refine agF ?_;exact ai
   ·have e3:=aA h3;rw[Fw (by omega)];refine aF e3 ?_;exact ai
  ·have e2:(q2 != 0)=true:=by simpa using h2
   rw[Fy (.inl h2)];refine aM e2 ?_;exact ai
theorem Hi(t:aW)(e:t.bals.length<=2097152):PC Tryz.prog 238 [.agg (bS t.a)] (.agg (bS t.a)):=by
 refine PC.fact 3 DL (by simp) puA puA ?_;unfold rF;refine bd ?_;obtain⟨f,c⟩:=t;dsimp only at e;repeat(first|refine bY ?_|omega)
 exact ai
theorem Mr(a b:Cp):PC Tryz.prog 114 [.agg (cpC a),.agg (cpC b)] (.int .i64 (kW a b)):=by
 refine PC.fact 5 pW (by simp) puA puA ?_;unfold iT;refine bd ?_;have f:=Ms a.rt b.rt;unfold kW;refine gon ?_;refine cd (fun h=>?_) (fun h=>?_)
 ·rw[Fy (by grind)]
  refine gon ?_;refine cd (fun h=>?_) (fun h=>?_)
  ·rw[Fy (by grind)];refine gon ?_;exact ai
  ·rw[Fw (by grind)];refine gon ?_;exact ai
 ·rw[Fw (by grind)];refine gon ?_;refine ahG f ?_;exact ai
theorem ow(l:List aW)(c:Cp)(hb:l.length<=2097152):PC Tryz.prog 111 [.sl 34 false (rows aW.c l),.agg (cpC c)] (.int .i64 (dJ l c)):=by
 refine PC.fact 6 DM (by simp) puA puA ?_;unfold rG;refine bd ?_;refine gon ?_;refine az (fun i:Nat=>[(5,.int .i64 i)]) (fun _=>[.var (cpC c)]) (fun i=>l.length-i) (fun i=>i<=l.length/\dJ l c=Cj (iK (fun i=>decide ((tab l i).cp=c)) (l.length-i) i)) 0 ⟨aix _,rfl⟩ ?_ ?_
 ·exact ais [] [0]
 rintro i ⟨hi,hn⟩;rw[hn];by_cases h1:i<l.length
 ·have e1:decide ((i:Int)<(l.length:Int))=true:=au (by omega)
  have hgd:(rows aW.c l).getD i []=bS (tab l i).a:=aS (f:=aW.c) default h1;have hw:=af h1 (by omega);refine bw e1 ?_;repeat(first|refine bY ?_|simp_all)
  refine cd (fun h=>?_) (fun h=>?_)
  ·rw[nB h1 h];refine gon ?_;exact ai
  ·rw[nz h1 h];repeat(first|refine bY ?_|simp_all)
   refine⟨i+1,⟨h1,rfl⟩,by omega,?_⟩;exact ais [] [0]
 ·obtain rfl:i=l.length:=by omega
  have e1:decide ((l.length:Int)<(l.length:Int))=false:=aA (by omega);rw[nu];refine aF e1 ?_;exact ai
theorem XO(d:Int)(c:Rt)(l:List Int)(i:Nat)(p:List Vot×Int):(rL d c l i p).1.length=p.1.length:=by unfold rL;grind
theorem vq(d:Int)(b:Rt)(l:List Int)(v:List Vot):∀i,(bg (rL d b l) (v,0) i).1.length=v.length
 |0=>rfl
 |i+1=>by rw[cX,XO,vq d b l v i]
def IB(l:List Int)(i:Nat)(o:List Int):List Int:=pX o (l.getD i 0)
def Gb(set l:List Int):List Int:=bg (IB l) set l.length
theorem O5(set l:List Int):∀i,(bg (IB l) set i).length<=set.length+i
 |0=>ait _
 |i+1=>by rw[cX];have:=Ry (bg (IB l) set i) (l.getD i 0);have:=O5 set l i;unfold IB at *;omega
def wtS(latest:List Vot)(eqv bals:List Int)(roots:List Rt)(i:Nat)(n:Int):Int:=if (vot latest i).has=true/\(i:Int)∉eqv/\(vot latest i).root∈roots then IntKind.u64.wrap (n+bals.getD i 0)else n
theorem Tz (latest : List Vot) (eqv bals : List Int) (roots : List Rt) (h1 : latest.length <= 2097152) (h2 : eqv.length <= 2097152) (h3 : bals.length <= 2097152) (h4 : roots.length <= 2097152) : PC Tryz.prog 121 [.agg [.sl 34 false (rows al latest), .sl 1 false (aH .i64 eqv)], .sl 1 false (aH .u64 bals), .sl 32 true (rows rtc roots)] (.int .u64 (GI latest eqv bals roots)) := by
 refine PC.fact 9 KI (by simp) puA puA ?_;unfold za;refine bd ?_;show Tri _ _ _ _ (PQ _ (.int .u64 (bg (wtS latest eqv bals roots) 0 (min bals.length latest.length)))) _ _
 refine gon ?_;refine az (fun i:Nat=>[(8,.int .i64 i),(7,.int .u64 (bg (wtS latest eqv bals roots) 0 i))]) (fun i=>[.var [.sl 34 false (rows al latest),.sl 1 false (aH .i64 eqv)]]) (fun i=>bals.length-i) (fun i=>i<=min bals.length latest.length) 0 (aix _) ?_ ?_
 ·exact ais [] [0]
 intro i hi;(try simp only[dE,dr,aiQ,aiR])
 by_cases q1:i<bals.length
 ·have e1 : decide ((i : Int) < ((bals.length : Nat) : Int)) = true := au (by omega)
  by_cases q2:i<latest.length
  ·have e2:decide ((i:Int)<((latest.length:Nat):Int))=true:=au (by omega)
   have hw:=af q1 (by omega);have hs:=cX (wtS latest eqv bals roots) 0 i;have hgl:=aS (f:=al) dL q2;have hgb:=gdn (k:=.u64) q1;have c1:=HX eqv false (i:Int) (by omega);have c2:=J1 roots true (vot latest i).root h4;generalize bg (wtS latest eqv bals roots) 0 i=n at *;have hc:wtS latest eqv bals roots i n=if (vot latest i).has=true/\(i:Int)∉eqv/\(vot latest i).root∈roots then IntKind.u64.wrap (n+bals.getD i 0)else n:=rfl
   generalize bals.getD i 0=b at *;change (rows al latest).getD i []=al (vot latest i)at hgl
   generalize vot latest i=x at *;obtain⟨xh,xe,xr⟩:=x;dsimp only at hc c2;refine mQ e1 e2 ?_;cases xh with
   | false =>
     rw[Fw (by simp)]at hc;refine bJ hgl ?_;refine ah hw ?_;refine⟨i+1,by omega,by omega,?_⟩;rw[hs,hc];exact ais [] [0]
   | true =>
     refine ah hgl ?_;refine am c1 ?_;by_cases q3:(i:Int)∈eqv
     ·rw[Fw (by simp[q3])]at hc;rw[au q3];refine bJ hgl ?_;refine ah hw ?_;refine⟨i+1,by omega,by omega,?_⟩;rw[hs,hc];exact ais [] [0]
     ·rw[aA q3]
      refine ah hgl ?_;refine am c2 ?_;by_cases q4:xr∈roots
      ·rw[Fy ⟨rfl,q3,q4⟩]at hc;rw[au q4];refine mQ hgb aiL ?_;refine dC hw hgb aiL ?_;refine⟨i+1,by omega,by omega,?_⟩;rw[hs,hc];exact ais [] [0]
      ·rw[Fw (by simp[q4])]at hc;rw[aA q4];refine fp hgb aiL ?_;refine ah hw ?_;refine⟨i+1,by omega,by omega,?_⟩;rw[hs,hc];exact ais [] [0]
  ·have e2:decide ((i:Int)<((latest.length:Nat):Int))=false:=aA (by omega);obtain rfl:i=min bals.length latest.length:=by omega
   refine fU e1 e2 ?_;exact ai
 ·have e1:decide ((i:Int)<((bals.length:Nat):Int))=false:=aA (by omega);obtain rfl:i=min bals.length latest.length:=by omega
  refine aF e1 ?_;exact ai
end Go.Proofs.YtnjdpnfglgcjcaaGreat
