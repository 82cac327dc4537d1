/- Joined. -/
import Derived.Test.YtflhnmleodkjiaaGreatV1
import Derived.Test.YtflhnmleodkjiaaGreatW3
import Derived.Test.YtflhnmleodkjiaaGreatW4
import Derived.Test.YtflhnmleodkjiaaGreatW5
set_option linter.unusedVariables false
set_option linter.unusedSimpArgs false
set_option maxRecDepth 8000
set_option maxHeartbeats 4000000
namespace Go.Proofs.YtflhnmleodkjiaaGreat
open Go Go.FH Go.RowKit
theorem HX(l:List Int)(cl:Bool)(v:Int)(hb:l.length<=140737488355328):PC Tryz.prog 382 [.sl 1 cl (aH .i64 l),.int .i64 v] (.bool (decide (v∈l))):=by
 refine PC.fact 6 Uh (by simp) ⟨bE _ _,trivial,trivial⟩ trivial ?_;unfold Hb;refine bd ?_;refine gon ?_;refine gM (fun i:Nat=>⟨6,[.sl 1 cl (aH .i64 l),.int .i64 v,.dead,.dead,.bool false,.int .i64 i],[]⟩) (fun _=>[]) (fun i=>l.length-i) (fun i=>i<=l.length/\v∉l.take i) [] 0 ⟨by omega,by simp⟩ evd rfl ?_;rintro i ⟨hi,hv⟩;try dsimp only
 refine gon ?_;refine aY evd (fun h=>?_) (fun h=>?_)
 ·have h1:i<l.length:=by simp at h;omega
  have hg:=fF (k:=.i64) h1;have hw:=af h1 (by omega);have e0:l[i]=l.getD i 0:=by rw[alt,al6 h1];rfl
  refine aZ hg amv ?_;refine aY evd (fun h=>?_) (fun h=>?_)
  ·have e1:l.getD i 0=v:=by simpa using h
   have hm:v∈l:=by rw[<-e1,<-e0];exact amS h1
   rw[au hm];refine gon ?_;exact ai
  ·have e1:l.getD i 0≠v:=by simpa using h
   refine ah hw ?_;refine⟨i+1,⟨h1,?_⟩,by omega,rfl⟩;rw[amY,al6 h1];simp only[ak1,amm,amn,not_or];exact⟨hv,by rw[e0];exact fun e=>e1 e.symm⟩
 ·have h1:i=l.length:=by simp at h;omega
  subst h1;rw[ajp]at hv;rw[aA hv];refine gon ?_;exact ai
theorem Ke(k:IntKind)(l:List Int)(i:Nat):(aH k l).take i=aH k (l.take i):=by simp[aH]
theorem tN(k:IntKind)(l:List Int)(i:Nat):(aH k l).drop i=aH k (l.drop i):=by simp[aH]
theorem kP(k:IntKind)(l m:List Int):aH k l++aH k m=aH k (l++m):=by simp[aH]
theorem OF(k:IntKind)(v:Int):[[AV.int k v]]=aH k [v]:=rfl
def pX:List Int->Int->List Int
 | [],v=>[v]
 |a::r,v=>if a<v then a::pX r v else if a=v then a::r else v::a::r
theorem MI:∀ (l:List Int) (v:Int) (i:Nat),i<=l.length->(∀j,j<i->l.getD j 0<v)->(∀_:i<l.length,¬l.getD i 0<v)->pX l v=if i<l.length/\l.getD i 0=v then l else l.take i++[v]++l.drop i
 | [], v, i, hi, h1, h2 => by
   have:i=0:=by simpa using hi
   subst this;simp[pX]
 | a :: r, v, 0, hi, h1, h2 => by
   have h3:¬a<v:=by simpa using h2 (by simp)
   simp only[pX,al5 h3];by_cases h4:a=v
   ·simp[h4]
   ·simp[h4]
 | a :: r, v, i + 1, hi, h1, h2 => by
   have h3:a<v:=by simpa using h1 0 (by omega)
   have ih:=MI r v i (by simpa using hi) (fun j hj=>by simpa using h1 (j+1) (by omega)) (fun hlt=>by simpa using h2 (by simpa using hlt));simp only[pX,al7 h3,ih];by_cases h4:i<r.length/\r.getD i 0=v
   ·rw[al7 h4,al7 (by simpa using h4)]
   ·rw[al5 h4,al5 (by simpa using h4)];simp
theorem Ry(l:List Int)(v:Int):(pX l v).length<=l.length+1:=by
 induction l with
 |nil=>simp[pX]
 | cons a r ih =>
   unfold pX;split
   ·simp;omega
   ·split<;>simp
theorem OB(l:List Int)(v:Int)(hb:l.length<=2097152):PC Tryz.prog 381 [.sl 1 false (aH .i64 l),.int .i64 v] (.sl 1 false (aH .i64 (pX l v))):=by
 refine PC.fact 6 II (by simp) ⟨bE _ _,trivial,trivial⟩ (bE _ _) ?_;unfold MT;refine bd ?_;refine gon ?_;refine gM (fun i:Nat=>⟨6,[.sl 1 false (aH .i64 l),.int .i64 v,.dead,.dead,.sl 0 true [],.int .i64 i],[]⟩) (fun _=>[]) (fun i=>l.length-i) (fun i=>i<=l.length/\∀j,j<i->l.getD j 0<v) [] 0 ⟨by omega,fun j hj=>by omega⟩ evd rfl ?_;rintro i ⟨hi,hv⟩;try dsimp only
 have fin:(∀_:i<l.length,¬l.getD i 0<v)->True:=fun _=>trivial
 by_cases h1:i<l.length
 ·have hg:=fF (k:=.i64) h1
  have hw:=af h1 (by omega);have e1:decide ((i:Int)<(l.length:Int))=true:=au (by omega);by_cases h2:l.getD i 0<v
  ·have e2:=au h2;refine U6 e1 hg amv e2 ?_;refine ah hw ?_;refine⟨i+1,⟨h1,fun j hj=>?_⟩,by omega,rfl⟩;by_cases e:j=i
   ·subst e;exact h2
   ·exact hv j (by omega)
  ·have e2:=aA h2
   rw[MI l v i hi hv (fun _=>h2)];refine OA e1 hg amv e2 ?_;by_cases h3:l.getD i 0=v
   ·have e3:(l.getD i 0==v)=true:=by rw[am0];exact h3
    rw[al7 ⟨h1,h3⟩];refine nC e1 hg amv e3 ?_;exact ai
   ·have e3:(l.getD i 0==v)=false:=by rw[<-amZ,am0];exact h3
    rw[al5 (fun h=>h3 h.2)];refine OA e1 hg amv e3 ?_;have d1:(l.drop i).take (l.length-i)=l.drop i:=amf (by simp);refine eU Ke tN d1 OF kP ?_;exact ai
 ·have hl:i=l.length:=by omega
  subst hl;have e1:decide ((l.length:Int)<(l.length:Int))=false:=aA (by omega);rw[MI l v l.length hi hv (fun h=>by omega),al5 (fun h=>by omega),ajp,amB,amo];refine bJ e1 ?_;refine bJ e1 ?_;refine pz Ke tN OF kP ?_;exact ai
def LM(z:Int):UInt8:=UInt8.ofNat (IntKind.u8.wrap z).toNat
theorem vQ(z:Int):IntKind.u8.wrap z=((LM z).toNat:Int):=by
 have h:0<=IntKind.u8.wrap z/\IntKind.u8.wrap z<256:=by rw[IntKind.wrap_u8];omega
 unfold LM;rw[aj1,aki (by omega)];omega
theorem Ci(x m:Int)(h0:0<=m)(hm:m<9223372036854775808):∃r:Nat,lI .i64 x m=r/\(r:Int)<=m:=by
 unfold lI
 have h:(BitVec.ofInt IntKind.i64.bits x &&& BitVec.ofInt IntKind.i64.bits m).toNat<=m.toNat:=by
  rw[alc];refine ams Nat.and_le_right ?_;rw[BitVec.toNat_ofInt];show (m % ((2 ^ 64:Nat):Int)).toNat<=m.toNat
  omega
 generalize (BitVec.ofInt IntKind.i64.bits x &&& BitVec.ofInt IntKind.i64.bits m).toNat=r at *;exact⟨r,aL (by omega) (by omega),by omega⟩
def zk(n:Int):Rt:=((rt0.set 0 (LM n)).set 1 (LM (fJ .i64 n 8))).set 31 (LM (IntKind.i64.wrap (n*7)))
theorem ig(n:Int):PC Tryz.prog 72 [.int .i64 n] (.agg (rtc (zk n))):=by
 refine PC.fact 3 QZ (by simp) ⟨trivial,trivial⟩ ((dI _)) ?_;unfold EQ zk;refine bd ?_;have h0:=vQ n;have h1:=vQ (fJ .i64 n 8);have h2:=vQ (IntKind.i64.wrap (n*7));generalize LM n=b0 at *;generalize LM (fJ .i64 n 8)=b1 at *;generalize LM (IntKind.i64.wrap (n*7))=b2 at *;have s0:∀ (r:Rt) (b:UInt8),spl (rtc r) 0 [.int .u8 (b.toNat:Int)]=rtc (r.set 0 b):=fun r b=>CU r (by decide) b
 have s1:∀ (r:Rt) (b:UInt8),spl (rtc r) 1 [.int .u8 (b.toNat:Int)]=rtc (r.set 1 b):=fun r b=>CU r (by decide) b
 have s2:∀ (r:Rt) (b:UInt8),spl (rtc r) 31 [.int .u8 (b.toNat:Int)]=rtc (r.set 31 b):=fun r b=>CU r (by decide) b
 refine eV h0 h1 h2 s0 s1 s2 ?_;exact ai
theorem aas(a b:Int):PC Tryz.prog 326 [.int .u64 a,.int .u64 b] (.tup [.int .u64 (FA a b).1,.int .i64 (FA a b).2]):=by
 refine pfn 6 Ue ?_;unfold G8;refine bd ?_;unfold FA;refine gon ?_;refine cd (fun h=>?_) (fun h=>?_)
 ·refine gon ?_;rw[al7 (by simpa using h)];exact ai
 ·refine gon ?_;rw[al5 (by simpa using h)];exact ai
theorem aa1(n:Int):PC Tryz.prog 446 [.int .u64 n] (.bool (vy n)):=by
 refine pfn 3 Ky ?_;unfold yV;refine bd ?_;unfold vy;cases h:decide (1<=n)with
 | true =>
   refine ah h ?_;exact ai
 | false =>
   refine ah h ?_;exact ai
theorem abI(a b:Int):PC Tryz.prog 447 [.int .u64 a,.int .u64 b] (.tup [.int .u64 (Ip a b).1,.int .i64 (Ip a b).2]):=by
 refine pfn 6 Uf ?_;unfold G9;refine bd ?_;unfold Ip;by_cases h0:b=0
 ·subst h0;refine bk ?_;rw[al5 (by simp)];exact ai
 ·have e0:(b != 0)=true:=by simp[h0]
  refine aZ e0 h0 ?_;refine cd (fun h=>?_) (fun h=>?_)
  ·refine gon ?_;rw[al7 (by simpa[h0]using h)];exact ai
  ·refine gon ?_;rw[al5 (by simpa[h0]using h)];exact ai
theorem Vn(e p:Int):PC Tryz.prog 397 [.int .u64 e,.int .u64 p] (.tup [.int .u64 (dk e p).1,.int .i64 (dk e p).2]):=by
 refine pfn 6 HG ?_;unfold vc;refine bd ?_;unfold dk;have c1:=aa1 p;have c2:=abI e p;refine gon ?_;refine am c1 ?_;cases h:vy p with
 | true =>
   rw[al7 rfl];refine bk ?_;refine ahG c2 ?_;exact ai
 | false =>
   rw[al5 (by simp)];refine aX ?_;exact ai
theorem SZ(l:List Int){i:Nat}(h:(jr l i).2≠0):∀n,i<=n->jr l n=jr l i
 |0,hn=>by rw[show i=0 by omega]
 | n + 1, hn => by
   by_cases he:i=n+1
   ·rw[he]
   ·have:=SZ l h n (by omega);show (if (jr l n).2≠0 then jr l n else _)=_
    rw[this,al7 h]
theorem aar{a b:Int}(h:(FA a b).2≠0):FA a b=(0,(FA a b).2):=by
 unfold FA at *;split at h
 ·rw[al7 (by assumption)]
 ·exact absurd rfl h
theorem NG(l:List Int)(c:Bool)(hb:l.length<=2097152):PC Tryz.prog 237 [.sl 1 c (aH .u64 l)] (.tup [.int .u64 (EI l).1,.int .i64 (EI l).2]):=by
 refine pfn 8 Ug ?_;unfold Ha;refine bd ?_;refine gon ?_;refine az (fun i:Nat=>[(5,.int .i64 i),(4,.int .u64 (jr l i).1)]) (fun _=>[]) (fun i=>l.length-i) (fun i=>i<=l.length/\(jr l i).2=0) 0 ⟨amc _,rfl⟩ ?_ ?_
 ·exact ais [] []
 rintro i ⟨hi,he⟩;by_cases h1:i<l.length
 ·have e1:decide ((i:Int)<(l.length:Int))=true:=au (by omega)
  have hgd:=gdn (k:=.u64) h1;have hw:=af h1 (by omega);have c1:=aas (jr l i).1 (l.getD i 0);have hs:jr l (i+1)=FA (jr l i).1 (l.getD i 0):=by show (if (jr l i).2≠0 then jr l i else _)=_;rw[al5 (by simp[he])]
  rw[<-hs]at c1;refine bw e1 ?_;refine aZ hgd amv ?_;refine ahG c1 ?_;refine cd (fun h=>?_) (fun h=>?_)
  ·have h':(jr l (i+1)).2≠0:=by simpa using h
   have hE:EI l=jr l (i+1):=SZ l h' _ h1;rw[hE];have h2:=aar (by rw[<-hs];exact h');rw[<-hs]at h2;refine gon ?_;generalize jr l (i+1)=q at *;obtain⟨q1,q2⟩:=q;cases h2;exact ai
  ·have h':(jr l (i+1)).2=0:=by simpa using h
   refine ah hw ?_;refine⟨i+1,⟨h1,h'⟩,by omega,?_⟩;exact ais [] []
 ·obtain rfl:i=l.length:=by omega
  have e1:decide ((l.length:Int)<(l.length:Int))=false:=aA (by omega);refine aF e1 ?_;rw[show EI l=jr l l.length from rfl,he];exact ai
theorem J1(l:List Rt)(c:Bool)(r:Rt)(hb:l.length<=2097152):PC Tryz.prog 468 [.sl 32 c (rows rtc l),.agg (rtc r)] (.bool (decide (r∈l))):=by
 refine PC.fact 6 FV (by simp) ⟨(cQ fun x _=>dI x),dI _,trivial⟩ trivial ?_;unfold tL;refine bd ?_;refine gon ?_;refine az (fun i:Nat=>[(5,.int .i64 i)]) (fun _=>[.var (rtc r)]) (fun i=>l.length-i) (fun i=>i<=l.length/\∀j,j<i->l.getD j rt0≠r) 0 ⟨amc _,fun j hj=>by omega⟩ ?_ ?_
 ·exact ais [] [0]
 rintro i ⟨hi,hn⟩;by_cases h1:i<l.length
 ·have e1:decide ((i:Int)<(l.length:Int))=true:=au (by omega)
  have hgd:=aS (f:=rtc) rt0 h1;have hw:=af h1 (by omega);have hm:l.getD i rt0∈l:=by rw[alt,al6 h1];exact amS h1
  refine bw e1 ?_;refine ah hgd ?_;refine cd (fun h=>?_) (fun h=>?_)
  ·have hr:l.getD i rt0=r:=by simpa using h
   subst hr;refine gon ?_;rw[au hm];exact ai
  ·have hr:l.getD i rt0≠r:=by simpa using h
   refine ah hw ?_;refine⟨i+1,⟨h1,fun j hj=>?_⟩,by omega,?_⟩
   ·by_cases hji:j=i
    ·rw[hji];exact hr
    ·exact hn j (by omega)
   ·exact ais [] [0]
 ·obtain rfl:i=l.length:=by omega
  have e1:decide ((l.length:Int)<(l.length:Int))=false:=aA (by omega)
  have e2:decide (r∈l)=false:=by
   refine aA fun hr=>?_
   obtain⟨j,hj,rfl⟩:=amJ hr;exact hn j hj (by simp[alt,hj])
  rw[e2];refine aF e1 ?_;exact ai
theorem Ms(a b:Rt):PC Tryz.prog 307 [.agg (rtc a),.agg (rtc b)] (.int .i64 (uk a b)):=by
 refine pfn 6 yc ?_;unfold nK;refine bd ?_;refine gon ?_;refine az (fun i:Nat=>[(5,.int .i64 i)]) (fun _=>[.var (rtc a),.var (rtc b)]) (fun i=>32-i) (fun i=>i<=32/\uk a b=qz a b (32-i) i) 0 ⟨by omega,rfl⟩ ?_ ?_
 ·exact ais [] [0,1]
 rintro i ⟨hi,hn⟩;rw[hn];by_cases h1:i<32
 ·have e1:decide ((i:Int)<32)=true:=au (by omega)
  have hw:=af h1 (by omega);have g1:=Ou a h1;have g2:=Ou b h1;have ga:a.1.getD i 0=a.1[i]'(by rw[a.2];exact h1):=by simp[alt,a.2,h1]
  have gb:b.1.getD i 0=b.1[i]'(by rw[b.2];exact h1):=by simp[alt,b.2,h1]
  rw[<-ga]at g1;rw[<-gb]at g2;obtain⟨f,hf⟩:∃f,32-i=f+1:=⟨31-i,by omega⟩
  have hs:qz a b (32-i) i=if a.1.getD i 0<b.1.getD i 0 then -1 else if b.1.getD i 0<a.1.getD i 0 then 1 else qz a b (32-(i+1)) (i+1):=by
   rw[hf,show 32-(i+1)=f by omega];rfl
  rw[hs];generalize a.1.getD i 0=x at *;generalize b.1.getD i 0=y at *;have h0:(0:Int)<=i:=by omega
  have hn1:(i:Int)<32:=by omega
  refine bw e1 ?_;refine pz g1 g2 amv amO ?_;refine cd (fun h=>?_) (fun h=>?_)
  ·rw[al7 (ajM.2 (by simpa using h))];refine gon ?_;exact ai
  ·rw[al5 (fun h'=>by have:=ajM.1 h';simp at h;omega)]
   refine pz g1 g2 amv amO ?_;refine cd (fun h=>?_) (fun h=>?_)
   ·rename_i h';rw[al7 (ajM.2 (by simpa using h))];refine gon ?_;exact ai
   ·rename_i h';rw[al5 (fun h'=>by have:=ajM.1 h';simp at h;omega)];refine ah hw ?_;refine⟨i+1,⟨h1,rfl⟩,by omega,?_⟩;exact ais [] [0,1]
 ·obtain rfl:i=32:=by omega
  rw[akQ];refine bk ?_;exact ai
theorem xV(t:aW)(n:Int)(hb:t.bals.length<=2097152):PC Tryz.prog 150 [.agg (bS t.a),.int .i64 n] (.int .i64 (gh t n)):=by
 refine pfn 7 vT ?_;unfold mJ;refine bd ?_;have c1:=NG t.bals false hb;unfold gh;generalize EI t.bals=q at *;obtain⟨q1,q2⟩:=q;dsimp only at c1 ⊢;refine gon ?_;refine cd (fun h=>?_) (fun h=>?_)
 ·rw[al7 (by grind)];refine gon ?_;exact ai
 ·rw [al5 (by grind)]
  refine gon ?_;refine am c1 ?_;by_cases h2:q2=0
  ·subst h2
   by_cases h3:4611686018427387904<q1
   ·have e3:=au h3;rw[al7 (.inr h3)];repeat(first|refine bY ?_|simp_all)
    refine agF ?_;exact ai
   ·have e3:=aA h3;rw[al5 (by omega)];refine aF e3 ?_;exact ai
  ·have e2:(q2 != 0)=true:=by simpa using h2
   rw[al7 (.inl h2)];refine aM e2 ?_;exact ai
theorem Hi(t:aW)(e:t.bals.length<=2097152):PC Tryz.prog 152 [.agg (bS t.a)] (.agg (bS t.a)):=by
 refine pfn 3 DL ?_;unfold rF;refine bd ?_;obtain⟨f,c⟩:=t;dsimp only at e;repeat(first|refine bY ?_|omega)
 exact ai
theorem Mr(a b:Cp):PC Tryz.prog 188 [.agg (cpC a),.agg (cpC b)] (.int .i64 (kW a b)):=by
 refine pfn 5 pW ?_;unfold iT;refine bd ?_;have f:=Ms a.rt b.rt;unfold kW;refine gon ?_;refine cd (fun h=>?_) (fun h=>?_)
 ·rw[al7 (by grind)]
  refine gon ?_;refine cd (fun h=>?_) (fun h=>?_)
  ·rw[al7 (by grind)];refine gon ?_;exact ai
  ·rw[al5 (by grind)];refine gon ?_;exact ai
 ·rw[al5 (by grind)];refine gon ?_;refine ahG f ?_;exact ai
theorem ow(l:List aW)(c:Cp)(hb:l.length<=2097152):PC Tryz.prog 186 [.sl 34 false (rows aW.c l),.agg (cpC c)] (.int .i64 (dJ l c)):=by
 refine pfn 6 DM ?_;unfold rG;refine bd ?_;refine gon ?_;refine az (fun i:Nat=>[(5,.int .i64 i)]) (fun _=>[.var (cpC c)]) (fun i=>l.length-i) (fun i=>i<=l.length/\dJ l c=Cj (iK (fun i=>decide ((tab l i).cp=c)) (l.length-i) i)) 0 ⟨amc _,rfl⟩ ?_ ?_
 ·exact ais [] [0]
 rintro i ⟨hi,hn⟩;rw[hn];by_cases h1:i<l.length
 ·have e1:decide ((i:Int)<(l.length:Int))=true:=au (by omega)
  have hgd:(rows aW.c l).getD i []=bS (tab l i).a:=aS (f:=aW.c) default h1;have hw:=af h1 (by omega);refine bw e1 ?_;repeat(first|refine bY ?_|simp_all)
  refine cd (fun h=>?_) (fun h=>?_)
  ·rw[nB h1 h];refine gon ?_;exact ai
  ·rw[nz h1 h];repeat(first|refine bY ?_|simp_all)
   refine⟨i+1,⟨h1,rfl⟩,by omega,?_⟩;exact ais [] [0]
 ·obtain rfl:i=l.length:=by omega
  have e1:decide ((l.length:Int)<(l.length:Int))=false:=aA (by omega);rw[nu];refine aF e1 ?_;exact ai
def IB(l:List Int)(i:Nat)(o:List Int):List Int:=pX o (l.getD i 0)
def Gb(set l:List Int):List Int:=bg (IB l) set l.length
theorem O5(set l:List Int):∀i,(bg (IB l) set i).length<=set.length+i
 |0=>amb _
 |i+1=>by rw[cX];have:=Ry (bg (IB l) set i) (l.getD i 0);have:=O5 set l i;unfold IB at *;omega
theorem OH(set l:List Int)(hb:set.length+l.length<=2097152):PC Tryz.prog 292 [.sl 1 false (aH .i64 set),.sl 1 false (aH .i64 l)] (.tup [.sl 1 false (aH .i64 (Gb set l)),.int .i64 (IntKind.i64.wrap ((Gb set l).length-set.length))]):=by
 refine pfn 8 IK ?_;unfold kF;refine bd ?_;unfold Gb;refine gon ?_;refine az (fun i:Nat=>[(7,.int .i64 i),(6,.sl 1 false (aH .i64 (bg (IB l) set i)))]) (fun i=>[]) (fun i=>l.length-i) (fun i=>i<=l.length) 0 (amc _) ?_ ?_
 ·exact ais [0] []
 intro i hi;refine dp ?_;by_cases h1:i<l.length
 ·have e1:=inT h1;have hw:=af h1 (by omega);have hgd:=gdn (k:=.i64) h1;have hs:=cX (IB l) set i;have hlen:=O5 set l i;have c1:=OB (bg (IB l) set i) (l.getD i 0) (by omega);unfold IB at hs;rw[show pX (bg (IB l) set i) (l.getD i 0)=bg (IB l) set (i+1)from rfl]at c1;refine bw e1 ?_;refine aZ hgd amv ?_;refine am c1 ?_;refine ah hw ?_;refine⟨i+1,h1,by omega,?_⟩;exact ais [] []
 ·obtain rfl:i=l.length:=by omega
  have e1:=inF (l.length);refine aF e1 ?_;exact ai
def wtS(latest:List Vot)(eqv bals:List Int)(roots:List Rt)(i:Nat)(n:Int):Int:=if (vot latest i).has=true/\(i:Int)∉eqv/\(vot latest i).root∈roots then IntKind.u64.wrap (n+bals.getD i 0)else n
theorem Tz (latest : List Vot) (eqv bals : List Int) (roots : List Rt) (h1 : latest.length <= 2097152) (h2 : eqv.length <= 2097152) (h3 : bals.length <= 2097152) (h4 : roots.length <= 2097152) : PC Tryz.prog 448 [.agg [.sl 34 false (rows al latest), .sl 1 false (aH .i64 eqv)], .sl 1 false (aH .u64 bals), .sl 32 true (rows rtc roots)] (.int .u64 (GI latest eqv bals roots)) := by
 refine pfn 9 KI ?_;unfold za;refine bd ?_;show Tri _ _ _ _ (PQ _ (.int .u64 (bg (wtS latest eqv bals roots) 0 (min bals.length latest.length)))) _ _
 refine gon ?_;refine az (fun i:Nat=>[(8,.int .i64 i),(7,.int .u64 (bg (wtS latest eqv bals roots) 0 i))]) (fun i=>[.var [.sl 34 false (rows al latest),.sl 1 false (aH .i64 eqv)]]) (fun i=>bals.length-i) (fun i=>i<=min bals.length latest.length) 0 (amc _) ?_ ?_
 ·exact ais [] [0]
 intro i hi;(try simp only[dE,dr,amx,amy])
 by_cases q1:i<bals.length
 ·have e1 : decide ((i : Int) < ((bals.length : Nat) : Int)) = true := au (by omega)
  by_cases q2:i<latest.length
  ·have e2:decide ((i:Int)<((latest.length:Nat):Int))=true:=au (by omega)
   have hw:=af q1 (by omega);have hs:=cX (wtS latest eqv bals roots) 0 i;have hgl:=aS (f:=al) dL q2;have hgb:=gdn (k:=.u64) q1;have c1:=HX eqv false (i:Int) (by omega);have c2:=J1 roots true (vot latest i).root h4;generalize bg (wtS latest eqv bals roots) 0 i=n at *;have hc:wtS latest eqv bals roots i n=if (vot latest i).has=true/\(i:Int)∉eqv/\(vot latest i).root∈roots then IntKind.u64.wrap (n+bals.getD i 0)else n:=rfl
   generalize bals.getD i 0=b at *;change (rows al latest).getD i []=al (vot latest i)at hgl
   generalize vot latest i=x at *;obtain⟨xh,xe,xr⟩:=x;dsimp only at hc c2;refine mQ e1 e2 ?_;cases xh with
   | false =>
     rw[al5 (by simp)]at hc;refine bJ hgl ?_;refine ah hw ?_;refine⟨i+1,by omega,by omega,?_⟩;rw[hs,hc];exact ais [] [0]
   | true =>
     refine ah hgl ?_;refine am c1 ?_;by_cases q3:(i:Int)∈eqv
     ·rw[al5 (by simp[q3])]at hc;rw[au q3];refine bJ hgl ?_;refine ah hw ?_;refine⟨i+1,by omega,by omega,?_⟩;rw[hs,hc];exact ais [] [0]
     ·rw[aA q3]
      refine ah hgl ?_;refine am c2 ?_;by_cases q4:xr∈roots
      ·rw[al7 ⟨rfl,q3,q4⟩]at hc;rw[au q4];refine mQ hgb amv ?_;refine dC hw hgb amv ?_;refine⟨i+1,by omega,by omega,?_⟩;rw[hs,hc];exact ais [] [0]
      ·rw[al5 (by simp[q4])]at hc;rw[aA q4];refine fp hgb amv ?_;refine ah hw ?_;refine⟨i+1,by omega,by omega,?_⟩;rw[hs,hc];exact ais [] [0]
  ·have e2:decide ((i:Int)<((latest.length:Nat):Int))=false:=aA (by omega);obtain rfl:i=min bals.length latest.length:=by omega
   refine fU e1 e2 ?_;exact ai
 ·have e1:decide ((i:Int)<((bals.length:Nat):Int))=false:=aA (by omega);obtain rfl:i=min bals.length latest.length:=by omega
  refine aF e1 ?_;exact ai
end Go.Proofs.YtflhnmleodkjiaaGreat
