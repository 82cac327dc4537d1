/- Joined. -/
import Derived.Test.YtflhnmleodkjiaaGreatW3
import Derived.Test.YtflhnmleodkjiaaGreatChecked
import Derived.KernelRfl
import Derived.Test.YtflhnmleodkjiaaGreatW4
set_option maxRecDepth 100000
set_option maxHeartbeats 200000
set_option linter.unusedVariables false
set_option linter.unusedSimpArgs false
namespace Go.Proofs.YtflhnmleodkjiaaGreat
open Go Go.FH
def BQ:ab:=nfO (P:=Tryz.prog) 21
theorem Fw:aJ Tryz.prog 21=some (15,[.tmp 2,.tmp 3],BQ):=by kernel_rfl
def uN:ab:=nfO (P:=Tryz.prog) 25
theorem Bo:aJ Tryz.prog 25=some (24,[.tmp 2,.tmp 3],uN):=by kernel_rfl
def jo:ab:=nfO (P:=Tryz.prog) 66
theorem w8:aJ Tryz.prog 66=some (9,[.tmp 2],jo):=by kernel_rfl
def nQ:ab:=nfO (P:=Tryz.prog) 24
theorem yM:aJ Tryz.prog 24=some (8,[.tmp 2],nQ):=by kernel_rfl
def oV:ab:=nfO (P:=Tryz.prog) 143
theorem yO:aJ Tryz.prog 143=some (27,[.tmp 6],oV):=by kernel_rfl
def oa:ab:=nfO (P:=Tryz.prog) 67
theorem yN:aJ Tryz.prog 67=some (78,[.tmp 6],oa):=by kernel_rfl
def cz:ab:=nfO (P:=Tryz.prog) 225
theorem px:aJ Tryz.prog 225=some (29,[.tmp 6,.tmp 7],cz):=by kernel_rfl
def iw:ab:=nfO (P:=Tryz.prog) 65
theorem w6:aJ Tryz.prog 65=some (7,[.tmp 2],iw):=by kernel_rfl
end Go.Proofs.YtflhnmleodkjiaaGreat
namespace Go.Proofs.YtflhnmleodkjiaaGreat
open Go Go.FH
def zr(n:Nat):List UInt8:=List.replicate n 0
theorem xt(n:Nat):(zr n).length=n:=by simp[zr]
theorem KW(n:Nat):List.replicate n [AV.int .u8 0]=bts (zr n):=by simp[zr,bts]
attribute [go_sem] xt KW
theorem Ki(x:Bool):I3 true (.bool x) (.tup [])=.bool x:=rfl
theorem Kh(y:Bool):I3 false (.tup []) (.bool y)=.bool y:=rfl
attribute [go_sem] Ki Kh
theorem Gf{n:Nat}(h:n<=140737488355328):IntKind.i64.wrap ((n:Int).tdiv 64)=((n / 64:Nat):Int):=by
 rw[ajC (by omega),aL (by omega) (by omega)];omega
theorem Kb(n:Nat):(n:Int).tmod 64=((n%64:Nat):Int):=by rw[aly (by omega)];omega
abbrev dvo(v n:Nat)(c p:Bool)(w k:Int):cn:=.var [.hs 1 v 0 n,.bool c,.bool p,.int .i64 w,.int .i64 k]
abbrev dvs(B:List UInt8)(c p:Bool)(w k:Int):St:=[.vec 1 (bts B),dvo 0 B.length c p w k]
theorem IX(bs:List UInt8)(cl:Bool)(hb:bs.length<=140737488355328)(h0:bs≠[]):ay Tryz.prog 70 [.sl 1 cl (bts bs)] [] (.hs 1 0 0 bs.length) [.vec 1 (bts bs)]:=by
 refine afn 3 ip ?_;unfold co;refine bd ?_;have hne:(bts bs=[])=False:=by rw[eq_iff_iff,iff_false,DT];exact h0
 refine gon ?_;intro b hb'
 have hbf:b=false:=by
  cases b with
  |false=>rfl
  |true=>exact absurd (hb' rfl) (by rw[DT];exact h0)
 subst hbf;refine dQ ?_;refine ah hne ?_;exact ahY [] [0]
theorem EF(bs:List UInt8)(off len:Nat)(hb:bs.length<=140737488355328)(hl:off+len<=bs.length):ay Tryz.prog 70 [.hs 1 0 off len] [.vec 1 (bts bs)] (.sl 1 false (bts ((bs.drop off).take len))) [.vec 1 (bts bs)]:=by
 refine afn 3 ip ?_;unfold co;refine bd ?_;have hm:((bs.drop off).take len).length=len:=by simp;omega
 refine gon ?_;intro b hb';refine gon ?_;refine aY evd (fun h=>?_) (fun h=>?_)
 ·have h0:len=0:=hb' (by simpa using h);subst h0;refine gon ?_;refine HM [] [0] _ (by simp) (by first|rfl|exact evd) (by simp) rfl (by simp) (by simp) evd evd (Wk.empty 0 1 _)
 ·refine ah hl ?_;exact ahY [1] [0]
theorem KX(n:Nat)(h1:1<=n)(h2:n<=32768):ay Tryz.prog 21 [.int .i64 n] [] (.tup [.ptr 1 0,.int .i64 0]) (dvs (zr (n*64)) false false 0 0):=by
 refine afn 3 Fw ?_;unfold BQ;refine bd ?_;have e1:decide ((n:Int)<1)=false:=aA (by omega);have e2:decide ((n:Int) > 32768)=false:=aA (by omega);have e3:IntKind.i64.wrap (n*64:Int)=((n*64:Nat):Int):=by rw[aL (by omega) (by omega)];omega
 refine zh e1 e2 e3 ?_;refine ah e3 ?_;exact ahY [] [0,1]
theorem J3(bs:List UInt8)(cl:Bool)(hb:bs.length<=140737488355328)(h:bs.length%64≠0\/bs.length<64\/32768<bs.length / 64):PC Tryz.prog 25 [.sl 1 cl (bts bs)] (.tup [.nilp,.int .i64 2]):=by
 refine PC.fact 3 Bo (by simp) ⟨iV bs,trivial⟩ ⟨trivial,trivial,trivial⟩ ?_;unfold uN;refine bd ?_;have q1:=Gf hb;have q2:=Kb bs.length;by_cases h1:bs.length%64≠0
 ·have e1:((((bs.length%64:Nat):Int)) != 0)=true:=by rw[alf];omega
  refine fI q1 q2 e1 ?_;exact ai
 ·have e1:((((bs.length%64:Nat):Int)) != 0)=false:=by rw[<-amZ,alf];omega
  by_cases h2:bs.length<64
  ·have e2:decide ((((bs.length / 64:Nat):Int))<1)=true:=au (by omega);refine nC q1 q2 e1 e2 ?_;exact ai
  ·have e2:decide ((((bs.length / 64:Nat):Int))<1)=false:=aA (by omega);have e3:decide ((((bs.length / 64:Nat):Int)) > 32768)=true:=au (by omega);refine eU q1 q2 e1 e2 e3 ?_;refine agF ?_;exact ai
theorem Kr(bs:List UInt8)(cl:Bool)(h1:bs.length%64=0)(h2:64<=bs.length)(h3:bs.length<=32768*64):ay Tryz.prog 25 [.sl 1 cl (bts bs)] [] (.tup [.ptr 1 0,.int .i64 0]) (dvs bs false false 0 0):=by
 refine afn 3 Bo ?_;unfold uN;refine bd ?_;have q1:=Gf (n:=bs.length) (by omega);have q2:=Kb bs.length;have e1:((((bs.length%64:Nat):Int)) != 0)=false:=by rw[<-amZ,alf];omega
 have e2:decide ((((bs.length / 64:Nat):Int))<1)=false:=aA (by omega);have e3:decide ((((bs.length / 64:Nat):Int)) > 32768)=false:=aA (by omega);have c1:=IX bs cl (by omega) (by intro h;rw[h]at h2;simp at h2);refine eU q1 q2 e1 e2 e3 ?_;refine agE ?_;refine ocg [] c1 ?_;exact ahY [] [0,1]
theorem rp(B:List UInt8)(c p:Bool)(w k:Int)(hB:B.length<=32768*64):ay Tryz.prog 66 [.ptr 1 0] (dvs B c p w k) (.int .i64 ((B.length / 64:Nat):Int)) (dvs B c p w k):=by
 refine afn 3 w8 ?_;unfold jo;refine bd ?_;have q1:=Gf (n:=B.length) (by omega);refine ah q1 ?_;exact ahY [] [0,1]
theorem Hg(B:List UInt8)(c p:Bool)(w k:Int)(hB:B.length<=32768*64):ay Tryz.prog 24 [.ptr 1 0] (dvs B c p w k) (.sl 1 false (bts B)) (dvs B c p w k):=by
 refine afn 3 yM ?_;unfold nQ;refine bd ?_;have c1:=EF B 0 B.length (by omega) (by omega);refine gon ?_;refine ocg [0] c1 ?_;exact ahY [] [0,1]
theorem B6(B:List UInt8)(c p:Bool)(w k:Int):ay Tryz.prog 65 [.ptr 1 0] (dvs B c p w k) (.bool c) (dvs B c p w k):=by
 refine afn 3 w6 ?_;unfold iw;refine bd ?_;refine gon ?_;exact ahY [] [0,1]
def exB(at_ s n:Int):Bool:=decide (0<=at_)&&decide (0<=s)&&decide (at_<=n)&&decide (s<=n-at_)
theorem Bq(B:List UInt8)(c p:Bool)(w k x s:Int)(hB:B.length<=32768*64):ay Tryz.prog 143 [.ptr 1 0,.int .i64 x,.int .i64 s] (dvs B c p w k) (.bool (exB x s ((B.length / 64:Nat):Int))) (dvs B c p w k):=by
 refine afn 3 yO ?_;unfold oV;refine bd ?_;have c1:=rp B c p w k hB;have hn:((B.length / 64:Nat):Int)<=32768:=by omega
 have hn0:0<=((B.length / 64:Nat):Int):=by omega
 generalize ((B.length / 64:Nat):Int)=n at *;by_cases h1:0<=x
 case neg=>
  have hr:exB x s n=false:=by simp[exB,h1]
  have e1:decide (x ≥ 0)=false:=aA h1;rw[hr];refine ah e1 ?_;exact ahY [] [0,1]
 have e1:decide (x ≥ 0)=true:=au h1;by_cases h2:0<=s
 case neg=>
  have hr:exB x s n=false:=by simp[exB,h2]
  have e2:decide (s ≥ 0)=false:=aA h2;rw[hr];refine aZ e1 e2 ?_;exact ahY [] [0,1]
 have e2:decide (s ≥ 0)=true:=au h2;by_cases h3:x<=n
 case neg=>
  have hr:exB x s n=false:=by simp[exB,h3]
  have e3:=aA h3;rw[hr];refine dC e1 e2 e3 ?_;refine aG [0,1] (c1) (by(try simp only[go_sem,e1,e2,e3]);try exact evd) (aq.mk' (by simp) (by(try simp only[go_sem,e1,e2,e3]);try exact evd)) ?_;refine evg ?_;refine dC e1 e2 e3 ?_;exact ahY [] [0,1]
 have e3:=au h3;have e4:IntKind.i64.wrap (n-x)=n-x:=aL (by omega) (by omega);have hr:exB x s n=decide (s<=n-x):=by simp[exB,h1,h2,h3]
 rw[hr];refine pz e1 e2 e3 e4 ?_;refine aG [0,1] (c1) (by(try simp only[go_sem,e1,e2,e3,e4]);try exact evd) (aq.mk' (by simp) (by(try simp only[go_sem,e1,e2,e3,e4]);try exact evd)) ?_;refine evg ?_;refine pz e1 e2 e3 e4 ?_;refine aG [0,1] (c1) (by(try simp only[go_sem,e1,e2,e3,e4]);try exact evd) (aq.mk' (by simp) (by(try simp only[go_sem,e1,e2,e3,e4]);try exact evd)) ?_;refine evg ?_;refine pz e1 e2 e3 e4 ?_;exact ahY [] [0,1]
theorem Gj(B:List UInt8)(p:Bool)(w k x s:Int)(hB:B.length<=32768*64)(h:exB x s ((B.length / 64:Nat):Int)=false):ay Tryz.prog 225 [.ptr 1 0,.int .i64 x,.int .i64 s] (dvs B false p w k) (.tup [.sl 0 true [],.int .i64 3]) (dvs B false p w k):=by
 refine afn 4 px ?_;unfold cz;refine bd ?_;have c1:=Bq B false p w k x s hB;rw[h]at c1;refine bk ?_;refine oce [0,1] c1 ?_;refine aX ?_;exact ahY [] [0,1]
theorem Iy(B:List UInt8)(p:Bool)(w k:Int)(x s:Nat)(hB:B.length<=32768*64)(h:x+s<=B.length / 64):ay Tryz.prog 225 [.ptr 1 0,.int .i64 x,.int .i64 s] (dvs B false p w k) (.tup [.sl 1 false (bts ((B.drop (x*64)).take (s*64))),.int .i64 0]) (dvs B false p w k):=by
 refine afn 4 px ?_;unfold cz;refine bd ?_;have c1:=Bq B false p w k x s hB
 have hx:exB x s ((B.length / 64:Nat):Int)=true:=by
  simp only[exB,amk,amg];omega
 rw[hx]at c1;have c2:=EF B (x*64) (s*64) (by omega) (by omega);have e1:IntKind.i64.wrap ((x:Int)*64)=((x*64:Nat):Int):=by rw[aL (by omega) (by omega)];omega
 have e2:IntKind.i64.wrap ((x:Int)+s)=((x+s:Nat):Int):=by rw[aL (by omega) (by omega)];omega
 have e3:IntKind.i64.wrap (((x+s:Nat):Int)*64)=(((x+s)*64:Nat):Int):=by rw[aL (by omega) (by omega)];omega
 have e4:(x+s)*64-x*64=s*64:=by omega
 refine bk ?_;refine oce [0,1] c1 ?_;refine dQ ?_;refine pz e1 e2 e3 e4 ?_;refine ocg [0] c2 ?_;exact ahY [] [0,1]
def fD(n:Nat):Nat:=(n+63) / 64
theorem Ir(n:Nat):n<=fD n*64:=by unfold fD;omega
def full(bs:List UInt8):List UInt8:=bs++zr (fD bs.length*64-bs.length)
theorem cD(bs:List UInt8):(full bs).length=fD bs.length*64:=by
 have:=Ir bs.length;simp[full,xt];omega
def over(B:List UInt8)(off:Nat)(xs:List UInt8):List UInt8:=B.take off++xs++B.drop (off+xs.length)
theorem cK(B:List UInt8)(off:Nat)(xs:List UInt8)(h:off+xs.length<=B.length):(over B off xs).length=B.length:=by
 simp[over];omega
def Ga(t:Bool)(k:Nat)(bs:List UInt8):List UInt8:=if t then (full bs).take (min k (fD bs.length)*64)else full bs
theorem G0(B:List UInt8)(p:Bool)(w:Int)(k x:Nat)(bs:List UInt8)(cl:Bool)(hB:B.length<=32768*64)(h0:bs≠[])(hw:0<=w)(hw2:w<=2097152)(h:x+fD bs.length<=B.length / 64):
 ay Tryz.prog 67 [.ptr 1 0,.int .i64 x,.sl 1 cl (bts bs)] (dvs B false p w k) (.int .i64 (if p&&(w==0)then 24 else 0)) (dvs (over B (x*64) (Ga (p&&(w==0)) k bs)) (p&&(w==0)) p (max (w-1) 0) k):=by
 refine afn 4 yN ?_;unfold oa;refine bd ?_;have hn:=Ir bs.length;have h1:1<=bs.length:=ajX.2 h0;have e1:IntKind.i64.wrap ((bs.length:Int)+64)=((bs.length+64:Nat):Int):=by rw[aL (by omega) (by omega)];omega
 have e2:IntKind.i64.wrap (((bs.length+64:Nat):Int)-1)=((bs.length+63:Nat):Int):=by rw[aL (by omega) (by omega)];omega
 have e3:IntKind.i64.wrap (((bs.length+63:Nat):Int).tdiv 64)=((fD bs.length:Nat):Int):=Gf (by omega);have c1:=Bq B false p w k x (fD bs.length) hB
 have hx:exB x (fD bs.length) ((B.length / 64:Nat):Int)=true:=by
  simp only[exB,amk,amg];omega
 rw[hx]at c1
 have e4:(((fD bs.length:Nat):Int)==0)=false:=by
  rw[<-amZ,am0];omega
 have e5:IntKind.i64.wrap (((fD bs.length:Nat):Int)*64)=((fD bs.length*64:Nat):Int):=by rw[aL (by omega) (by omega)];omega
 refine dQ ?_;refine pz e1 e2 e3 e4 ?_;refine aG [0,1] (c1) (by(try simp only[go_sem,e1,e2,e3,e4]);try exact evd) (aq.mk' (by simp) (by(try simp only[go_sem,e1,e2,e3,e4]);try exact evd)) ?_;refine evg ?_;refine OA e1 e2 e3 e4 ?_
 have e6:(bs.take (min bs.length (fD bs.length*64))++(zr (fD bs.length*64)).drop (min bs.length (fD bs.length*64)))=full bs:=by
  rw[akA (by omega),ajp,full];simp[zr]
 have hf:=cD bs;have e7:IntKind.i64.wrap ((x:Int)*64)=((x*64:Nat):Int):=by rw[aL (by omega) (by omega)];omega
 have e8:IntKind.i64.wrap (w-1)=w-1:=aL (by omega) (by omega);have e10:(if 0 > w-1 then (0:Int)else w-1)=max (w-1) 0:=by omega
 have e11:IntKind.i64.wrap ((if ((fD bs.length:Nat):Int)<(k:Int)then ((fD bs.length:Nat):Int)else (k:Int))*64)=((min k (fD bs.length)*64:Nat):Int):=by
  rw[aL (by omega) (by omega)];omega
 have f1:(B.take (x*64)++(full bs).take (min (fD bs.length*64) (B.length-x*64))++B.drop (x*64+min (fD bs.length*64) (B.length-x*64)))=over B (x*64) (Ga false k bs):=by
  rw[akA (by omega),amf (l:=full bs) (by omega)];show _=over B (x*64) (full bs)
  rw[over,hf]
 have g1:(over B (x*64) (Ga false k bs)).length=B.length:=cK _ _ _ (by show x*64+(full bs).length<=_;omega)
 have ht:(Ga true k bs).length=min k (fD bs.length)*64:=by
  show ((full bs).take (min k (fD bs.length)*64)).length=_
  rw[amA,hf];omega
 have f2:(B.take (x*64)++(Ga true k bs).take (min (min k (fD bs.length)*64) (B.length-x*64))++B.drop (x*64+min (min k (fD bs.length)*64) (B.length-x*64)))=over B (x*64) (Ga true k bs):=by
  rw[akA (by omega),amf (l:=Ga true k bs) (by omega),over,ht]
 have f3:(full bs).take (min k (fD bs.length)*64)=Ga true k bs:=rfl;have g2:(over B (x*64) (Ga true k bs)).length=B.length:=cK _ _ _ (by omega);have e12:(w==0)=decide (w=0):=rfl;cases p with
 | false =>
   refine fp e5 e6 ?_;refine eU e7 e8 hf e10 f1 ?_;refine agE ?_;simp only[dvs,g1];exact ahY [] [0,1]
 | true =>
   by_cases hw0:w=0
   ·subst hw0;refine mQ e5 e6 ?_;have hk:min k (fD bs.length)*64<=fD bs.length*64:=by omega
    refine VU e7 e8 e11 hf f3 hk e10 ht f2 ?_;refine agF ?_;simp only[dvs,g2];exact ahY [] [0,1]
   ·have e9:(w==0)=false:=by rw[<-amZ,am0];exact hw0
    refine zh e5 e6 e9 ?_;refine eU e7 e8 hf e10 f1 ?_;refine agE ?_;simp only[dvs,g1];exact ahY [] [0,1]
end Go.Proofs.YtflhnmleodkjiaaGreat
