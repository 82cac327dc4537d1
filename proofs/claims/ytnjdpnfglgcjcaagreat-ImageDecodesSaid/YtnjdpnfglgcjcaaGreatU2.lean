/-
 My texts Ma, Mb, joined.
-/
import Derived.Test.YtnjdpnfglgcjcaaGreatV7
import Derived.Test.YtnjdpnfglgcjcaaGreatW3
import Derived.Test.YtnjdpnfglgcjcaaGreatW6
set_option linter.unusedVariables false
set_option linter.unusedSimpArgs false
set_option maxRecDepth 8000
set_option maxHeartbeats 4000000
namespace Go.Proofs.YtnjdpnfglgcjcaaGreat
open Go Go.FH Go.RowKit
def atN(l:List Int)(i:Nat):Int:=
 if l.length=0 then lI .i64 i 65535 else IntKind.i64.wrap (lI .i64 (l.getD (i%l.length) 0) 16777215+((i / l.length:Nat):Int))
theorem kf(l:List Int)(i:Nat)(hi:i<=1000):0<=atN l i/\atN l i<=16778215:=by
 unfold atN;split
 ·obtain⟨r,h1,h2⟩:=Ci (i:Int) 65535 (by decide) (by decide);rw[h1];omega
 ·obtain⟨r,h1,h2⟩:=Ci (l.getD (i%l.length) 0) 16777215 (by decide) (by decide);have h3:i / l.length<=i:=Nat.div_le_self _ _;rw[h1];generalize i / l.length=q at *;rw[aL (by omega) (by omega)];omega
theorem fL(l:List Int)(c:Bool)(i:Nat)(hi:i<=1000):PC Tryz.prog 153 [.sl 1 c (aH .i64 l),.int .i64 i] (.int .i64 (atN l i)):=by
 refine PC.fact 5 Yf (by simp) puA puA ?_;unfold Mj;refine bd ?_;unfold atN;by_cases h0:l.length=0
 ·have e0:((l.length:Int)==0)=true:=by simp[h0]
  rw[Fy h0];refine aM e0 ?_;exact ai
 ·have e0:((l.length:Int)==0)=false:=by simp;intro h;exact h0 (by simp[h])
  have e1:Int.tmod (i:Int) (l.length:Int)=((i%l.length:Nat):Int):=(Int.ofNat_tmod i l.length).symm;have e2:Int.tdiv (i:Int) (l.length:Int)=((i / l.length:Nat):Int):=(Int.ofNat_tdiv i l.length).symm;have hm:i%l.length<l.length:=alZ _ (by omega);have hd:i / l.length<=i:=Nat.div_le_self _ _;have hgd:=gdn (k:=.i64) hm;rw[Fw h0];refine bJ e0 ?_;generalize i%l.length=m at *;generalize i / l.length=q at *;have e3:IntKind.i64.wrap (q:Int)=(q:Int):=aL (by omega) (by omega);refine pz e1 e2 hgd e3 ?_;exact ai
theorem xx:WdG wd0:=fun n hn=>by
 have:n=0:=by simpa[wd0]using hn
 subst this;decide
theorem WdG.set{w:Wd}(h:WdG w)(j:Nat){x:Int}(hx:U64 x):WdG (w.set j x):=fun n hn=>by
 rcases akU hn with h1|rfl
 ·exact h n h1
 ·exact⟨hx.lo,hx.hi⟩
structure Di(b:Blk):Prop where
 slot:U64 b.slot
 just:U64 b.just.ep
 fin:U64 b.fin.ep
 j:U64 b.pul.j.ep
 f:U64 b.pul.f.ep
 diff:WdG b.diff
 pdiff:WdG b.pdiff
 rt:b.root≠Y1
theorem Di.u{b:Blk}(h:Di b):NQ b:=⟨h.slot,h.just,h.fin,h.j,h.f⟩
theorem Di.w{b:Blk}{i:Nat}(h:Di b):np i b:=⟨h.slot,h.just,h.fin,h.j,h.f,fun _=>h.rt,h.diff,h.pdiff⟩
theorem WV{n:Int}(h0:0<=n)(h1:n<=99):zk n≠Y1:=by
 intro h;have h2:(zk n).1.getD 0 0=Y1.1.getD 0 0:=by rw[h]
 have h3:(zk n).1.getD 0 0=LM n:=rfl;rw[h3]at h2;have h4:Y1.1.getD 0 0=LM 100:=rfl;rw[h4]at h2;have h5:=sw n;rw[h2,<-sw 100,show IntKind.u8.wrap 100=100 from rfl,show IntKind.u8.wrap n=n from by rw[IntKind.wrap_u8];omega]at h5;omega
theorem dF{k:Int}{n:Nat}(hk:0<=k)(hn:0<n):∃p:Nat,Int.tmod k (n:Int)=p/\p<n:=by
 obtain⟨m,rfl⟩:=ajO hk;exact⟨m%n,(Int.ofNat_tmod m n).symm,alZ _ hn⟩
end Go.Proofs.YtnjdpnfglgcjcaaGreat
