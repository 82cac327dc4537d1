/-
 My texts Ma, Mb, joined.
-/
import Derived.Test.YtkgimpdgncakjaaV7
import Derived.Test.YtkgimpdgncakjaaW3
import Derived.Test.YtkgimpdgncakjaaW6
namespace Go.Proofs.Ytkgimpdgncakjaa
open Go Go.FH Go.RowKit
set_option linter.unusedVariables false
set_option linter.unusedSimpArgs false
set_option maxRecDepth 8000
def atN(l:List Int)(i:Nat):Int:=
 if l.length=0 then ie_ .i64 i 65535 else IntKind.i64.wrap (ie_ .i64 (l.getD (i%l.length) 0) 16777215+((i / l.length:Nat):Int))
theorem fz_(l:List Int)(i:Nat)(hi:i≤1000):0≤atN l i∧atN l i≤16778215:=by
 unfold atN;split
 ·obtain⟨r,h1,h2⟩:=kD_ (i:Int) 65535 (by decide) (by decide);rw[h1];omega
 ·obtain⟨r,h1,h2⟩:=kD_ (l.getD (i%l.length) 0) 16777215 (by decide) (by decide);have h3:i / l.length≤i:=Nat.div_le_self _ _;rw[h1];generalize i / l.length=q at *;rw[be_ (by omega) (by omega)];omega
theorem cS_(l:List Int)(c:Bool)(i:Nat)(hi:i≤1000):PC Try.prog 25 [.sl 1 c (au_ .i64 l),.int .i64 i] (.int .i64 (atN l i)):=by
 refine PC.fact 5 xJ_ (by simp) puA puA ?_;unfold qk_;refine bd ?_;unfold atN;by_cases h0:l.length=0
 ·have e0:((l.length:Int)==0)=true:=by simp[h0]
  rw[if_pos h0];repeat(first|refine aa_ ?_|simp only[go_sem,e0])
  refine EB_ ?_
  exact am_
 ·have e0:((l.length:Int)==0)=false:=by simp;intro h;exact h0 (by simp[h])
  have e1:Int.tmod (i:Int) (l.length:Int)=((i%l.length:Nat):Int):=(Int.ofNat_tmod i l.length).symm;have e2:Int.tdiv (i:Int) (l.length:Int)=((i / l.length:Nat):Int):=(Int.ofNat_tdiv i l.length).symm;have hm:i%l.length<l.length:=Nat.mod_lt _ (by omega);have hd:i / l.length≤i:=Nat.div_le_self _ _;have hgd:=gdn (k:=.i64) hm;rw[if_neg h0];repeat(first|refine aa_ ?_|simp only[go_sem,e0])
  refine ac_ ?_;generalize i%l.length=m at *;generalize i / l.length=q at *;have e3:IntKind.i64.wrap (q:Int)=(q:Int):=be_ (by omega) (by omega);repeat(first|refine aa_ ?_|simp only[go_sem,e1,e2,hgd,e3])
  exact am_
theorem FG_:WdG wd0:=fun n hn=>by
 have:n=0:=by simpa[wd0]using hn
 subst this;decide
theorem WdG.set{w:Wd}(h:WdG w)(j:Nat){x:Int}(hx:U64 x):WdG (w.set j x):=fun n hn=>by
 rcases List.mem_or_eq_of_mem_set hn with h1|rfl
 ·exact h n h1
 ·exact⟨hx.lo,hx.hi⟩
end Go.Proofs.Ytkgimpdgncakjaa
namespace Go.Proofs.Ytkgimpdgncakjaa
open Go Go.FH Go.RowKit
set_option linter.unusedVariables false
set_option linter.unusedSimpArgs false
set_option maxRecDepth 8000
set_option maxHeartbeats 400000
structure BR_(b:Blk):Prop where
 slot:U64 b.slot
 just:U64 b.just.ep
 fin:U64 b.fin.ep
 j:U64 b.pul.j.ep
 f:U64 b.pul.f.ep
 diff:WdG b.diff
 pdiff:WdG b.pdiff
 rt:b.root≠ys_
theorem BR_.u{b:Blk}(h:BR_ b):DR_ b:=⟨h.slot,h.just,h.fin,h.j,h.f⟩
theorem BR_.w{b:Blk}{i:Nat}(h:BR_ b):gN_ i b:=⟨h.slot,h.just,h.fin,h.j,h.f,fun _=>h.rt⟩
theorem CF_{n:Int}(h0:0≤n)(h1:n≤99):ju_ n≠ys_:=by
 intro h;have h2:(ju_ n).1.getD 0 0=ys_.1.getD 0 0:=by rw[h]
 have h3:(ju_ n).1.getD 0 0=pX_ n:=rfl;rw[h3]at h2;have h4:ys_.1.getD 0 0=pX_ 100:=rfl;rw[h4]at h2;have h5:=iz_ n;rw[h2,←iz_ 100,show IntKind.u8.wrap 100=100 from rfl,show IntKind.u8.wrap n=n from by rw[IntKind.wrap_u8];omega]at h5;omega
theorem dc_{k:Int}{n:Nat}(hk:0≤k)(hn:0<n):∃p:Nat,Int.tmod k (n:Int)=p∧p<n:=by
 obtain⟨m,rfl⟩:=Int.eq_ofNat_of_zero_le hk;exact⟨m%n,(Int.ofNat_tmod m n).symm,Nat.mod_lt _ hn⟩
end Go.Proofs.Ytkgimpdgncakjaa
