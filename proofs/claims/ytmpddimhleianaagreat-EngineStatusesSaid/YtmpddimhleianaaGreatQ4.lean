/- Joined. -/
import Derived.Test.YtmpddimhleianaaGreatQ1
import Derived.Test.YtmpddimhleianaaGreatT1
set_option linter.unusedVariables false
set_option linter.unusedSimpArgs false
set_option maxRecDepth 8000
set_option maxHeartbeats 4000000
namespace Go.Proofs.YtmpddimhleianaaGreat
open Go Go.FH Go.RowKit
theorem Nh(a:Int):PC Tryz.prog 333 [.int .i64 a] (.bool false):=by
 refine ae 3 ?_;have e0:(a != a)=false:=WM
 refine ah e0 ?_;exact ai
theorem OL(a:Int):PC Tryz.prog 266 [.int .i64 a] (.bool false):=by
 refine ae 3 ?_;have e0:(a != a)=false:=WM
 refine ah e0 ?_;exact ai
theorem GA(a b:Int):PC Tryz.prog 265 [.int .i64 a,.int .i64 b] (.bool (decide (a<b))):=by
 refine ae 5 ?_;have c1:=Nh a;refine gon ?_;refine am c1 ?_;have s1:I3 false (.tup []) (.bool false)=.bool false:=rfl;repeat(first|refine bY ?_|simp only[go_sem,s1])
 exact ai
theorem Sz(m:Nat):fJ .u64 (m:Int) 1=((m / 2:Nat):Int):=by
 unfold fJ;have:min 1 IntKind.u64.bits=1:=WN
 rw[this,show (2:Int) ^ 1=2 from rfl,aj4 _ WN];omega
theorem oJ{a b n:Nat}(h:a<b)(hb:b<=n)(hn:n<=2097152):∃h:Nat,a<=h/\h<b/\IntKind.i64.wrap ((a:Int)+(b:Int))=((a+b:Nat):Int)/\IntKind.u64.wrap ((a+b:Nat):Int)=((a+b:Nat):Int)/\fJ .u64 ((a+b:Nat):Int) 1=(h:Int)/\IntKind.i64.wrap (h:Int)=(h:Int)/\IntKind.i64.wrap ((h:Int)+1)=((h+1:Nat):Int):=by
 refine⟨(a+b) / 2,WL,WL,?_,aN WL WL,Sz _,aL WL WL,?_⟩
 ·rw[aL WL WL];omega
 ·rw[aL WL WL];omega
theorem Ql(l:List Int)(cl:Bool)(v:Int)(i:Nat)(hi:i<=l.length)(hb:l.length<=2097152)(h1:∀j,j<i->l.getD j 0<v)(h2:∀j,i<=j->j<l.length->¬l.getD j 0<v):
 PC Tryz.prog 184 [.sl 1 cl (aH .i64 l),.int .i64 v] (.tup [.int .i64 i,.bool (decide (i<l.length)&&decide (l.getD i 0=v))]):=by
 refine ae 10 ?_;refine gon ?_;refine az (fun x:Nat×Nat=>[(7,.int .i64 x.1),(8,.int .i64 x.2)]) (fun _=>[]) (fun x=>x.2-x.1) (fun x=>x.1<=i/\i<=x.2/\x.2<=l.length) (0,l.length) ⟨amc _,hi,amb _⟩ ?_ ?_
 ·exact ais [] []
 rintro⟨a,b⟩ ⟨ha,hb1,hb2⟩;dsimp only at ha hb1 hb2 ⊢;refine dp ?_;by_cases q:a<b
 ·have e1:=inT q
  obtain⟨h,g1,g2,g3,g4,g5,g6,g7⟩:=oJ q hb2 hb;have hh:h<l.length:=WL
  have hgd:=gdn (k:=.i64) hh;have c1:=GA (l.getD h 0) v;refine bw e1 ?_;refine eU g3 g4 g5 g6 hgd ?_;refine am c1 ?_;by_cases q2:l.getD h 0<v
  ·have e2:=au q2;have hhi:h<i:=Nat.lt_of_not_le fun hc=>h2 h hc hh q2
   refine bw e2 ?_;refine ah g7 ?_;refine⟨(h+1,b),⟨hhi,hb1,hb2⟩,by dsimp only;omega,?_⟩;exact ais [] []
  ·have e2:=aA q2;have hhi:i<=h:=Ww fun hc=>q2 (h1 h hc)
   refine aF e2 ?_;refine⟨(a,h),⟨ha,hhi,by dsimp only;omega⟩,by dsimp only;omega,?_⟩;exact ais [] []
 ·obtain rfl:a=i:=WL
  obtain rfl:b=a:=WL
  have e1:=inF b;by_cases q2:b<l.length
  ·have e2:=inT q2
   have e2':decide (b<l.length)=true:=au q2;have hgd:=gdn (k:=.i64) q2;have c1:=OL (l.getD b 0);by_cases q3:l.getD b 0=v
   ·have e3:(l.getD b 0==v)=true:=by rw[q3];simp
    have e3':decide (l.getD b 0=v)=true:=au q3;refine bJ e1 ?_;refine eU e2 e2' hgd e3 e3' ?_;exact ai
   ·have e3:(l.getD b 0==v)=false:=by rw[ajL];exact q3
    have e3':decide (l.getD b 0=v)=false:=aA q3;refine bJ e1 ?_;refine eU e2 e2' hgd e3 e3' ?_;refine am c1 ?_;refine eU e2 e2' hgd e3 e3' ?_;exact ai
  ·have e2:decide ((b:Int)<((l.length:Nat):Int))=false:=aA WL;have e2':decide (b<l.length)=false:=aA q2;refine bJ e1 ?_;refine aZ e2 e2' ?_;exact ai
theorem NK(l:List aW)(cl:Bool)(t:aW)(i:Nat)(hi:i<=l.length)(hb:l.length<=2097152)(h1:∀j,j<i->kW (l.getD j default).cp t.cp<0)(h2:∀j,i<=j->j<l.length->¬kW (l.getD j default).cp t.cp<0):
 PC Tryz.prog 186 [.sl 34 cl (rows aW.c l),.agg (ar t.a),.fn (.func 187) []] (.tup [.int .i64 i,.bool (decide (i<l.length)&&decide (kW (l.getD i default).cp t.cp=0))]):=by
 refine ae 12 ?_;refine gon ?_;refine az (fun x:Nat×Nat=>[(9,.int .i64 x.1),(10,.int .i64 x.2)]) (fun _=>[.var (ar t.a)]) (fun x=>x.2-x.1) (fun x=>x.1<=i/\i<=x.2/\x.2<=l.length) (0,l.length) ⟨amc _,hi,amb _⟩ ?_ ?_
 ·exact ais [] [0]
 rintro⟨a,b⟩ ⟨ha,hb1,hb2⟩;dsimp only at ha hb1 hb2 ⊢;refine dp ?_;by_cases q:a<b
 ·have e1:=inT q
  obtain⟨h,g1,g2,g3,g4,g5,g6,g7⟩:=oJ q hb2 hb;have hh:h<l.length:=WL
  have hgd:(rows aW.c l).getD h []=ar (l.getD h default).a:=aS (f:=aW.c) default hh;have c1:=YO (l.getD h default) t;have h1h:=h1 h;have h2h:=fun hc=>h2 h hc hh
  generalize l.getD h default=y at *;generalize hR:kW y.cp t.cp=R at *;refine bw e1 ?_;refine eU g3 g4 g5 g6 hgd ?_;refine aK (c1) ?_;by_cases q2:R<0
  ·have e2:=au q2;have hhi:h<i:=Nat.lt_of_not_le fun hc=>h2h hc q2
   refine bw e2 ?_;refine ah g7 ?_;refine⟨(h+1,b),⟨hhi,hb1,hb2⟩,by dsimp only;omega,?_⟩;exact ais [] [0]
  ·have e2:=aA q2;have hhi:i<=h:=Ww fun hc=>q2 (h1h hc)
   refine aF e2 ?_;refine⟨(a,h),⟨ha,hhi,by dsimp only;omega⟩,by dsimp only;omega,?_⟩;exact ais [] [0]
 ·obtain rfl:a=i:=WL
  obtain rfl:b=a:=WL
  have e1:=inF b;by_cases q2:b<l.length
  ·have e2:=inT q2
   have e2':decide (b<l.length)=true:=au q2;have hgd:(rows aW.c l).getD b []=ar (l.getD b default).a:=aS (f:=aW.c) default q2;have c1:=YO (l.getD b default) t;generalize l.getD b default=y at *;generalize hR:kW y.cp t.cp=R at *;by_cases q3:R=0
   ·subst q3;refine bJ e1 ?_;refine dC e2 e2' hgd ?_;refine aK (c1) ?_;refine aZ e2 e2' ?_;exact ai
   ·have e3:(R==0)=false:=by simp[q3]
    have e3':decide (R=0)=false:=aA q3;refine bJ e1 ?_;refine dC e2 e2' hgd ?_;refine aK (c1) ?_;refine pz e2 e2' e3 e3' ?_;exact ai
  ·have e2:decide ((b:Int)<((l.length:Nat):Int))=false:=aA WL;have e2':decide (b<l.length)=false:=aA q2;refine bJ e1 ?_;refine aZ e2 e2' ?_;exact ai
theorem Td(v:Int):∀l:List Int,l.Pairwise (· < ·)->∃i,i<=l.length/\(∀j,j<i->l.getD j 0<v)/\∀j,i<=j->j<l.length->¬l.getD j 0<v
 | [],_=>⟨0,amb _,fun j h=>absurd h (aju _),fun j _ h=>absurd h (aju _)⟩
 | a :: l, hp => by
   rw[aj8]at hp;by_cases ha:a<v
   ·obtain⟨i,h1,h2,h3⟩:=Td v l hp.2
    refine⟨i+1,by simpa using h1,fun j hj=>?_,fun j hj hl=>?_⟩
    ·cases j with
     |zero=>exact ha
     |succ j=>exact h2 j WL
    ·cases j with
     |zero=>omega
     |succ j=>exact h3 j WL (by simpa using hl)
   ·refine⟨0,amc _,fun j h=>absurd h (aju _),fun j _ hl=>?_⟩
    cases j with
    |zero=>exact ha
    | succ j =>
      have hl':j<l.length:=by simpa using hl
      have hm:l.getD j 0∈l:=by rw[alt,al6 hl'];exact amS _
      have:=hp.1 _ hm;show ¬l.getD j 0<v
      omega
end Go.Proofs.YtmpddimhleianaaGreat
