/- Joined. -/
import Derived.Test.YtmpddimhleianaaGreatQ1v
import Derived.Test.YtmpddimhleianaaGreatT1v
set_option linter.unusedVariables false
set_option linter.unusedSimpArgs false
set_option maxRecDepth 8000
set_option maxHeartbeats 4000000
namespace Go.Proofs.YtmpddimhleianaaGreat
open Go Go.FH Go.RowKit
theorem Qp(a:Int):PC Tryz.prog 333 [.int .i64 a] (.bool false):=by
 refine aQ 3 ?_;have e0:(a != a)=false:=af1
 refine aA e0 ?_;exact aj
theorem RU(a:Int):PC Tryz.prog 266 [.int .i64 a] (.bool false):=by
 refine aQ 3 ?_;have e0:(a != a)=false:=af1
 refine aA e0 ?_;exact aj
theorem Mm(a b:Int):PC Tryz.prog 265 [.int .i64 a,.int .i64 b] (.bool (decide (a<b))):=by
 refine aQ 5 ?_;have c1:=Qp a;refine gon ?_;refine ap c1 ?_;have s1:zc false (.tup []) (.bool false)=.bool false:=rfl;repeat(first|refine aM ?_|simp only[go_sem,s1])
 exact aj
theorem Zy(m:Nat):fd .u64 (m:Int) 1=((m / 2:Nat):Int):=by
 unfold fd;have:min 1 IntKind.u64.bits=1:=af2
 rw[this,show (2:Int) ^ 1=2 from rfl,ade _ af2];omega
theorem uY{a b n:Nat}(h:a<b)(hb:b<=n)(hn:n<=2097152):∃h:Nat,a<=h/\h<b/\IntKind.i64.wrap ((a:Int)+(b:Int))=((a+b:Nat):Int)/\IntKind.u64.wrap ((a+b:Nat):Int)=((a+b:Nat):Int)/\fd .u64 ((a+b:Nat):Int) 1=(h:Int)/\IntKind.i64.wrap (h:Int)=(h:Int)/\IntKind.i64.wrap ((h:Int)+1)=((h+1:Nat):Int):=by
 refine⟨(a+b) / 2,af0,af0,?_,aC af0 af0,Zy _,ar af0 af0,?_⟩
 ·rw[ar af0 af0];omega
 ·rw[ar af0 af0];omega
theorem Vh(l:List Int)(cl:Bool)(v:Int)(i:Nat)(hi:i<=l.length)(hb:l.length<=2097152)(h1:∀j,j<i->l.getD j 0<v)(h2:∀j,i<=j->j<l.length->¬l.getD j 0<v):
 PC Tryz.prog 184 [.sl 1 cl (ah .i64 l),.int .i64 v] (.tup [.int .i64 i,.bool (decide (i<l.length)&&decide (l.getD i 0=v))]):=by
 refine aQ 10 ?_;refine gon ?_;refine aE (fun x:Nat×Nat=>[(7,.int .i64 x.1),(8,.int .i64 x.2)]) (fun _=>[]) (fun x=>x.2-x.1) (fun x=>x.1<=i/\i<=x.2/\x.2<=l.length) (0,l.length) ⟨afK _,hi,afE _⟩ ?_ ?_
 ·exact abS [] []
 rintro⟨a,b⟩ ⟨ha,hb1,hb2⟩;dsimp only at ha hb1 hb2 ⊢;refine fM ?_;by_cases q:a<b
 ·have e1:=inT q
  obtain⟨h,g1,g2,g3,g4,g5,g6,g7⟩:=uY q hb2 hb;have hh:h<l.length:=af0
  have hgd:=gdn (k:=.i64) hh;have c1:=Mm (l.getD h 0) v;refine bO e1 ?_;refine ec g3 g4 g5 g6 hgd ?_;refine ap c1 ?_;by_cases q2:l.getD h 0<v
  ·have e2:=ax q2;have hhi:h<i:=Nat.lt_of_not_le fun hc=>h2 h hc hh q2
   refine bO e2 ?_;refine aA g7 ?_;refine⟨(h+1,b),⟨hhi,hb1,hb2⟩,by dsimp only;omega,?_⟩;exact abS [] []
  ·have e2:=aD q2;have hhi:i<=h:=aex fun hc=>q2 (h1 h hc)
   refine aS e2 ?_;refine⟨(a,h),⟨ha,hhi,by dsimp only;omega⟩,by dsimp only;omega,?_⟩;exact abS [] []
 ·obtain rfl:a=i:=af0
  obtain rfl:b=a:=af0
  have e1:=inF b;by_cases q2:b<l.length
  ·have e2:=inT q2
   have e2':decide (b<l.length)=true:=ax q2;have hgd:=gdn (k:=.i64) q2;have c1:=RU (l.getD b 0);by_cases q3:l.getD b 0=v
   ·have e3:(l.getD b 0==v)=true:=by rw[q3];simp
    have e3':decide (l.getD b 0=v)=true:=ax q3;refine da e1 ?_;refine ec e2 e2' hgd e3 e3' ?_;exact aj
   ·have e3:(l.getD b 0==v)=false:=by rw[adu];exact q3
    have e3':decide (l.getD b 0=v)=false:=aD q3;refine da e1 ?_;refine ec e2 e2' hgd e3 e3' ?_;refine ap c1 ?_;refine ec e2 e2' hgd e3 e3' ?_;exact aj
  ·have e2:decide ((b:Int)<((l.length:Nat):Int))=false:=aD af0;have e2':decide (b<l.length)=false:=aD q2;refine da e1 ?_;refine bm e2 e2' ?_;exact aj
theorem QR(l:List aB)(cl:Bool)(t:aB)(i:Nat)(hi:i<=l.length)(hb:l.length<=2097152)(h1:∀j,j<i->gT (l.getD j default).cp t.cp<0)(h2:∀j,i<=j->j<l.length->¬gT (l.getD j default).cp t.cp<0):
 PC Tryz.prog 186 [.sl 34 cl (rows aB.c l),.agg (bE t.a),.fn (.func 187) []] (.tup [.int .i64 i,.bool (decide (i<l.length)&&decide (gT (l.getD i default).cp t.cp=0))]):=by
 refine aQ 12 ?_;refine gon ?_;refine aE (fun x:Nat×Nat=>[(9,.int .i64 x.1),(10,.int .i64 x.2)]) (fun _=>[.var (bE t.a)]) (fun x=>x.2-x.1) (fun x=>x.1<=i/\i<=x.2/\x.2<=l.length) (0,l.length) ⟨afK _,hi,afE _⟩ ?_ ?_
 ·exact abS [] [0]
 rintro⟨a,b⟩ ⟨ha,hb1,hb2⟩;dsimp only at ha hb1 hb2 ⊢;refine fM ?_;by_cases q:a<b
 ·have e1:=inT q
  obtain⟨h,g1,g2,g3,g4,g5,g6,g7⟩:=uY q hb2 hb;have hh:h<l.length:=af0
  have hgd:(rows aB.c l).getD h []=bE (l.getD h default).a:=aK (f:=aB.c) default hh;have c1:=yj (l.getD h default) t;have h1h:=h1 h;have h2h:=fun hc=>h2 h hc hh
  generalize l.getD h default=y at *;generalize hR:gT y.cp t.cp=R at *;refine bO e1 ?_;refine ec g3 g4 g5 g6 hgd ?_;refine aP (c1) ?_;by_cases q2:R<0
  ·have e2:=ax q2;have hhi:h<i:=Nat.lt_of_not_le fun hc=>h2h hc q2
   refine bO e2 ?_;refine aA g7 ?_;refine⟨(h+1,b),⟨hhi,hb1,hb2⟩,by dsimp only;omega,?_⟩;exact abS [] [0]
  ·have e2:=aD q2;have hhi:i<=h:=aex fun hc=>q2 (h1h hc)
   refine aS e2 ?_;refine⟨(a,h),⟨ha,hhi,by dsimp only;omega⟩,by dsimp only;omega,?_⟩;exact abS [] [0]
 ·obtain rfl:a=i:=af0
  obtain rfl:b=a:=af0
  have e1:=inF b;by_cases q2:b<l.length
  ·have e2:=inT q2
   have e2':decide (b<l.length)=true:=ax q2;have hgd:(rows aB.c l).getD b []=bE (l.getD b default).a:=aK (f:=aB.c) default q2;have c1:=yj (l.getD b default) t;generalize l.getD b default=y at *;generalize hR:gT y.cp t.cp=R at *;by_cases q3:R=0
   ·subst q3;refine da e1 ?_;refine eS e2 e2' hgd ?_;refine aP (c1) ?_;refine bm e2 e2' ?_;exact aj
   ·have e3:(R==0)=false:=by simp[q3]
    have e3':decide (R=0)=false:=aD q3;refine da e1 ?_;refine eS e2 e2' hgd ?_;refine aP (c1) ?_;refine fk e2 e2' e3 e3' ?_;exact aj
  ·have e2:decide ((b:Int)<((l.length:Nat):Int))=false:=aD af0;have e2':decide (b<l.length)=false:=aD q2;refine da e1 ?_;refine bm e2 e2' ?_;exact aj
theorem aaU(v:Int):∀l:List Int,l.Pairwise (· < ·)->∃i,i<=l.length/\(∀j,j<i->l.getD j 0<v)/\∀j,i<=j->j<l.length->¬l.getD j 0<v
 | [],_=>⟨0,afE _,fun j h=>absurd h (acJ _),fun j _ h=>absurd h (acJ _)⟩
 | a :: l, hp => by
   rw[ac5]at hp;by_cases ha:a<v
   ·obtain⟨i,h1,h2,h3⟩:=aaU v l hp.2
    refine⟨i+1,by simpa using h1,fun j hj=>?_,fun j hj hl=>?_⟩
    ·cases j with
     |zero=>exact ha
     |succ j=>exact h2 j af0
    ·cases j with
     |zero=>omega
     |succ j=>exact h3 j af0 (by simpa using hl)
   ·refine⟨0,afK _,fun j h=>absurd h (acJ _),fun j _ hl=>?_⟩
    cases j with
    |zero=>exact ha
    | succ j =>
      have hl':j<l.length:=by simpa using hl
      have hm:l.getD j 0∈l:=by rw[afy,afz hl'];exact afY _
      have:=hp.1 _ hm;show ¬l.getD j 0<v
      omega
end Go.Proofs.YtmpddimhleianaaGreat
