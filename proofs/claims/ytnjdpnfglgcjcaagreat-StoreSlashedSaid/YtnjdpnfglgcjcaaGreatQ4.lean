/-
 My texts Ub, joined.
-/
import Derived.Test.YtnjdpnfglgcjcaaGreatQ1
import Derived.Test.YtnjdpnfglgcjcaaGreatT1
set_option linter.unusedVariables false
set_option linter.unusedSimpArgs false
set_option maxRecDepth 8000
set_option maxHeartbeats 4000000
namespace Go.Proofs.YtnjdpnfglgcjcaaGreat
open Go Go.FH Go.RowKit
theorem UV(a:Int):PC Tryz.prog 320 [.int .i64 a] (.bool false):=by
 refine PC.fact 3 Cu (by simp) puA puA ?_;unfold rb;refine bd ?_;have e0:(a != a)=false:=by simp
 refine ap e0 ?_;exact af
theorem VZ(a:Int):PC Tryz.prog 225 [.int .i64 a] (.bool false):=by
 refine PC.fact 3 xn (by simp) puA puA ?_;unfold nI;refine bd ?_;have e0:(a != a)=false:=by simp
 refine ap e0 ?_;exact af
theorem QW(a b:Int):PC Tryz.prog 224 [.int .i64 a,.int .i64 b] (.bool (decide (a<b))):=by
 refine PC.fact 5 Eo (by simp) puA puA ?_;unfold se;refine bd ?_;have c1:=UV a;refine gon ?_;refine ai c1 ?_;have s1:B0 false (.tup []) (.bool false)=.bool false:=rfl;refine ap s1 ?_;exact af
theorem abA(m:Nat):fH .u64 (m:Int) 1=((m / 2:Nat):Int):=by
 unfold fH;have:min 1 IntKind.u64.bits=1:=by decide
 rw[this,show (2:Int) ^ 1=2 from rfl,Int.fdiv_eq_ediv_of_nonneg _ (by decide)];omega
theorem E3{a b n:Nat}(h:a<b)(hb:b<=n)(hn:n<=1000000):∃h:Nat,a<=h/\h<b/\IntKind.i64.wrap ((a:Int)+(b:Int))=((a+b:Nat):Int)/\IntKind.u64.wrap ((a+b:Nat):Int)=((a+b:Nat):Int)/\fH .u64 ((a+b:Nat):Int) 1=(h:Int)/\IntKind.i64.wrap (h:Int)=(h:Int)/\IntKind.i64.wrap ((h:Int)+1)=((h+1:Nat):Int):=by
 refine⟨(a+b) / 2,by omega,by omega,?_,aU (by omega) (by omega),abA _,aK (by omega) (by omega),?_⟩
 ·rw[aK (by omega) (by omega)];omega
 ·rw[aK (by omega) (by omega)];omega
theorem Yj(l:List Int)(cl:Bool)(v:Int)(i:Nat)(hi:i<=l.length)(hb:l.length<=1000000)(h1:∀j,j<i->l.getD j 0<v)(h2:∀j,i<=j->j<l.length->¬l.getD j 0<v):
 PC Tryz.prog 104 [.sl 1 cl (ax .i64 l),.int .i64 v] (.tup [.int .i64 i,.bool (decide (i<l.length)&&decide (l.getD i 0=v))]):=by
 refine PC.fact 10 lS (by simp) puA puA ?_;unfold gl;refine bd ?_;refine gon ?_;refine ay (fun x:Nat×Nat=>[(7,.int .i64 x.1),(8,.int .i64 x.2)]) (fun _=>[]) (fun x=>x.2-x.1) (fun x=>x.1<=i/\i<=x.2/\x.2<=l.length) (0,l.length) ⟨Nat.zero_le _,hi,Nat.le_refl _⟩ ?_ ?_
 ·exact adk [] []
 rintro⟨a,b⟩ ⟨ha,hb1,hb2⟩;dsimp only at ha hb1 hb2 ⊢;refine dM ?_;by_cases q:a<b
 ·have e1:=inT q
  obtain⟨h,g1,g2,g3,g4,g5,g6,g7⟩:=E3 q hb2 hb;have hh:h<l.length:=by omega
  have hgd:=gdn (k:=.i64) hh;have c1:=QW (l.getD h 0) v;refine bg e1 ?_;refine eO g3 g4 g5 g6 hgd ?_;refine ai c1 ?_;by_cases q2:l.getD h 0<v
  ·have e2:=ak q2;have hhi:h<i:=Nat.lt_of_not_le fun hc=>h2 h hc hh q2
   refine bg e2 ?_;refine ap g7 ?_;refine⟨(h+1,b),⟨hhi,hb1,hb2⟩,by dsimp only;omega,?_⟩;exact adk [] []
  ·have e2:=au q2;have hhi:i<=h:=Nat.le_of_not_lt fun hc=>q2 (h1 h hc)
   refine aD e2 ?_;refine⟨(a,h),⟨ha,hhi,by dsimp only;omega⟩,by dsimp only;omega,?_⟩;exact adk [] []
 ·obtain rfl:a=i:=by omega
  obtain rfl:b=a:=by omega
  have e1:=inF b;by_cases q2:b<l.length
  ·have e2:=inT q2
   have e2':decide (b<l.length)=true:=ak q2;have hgd:=gdn (k:=.i64) q2;have c1:=VZ (l.getD b 0);by_cases q3:l.getD b 0=v
   ·have e3:(l.getD b 0==v)=true:=by rw[q3];simp
    have e3':decide (l.getD b 0=v)=true:=ak q3;refine aQ e1 ?_;refine eO e2 e2' hgd e3 e3' ?_;exact af
   ·have e3:(l.getD b 0==v)=false:=by rw[beq_eq_false_iff_ne];exact q3
    have e3':decide (l.getD b 0=v)=false:=au q3;refine aQ e1 ?_;refine eO e2 e2' hgd e3 e3' ?_;refine ai c1 ?_;refine eO e2 e2' hgd e3 e3' ?_;exact af
  ·have e2:decide ((b:Int)<((l.length:Nat):Int))=false:=au (by omega);have e2':decide (b<l.length)=false:=au q2;refine aQ e1 ?_;refine aO e2 e2' ?_;exact af
theorem Vl(l:List aH)(cl:Bool)(t:aH)(i:Nat)(hi:i<=l.length)(hb:l.length<=1000000)(h1:∀j,j<i->gh (l.getD j default).cp t.cp<0)(h2:∀j,i<=j->j<l.length->¬gh (l.getD j default).cp t.cp<0):
 PC Tryz.prog 140 [.sl 34 cl (rows aH.c l),.agg (bE t.a),.fn (.func 141) []] (.tup [.int .i64 i,.bool (decide (i<l.length)&&decide (gh (l.getD i default).cp t.cp=0))]):=by
 refine PC.fact 12 eT (by simp) puA puA ?_;unfold dj;refine bd ?_;refine gon ?_;refine ay (fun x:Nat×Nat=>[(9,.int .i64 x.1),(10,.int .i64 x.2)]) (fun _=>[.var (bE t.a)]) (fun x=>x.2-x.1) (fun x=>x.1<=i/\i<=x.2/\x.2<=l.length) (0,l.length) ⟨Nat.zero_le _,hi,Nat.le_refl _⟩ ?_ ?_
 ·exact adk [] [0]
 rintro⟨a,b⟩ ⟨ha,hb1,hb2⟩;dsimp only at ha hb1 hb2 ⊢;refine dM ?_;by_cases q:a<b
 ·have e1:=inT q
  obtain⟨h,g1,g2,g3,g4,g5,g6,g7⟩:=E3 q hb2 hb;have hh:h<l.length:=by omega
  have hgd:(rows aH.c l).getD h []=bE (l.getD h default).a:=aM (f:=aH.c) default hh;have c1:=AF (l.getD h default) t;have h1h:=h1 h;have h2h:=fun hc=>h2 h hc hh
  generalize l.getD h default=y at *;generalize hR:gh y.cp t.cp=R at *;refine bg e1 ?_;refine eO g3 g4 g5 g6 hgd ?_;refine aC (c1) ?_;by_cases q2:R<0
  ·have e2:=ak q2;have hhi:h<i:=Nat.lt_of_not_le fun hc=>h2h hc q2
   refine bg e2 ?_;refine ap g7 ?_;refine⟨(h+1,b),⟨hhi,hb1,hb2⟩,by dsimp only;omega,?_⟩;exact adk [] [0]
  ·have e2:=au q2;have hhi:i<=h:=Nat.le_of_not_lt fun hc=>q2 (h1h hc)
   refine aD e2 ?_;refine⟨(a,h),⟨ha,hhi,by dsimp only;omega⟩,by dsimp only;omega,?_⟩;exact adk [] [0]
 ·obtain rfl:a=i:=by omega
  obtain rfl:b=a:=by omega
  have e1:=inF b;by_cases q2:b<l.length
  ·have e2:=inT q2
   have e2':decide (b<l.length)=true:=ak q2;have hgd:(rows aH.c l).getD b []=bE (l.getD b default).a:=aM (f:=aH.c) default q2;have c1:=AF (l.getD b default) t;generalize l.getD b default=y at *;generalize hR:gh y.cp t.cp=R at *;by_cases q3:R=0
   ·subst q3;refine aQ e1 ?_;refine cZ e2 e2' hgd ?_;refine aC (c1) ?_;refine aO e2 e2' ?_;exact af
   ·have e3:(R==0)=false:=by simp[q3]
    have e3':decide (R=0)=false:=au q3;refine aQ e1 ?_;refine cZ e2 e2' hgd ?_;refine aC (c1) ?_;refine eW e2 e2' e3 e3' ?_;exact af
  ·have e2:decide ((b:Int)<((l.length:Nat):Int))=false:=au (by omega);have e2':decide (b<l.length)=false:=au q2;refine aQ e1 ?_;refine aO e2 e2' ?_;exact af
theorem acq(v:Int):∀l:List Int,l.Pairwise (· < ·)->∃i,i<=l.length/\(∀j,j<i->l.getD j 0<v)/\∀j,i<=j->j<l.length->¬l.getD j 0<v
 | [],_=>⟨0,Nat.le_refl _,fun j h=>absurd h (Nat.not_lt_zero _),fun j _ h=>absurd h (Nat.not_lt_zero _)⟩
 | a :: l, hp => by
   rw[List.pairwise_cons]at hp;by_cases ha:a<v
   ·obtain⟨i,h1,h2,h3⟩:=acq v l hp.2
    refine⟨i+1,by simpa using h1,fun j hj=>?_,fun j hj hl=>?_⟩
    ·cases j with
     |zero=>exact ha
     |succ j=>exact h2 j (by omega)
    ·cases j with
     |zero=>omega
     |succ j=>exact h3 j (by omega) (by simpa using hl)
   ·refine⟨0,Nat.zero_le _,fun j h=>absurd h (Nat.not_lt_zero _),fun j _ hl=>?_⟩
    cases j with
    |zero=>exact ha
    | succ j =>
      have hl':j<l.length:=by simpa using hl
      have hm:l.getD j 0∈l:=by rw[List.getD_eq_getElem?_getD,List.getElem?_eq_getElem hl'];exact List.getElem_mem _
      have:=hp.1 _ hm;show ¬l.getD j 0<v
      omega
end Go.Proofs.YtnjdpnfglgcjcaaGreat
