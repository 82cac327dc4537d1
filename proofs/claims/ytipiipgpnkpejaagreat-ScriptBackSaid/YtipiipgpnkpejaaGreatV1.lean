/-
 My texts En, Eo, Ep, Eq, Fb, Fd, Fe, joined.
-/
import Derived.Test.YtipiipgpnkpejaaGreatW8
import Derived.Test.YtipiipgpnkpejaaGreatW9
import Derived.Test.YtipiipgpnkpejaaGreatW3
namespace Go.Proofs.YtipiipgpnkpejaaGreat
open Go Go.FH Go.RowKit
set_option linter.unusedVariables false
set_option linter.unusedSimpArgs false
theorem Kt_(b:List UInt8)(e:Int):(ep_ b e).2.1 <:+ b:=by
 unfold ep_;split
 ·exact List.suffix_refl _
 ·split
  ·exact List.suffix_refl _
  ·split
   ·exact List.suffix_refl _
   ·exact List.suffix_cons _ _
theorem AD_(b:List UInt8)(e:Int):(er_ b e).2.1 <:+ b:=eh_ b e
theorem rm_(b:List UInt8)(e:Int):(rCp b e).2.1 <:+ b:=by
 unfold rCp;split
 ·exact List.suffix_refl _
 ·exact(eh_ _ _).trans (bx_ _ _ _)
theorem EX_:∀ (n:Nat) (last:Int) (acc:List Int) (bs:List UInt8) (e:Int),(gY_ n last acc bs e).2.1 <:+ bs
 |0,_,_,bs,_=>List.suffix_refl _
 | n + 1, last, acc, bs, e => by
   rw[gY_];split
   ·exact List.suffix_refl _
   ·exact(EX_ _ _ _ _ _).trans (bx_ bs e 1024)
theorem sA_(b:List UInt8)(e:Int):(eq_ b e).2.1 <:+ b:=(EX_ _ _ _ _ _).trans (bx_ _ _ _)
theorem ET_(b:List UInt8)(e:Int):(gX_ b e).2.1 <:+ b:=(sA_ _ _).trans ((eh_ _ _).trans ((bx_ _ _ _).trans (bx_ _ _ _)))
theorem tw_(B b:List UInt8)(e:Int)(hs:b <:+ B)(hb:B.length≤140737488355328):
 ar_ Tryz.prog 90 [.ptr 0 0] [sro false B b e] (.sl 1 false (aq_ .i64 (eq_ b e).1)) [sro false B (eq_ b e).2.1 (eq_ b e).2.2]:=by
 refine ar_.fact 7 tT_ (by simp) ?_ (by simp);unfold lL_;refine bd ?_;have hu:=cl_ B b false e 1024 hs hb;have hl:=bx_ b e 1024;have hu0:=bK_ b e 1024;have hu1:=cO_ b e 1024 (by omega);have hL:gY_ (ap_ b e 1024).1.toNat (-1) [] (ap_ b e 1024).2.1 (ap_ b e 1024).2.2=eq_ b e:=rfl;generalize eq_ b e=L at *;generalize ap_ b e 1024=U at *;obtain⟨u,b1,e1⟩:=U;dsimp only at hu hu0 hu1 hl hL ⊢;have hw0:IntKind.i64.wrap u=u:=ai_ (by omega) (by omega);simp only[sro]at hu ⊢;generalize ((B.length-b.length:Nat):Int)=A0 at *;have g1:=hl.trans hs;clear hl hs;try refine aa_ ?_
 refine am_ [0] (hu) evd (aj_.mk' (by simp) evd) ?_;refine evg ?_;repeat(first|refine aa_ ?_|simp only[go_sem,hw0])
 refine bF_ (fun x:Bool×Int×List Int×List UInt8×Int=>⟨7,[.ptr 0 0,.dead,.sl 0 true [],.int .i64 u,if x.1 then .hs 1 1 0 x.2.2.1.length else .sl 0 true [],.int .i64 x.2.1,.int .i64 x.2.2.1.length],[]⟩)
  (fun x=>sro false B x.2.2.2.1 x.2.2.2.2::(if x.1 then [.vec 1 (aq_ .i64 x.2.2.1)]else [])) (fun x=>u.toNat-x.2.2.1.length)
  (fun x=>gY_ (u.toNat-x.2.2.1.length) x.2.1 x.2.2.1 x.2.2.2.1 x.2.2.2.2=L∧x.2.2.1.length≤u.toNat∧x.2.2.2.1 <:+ B∧-1≤x.2.1∧x.2.1≤1025*x.2.2.1.length∧(x.1=false→x.2.2.1=[]))
  (false,-1,[],b1,e1) ⟨by simpa using hL,by simp,g1,by simp,by simp,by simp⟩ ?_ ?_
 ·exact Sn_ [] [0]
 rintro⟨st,last,acc,bb,ee⟩ ⟨i1,i2,i3,i4,i5,i6⟩;dsimp only at i1 i2 i3 i4 i5 i6 ⊢;have hw1:=ag_ (n:=acc.length+1) (i:=acc.length) (by omega) (by omega);have c2:=cl_ B bb false ee 1024 i3 hb;have hwl:IntKind.i64.wrap (last+1)=last+1:=ai_ (by omega) (by omega);by_cases hi:acc.length<u.toNat
 ·have hi':decide ((acc.length:Int)<u)=true:=by rw[decide_eq_true_eq];omega
  obtain⟨k,hk⟩:∃k,u.toNat-acc.length=k+1:=⟨u.toNat-acc.length-1,by omega⟩
  rw[hk,gY_]at i1;by_cases he:ee=0
  ·subst he
   rw[if_neg (by simp)]at i1;have v0:=bK_ bb 0 1024;have v1:=cO_ bb 0 1024 (by omega);have v2:=bx_ bb 0 1024;generalize ap_ bb 0 1024=V at *;obtain⟨v,b2,e2⟩:=V;dsimp only at v0 v1 v2 c2 i1;have v3:=v2.trans i3;have hwv:IntKind.i64.wrap v=v:=ai_ (by omega) (by omega);have hwn:IntKind.i64.wrap (last+1+v)=last+1+v:=ai_ (by omega) (by omega);simp only[sro]at c2 ⊢;generalize ((B.length-bb.length:Nat):Int)=A1 at *;cases st with
   | false =>
     obtain rfl:=i6 rfl;simp only[List.length_nil]at hi hk i2 i5;have hi0:decide ((0:Int)<u)=true:=by rw[decide_eq_true_eq];omega
     have hwz:IntKind.i64.wrap ((0:Int)+1)=1:=by decide
     repeat(first|refine aa_ ?_|simp only[go_sem,hi0])
     refine ac_ ?_;repeat(first|refine aa_ ?_|simp only[go_sem,hwl])
     refine am_ [0] (c2) evd (aj_.mk' (by simp) evd) ?_;refine evg ?_;repeat(first|refine aa_ ?_|simp only[go_sem,hwv,hwn,hwz])
     refine⟨(true,last+1+v,[last+1+v],b2,e2),⟨?_,?_,v3,?_,?_,?_⟩,?_,?_⟩
     ·simp only[List.length_cons,List.length_nil];rw[show u.toNat-(0+1)=k by omega];exact i1
     ·simp only[List.length_cons,List.length_nil];omega
     ·dsimp only;omega
     ·simp only[List.length_cons,List.length_nil];omega
     ·simp
     ·simp only[List.length_cons,List.length_nil];omega
     ·exact Sn_ [] [0,1]
   | true =>
     repeat(first|refine aa_ ?_|simp only[go_sem,hi'])
     refine ac_ ?_;repeat(first|refine aa_ ?_|simp only[go_sem,hwl])
     refine am_ [0] (c2) evd (aj_.mk' (by simp) evd) ?_;refine evg ?_;repeat(first|refine aa_ ?_|simp only[go_sem,hwv,hwn,hw1])
     refine⟨(true,last+1+v,acc++[last+1+v],b2,e2),⟨?_,?_,v3,?_,?_,?_⟩,?_,?_⟩
     ·simp only[List.length_append,List.length_cons,List.length_nil];rw[show u.toNat-(acc.length+(0+1))=k by omega];exact i1
     ·simp only[List.length_append,List.length_cons,List.length_nil];omega
     ·dsimp only;omega
     ·simp only[List.length_append,List.length_cons,List.length_nil];omega
     ·simp
     ·simp only[List.length_append,List.length_cons,List.length_nil];omega
     ·exact Sn_ [] [0,2]
  ·have he':(ee==0)=false:=by simpa using he
   rw[if_pos he]at i1;rw[←i1];dsimp only;simp only[sro];generalize ((B.length-bb.length:Nat):Int)=A1 at *;cases st with
   | false =>
     obtain rfl:=i6 rfl;simp only[List.length_nil]at hi hk i2;have hi0:decide ((0:Int)<u)=true:=by rw[decide_eq_true_eq];omega
     repeat(first|refine aa_ ?_|simp only[go_sem,hi0,he'])
     refine Re_ ?_
     refine gk_ [] [0] _ (by simp) (by first|rfl|exact evd) (by simp) rfl (by simp) (by simp) evd evd (Wk.empty 0 1 _)
   | true =>
     repeat(first|refine aa_ ?_|simp only[go_sem,hi',he'])
     refine Re_ ?_
     exact Sg_ [1] [0]
 ·have hi':decide ((acc.length:Int)<u)=false:=by rw[decide_eq_false_iff_not];omega
  rw[show u.toNat-acc.length=0 by omega,gY_]at i1;rw[←i1];dsimp only;simp only[sro];generalize ((B.length-bb.length:Nat):Int)=A1 at *;cases st with
  | false =>
    obtain rfl:=i6 rfl;have hi0:decide ((0:Int)<u)=false:=by simpa using hi'
    repeat(first|refine aa_ ?_|simp only[go_sem,hi0])
    refine Re_ ?_
    refine gk_ [] [0] _ (by simp) (by first|rfl|exact evd) (by simp) rfl (by simp) (by simp) evd evd (Wk.empty 0 1 _)
  | true =>
    repeat(first|refine aa_ ?_|simp only[go_sem,hi'])
    refine Re_ ?_
    exact Sg_ [1] [0]
set_option maxRecDepth 100000 in
theorem yS_(B b:List UInt8)(e:Int)(hs:b <:+ B)(hb:B.length≤140737488355328):
 ar_ Tryz.prog 86 [.ptr 0 0] [sro false B b e] (.agg (aw_ (ho_ b e).1)) [sro false B (ho_ b e).2.1 (ho_ b e).2.2]:=by
 refine ar_.fact 4 se_ (by simp) ?_ (by simp);unfold kt_;refine bd ?_;rcases h1:ap_ b e bh_ with⟨s,b1,e1⟩
 rcases h2:bc_ b1 e1 with⟨r,b2,e2⟩
 rcases h3:bc_ b2 e2 with⟨p,b3,e3⟩
 rcases h4:bc_ b3 e3 with⟨y,b4,e4⟩
 rcases h5:er_ b4 e4 with⟨d,b5,e5⟩
 rcases h6:er_ b5 e5 with⟨g,b6,e6⟩
 rcases h7:rCp b6 e6 with⟨j,b7,e7⟩
 rcases h8:rCp b7 e7 with⟨f,b8,e8⟩
 rcases h9:rCp b8 e8 with⟨u,b9,e9⟩
 rcases h10:rCp b9 e9 with⟨v,b10,e10⟩
 rcases h11:ep_ b10 e10 with⟨t,b11,e11⟩
 have s1:=bx_ b e bh_;rw[h1]at s1;have s1:b1 <:+ B:=s1.trans hs
 have s2:=eh_ b1 e1;rw[h2]at s2;have s2:b2 <:+ B:=s2.trans s1
 have s3:=eh_ b2 e2;rw[h3]at s3;have s3:b3 <:+ B:=s3.trans s2
 have s4:=eh_ b3 e3;rw[h4]at s4;have s4:b4 <:+ B:=s4.trans s3
 have s5:=AD_ b4 e4;rw[h5]at s5;have s5:b5 <:+ B:=s5.trans s4
 have s6:=AD_ b5 e5;rw[h6]at s6;have s6:b6 <:+ B:=s6.trans s5
 have s7:=rm_ b6 e6;rw[h7]at s7;have s7:b7 <:+ B:=s7.trans s6
 have s8:=rm_ b7 e7;rw[h8]at s8;have s8:b8 <:+ B:=s8.trans s7
 have s9:=rm_ b8 e8;rw[h9]at s9;have s9:b9 <:+ B:=s9.trans s8
 have s10:=rm_ b9 e9;rw[h10]at s10;have s10:b10 <:+ B:=s10.trans s9
 have s11:=Kt_ b10 e10;rw[h11]at s11;have s11:b11 <:+ B:=s11.trans s10
 have c1:=cl_ B b false e bh_ hs hb;rw[h1]at c1;dsimp only at c1;have c2:=dQ_ B b1 e1 s1 hb;rw[h2]at c2;dsimp only at c2;have c3:=dQ_ B b2 e2 s2 hb;rw[h3]at c3;dsimp only at c3;have c4:=dQ_ B b3 e3 s3 hb;rw[h4]at c4;dsimp only at c4;have c5:=xm_ B b4 e4 s4 hb;rw[h5]at c5;dsimp only at c5;have c6:=xm_ B b5 e5 s5 hb;rw[h6]at c6;dsimp only at c6;have c7:=np_ B b6 e6 s6 hb;rw[h7]at c7;dsimp only at c7;have c8:=np_ B b7 e7 s7 hb;rw[h8]at c8;dsimp only at c8;have c9:=np_ B b8 e8 s8 hb;rw[h9]at c9;dsimp only at c9;have c10:=np_ B b9 e9 s9 hb;rw[h10]at c10;dsimp only at c10;have c11:=Hw_ B b10 e10 s10 hb;rw[h11]at c11;dsimp only at c11;have hB:ho_ b e=(⟨⟨u,v⟩,s,r,p,y,d,g,j,f,t⟩,b11,e11):=by simp only[ho_,h1,h2,h3,h4,h5,h6,h7,h8,h9,h10,h11]
 rw[hB];dsimp only;simp only[sro]at c1 c2 c3 c4 c5 c6 c7 c8 c9 c10 c11 ⊢;generalize ((B.length-b.length:Nat):Int)=A0 at *;generalize ((B.length-b1.length:Nat):Int)=A1 at *;generalize ((B.length-b2.length:Nat):Int)=A2 at *;generalize ((B.length-b3.length:Nat):Int)=A3 at *;generalize ((B.length-b4.length:Nat):Int)=A4 at *;generalize ((B.length-b5.length:Nat):Int)=A5 at *;generalize ((B.length-b6.length:Nat):Int)=A6 at *;generalize ((B.length-b7.length:Nat):Int)=A7 at *;generalize ((B.length-b8.length:Nat):Int)=A8 at *;generalize ((B.length-b9.length:Nat):Int)=A9 at *;generalize ((B.length-b10.length:Nat):Int)=A10 at *;generalize ((B.length-b11.length:Nat):Int)=A11 at *;try refine aa_ ?_
 refine am_ [0] (c1) evd (aj_.mk' (by simp) evd) ?_;refine evg ?_;try refine aa_ ?_
 refine am_ [0] (c2) evd (aj_.mk' (by simp) evd) ?_;refine evg ?_;try refine aa_ ?_
 refine am_ [0] (c3) evd (aj_.mk' (by simp) evd) ?_;refine evg ?_;try refine aa_ ?_
 refine am_ [0] (c4) evd (aj_.mk' (by simp) evd) ?_;refine evg ?_;try refine aa_ ?_
 refine am_ [0] (c5) evd (aj_.mk' (by simp) evd) ?_;refine evg ?_;try refine aa_ ?_
 refine am_ [0] (c6) evd (aj_.mk' (by simp) evd) ?_;refine evg ?_;try refine aa_ ?_
 refine am_ [0] (c7) evd (aj_.mk' (by simp) evd) ?_;refine evg ?_;try refine aa_ ?_
 refine am_ [0] (c8) evd (aj_.mk' (by simp) evd) ?_;refine evg ?_;try refine aa_ ?_
 refine am_ [0] (c9) evd (aj_.mk' (by simp) evd) ?_;refine evg ?_;try refine aa_ ?_
 refine am_ [0] (c10) evd (aj_.mk' (by simp) evd) ?_;refine evg ?_;try refine aa_ ?_
 refine am_ [0] (c11) evd (aj_.mk' (by simp) evd) ?_;refine evg ?_;try refine aa_ ?_
 exact Sg_ [] [0]
set_option maxRecDepth 100000 in
theorem NJ_(b:List UInt8)(hb:b.length≤140737488355328):
 PC Tryz.prog 46 [.sl 1 false (bts b)] (.tup [.agg (aw_ (dec bj_ b.length (ho_ b 0)).1),.int .i64 (dec bj_ b.length (ho_ b 0)).2.1,.int .i64 (dec bj_ b.length (ho_ b 0)).2.2]):=by
 refine PC.fact 7 po_ (by simp) ⟨bO_ b,trivial⟩ ⟨dA_ _,trivial,trivial,trivial⟩ ?_;unfold io_;refine bd ?_;have c1:=yS_ b b 0 (List.suffix_refl _) hb;generalize ho_ b 0=X at *;obtain⟨x,b1,e1⟩:=X;unfold dec;dsimp only at c1 ⊢;simp only[sro,Nat.sub_self]at c1;generalize ((b.length-b1.length:Nat):Int)=A1 at *;try refine aa_ ?_
 refine am_ [1] (c1) evd (aj_.mk' (by simp) evd) ?_;refine evg ?_;try refine aa_ ?_
 by_cases he:e1=0
 ·subst he;simp only[ne_eq,not_true_eq_false,if_false];refine Re_ ?_
  exact ah_
 ·have he':(e1 != 0)=true:=by simpa using he
  simp only[ne_eq,he,not_false_eq_true,if_true];refine ac_ ?_ (by(try simp only[go_sem,he']);try exact evd);try refine aa_ ?_
  exact ah_
theorem NM_(b:List UInt8)(hb:b.length≤140737488355328):
 PC Tryz.prog 56 [.sl 1 false (bts b)] (.tup [.agg (bW_ (jO_ b.length (ka_ b 0)).1),.int .i64 (jO_ b.length (ka_ b 0)).2.1,.int .i64 (jO_ b.length (ka_ b 0)).2.2]):=by
 refine PC.fact 7 mO_ (by simp) ⟨bO_ b,trivial⟩ ⟨gG_ _,trivial,trivial,trivial⟩ ?_;unfold gN_;refine bd ?_;rcases h1:ap_ b 0 bh_ with⟨s,b1,e1⟩
 rcases h2:ap_ b1 e1 4 with⟨k,b2,e2⟩
 rcases h3:bc_ b2 e2 with⟨r,b3,e3⟩
 have s1:=bx_ b 0 bh_;rw[h1]at s1;have s1:b1 <:+ b:=s1.trans (List.suffix_refl _)
 have s2:=bx_ b1 e1 4;rw[h2]at s2;have s2:b2 <:+ b:=s2.trans s1
 have s3:=eh_ b2 e2;rw[h3]at s3;have s3:b3 <:+ b:=s3.trans s2
 have c1:=cl_ b b false 0 bh_ (List.suffix_refl _) hb;rw[h1]at c1;dsimp only at c1;have c2:=cl_ b b1 false e1 4 s1 hb;rw[h2]at c2;dsimp only at c2;have c3:=dQ_ b b2 e2 s2 hb;rw[h3]at c3;dsimp only at c3;have hB:ka_ b 0=(⟨s,k,r⟩,b3,e3):=by simp only[ka_,h1,h2,h3]
 have k0:=bK_ b1 e1 4;rw[h2]at k0;have k4:=cO_ b1 e1 4 (by omega);rw[h2]at k4;dsimp only at k0 k4;have hw:IntKind.i64.wrap k=k:=ai_ (by omega) (by omega);rw[hB];unfold jO_;dsimp only;simp only[sro,Nat.sub_self]at c1 c2 c3;generalize ((b.length-b1.length:Nat):Int)=A1 at *;generalize ((b.length-b2.length:Nat):Int)=A2 at *;generalize ((b.length-b3.length:Nat):Int)=A3 at *;try refine aa_ ?_
 refine am_ [1] (c1) evd (aj_.mk' (by simp) evd) ?_;refine evg ?_;try refine aa_ ?_
 refine am_ [1] (c2) evd (aj_.mk' (by simp) evd) ?_;refine evg ?_;repeat(first|refine aa_ ?_|simp only[go_sem,hw])
 refine am_ [1] (c3) evd (aj_.mk' (by simp) evd) ?_;refine evg ?_;try refine aa_ ?_
 by_cases he:e3=0
 ·subst he
  simp only[ne_eq,not_true_eq_false,if_false];refine ab_ ?_;by_cases hk:k=0
  ·subst hk;simp only[if_true];try refine aa_ ?_
   refine Rf_ ?_
   exact ah_
  ·have hk':(k==0)=false:=by simpa using hk
   simp only[hk,if_false];repeat(first|refine aa_ ?_|simp only[go_sem,hk'])
   refine ab_ ?_ (by(try simp only[go_sem,hk']);try exact evd);try refine aa_ ?_
   exact ah_
 ·have he':(e3 != 0)=true:=by simpa using he
  simp only[ne_eq,he,not_false_eq_true,if_true];refine ac_ ?_ (by(try simp only[go_sem,he']);try exact evd);try refine aa_ ?_
  exact ah_
theorem NI_(b:List UInt8)(hb:b.length≤140737488355328):
 PC Tryz.prog 47 [.sl 1 false (bts b)] (.tup [.agg (aX_ (dT_ (iE_ b.length (iT_ b 0)).1)),.int .i64 (iE_ b.length (iT_ b 0)).2.1,.int .i64 (iE_ b.length (iT_ b 0)).2.2]):=by
 refine PC.fact 7 jS_ (by simp) ⟨bO_ b,trivial⟩ ⟨Bj_ _,trivial,trivial,trivial⟩ ?_;unfold fa_;refine bd ?_;rcases h1:ap_ b 0 bh_ with⟨s,b1,e1⟩
 rcases h2:bc_ b1 e1 with⟨r,b2,e2⟩
 rcases h3:rCp b2 e2 with⟨c,b3,e3⟩
 rcases h4:eq_ b3 e3 with⟨l,b4,e4⟩
 have s1:=bx_ b 0 bh_;rw[h1]at s1;have s1:b1 <:+ b:=s1.trans (List.suffix_refl _)
 have s2:=eh_ b1 e1;rw[h2]at s2;have s2:b2 <:+ b:=s2.trans s1
 have s3:=rm_ b2 e2;rw[h3]at s3;have s3:b3 <:+ b:=s3.trans s2
 have s4:=sA_ b3 e3;rw[h4]at s4;have s4:b4 <:+ b:=s4.trans s3
 have c1:=cl_ b b false 0 bh_ (List.suffix_refl _) hb;rw[h1]at c1;dsimp only at c1;have c2:=dQ_ b b1 e1 s1 hb;rw[h2]at c2;dsimp only at c2;have c3:=np_ b b2 e2 s2 hb;rw[h3]at c3;dsimp only at c3;have c4:=tw_ b b3 e3 s3 hb;rw[h4]at c4;dsimp only at c4;have hB:iT_ b 0=((s,r,c,l),b4,e4):=by simp only[iT_,h1,h2,h3,h4]
 have l5:=nH_ b3 e3;rw[h4]at l5;dsimp only at l5;have cv:=eC_ l false 1024 (by omega);rw[hB];unfold iE_;dsimp only;simp only[sro,Nat.sub_self]at c1 c2 c3 c4;generalize ((b.length-b1.length:Nat):Int)=A1 at *;generalize ((b.length-b2.length:Nat):Int)=A2 at *;generalize ((b.length-b3.length:Nat):Int)=A3 at *;generalize ((b.length-b4.length:Nat):Int)=A4 at *;try refine aa_ ?_
 refine am_ [1] (c1) evd (aj_.mk' (by simp) evd) ?_;refine evg ?_;try refine aa_ ?_
 refine am_ [1] (c2) evd (aj_.mk' (by simp) evd) ?_;refine evg ?_;try refine aa_ ?_
 refine am_ [1] (c3) evd (aj_.mk' (by simp) evd) ?_;refine evg ?_;try refine aa_ ?_
 refine am_ [1] (c4) evd (aj_.mk' (by simp) evd) ?_;refine evg ?_;try refine aa_ ?_
 by_cases he:e4=0
 ·subst he
  simp only[ne_eq,not_true_eq_false,if_false];refine Re_ ?_
  refine RV_ cv ?_
  by_cases hv:bt_ l 1024=0
  ·simp only[hv,if_true];refine Re_ ?_
   exact ah_
  ·have hv':(bt_ l 1024 != 0)=true:=by simpa using hv
   simp only[hv,if_false];refine ac_ ?_ (by(try simp only[go_sem,hv']);try exact evd);try refine aa_ ?_
   refine⟨_,(by first|rfl|exact evd),.inr ⟨.tup [.agg (aX_ cI_),.int .i64 0,.int .i64 2],evd,⟨(cB_ _).2 trivial,trivial,trivial,trivial⟩,Wk.tup ⟨uN_,Wk.refl _,Wk.refl _,trivial⟩⟩⟩
 ·have he':(e4 != 0)=true:=by simpa using he
  simp only[ne_eq,he,not_false_eq_true,if_true];refine ac_ ?_ (by(try simp only[go_sem,he']);try exact evd);try refine aa_ ?_
  refine⟨_,(by first|rfl|exact evd),.inr ⟨.tup [.agg (aX_ cI_),.int .i64 0,.int .i64 e4],evd,⟨(cB_ _).2 trivial,trivial,trivial,trivial⟩,Wk.tup ⟨uN_,Wk.refl _,Wk.refl _,trivial⟩⟩⟩
theorem wY_(B b:List UInt8)(e:Int)(hs:b <:+ B)(hb:B.length≤140737488355328):
 ar_ Tryz.prog 93 [.ptr 0 0] [sro false B b e] (.agg (bC_ (gQ_ (gX_ b e).1))) [sro false B (gX_ b e).2.1 (gX_ b e).2.2]:=by
 refine ar_.fact 4 si_ (by simp) ?_ (by simp);unfold kx_;refine bd ?_;rcases h1:ap_ b e bh_ with⟨s,b1,e1⟩
 rcases h2:ap_ b1 e1 bh_ with⟨t,b2,e2⟩
 rcases h3:bc_ b2 e2 with⟨r,b3,e3⟩
 rcases h4:eq_ b3 e3 with⟨l,b4,e4⟩
 have s1:=bx_ b e bh_;rw[h1]at s1;have s1:b1 <:+ B:=s1.trans hs
 have s2:=bx_ b1 e1 bh_;rw[h2]at s2;have s2:b2 <:+ B:=s2.trans s1
 have s3:=eh_ b2 e2;rw[h3]at s3;have s3:b3 <:+ B:=s3.trans s2
 have s4:=sA_ b3 e3;rw[h4]at s4;have s4:b4 <:+ B:=s4.trans s3
 have c1:=cl_ B b false e bh_ hs hb;rw[h1]at c1;dsimp only at c1;have c2:=cl_ B b1 false e1 bh_ s1 hb;rw[h2]at c2;dsimp only at c2;have c3:=dQ_ B b2 e2 s2 hb;rw[h3]at c3;dsimp only at c3;have c4:=tw_ B b3 e3 s3 hb;rw[h4]at c4;dsimp only at c4;have hB:gX_ b e=((s,t,r,l),b4,e4):=by simp only[gX_,h1,h2,h3,h4]
 rw[hB];dsimp only;simp only[sro]at c1 c2 c3 c4 ⊢;generalize ((B.length-b.length:Nat):Int)=A0 at *;generalize ((B.length-b1.length:Nat):Int)=A1 at *;generalize ((B.length-b2.length:Nat):Int)=A2 at *;generalize ((B.length-b3.length:Nat):Int)=A3 at *;generalize ((B.length-b4.length:Nat):Int)=A4 at *;try refine aa_ ?_
 refine am_ [0] (c1) evd (aj_.mk' (by simp) evd) ?_;refine evg ?_;try refine aa_ ?_
 refine am_ [0] (c2) evd (aj_.mk' (by simp) evd) ?_;refine evg ?_;try refine aa_ ?_
 refine am_ [0] (c3) evd (aj_.mk' (by simp) evd) ?_;refine evg ?_;try refine aa_ ?_
 refine am_ [0] (c4) evd (aj_.mk' (by simp) evd) ?_;refine evg ?_;try refine aa_ ?_
 exact Sg_ [] [0]
theorem QH_(x:Cv)(h1:U64 x.1)(h2:U64 x.2.1)(h3:x.2.2.2.length≤140737488355328):kc_ (gQ_ x) x.2.2.2 false:=⟨h1,h2,rfl,h3⟩
theorem Iu_(b:List UInt8)(e:Int):U64 (ap_ b e bh_).1:=⟨bK_ b e bh_,Int.lt_of_le_of_lt (cO_ b e bh_ (by decide)) (by decide)⟩
theorem Ni_(b:List UInt8)(e:Int):kc_ (gQ_ (gX_ b e).1) (gX_ b e).1.2.2.2 false:=
 QH_ _ (Iu_ _ _) (Iu_ _ _) (Nat.le_trans (nh_ b e) (by decide))
theorem NK_(b:List UInt8)(hb:b.length≤140737488355328):
 PC Tryz.prog 50 [.sl 1 false (bts b)] (.tup [.agg (bI_ (dP_ (hH_ b.length (hp_ b 0)).1)),.int .i64 (hH_ b.length (hp_ b 0)).2.1,.int .i64 (hH_ b.length (hp_ b 0)).2.2]):=by
 refine PC.fact 9 me_ (by simp) ⟨bO_ b,trivial⟩ ⟨HO_ _,trivial,trivial,trivial⟩ ?_;unfold gi_;refine bd ?_;rcases h1:gX_ b 0 with⟨s,b1,e1⟩
 rcases h2:gX_ b1 e1 with⟨t,b2,e2⟩
 have s1:=ET_ b 0;rw[h1]at s1;have s1:b1 <:+ b:=s1.trans (List.suffix_refl _)
 have s2:=ET_ b1 e1;rw[h2]at s2;have s2:b2 <:+ b:=s2.trans s1
 have c1:=wY_ b b 0 (List.suffix_refl _) hb;rw[h1]at c1;dsimp only at c1;have c2:=wY_ b b1 e1 s1 hb;rw[h2]at c2;dsimp only at c2;have hB:hp_ b 0=((s,t),b2,e2):=by simp only[hp_,h1,h2]
 have u1:=Ni_ b 0;rw[h1]at u1;have u2:=Ni_ b1 e1;rw[h2]at u2;dsimp only at u1 u2;have cv:=Fs_ (dP_ (s,t)) s.2.2.2 t.2.2.2 false false u1 u2;rw[hB];unfold hH_;dsimp only;simp only[sro,Nat.sub_self]at c1 c2;generalize ((b.length-b1.length:Nat):Int)=A1 at *;generalize ((b.length-b2.length:Nat):Int)=A2 at *;have hm:dP_ (s,t)=⟨gQ_ s,gQ_ t⟩:=rfl;rw[hm]at cv;try refine aa_ ?_
 refine am_ [1] (c1) evd (aj_.mk' (by simp) evd) ?_;refine evg ?_;try refine aa_ ?_
 refine am_ [1] (c2) evd (aj_.mk' (by simp) evd) ?_;refine evg ?_;try refine aa_ ?_
 by_cases he:e2=0
 ·subst he
  simp only[ne_eq,not_true_eq_false,if_false];refine Re_ ?_
  refine RV_ cv ?_
  by_cases hv:bt_ s.2.2.2 1024=0∧bt_ t.2.2.2 1024=0
  ·have hq:ha_ s.2.2.2 t.2.2.2=0:=by rw[ha_,if_pos hv.1];exact hv.2
   simp only[hv,and_self,if_true];refine ab_ ?_ (by(try simp only[go_sem,hq]);try exact evd);try refine aa_ ?_
   exact ah_
  ·have hq:(ha_ s.2.2.2 t.2.2.2 != 0)=true:=by
    have:ha_ s.2.2.2 t.2.2.2≠0:=by
     unfold ha_;split
     ·rename_i h1';exact fun h2'=>hv ⟨h1',h2'⟩
     ·assumption
    simpa using this
   rw[if_neg hv];refine ac_ ?_ (by(try simp only[go_sem,hq]);try exact evd);try refine aa_ ?_
   refine⟨_,(by first|rfl|exact evd),.inr ⟨.tup [.agg (bI_ cz_),.int .i64 0,.int .i64 2],evd,⟨(cU_ _).2 ⟨trivial,trivial⟩,trivial,trivial,trivial⟩,Wk.tup ⟨uO_,Wk.refl _,Wk.refl _,trivial⟩⟩⟩
 ·have he':(e2 != 0)=true:=by simpa using he
  simp only[ne_eq,he,not_false_eq_true,if_true];refine ac_ ?_ (by(try simp only[go_sem,he']);try exact evd);try refine aa_ ?_
  refine⟨_,(by first|rfl|exact evd),.inr ⟨.tup [.agg (bI_ cz_),.int .i64 0,.int .i64 e2],evd,⟨(cU_ _).2 ⟨trivial,trivial⟩,trivial,trivial,trivial⟩,Wk.tup ⟨uO_,Wk.refl _,Wk.refl _,trivial⟩⟩⟩
theorem FG_(x:Tv)(ρ:Nat→Nat):(fo_ x).map (ren ρ)=fo_ x:=by simp only[fo_,Tab.map,ren,ck_]
theorem IH_(x:Tv)(σ:St)(zs:List Nat):(fo_ x).map (fz σ zs)=fo_ x:=by simp only[fo_,Tab.map,fz,cR_]
theorem Ld_(x:Tv):(fo_ x).good=true:=rfl
attribute [go_sem] FG_ IH_ Ld_
theorem yT_(B b:List UInt8)(e:Int)(hs:b <:+ B)(hb:B.length≤140737488355328):
 ar_ Tryz.prog 97 [.ptr 0 0] [sro false B b e] (.agg (aS_ (fo_ (gb_ b e).1))) [sro false B (gb_ b e).2.1 (gb_ b e).2.2]:=by
 refine ar_.fact 6 sf_ (by simp) ?_ (by simp);unfold ku_;refine bd ?_;rcases h1:ap_ b e bh_ with⟨s,b1,e1⟩
 rcases h2:bc_ b1 e1 with⟨r,b2,e2⟩
 rcases h3:ap_ b2 e2 1024 with⟨n,b3,e3⟩
 have s1:=bx_ b e bh_;rw[h1]at s1;have s1:b1 <:+ B:=s1.trans hs
 have s2:=eh_ b1 e1;rw[h2]at s2;have s2:b2 <:+ B:=s2.trans s1
 have s3:=bx_ b2 e2 1024;rw[h3]at s3;have s3:b3 <:+ B:=s3.trans s2
 have c1:=cl_ B b false e bh_ hs hb;rw[h1]at c1;dsimp only at c1;have c2:=dQ_ B b1 e1 s1 hb;rw[h2]at c2;dsimp only at c2;have c3:=cl_ B b2 false e2 1024 s2 hb;rw[h3]at c3;dsimp only at c3;have hB:gb_ b e=((⟨s,r⟩,(dr_ n.toNat [] b3 e3).1),(dr_ n.toNat [] b3 e3).2.1,(dr_ n.toNat [] b3 e3).2.2):=by simp only[gb_,h1,h2,h3]
 have n0:=bK_ b2 e2 1024;rw[h3]at n0;have n1:=cO_ b2 e2 1024 (by omega);rw[h3]at n1;dsimp only at n0 n1;have hw:IntKind.i64.wrap n=n:=ai_ (by omega) (by omega);rw[hB];generalize hLL:dr_ n.toNat [] b3 e3=L at *;dsimp only;simp only[sro]at c1 c2 c3 ⊢;generalize ((B.length-b.length:Nat):Int)=A0 at *;generalize ((B.length-b1.length:Nat):Int)=A1 at *;generalize ((B.length-b2.length:Nat):Int)=A2 at *;try refine aa_ ?_
 refine am_ [0] (c1) evd (aj_.mk' (by simp) evd) ?_;refine evg ?_;try refine aa_ ?_
 refine am_ [0] (c2) evd (aj_.mk' (by simp) evd) ?_;refine evg ?_;try refine aa_ ?_
 refine am_ [0] (c3) evd (aj_.mk' (by simp) evd) ?_;refine evg ?_;repeat(first|refine aa_ ?_|simp only[go_sem,hw])
 refine bF_ (fun x:Bool×List Int×List UInt8×Int=>⟨6,[.ptr 0 0,.dead,.ptr 1 0,.ptr 2 0,.int .i64 n,.int .i64 x.2.1.length],[]⟩)
  (fun x=>sro false B x.2.2.1 x.2.2.2::.var (aS_ ca_)::.var (aS_ ⟨⟨s,r⟩,if x.1 then .hs 1 3 0 x.2.1.length else .sl 0 true []⟩)::(if x.1 then [.vec 1 (aq_ .u64 x.2.1)]else [])) (fun x=>n.toNat-x.2.1.length)
  (fun x=>dr_ (n.toNat-x.2.1.length) x.2.1 x.2.2.1 x.2.2.2=L∧x.2.1.length≤n.toNat∧x.2.2.1 <:+ B∧(x.1=false→x.2.1=[]))
  (false,[],b3,e3) ⟨by simpa using hLL,by simp,s3,by simp⟩ ?_ ?_
 ·exact Sn_ [] [0,1,2]
 rintro⟨st,acc,bb,ee⟩ ⟨i1,i2,i3,i4⟩;dsimp only at i1 i2 i3 i4 ⊢;have hw1:=ag_ (n:=acc.length+1) (i:=acc.length) (by omega) (by omega);have c5:=cl_ B bb false ee bh_ i3 hb;by_cases hi:acc.length<n.toNat
 ·have hi':decide ((acc.length:Int)<n)=true:=by rw[decide_eq_true_eq];omega
  obtain⟨k,hk⟩:∃k,n.toNat-acc.length=k+1:=⟨n.toNat-acc.length-1,by omega⟩
  rw[hk,dr_]at i1;by_cases he:ee=0
  ·subst he
   rw[if_neg (by simp)]at i1;have v2:=bx_ bb 0 bh_;generalize ap_ bb 0 bh_=V at *;obtain⟨v,b4,e4⟩:=V;dsimp only at v2 c5 i1;have v3:=v2.trans i3;simp only[sro]at c5 ⊢;generalize ((B.length-bb.length:Nat):Int)=A4 at *;cases st with
   | false =>
     obtain rfl:=i4 rfl;simp only[List.length_nil]at hi hk i2;have hi0:decide ((0:Int)<n)=true:=by rw[decide_eq_true_eq];omega
     have hwz:IntKind.i64.wrap ((0:Int)+1)=1:=by decide
     repeat(first|refine aa_ ?_|simp only[go_sem,hi0])
     refine Rf_ ?_
     refine iC_ [0] (c5) (by simp) evd (aj_.mk' (by simp) evd) ?_;refine evg ?_;repeat(first|refine aa_ ?_|simp only[go_sem,hwz])
     refine⟨(true,[v],b4,e4),⟨?_,?_,v3,?_⟩,?_,?_⟩
     ·simp only[List.length_cons,List.length_nil];rw[show n.toNat-(0+1)=k by omega];exact i1
     ·simp only[List.length_cons,List.length_nil];omega
     ·simp
     ·simp only[List.length_cons,List.length_nil];omega
     ·exact Sn_ [] [0,1,2,4]
   | true =>
     repeat(first|refine aa_ ?_|simp only[go_sem,hi'])
     refine Rf_ ?_
     refine iC_ [0] (c5) (by simp) evd (aj_.mk' (by simp) evd) ?_;refine evg ?_;repeat(first|refine aa_ ?_|simp only[go_sem,hw1])
     refine⟨(true,acc++[v],b4,e4),⟨?_,?_,v3,?_⟩,?_,?_⟩
     ·simp only[List.length_append,List.length_cons,List.length_nil];rw[show n.toNat-(acc.length+(0+1))=k by omega];exact i1
     ·simp only[List.length_append,List.length_cons,List.length_nil];omega
     ·simp
     ·simp only[List.length_append,List.length_cons,List.length_nil];omega
     ·exact Sn_ [] [0,1,2,5]
  ·have he':(ee==0)=false:=by simpa using he
   rw[if_pos he]at i1;subst i1;dsimp only;simp only[sro];generalize ((B.length-bb.length:Nat):Int)=A4 at *;cases st with
   | false =>
     obtain rfl:=i4 rfl;simp only[List.length_nil]at hi i2;have hi0:decide ((0:Int)<n)=true:=by rw[decide_eq_true_eq];omega
     repeat(first|refine aa_ ?_|simp only[go_sem,hi0,he'])
     refine Re_ ?_
     refine gk_ [] [0] _ (by simp) (by first|rfl|exact evd) (by simp) rfl (by simp) (by simp) evd evd (Dt_ _ (Wk.empty 0 1 false) fun h=>h)
   | true =>
     repeat(first|refine aa_ ?_|simp only[go_sem,hi',he'])
     refine Re_ ?_
     exact Sg_ [3] [0]
 ·have hi':decide ((acc.length:Int)<n)=false:=by rw[decide_eq_false_iff_not];omega
  rw[show n.toNat-acc.length=0 by omega,dr_]at i1;subst i1;dsimp only;simp only[sro];generalize ((B.length-bb.length:Nat):Int)=A4 at *;cases st with
  | false =>
    obtain rfl:=i4 rfl;simp only[List.length_nil]at hi i2;have hi0:decide ((0:Int)<n)=false:=by rw[decide_eq_false_iff_not];omega
    repeat(first|refine aa_ ?_|simp only[go_sem,hi0])
    refine Re_ ?_
    refine gk_ [] [0] _ (by simp) (by first|rfl|exact evd) (by simp) rfl (by simp) (by simp) evd evd (Dt_ _ (Wk.empty 0 1 false) fun h=>h)
  | true =>
    repeat(first|refine aa_ ?_|simp only[go_sem,hi'])
    refine Re_ ?_
    exact Sg_ [3] [0]
theorem NL_(b:List UInt8)(hb:b.length≤140737488355328):
 PC Tryz.prog 53 [.sl 1 false (bts b)] (.tup [.agg (aS_ (fo_ (dec cP_ b.length (gb_ b 0)).1)),.int .i64 (dec cP_ b.length (gb_ b 0)).2.1,.int .i64 (dec cP_ b.length (gb_ b 0)).2.2]):=by
 refine PC.fact 7 pp_ (by simp) ⟨bO_ b,trivial⟩ ⟨HP_ _,trivial,trivial,trivial⟩ ?_;unfold ip_;refine bd ?_;have c1:=yT_ b b 0 (List.suffix_refl _) hb;generalize gb_ b 0=X at *;obtain⟨x,b1,e1⟩:=X;unfold dec;dsimp only at c1 ⊢;simp only[sro,Nat.sub_self]at c1;generalize ((b.length-b1.length:Nat):Int)=A1 at *;try refine aa_ ?_
 refine am_ [1] (c1) evd (aj_.mk' (by simp) evd) ?_;refine evg ?_;try refine aa_ ?_
 by_cases he:e1=0
 ·subst he;simp only[ne_eq,not_true_eq_false,if_false];refine Re_ ?_
  exact ah_
 ·have he':(e1 != 0)=true:=by simpa using he
  simp only[ne_eq,he,not_false_eq_true,if_true];refine ac_ ?_ (by(try simp only[go_sem,he']);try exact evd);try refine aa_ ?_
  refine⟨_,(by first|rfl|exact evd),.inr ⟨.tup [.agg (aS_ ca_),.int .i64 0,.int .i64 e1],evd,⟨(cs_ _).2 trivial,trivial,trivial,trivial⟩,Wk.tup ⟨rL_,Wk.refl _,Wk.refl _,trivial⟩⟩⟩
theorem Pv_(x:Bool):wZ_ true (.bool x) (.tup [])=.bool x:=rfl
theorem Pu_(y:Bool):wZ_ false (.tup []) (.bool y)=.bool y:=rfl
attribute [go_sem] Pv_ Pu_
theorem oW_(l m:List Int)(c d:Bool)(hl:l.length≤140737488355328)(hm:m.length≤140737488355328):PC Tryz.prog 91 [.sl 1 c (aq_ .i64 l),.sl 1 d (aq_ .i64 m)] (.bool (decide (l=m))):=by
 refine PC.fact 6 tS_ (by simp) ⟨aL_ _ _,aL_ _ _,trivial⟩ trivial ?_;unfold lK_;refine bd ?_;by_cases hlen:l.length=m.length
 ·have h0:((l.length:Int) != (m.length:Int))=false:=by rw[hlen];exact bne_self_eq_false _
  try refine aa_ ?_
  refine ab_ ?_ (by(try simp only[go_sem,h0]);try exact evd);try refine aa_ ?_
  refine dn_ (fun i:Nat=>⟨6,[.sl 1 c (aq_ .i64 l),.sl 1 d (aq_ .i64 m),.dead,.dead,.bool false,.int .i64 i],[]⟩) (fun _=>[]) (fun i=>l.length-i) (fun i=>i≤l.length∧l.take i=m.take i) [] 0 ⟨by omega,rfl⟩ evd rfl ?_;rintro i ⟨hi,hv⟩;try dsimp only
  try refine aa_ ?_
  refine au_ evd (fun h=>?_) (fun h=>?_)
  ·have h1:i<l.length:=by simpa using h
   have h2:i<m.length:=by omega
   have hw:=ag_ h1 (by omega);have g1:=di_ (k:=.i64) h1;have g2:=di_ (k:=.i64) h2;by_cases he:l.getD i 0=m.getD i 0
   ·rw[he]at g1;repeat(first|refine aa_ ?_|simp only[go_sem,g1,g2])
    refine ab_ ?_;repeat(first|refine aa_ ?_|simp only[go_sem,hw])
    refine⟨i+1,⟨h1,?_⟩,by omega,rfl⟩;rw[List.take_add_one,List.take_add_one,hv,List.getElem?_eq_getElem h1,List.getElem?_eq_getElem h2];rw[List.getD_eq_getElem?_getD,List.getD_eq_getElem?_getD,List.getElem?_eq_getElem h1,List.getElem?_eq_getElem h2]at he;simp only[Option.getD_some]at he;rw[he]
   ·have he':(l.getD i 0 != m.getD i 0)=true:=by simpa using he
    have hne:decide (l=m)=false:=by rw[decide_eq_false_iff_not];intro hh;rw[hh]at he;exact he rfl
    rw[hne];repeat(first|refine aa_ ?_|simp only[go_sem,g1,g2])
    refine ac_ ?_ (by(try simp only[go_sem,he']);try exact evd);try refine aa_ ?_
    exact ah_
  ·have h1:i=l.length:=by simp at h;omega
   subst h1
   have he:l=m:=by
    rw[List.take_length,hlen,List.take_length]at hv;exact hv
   subst he;rw[decide_eq_true rfl];try refine aa_ ?_
   exact ah_
 ·have h0:((l.length:Int) != (m.length:Int))=true:=by simp;omega
  have hne:decide (l=m)=false:=by rw[decide_eq_false_iff_not];intro hh;rw[hh]at hlen;exact hlen rfl
  rw[hne];try refine aa_ ?_
  refine ac_ ?_ (by(try simp only[go_sem,h0]);try exact evd);try refine aa_ ?_
  exact ah_
theorem yQ_(l m:List Int)(c d:Bool)(hl:l.length≤140737488355328)(hm:m.length≤140737488355328):PC Tryz.prog 98 [.sl 1 c (aq_ .u64 l),.sl 1 d (aq_ .u64 m)] (.bool (decide (l=m))):=by
 refine PC.fact 6 px_ (by simp) ⟨aL_ _ _,aL_ _ _,trivial⟩ trivial ?_;unfold ix_;refine bd ?_;by_cases hlen:l.length=m.length
 ·have h0:((l.length:Int) != (m.length:Int))=false:=by rw[hlen];exact bne_self_eq_false _
  try refine aa_ ?_
  refine ab_ ?_ (by(try simp only[go_sem,h0]);try exact evd);try refine aa_ ?_
  refine dn_ (fun i:Nat=>⟨6,[.sl 1 c (aq_ .u64 l),.sl 1 d (aq_ .u64 m),.dead,.dead,.bool false,.int .i64 i],[]⟩) (fun _=>[]) (fun i=>l.length-i) (fun i=>i≤l.length∧l.take i=m.take i) [] 0 ⟨by omega,rfl⟩ evd rfl ?_;rintro i ⟨hi,hv⟩;try dsimp only
  try refine aa_ ?_
  refine au_ evd (fun h=>?_) (fun h=>?_)
  ·have h1:i<l.length:=by simpa using h
   have h2:i<m.length:=by omega
   have hw:=ag_ h1 (by omega);have g1:=di_ (k:=.u64) h1;have g2:=di_ (k:=.u64) h2;by_cases he:l.getD i 0=m.getD i 0
   ·rw[he]at g1;repeat(first|refine aa_ ?_|simp only[go_sem,g1,g2])
    refine ab_ ?_;repeat(first|refine aa_ ?_|simp only[go_sem,hw])
    refine⟨i+1,⟨h1,?_⟩,by omega,rfl⟩;rw[List.take_add_one,List.take_add_one,hv,List.getElem?_eq_getElem h1,List.getElem?_eq_getElem h2];rw[List.getD_eq_getElem?_getD,List.getD_eq_getElem?_getD,List.getElem?_eq_getElem h1,List.getElem?_eq_getElem h2]at he;simp only[Option.getD_some]at he;rw[he]
   ·have he':(l.getD i 0 != m.getD i 0)=true:=by simpa using he
    have hne:decide (l=m)=false:=by rw[decide_eq_false_iff_not];intro hh;rw[hh]at he;exact he rfl
    rw[hne];repeat(first|refine aa_ ?_|simp only[go_sem,g1,g2])
    refine ac_ ?_ (by(try simp only[go_sem,he']);try exact evd);try refine aa_ ?_
    exact ah_
  ·have h1:i=l.length:=by simp at h;omega
   subst h1
   have he:l=m:=by
    rw[List.take_length,hlen,List.take_length]at hv;exact hv
   subst he;rw[decide_eq_true rfl];try refine aa_ ?_
   exact ah_
 ·have h0:((l.length:Int) != (m.length:Int))=true:=by simp;omega
  have hne:decide (l=m)=false:=by rw[decide_eq_false_iff_not];intro hh;rw[hh]at hlen;exact hlen rfl
  rw[hne];try refine aa_ ?_
  refine ac_ ?_ (by(try simp only[go_sem,h0]);try exact evd);try refine aa_ ?_
  exact ah_
theorem NF_(x y:Att)(l m:List Int)(c d:Bool)(hx:x.vals=.sl 1 c (aq_ .i64 l))(hy:y.vals=.sl 1 d (aq_ .i64 m))(hl:l.length≤140737488355328)(hm:m.length≤140737488355328):
 PC Tryz.prog 48 [.agg (aX_ x),.agg (aX_ y)] (.bool (decide (x.slot=y.slot∧x.root=y.root∧x.target=y.target∧l=m))):=by
 refine PC.fact 5 lg_ (by simp) ⟨(cB_ x).2 (by rw[Att.Pure,hx];exact aL_ _ _),(cB_ y).2 (by rw[Att.Pure,hy];exact aL_ _ _),trivial⟩ trivial ?_;unfold fN_;refine bd ?_;have gx:x.good=true:=by rw[Att.good,hx];rfl
 have gy:y.good=true:=by rw[Att.good,hy];rfl
 by_cases h1:x.slot=y.slot
 ·have e1:(x.slot==y.slot)=true:=by simp[h1]
  by_cases h2:x.root=y.root
  ·have e2:decide (x.root=y.root)=true:=by simp[h2]
   by_cases h3:x.target=y.target
   ·have e3:decide (x.target=y.target)=true:=by simp[h3]
    repeat(first|refine aa_ ?_|simp only[go_sem,gx,gy,hx,hy,e1,e2,e3])
    refine RV_ (oW_ l m c d hl hm) ?_
    refine⟨_,(by first|rfl|exact evd),.inl ?_⟩;refine evg ?_;try simp[h1,h2,h3]
   ·have e3:decide (x.target=y.target)=false:=by simp[h3]
    repeat(first|refine aa_ ?_|simp only[go_sem,gx,gy,hx,hy,e1,e2,e3])
    refine⟨_,(by first|rfl|exact evd),.inl ?_⟩;refine evg ?_;try simp[h1,h2,h3]
  ·have e2:decide (x.root=y.root)=false:=by simp[h2]
   repeat(first|refine aa_ ?_|simp only[go_sem,gx,gy,hx,hy,e1,e2])
   refine⟨_,(by first|rfl|exact evd),.inl ?_⟩;refine evg ?_;try simp[h1,h2]
 ·have e1:(x.slot==y.slot)=false:=by simp[h1]
  repeat(first|refine aa_ ?_|simp only[go_sem,gx,gy,hx,hy,e1])
  refine⟨_,(by first|rfl|exact evd),.inl ?_⟩;refine evg ?_;try simp[h1]
theorem Fp_(x y:Clm)(l m:List Int)(c d:Bool)(hx:x.vals=.sl 1 c (aq_ .i64 l))(hy:y.vals=.sl 1 d (aq_ .i64 m))(hl:l.length≤140737488355328)(hm:m.length≤140737488355328):
 PC Tryz.prog 94 [.agg (bC_ x),.agg (bC_ y)] (.bool (decide (x.src=y.src∧x.tgt=y.tgt∧x.root=y.root∧l=m))):=by
 refine PC.fact 5 sg_ (by simp) ⟨(ib_ x).2 (by rw[Clm.Pure,hx];exact aL_ _ _),(ib_ y).2 (by rw[Clm.Pure,hy];exact aL_ _ _),trivial⟩ trivial ?_;unfold kv_;refine bd ?_;have gx:x.good=true:=by rw[Clm.good,hx];rfl
 have gy:y.good=true:=by rw[Clm.good,hy];rfl
 by_cases h1:x.src=y.src
 ·have e1:(x.src==y.src)=true:=by simp[h1]
  by_cases h2:x.tgt=y.tgt
  ·have e2:(x.tgt==y.tgt)=true:=by simp[h2]
   by_cases h3:x.root=y.root
   ·have e3:decide (x.root=y.root)=true:=by simp[h3]
    repeat(first|refine aa_ ?_|simp only[go_sem,gx,gy,hx,hy,e1,e2,e3])
    refine RV_ (oW_ l m c d hl hm) ?_
    refine⟨_,(by first|rfl|exact evd),.inl ?_⟩;refine evg ?_;try simp[h1,h2,h3]
   ·have e3:decide (x.root=y.root)=false:=by simp[h3]
    repeat(first|refine aa_ ?_|simp only[go_sem,gx,gy,hx,hy,e1,e2,e3])
    refine⟨_,(by first|rfl|exact evd),.inl ?_⟩;refine evg ?_;try simp[h1,h2,h3]
  ·have e2:(x.tgt==y.tgt)=false:=by simp[h2]
   repeat(first|refine aa_ ?_|simp only[go_sem,gx,gy,hx,hy,e1,e2])
   refine⟨_,(by first|rfl|exact evd),.inl ?_⟩;refine evg ?_;try simp[h1,h2]
 ·have e1:(x.src==y.src)=false:=by simp[h1]
  repeat(first|refine aa_ ?_|simp only[go_sem,gx,gy,hx,hy,e1])
  refine⟨_,(by first|rfl|exact evd),.inl ?_⟩;refine evg ?_;try simp[h1]
theorem NH_(x y:Tab)(l m:List Int)(c d:Bool)(hx:x.bals=.sl 1 c (aq_ .u64 l))(hy:y.bals=.sl 1 d (aq_ .u64 m))(hl:l.length≤140737488355328)(hm:m.length≤140737488355328):
 PC Tryz.prog 54 [.agg (aS_ x),.agg (aS_ y)] (.bool (decide (x.cp=y.cp∧l=m))):=by
 refine PC.fact 5 sh_ (by simp) ⟨(cs_ x).2 (by rw[Tab.Pure,hx];exact aL_ _ _),(cs_ y).2 (by rw[Tab.Pure,hy];exact aL_ _ _),trivial⟩ trivial ?_;unfold kw_;refine bd ?_;have gx:x.good=true:=by rw[Tab.good,hx];rfl
 have gy:y.good=true:=by rw[Tab.good,hy];rfl
 by_cases h1:x.cp=y.cp
 ·have e1:decide (x.cp=y.cp)=true:=by simp[h1]
  repeat(first|refine aa_ ?_|simp only[go_sem,gx,gy,hx,hy,e1])
  refine RV_ (yQ_ l m c d hl hm) ?_
  refine⟨_,(by first|rfl|exact evd),.inl ?_⟩;refine evg ?_;try simp[h1]
 ·have e1:decide (x.cp=y.cp)=false:=by simp[h1]
  repeat(first|refine aa_ ?_|simp only[go_sem,gx,gy,hx,hy,e1])
  refine⟨_,(by first|rfl|exact evd),.inl ?_⟩;refine evg ?_;try simp[h1]
theorem NG_(x y:Slg)(l1 l2 m1 m2:List Int)(c1 c2 d1 d2:Bool)(hx1:x.fst.vals=.sl 1 c1 (aq_ .i64 l1))(hx2:x.snd.vals=.sl 1 c2 (aq_ .i64 l2))(hy1:y.fst.vals=.sl 1 d1 (aq_ .i64 m1))(hy2:y.snd.vals=.sl 1 d2 (aq_ .i64 m2))
 (hl1:l1.length≤140737488355328) (hl2:l2.length≤140737488355328) (hm1:m1.length≤140737488355328) (hm2:m2.length≤140737488355328):
 PC Tryz.prog 51 [.agg (bI_ x),.agg (bI_ y)] (.bool (decide (x.fst.src=y.fst.src∧x.fst.tgt=y.fst.tgt∧x.fst.root=y.fst.root∧l1=m1)&&decide (x.snd.src=y.snd.src∧x.snd.tgt=y.snd.tgt∧x.snd.root=y.snd.root∧l2=m2))):=by
 have px1:x.fst.Pure:=by rw[Clm.Pure,hx1];exact aL_ _ _
 have px2:x.snd.Pure:=by rw[Clm.Pure,hx2];exact aL_ _ _
 have py1:y.fst.Pure:=by rw[Clm.Pure,hy1];exact aL_ _ _
 have py2:y.snd.Pure:=by rw[Clm.Pure,hy2];exact aL_ _ _
 have gx1:x.fst.good=true:=by rw[Clm.good,hx1];rfl
 have gx2:x.snd.good=true:=by rw[Clm.good,hx2];rfl
 have gy1:y.fst.good=true:=by rw[Clm.good,hy1];rfl
 have gy2:y.snd.good=true:=by rw[Clm.good,hy2];rfl
 have gx:x.good=true:=by rw[Slg.good,gx1,gx2];rfl
 have gy:y.good=true:=by rw[Slg.good,gy1,gy2];rfl
 refine PC.fact 5 nZ_ (by simp) ⟨(cU_ x).2 ⟨px1,px2⟩,(cU_ y).2 ⟨py1,py2⟩,trivial⟩ trivial ?_;unfold hy_;refine bd ?_;have k1:=Fp_ x.fst y.fst l1 m1 c1 d1 hx1 hy1 hl1 hm1;have k2:=Fp_ x.snd y.snd l2 m2 c2 d2 hx2 hy2 hl2 hm2;generalize decide (x.fst.src=y.fst.src∧x.fst.tgt=y.fst.tgt∧x.fst.root=y.fst.root∧l1=m1)=b1 at *;generalize decide (x.snd.src=y.snd.src∧x.snd.tgt=y.snd.tgt∧x.snd.root=y.snd.root∧l2=m2)=b2 at *;cases b1
 ·repeat(first|refine aa_ ?_|simp only[go_sem,gx,gy,gx1,gx2,gy1,gy2])
  refine ae_ k1 ?_;repeat(first|refine aa_ ?_|simp only[go_sem,gx,gy,gx1,gx2,gy1,gy2])
  exact ah_
 ·repeat(first|refine aa_ ?_|simp only[go_sem,gx,gy,gx1,gx2,gy1,gy2])
  refine ae_ k1 ?_;repeat(first|refine aa_ ?_|simp only[go_sem,gx,gy,gx1,gx2,gy1,gy2])
  refine RV_ k2 ?_
  exact ah_
theorem lo_{n:Int}(h:U64 n)(t:List UInt8):ap_ (aJ_ n.toNat++t) 0 bh_=(n,t,0):=by
 have h0:=h.lo;have h1:=h.hi;have:=(lp_ (n:=n.toNat) (m:=bh_) (by omega) (by simp only[bh_];omega)).full t;(try simp only at this)
 rw[this,show ((n.toNat:Nat):Int)=n by omega]
theorem nI_{n m:Int}(h0:0≤n)(h1:n≤m)(h2:m<18446744073709551616)(t:List UInt8):ap_ (aJ_ n.toNat++t) 0 m=(n,t,0):=by
 have:=(lp_ (n:=n.toNat) (m:=m) (by omega) (by omega)).full t;(try simp only at this)
 rw[this,show ((n.toNat:Nat):Int)=n by omega]
theorem rk_{c:Cp}(h:U64 c.ep)(t:List UInt8):rCp (cy_ c++t) 0=(c,t,0):=(Nj_ c h.lo h.hi).full t
theorem rn_(r:Rt)(t:List UInt8):bc_ (r.1++t) 0=(r,t,0):=(pH_ r).full t
theorem Ax_{l:List Int}(hv:bt_ l 1024=0)(t:List UInt8):∀ (k i:Nat),l.length-i=k→i≤l.length→gY_ k (if i=0 then -1 else l.getD (i-1) 0) (l.take i) (fT_ l i++t) 0=(l,t,0)
 | 0, i, hk, hi => by
   have:i=l.length:=by omega
   subst this;rw[nD_ (by omega),gY_,List.take_length,List.nil_append]
 | k + 1, i, hk, hi => by
   have hlt:i<l.length:=by omega
   have hd:=nR_ hv hlt;rw[iN_ hlt,gY_,if_neg (by simp),List.append_assoc,nI_ hd.1 (by omega) (by omega)]
   have e:(if i=0 then -1 else l.getD (i-1) 0)+1+dD_ l i=l.getD i 0:=by
    unfold dD_;split
    ·subst_vars;omega
    ·omega
   have e2:l.take i++[l.getD i 0]=l.take (i+1):=by
    rw[List.take_add_one,List.getD_eq_getElem?_getD,List.getElem?_eq_getElem hlt];rfl
   simp only;rw[e,e2];have:=Ax_ hv t k (i+1) (by omega) (by omega);rw[if_neg (by omega),Nat.add_sub_cancel]at this;exact this
theorem Iq_{l:List Int}(hv:bt_ l 1024=0)(t:List UInt8):eq_ (jd_ l++t) 0=(l,t,0):=by
 have hl:=FL_ (n:=1024) hv;have h1:=nI_ (n:=l.length) (m:=1024) (by omega) (by omega) (by omega) (fT_ l 0++t);rw[Int.toNat_natCast]at h1;unfold eq_;rw[jd_,List.append_assoc,h1];have:=Ax_ hv t _ 0 rfl (by omega);simpa using this
theorem wA_:∀ (l acc:List Int) (t:List UInt8),(∀n∈l,U64 n)→dr_ l.length acc (oc_ l++t) 0=(acc++l,t,0)
 | [],acc,t,_=>by simp[dr_,oc_]
 | n :: l, acc, t, h => by
   rw[List.length_cons,dr_,if_neg (by simp),oc_,List.append_assoc,lo_ (h n (by simp))];simp only;rw[wA_ l (acc++[n]) t (fun m hm=>h m (by simp[hm]))];simp
theorem At_(x:Att)(l:List Int)(h1:U64 x.slot)(h2:U64 x.target.ep)(hv:bt_ l 1024=0):iT_ (Dz_ x l) 0=((x.slot,x.root,x.target,l),[],0):=by
 have e:=Iq_ hv [];rw[List.append_nil]at e;unfold iT_;simp only[Dz_,List.append_assoc,lo_ h1,rn_,rk_ h2,e]
theorem Av_{x:Clm}{l:List Int}{cl:Bool}(h:kc_ x l cl)(hv:bt_ l 1024=0)(t:List UInt8):gX_ (iz_ x l++t) 0=((x.src,x.tgt,x.root,l),t,0):=by
 unfold gX_;simp only[iz_,List.append_assoc,lo_ h.src,lo_ h.tgt,rn_,Iq_ hv]
theorem Az_{x:Slg}{l1 l2:List Int}{c1 c2:Bool}(h1:kc_ x.fst l1 c1)(h2:kc_ x.snd l2 c2)(v1:bt_ l1 1024=0)(v2:bt_ l2 1024=0):hp_ (ry_ x l1 l2) 0=(((x.fst.src,x.fst.tgt,x.fst.root,l1),(x.snd.src,x.snd.tgt,x.snd.root,l2)),[],0):=by
 have e:=Av_ h2 v2 [];rw[List.append_nil]at e;unfold hp_;simp only[ry_,Av_ h1 v1,e]
theorem AA_{x:Tab}{l:List Int}{cl:Bool}(h:xu_ x l cl)(hl:l.length≤1024):gb_ (rE_ x l) 0=((x.cp,l),[],0):=by
 have h1:=nI_ (n:=l.length) (m:=1024) (by omega) (by omega) (by omega) (oc_ l);rw[Int.toNat_natCast]at h1;have e:=wA_ l [] [] h.all;rw[List.append_nil]at e;unfold gb_;simp only[rE_,cy_,List.append_assoc,lo_ h.ep,rn_,h1,Int.toNat_natCast,e];rfl
theorem AB_(x:Vdt)(h1:U64 x.tag)(h2:¬mg_ x):ka_ (FN_ x) 0=(x,[],0):=by
 unfold mg_ at h2;have e:=rn_ x.latest [];rw[List.append_nil]at e;unfold ka_;simp only[FN_,List.append_assoc,lo_ h1,nI_ (n:=x.kind) (m:=4) (by omega) (by omega) (by omega),e]
theorem Au_(x:Blk)(h:hZ_ x)(hd:∀n∈x.diff.1,0≤n∧n<18446744073709551616)(hp:∀n∈x.pdiff.1,0≤n∧n<18446744073709551616)(t:List UInt8):ho_ (GJ_ x++t) 0=(x,t,0):=by
 have w1:=fun t=>(wC_ x.diff hd).full t
 have w2:=fun t=>(wC_ x.pdiff hp).full t
 have b1:=fun t=>(Hp_ x.timely).full t
 unfold ho_;simp only[GJ_,List.append_assoc,lo_ h.slot,rn_,w1,w2,rk_ h.just,rk_ h.fin,rk_ h.j,rk_ h.f,b1]
theorem Ay_:∀ (n:Nat) (acc:List Int) (bs:List UInt8) (e:Int),(dr_ n acc bs e).1.length≤acc.length+n
 |0,_,_,_=>Nat.le_refl _
 | n + 1, acc, bs, e => by
   rw[dr_];split
   ·simp only;omega
   ·have:=Ay_ n (acc++[(ap_ bs e bh_).1]) (ap_ bs e bh_).2.1 (ap_ bs e bh_).2.2;simp only[List.length_append,List.length_cons,List.length_nil]at this;omega
theorem Nk_(b:List UInt8)(e:Int):(gb_ b e).1.2.length≤1024:=by
 unfold gb_;simp only;have h1:=Ay_ (ap_ (bc_ (ap_ b e bh_).2.1 (ap_ b e bh_).2.2).2.1 (bc_ (ap_ b e bh_).2.1 (ap_ b e bh_).2.2).2.2 1024).1.toNat [] (ap_ (bc_ (ap_ b e bh_).2.1 (ap_ b e bh_).2.2).2.1 (bc_ (ap_ b e bh_).2.1 (ap_ b e bh_).2.2).2.2 1024).2.1 (ap_ (bc_ (ap_ b e bh_).2.1 (ap_ b e bh_).2.2).2.1 (bc_ (ap_ b e bh_).2.1 (ap_ b e bh_).2.2).2.2 1024).2.2;have h2:=cO_ (bc_ (ap_ b e bh_).2.1 (ap_ b e bh_).2.2).2.1 (bc_ (ap_ b e bh_).2.1 (ap_ b e bh_).2.2).2.2 1024 (by omega);simp only[List.length_nil]at h1;omega
theorem Ma_(b:List UInt8):(iE_ b.length (iT_ b 0)).1.2.2.2.length≤1024:=by
 unfold iE_;have h:(iT_ b 0).1.2.2.2.length≤1024:=nH_ _ _;(repeat' split)<;>first|exact h|simp[dj_]
theorem Mb_(b:List UInt8):(hH_ b.length (hp_ b 0)).1.1.2.2.2.length≤1024∧(hH_ b.length (hp_ b 0)).1.2.2.2.2.length≤1024:=by
 unfold hH_;have h1:(hp_ b 0).1.1.2.2.2.length≤1024:=nh_ _ _;have h2:(hp_ b 0).1.2.2.2.2.length≤1024:=nh_ _ _;(repeat' split)<;>first|exact⟨h1,h2⟩|simp[cV_,fP_]
theorem Mc_(b:List UInt8):(dec cP_ b.length (gb_ b 0)).1.2.length≤1024:=by
 unfold dec;have h:=Nk_ b 0;split<;>first|exact h|simp[cP_]
theorem DF_(x:Int×Rt×Cp×List Int)(ρ:Nat→Nat):(dT_ x).map (ren ρ)=dT_ x:=by simp only[dT_,Att.map,ren,ck_]
theorem HS_(x:Int×Rt×Cp×List Int)(σ:St)(zs:List Nat):(dT_ x).map (fz σ zs)=dT_ x:=by simp only[dT_,Att.map,fz,cR_]
theorem Jb_(x:Int×Rt×Cp×List Int):(dT_ x).good=true:=rfl
theorem Fu_(x:Sv)(ρ:Nat→Nat):(dP_ x).map (ren ρ)=dP_ x:=by simp only[dP_,Slg.map,DN_]
theorem IB_(x:Sv)(σ:St)(zs:List Nat):(dP_ x).map (fz σ zs)=dP_ x:=by simp only[dP_,Slg.map,HT_]
theorem KS_(x:Sv):(dP_ x).good=true:=rfl
attribute [go_sem] DF_ HS_ Jb_ Fu_ IB_ KS_
theorem U64.of{n:Int}(h:(Lit.int .u64 n).wf=true):U64 n:=⟨(bounds_u64 h).1,by have:=(bounds_u64 h).2;omega⟩
end Go.Proofs.YtipiipgpnkpejaaGreat
