/-
 My texts Ej, Ek, El, Em, joined.
-/
import Derived.Test.YtipiipgpnkpejaaGreatW8
import Derived.Test.YtipiipgpnkpejaaGreatW3
namespace Go.Proofs.YtipiipgpnkpejaaGreat
open Go Go.FH Go.RowKit
set_option linter.unusedVariables false
set_option linter.unusedSimpArgs false
abbrev rr(n:Int):br_:=.var [.ptr 0 0,.int .i64 n]
theorem kP_(b:List UInt8):ar_ Tryz.prog 78 [.sl 1 false (bts b)] [] (.ptr 1 0) [rdr false b 0,rr b.length]:=by
 refine ar_.fact 3 nW_ (by simp) ?_ (by simp);unfold hv_;refine bd ?_;try refine aa_ ?_
 refine am_ [] (tq_ b) evd (aj_.mk' (by simp) evd) ?_;refine evg ?_;try refine aa_ ?_
 exact Sg_ [] [0,1]
theorem fn_(b:List UInt8)(e n:Int)(hb:b.length≤140737488355328):
 ar_ Tryz.prog 79 [.ptr 1 0] [rdr false b e,rr n] (.int .u64 (ap_ b e bh_).1) [rdr false (ap_ b e bh_).2.1 (ap_ b e bh_).2.2,rr n]:=by
 refine ar_.fact 3 kI_ (by simp) ?_ (by simp);unfold fv_;refine bd ?_;have hu:=eP_ b false e bh_ hb;generalize ap_ b e bh_=U at *;obtain⟨u,b1,e1⟩:=U;dsimp only at hu ⊢;try refine aa_ ?_
 refine am_ [0] (hu) evd (aj_.mk' (by simp) evd) ?_;refine evg ?_;try refine aa_ ?_
 exact Sg_ [] [0,1]
theorem cO_(b:List UInt8)(e m:Int)(hm:0≤m):(ap_ b e m).1≤m:=by
 unfold ap_;(repeat' split)<;>first|omega|(simp only;omega)
theorem wP_(b:List UInt8)(e n:Int)(hb:b.length≤140737488355328):
 ar_ Tryz.prog 82 [.ptr 1 0] [rdr false b e,rr n] (.sl 1 false (aq_ .i64 (eq_ b e).1)) [rdr false (eq_ b e).2.1 (eq_ b e).2.2,rr n]:=by
 refine ar_.fact 7 md_ (by simp) ?_ (by simp);unfold gh_;refine bd ?_;have hu:=eP_ b false e 1024 hb;have hl:=bX_ b e 1024;have hu0:=bK_ b e 1024;have hu1:=cO_ b e 1024 (by omega);have hL:gY_ (ap_ b e 1024).1.toNat (-1) [] (ap_ b e 1024).2.1 (ap_ b e 1024).2.2=eq_ b e:=rfl;generalize eq_ b e=L at *;generalize ap_ b e 1024=U at *;obtain⟨u,b1,e1⟩:=U;dsimp only at hu hu0 hu1 hl hL ⊢;have hw0:IntKind.i64.wrap u=u:=ai_ (by omega) (by omega);try refine aa_ ?_
 refine am_ [0] (hu) evd (aj_.mk' (by simp) evd) ?_;refine evg ?_;repeat(first|refine aa_ ?_|simp only[go_sem,hw0])
 refine bF_ (fun x:Bool×Int×List Int×List UInt8×Int=>⟨7,[.ptr 1 0,.dead,.sl 0 true [],if x.1 then .hs 1 2 0 x.2.2.1.length else .sl 0 true [],.int .i64 u,.int .i64 x.2.2.1.length,.dead],[]⟩)
  (fun x=>if x.1 then [rdr false x.2.2.2.1 x.2.2.2.2,rr n,.vec 1 (aq_ .i64 x.2.2.1)]else [rdr false x.2.2.2.1 x.2.2.2.2,rr n]) (fun x=>u.toNat-x.2.2.1.length)
  (fun x=>gY_ (u.toNat-x.2.2.1.length) x.2.1 x.2.2.1 x.2.2.2.1 x.2.2.2.2=L∧x.2.2.1.length≤u.toNat∧x.2.2.2.1.length≤b.length∧-1≤x.2.1∧x.2.1≤1025*x.2.2.1.length∧(x.1=false→x.2.2.1=[]∧x.2.1=-1)∧(x.1=true→0<x.2.2.1.length∧x.2.2.1.getD (x.2.2.1.length-1) 0=x.2.1))
  (false,-1,[],b1,e1) ⟨by simpa using hL,by simp,hl,by simp,by simp,by simp,by simp⟩ ?_ ?_
 ·exact Sn_ [] [0,1]
 rintro⟨st,last,acc,bb,ee⟩ ⟨i1,i2,i3,i4,i5,i6,i7⟩;dsimp only at i1 i2 i3 i4 i5 i6 i7 ⊢;have hw1:=ag_ (n:=acc.length+1) (i:=acc.length) (by omega) (by omega);have c1:=dU_ bb false ee;have c2:=eP_ bb false ee 1024 (by omega);by_cases hi:acc.length<u.toNat
 ·have hi':decide ((acc.length:Int)<u)=true:=by rw[decide_eq_true_eq];omega
  obtain⟨k,hk⟩:∃k,u.toNat-acc.length=k+1:=⟨u.toNat-acc.length-1,by omega⟩
  rw[hk,gY_]at i1;by_cases he:ee=0
  ·subst he
   rw[if_neg (by simp)]at i1;have v0:=bK_ bb 0 1024;have v1:=cO_ bb 0 1024 (by omega);have v2:=bX_ bb 0 1024;generalize ap_ bb 0 1024=V at *;obtain⟨v,b2,e2⟩:=V;dsimp only at v0 v1 v2 c2 i1;have hwv:IntKind.i64.wrap v=v:=ai_ (by omega) (by omega);cases st with
   | false =>
     obtain⟨rfl,rfl⟩:=i6 rfl;simp only[List.length_nil]at hi hk i2;have hi0:decide ((0:Int)<u)=true:=by rw[decide_eq_true_eq];omega
     have hwz:IntKind.i64.wrap ((0:Int)+1)=1:=by decide
     repeat(first|refine aa_ ?_|simp only[go_sem,hi0])
     refine am_ [0] (c1) evd (aj_.mk' (by simp) evd) ?_;refine evg ?_;try refine aa_ ?_
     refine Rf_ ?_
     refine am_ [0] (c2) evd (aj_.mk' (by simp) evd) ?_;refine evg ?_;repeat(first|refine aa_ ?_|simp only[go_sem,hwv])
     refine ab_ ?_;repeat(first|refine aa_ ?_|simp only[go_sem,hwv,hwz])
     refine⟨(true,v,[v],b2,e2),⟨?_,?_,?_,?_,?_,?_,?_⟩,?_,?_⟩
     ·have e0:(-1:Int)+1+v=v:=by omega
      rw[e0]at i1;simp only[List.length_cons,List.length_nil];rw[show u.toNat-(0+1)=k by omega];exact i1
     ·simp only[List.length_cons,List.length_nil];omega
     ·dsimp only;omega
     ·dsimp only;omega
     ·simp only[List.length_cons,List.length_nil];omega
     ·simp
     ·simp
     ·simp only[List.length_cons,List.length_nil];omega
     ·exact Sn_ [] [0,1,2]
   | true =>
     obtain⟨p1,p2⟩:=i7 rfl;have hg:=di_ (k:=.i64) (show acc.length-1<acc.length by omega);rw[p2]at hg;have hp:decide ((0:Int)<(acc.length:Int))=true:=by rw[decide_eq_true_eq];omega
     have hwm:IntKind.i64.wrap ((acc.length:Int)-1)=((acc.length-1:Nat):Int):=by rw[ai_ (by omega) (by omega)];omega
     have hwl:IntKind.i64.wrap (last+1)=last+1:=ai_ (by omega) (by omega);have hwn:IntKind.i64.wrap (v+(last+1))=last+1+v:=by rw[ai_ (by omega) (by omega)];omega
     repeat(first|refine aa_ ?_|simp only[go_sem,hi'])
     refine am_ [0] (c1) evd (aj_.mk' (by simp) evd) ?_;refine evg ?_;try refine aa_ ?_
     refine Rf_ ?_
     refine am_ [0] (c2) evd (aj_.mk' (by simp) evd) ?_;refine evg ?_;repeat(first|refine aa_ ?_|simp only[go_sem,hwv])
     refine ac_ ?_ (by(try simp only[go_sem,hp]);try exact evd);repeat(first|refine aa_ ?_|simp only[go_sem,hwm,hg,hwl,hwn,hw1])
     refine⟨(true,last+1+v,acc++[last+1+v],b2,e2),⟨?_,?_,?_,?_,?_,?_,?_⟩,?_,?_⟩
     ·simp only[List.length_append,List.length_cons,List.length_nil];rw[show u.toNat-(acc.length+(0+1))=k by omega];exact i1
     ·simp only[List.length_append,List.length_cons,List.length_nil];omega
     ·dsimp only;omega
     ·dsimp only;omega
     ·simp only[List.length_append,List.length_cons,List.length_nil];omega
     ·simp
     ·intro _;simp only[List.length_append,List.length_cons,List.length_nil];exact⟨by omega,by simp[List.getD_eq_getElem?_getD]⟩
     ·simp only[List.length_append,List.length_cons,List.length_nil];omega
     ·exact Sn_ [] [0,1,3]
  ·have he':(ee==0)=false:=by simpa using he
   rw[if_pos he]at i1;cases st with
   | false =>
     obtain⟨rfl,rfl⟩:=i6 rfl;simp only[List.length_nil]at hi hk i2;have hi0:decide ((0:Int)<u)=true:=by rw[decide_eq_true_eq];omega
     rw[←i1];repeat(first|refine aa_ ?_|simp only[go_sem,hi0])
     refine am_ [0] (c1) evd (aj_.mk' (by simp) evd) ?_;refine evg ?_;repeat(first|refine aa_ ?_|simp only[go_sem,he'])
     refine Re_ ?_
     refine gk_ [] [0,1] _ (by simp) (by first|rfl|exact evd) (by simp) rfl (by simp) (by simp) evd evd (Wk.empty 0 1 _)
   | true =>
     rw[←i1];repeat(first|refine aa_ ?_|simp only[go_sem,hi'])
     refine am_ [0] (c1) evd (aj_.mk' (by simp) evd) ?_;refine evg ?_;repeat(first|refine aa_ ?_|simp only[go_sem,he'])
     refine Re_ ?_
     exact Sg_ [2] [0,1]
 ·have hi':decide ((acc.length:Int)<u)=false:=by rw[decide_eq_false_iff_not];omega
  rw[show u.toNat-acc.length=0 by omega,gY_]at i1;cases st with
  | false =>
    obtain⟨rfl,rfl⟩:=i6 rfl;have hi0:decide ((0:Int)<u)=false:=by simpa using hi'
    rw[←i1];repeat(first|refine aa_ ?_|simp only[go_sem,hi0])
    refine Re_ ?_
    refine gk_ [] [0,1] _ (by simp) (by first|rfl|exact evd) (by simp) rfl (by simp) (by simp) evd evd (Wk.empty 0 1 _)
  | true =>
    rw[←i1];repeat(first|refine aa_ ?_|simp only[go_sem,hi'])
    refine Re_ ?_
    exact Sg_ [2] [0,1]
def lsl(ls:List (List Int)):List (List AV):=ls.map fun l=>[.sl 1 false (aq_ .i64 l)]
theorem Lw_(ls:List (List Int)):dx_ (lsl ls):=by
 rw[kd_];intro x hx;obtain⟨l,_,rfl⟩:=List.mem_map.1 hx;exact⟨aL_ _ _,trivial⟩
theorem Kx_(ρ:Nat→Nat)(ls:List (List Int)):cj_ ρ (lsl ls)=lsl ls:=(Lw_ ls).ren ρ
theorem Mp_(σ:St)(zs:List Nat)(ls:List (List Int)):eL_ σ zs (lsl ls)=lsl ls:=(Lw_ ls).fz σ zs
theorem GV_(ls:List (List Int)):(lsl ls).length=ls.length:=by simp[lsl]
theorem Mz_{ls:List (List Int)}{i:Nat}(h:i<ls.length):(lsl ls).getD i []=[.sl 1 false (aq_ .i64 (ls.getD i []))]:=by
 simp[lsl,List.getD_eq_getElem?_getD,h]
attribute [go_sem] Kx_ Mp_ GV_
def iO_(ls:List (List Int))(i:Nat):Bool:=(ls.drop i).all fun l=>bt_ l 1024==0
theorem MU_{ls:List (List Int)}{i:Nat}(h:i<ls.length):iO_ ls i=((bt_ (ls.getD i []) 1024==0)&&iO_ ls (i+1)):=by
 unfold iO_;rw[List.drop_eq_getElem_cons h,List.all_cons,List.getD_eq_getElem?_getD,List.getElem?_eq_getElem h];rfl
def qC_(n:Int)(ls:List (List Int))(b:List UInt8)(e:Int):Int×Int:=if e≠0 then (0,e)else if iO_ ls 0 then (n-b.length,0)else (0,2)
theorem hY_(b:List UInt8)(e n:Int)(ls:List (List Int))(cl:Bool)(hb:b.length≤n)(hn:n≤140737488355328)(hls:ls.length≤1000)(hl:∀i,i<ls.length→(ls.getD i []).length≤140737488355328):
 ar_ Tryz.prog 83 [.ptr 1 0,.sl 1 cl (lsl ls)] [rdr false b e,rr n] (.tup [.int .i64 (qC_ n ls b e).1,.int .i64 (qC_ n ls b e).2]) [rdr false b e,rr n]:=by
 refine ar_.fact 20 mL_ (by simp) ?_ (by simp);unfold gK_ qC_;refine bd ?_;have c1:=dU_ b false e;have c2:=sG_ b false e;by_cases he:e=0
 ·subst he
  simp only[ne_eq,not_true_eq_false,if_false];try refine aa_ ?_
  refine am_ [0] (c1) evd (aj_.mk' (by simp) evd) ?_;refine evg ?_;try refine aa_ ?_
  refine Re_ ?_
  refine dn_ (fun i:Nat=>⟨20,[.ptr 1 0,.sl 1 cl (lsl ls),.dead,.dead,.int .i64 0,.int .i64 0,.int .i64 0,.dead,.dead,.dead,.dead,.dead,.dead,.dead,.dead,.dead,.dead,.sl 1 cl (lsl ls),.int .i64 ls.length,.int .i64 i],[]⟩) (fun _=>[rdr false b 0,rr n]) (fun i=>ls.length-i)
   (fun i=>i≤ls.length∧iO_ ls i=iO_ ls 0) [7,8,9,10,11,12,13,14,15,16] 0 ⟨by omega,rfl⟩ evd rfl ?_
  rintro i ⟨i1,i2⟩;try dsimp only
  try refine aa_ ?_
  refine au_ evd (fun h=>?_) (fun h=>?_)
  ·have hi:i<ls.length:=by simpa using h
   have hg:=Mz_ hi;have hv:=lv_ (ls.getD i []) false 1024 (hl i hi);have hw:=ag_ hi (by omega);rw[MU_ hi]at i2;by_cases hq:bt_ (ls.getD i []) 1024=0
   ·rw[hq]at hv i2;simp only[beq_self_eq_true,Bool.true_and]at i2;repeat(first|refine aa_ ?_|simp only[go_sem,hg])
    refine RV_ hv ?_
    refine ab_ ?_;repeat(first|refine aa_ ?_|simp only[go_sem,hw])
    exact⟨i+1,⟨hi,i2⟩,by omega,rfl⟩
   ·have hq':(bt_ (ls.getD i []) 1024 != 0)=true:=by simpa using hq
    have hq2:(bt_ (ls.getD i []) 1024==0)=false:=by simpa using hq
    rw[hq2,Bool.false_and]at i2;rw[←i2];repeat(first|refine aa_ ?_|simp only[go_sem,hg])
    refine RV_ hv ?_
    refine ac_ ?_ (by(try simp only[go_sem,hq']);try exact evd);try refine aa_ ?_
    exact Sg_ [] [0,1]
  ·have hi:i=ls.length:=by simp at h;omega
   subst hi;have:iO_ ls ls.length=true:=by simp[iO_]
   rw[←i2,this];simp only[if_true];have hw:IntKind.i64.wrap (n-(b.length:Int))=n-b.length:=ai_ (by omega) (by omega);try refine aa_ ?_
   refine iD_ [0] (c2) evd (aj_.mk' (by simp) evd) ?_;refine evg ?_;repeat(first|refine aa_ ?_|simp only[go_sem,hw])
   exact Sg_ [] [0,1]
 ·have he':(e != 0)=true:=by simpa using he
  simp only[ne_eq,he,not_false_eq_true,if_true];try refine aa_ ?_
  refine am_ [0] (c1) evd (aj_.mk' (by simp) evd) ?_;refine evg ?_;try refine aa_ ?_
  refine ac_ ?_ (by(try simp only[go_sem,he']);try exact evd);try refine aa_ ?_
  exact Sg_ [] [0,1]
theorem Ks_(b:List UInt8)(e:Int):(ep_ b e).2.1.length≤b.length:=by
 unfold ep_;split
 ·exact Nat.le_refl _
 ·split
  ·exact Nat.le_refl _
  ·split
   ·exact Nat.le_refl _
   ·simp
theorem AC_(b:List UInt8)(e:Int):(er_ b e).2.1.length≤b.length:=eg_ b e
theorem rl_(b:List UInt8)(e:Int):(rCp b e).2.1.length≤b.length:=by
 unfold rCp;split
 ·exact Nat.le_refl _
 ·exact Nat.le_trans (eg_ _ _) (bX_ _ _ _)
theorem Gh_(pul:Pul)(slot:Int)(root parent payload:Rt)(diff pdiff:Wd)(just fin:Cp)(timely:Bool):
 cT_ pul++.int .u64 slot::(rtc root++(rtc parent++(rtc payload++(wdc diff++(wdc pdiff++(cpC just++aS_ ⟨fin,.bool timely⟩))))))=aw_ ⟨pul,slot,root,parent,payload,diff,pdiff,just,fin,timely⟩:=rfl
attribute [go_sem] Gh_
def ho_(b0:List UInt8)(e0:Int):Blk×List UInt8×Int:=
 let s:=ap_ b0 e0 bh_
 let r:=bc_ s.2.1 s.2.2
 let p:=bc_ r.2.1 r.2.2
 let y:=bc_ p.2.1 p.2.2
 let d:=er_ y.2.1 y.2.2
 let g:=er_ d.2.1 d.2.2
 let j:=rCp g.2.1 g.2.2
 let f:=rCp j.2.1 j.2.2
 let u:=rCp f.2.1 f.2.2
 let v:=rCp u.2.1 u.2.2
 let t:=ep_ v.2.1 v.2.2
 (⟨⟨u.1,v.1⟩,s.1,r.1,p.1,y.1,d.1,g.1,j.1,f.1,t.1⟩,t.2.1,t.2.2)
def dec{α:Type}(z:α)(n:Nat)(x:α×List UInt8×Int):α×Int×Int:=if x.2.2≠0 then (z,0,x.2.2)else (x.1,((n-x.2.1.length:Nat):Int),0)
theorem ny_(n:Int)(b:List UInt8)(e:Int):qC_ n [] b e=if e≠0 then (0,e)else (n-b.length,0):=by simp[qC_,iO_]
set_option maxRecDepth 100000 in
theorem Nm_(b:List UInt8)(hb:b.length≤140737488355328):
 PC Tryz.prog 45 [.sl 1 false (bts b)] (.tup [.agg (aw_ (dec bj_ b.length (ho_ b 0)).1),.int .i64 (dec bj_ b.length (ho_ b 0)).2.1,.int .i64 (dec bj_ b.length (ho_ b 0)).2.2]):=by
 refine PC.fact 6 lZ_ (by simp) ⟨bO_ b,trivial⟩ ⟨dA_ _,trivial,trivial,trivial⟩ ?_;unfold gd_;refine bd ?_;rcases h1:ap_ b 0 bh_ with⟨s,b1,e1⟩
 rcases h2:bc_ b1 e1 with⟨r,b2,e2⟩
 rcases h3:bc_ b2 e2 with⟨p,b3,e3⟩
 rcases h4:bc_ b3 e3 with⟨y,b4,e4⟩
 rcases h5:er_ b4 e4 with⟨d,b5,e5⟩
 rcases h6:er_ b5 e5 with⟨g,b6,e6⟩
 rcases h7:rCp b6 e6 with⟨j,b7,e7⟩
 rcases h8:rCp b7 e7 with⟨f,b8,e8⟩
 rcases h9:rCp b8 e8 with⟨u,b9,e9⟩
 rcases h10:rCp b9 e9 with⟨v,b10,e10⟩
 rcases h11:ep_ b10 e10 with⟨t,b11,e11⟩
 have hB:ho_ b 0=(⟨⟨u,v⟩,s,r,p,y,d,g,j,f,t⟩,b11,e11):=by simp only[ho_,h1,h2,h3,h4,h5,h6,h7,h8,h9,h10,h11]
 have l1:=bX_ b 0 bh_;rw[h1]at l1;have l2:=eg_ b1 e1;rw[h2]at l2;have l3:=eg_ b2 e2;rw[h3]at l3;have l4:=eg_ b3 e3;rw[h4]at l4;have l5:=AC_ b4 e4;rw[h5]at l5;have l6:=AC_ b5 e5;rw[h6]at l6;have l7:=rl_ b6 e6;rw[h7]at l7;have l8:=rl_ b7 e7;rw[h8]at l8;have l9:=rl_ b8 e8;rw[h9]at l9;have l10:=rl_ b9 e9;rw[h10]at l10;have l11:=Ks_ b10 e10;rw[h11]at l11;dsimp only at l1 l2 l3 l4 l5 l6 l7 l8 l9 l10 l11;have c1:=fn_ b 0 b.length (by omega);rw[h1]at c1;have c2:=eM_ b1 false e1 (by omega);rw[h2]at c2;have c3:=eM_ b2 false e2 (by omega);rw[h3]at c3;have c4:=eM_ b3 false e3 (by omega);rw[h4]at c4;have c5:=Bg_ b4 false e4 (by omega);rw[h5]at c5;have c6:=Bg_ b5 false e5 (by omega);rw[h6]at c6;have c7:=qv_ b6 false e6 (by omega);rw[h7]at c7;have c8:=qv_ b7 false e7 (by omega);rw[h8]at c8;have c9:=qv_ b8 false e8 (by omega);rw[h9]at c9;have c10:=qv_ b9 false e9 (by omega);rw[h10]at c10;have c11:=Ji_ b10 false e10 (by omega);rw[h11]at c11;have ce:=(hY_ b11 e11 b.length [] true (by omega) (by omega) (by simp) (by simp)).wk (xs:=[.ptr 1 0,.sl 0 true []]) ⟨Wk.refl _,Wk.empty 0 1 _,trivial⟩;rw[ny_]at ce;dsimp only at c1 c2 c3 c4 c5 c6 c7 c8 c9 c10 c11;rw[hB];unfold dec;dsimp only;try refine aa_ ?_
 refine am_ [] (kP_ b) evd (aj_.mk' (by simp) evd) ?_;refine evg ?_;try refine aa_ ?_
 refine am_ [1,2] (c1) evd (aj_.mk' (by simp) evd) ?_;refine evg ?_;try refine aa_ ?_
 refine iC_ [1] (c2) (by simp) evd (aj_.mk' (by simp) evd) ?_;refine evg ?_;try refine aa_ ?_
 refine iC_ [1] (c3) (by simp) evd (aj_.mk' (by simp) evd) ?_;refine evg ?_;try refine aa_ ?_
 refine iC_ [1] (c4) (by simp) evd (aj_.mk' (by simp) evd) ?_;refine evg ?_;try refine aa_ ?_
 refine iC_ [1] (c5) (by simp) evd (aj_.mk' (by simp) evd) ?_;refine evg ?_;try refine aa_ ?_
 refine iC_ [1] (c6) (by simp) evd (aj_.mk' (by simp) evd) ?_;refine evg ?_;try refine aa_ ?_
 refine iC_ [1] (c7) (by simp) evd (aj_.mk' (by simp) evd) ?_;refine evg ?_;try refine aa_ ?_
 refine iC_ [1] (c8) (by simp) evd (aj_.mk' (by simp) evd) ?_;refine evg ?_;try refine aa_ ?_
 refine iC_ [1] (c9) (by simp) evd (aj_.mk' (by simp) evd) ?_;refine evg ?_;try refine aa_ ?_
 refine iC_ [1] (c10) (by simp) evd (aj_.mk' (by simp) evd) ?_;refine evg ?_;try refine aa_ ?_
 refine am_ [1] (c11) evd (aj_.mk' (by simp) evd) ?_;refine evg ?_;try refine aa_ ?_
 by_cases he:e11=0
 ·subst he;simp only[ne_eq,not_true_eq_false,if_false]at ce ⊢;rw[show ((b.length:Int)-(b11.length:Int))=((b.length-b11.length:Nat):Int)by omega]at ce;refine am_ [1,2] (ce) evd (aj_.mk' (by simp) evd) ?_;refine evg ?_;try refine aa_ ?_
  refine Re_ ?_
  exact ah_
 ·have he':(e11 != 0)=true:=by simpa using he
  simp only[ne_eq,he,not_false_eq_true,if_true]at ce ⊢;refine am_ [1,2] (ce) evd (aj_.mk' (by simp) evd) ?_;refine evg ?_;try refine aa_ ?_
  refine ac_ ?_ (by(try simp only[go_sem,he']);try exact evd);try refine aa_ ?_
  exact ah_
def ka_(b0:List UInt8)(e0:Int):Vdt×List UInt8×Int:=
 let s:=ap_ b0 e0 bh_
 let k:=ap_ s.2.1 s.2.2 4
 let r:=bc_ k.2.1 k.2.2
 (⟨s.1,k.1,r.1⟩,r.2.1,r.2.2)
def jO_(n:Nat)(x:Vdt×List UInt8×Int):Vdt×Int×Int:=if x.2.2≠0 then (bL_,0,x.2.2)else if x.1.kind=0 then (bL_,0,2)else (x.1,((n-x.2.1.length:Nat):Int),0)
theorem Np_(b:List UInt8)(hb:b.length≤140737488355328):
 PC Tryz.prog 55 [.sl 1 false (bts b)] (.tup [.agg (bW_ (jO_ b.length (ka_ b 0)).1),.int .i64 (jO_ b.length (ka_ b 0)).2.1,.int .i64 (jO_ b.length (ka_ b 0)).2.2]):=by
 refine PC.fact 6 kG_ (by simp) ⟨bO_ b,trivial⟩ ⟨gG_ _,trivial,trivial,trivial⟩ ?_;unfold ft_;refine bd ?_;rcases h1:ap_ b 0 bh_ with⟨s,b1,e1⟩
 rcases h2:ap_ b1 e1 4 with⟨k,b2,e2⟩
 rcases h3:bc_ b2 e2 with⟨r,b3,e3⟩
 have hB:ka_ b 0=(⟨s,k,r⟩,b3,e3):=by simp only[ka_,h1,h2,h3]
 have l1:=bX_ b 0 bh_;rw[h1]at l1;have l2:=bX_ b1 e1 4;rw[h2]at l2;have l3:=eg_ b2 e2;rw[h3]at l3;have k0:=bK_ b1 e1 4;rw[h2]at k0;have k4:=cO_ b1 e1 4 (by omega);rw[h2]at k4;dsimp only at l1 l2 l3 k0 k4;have c1:=fn_ b 0 b.length (by omega);rw[h1]at c1;have c2:=eP_ b1 false e1 4 (by omega);rw[h2]at c2;have c3:=eM_ b2 false e2 (by omega);rw[h3]at c3;have ce:=(hY_ b3 e3 b.length [] true (by omega) (by omega) (by simp) (by simp)).wk (xs:=[.ptr 1 0,.sl 0 true []]) ⟨Wk.refl _,Wk.empty 0 1 _,trivial⟩;rw[ny_]at ce;dsimp only at c1 c2 c3;have hw:IntKind.i64.wrap k=k:=ai_ (by omega) (by omega);rw[hB];unfold jO_;dsimp only;try refine aa_ ?_
 refine am_ [] (kP_ b) evd (aj_.mk' (by simp) evd) ?_;refine evg ?_;try refine aa_ ?_
 refine am_ [1,2] (c1) evd (aj_.mk' (by simp) evd) ?_;refine evg ?_;try refine aa_ ?_
 refine am_ [1] (c2) evd (aj_.mk' (by simp) evd) ?_;refine evg ?_;repeat(first|refine aa_ ?_|simp only[go_sem,hw])
 refine am_ [1] (c3) evd (aj_.mk' (by simp) evd) ?_;refine evg ?_;try refine aa_ ?_
 by_cases he:e3=0
 ·subst he
  simp only[ne_eq,not_true_eq_false,if_false]at ce ⊢;rw[show ((b.length:Int)-(b3.length:Int))=((b.length-b3.length:Nat):Int)by omega]at ce;refine am_ [1,2] (ce) evd (aj_.mk' (by simp) evd) ?_;refine evg ?_;by_cases hk:k=0
  ·subst hk;simp only[if_true];try refine aa_ ?_
   refine Rf_ ?_
   refine Rf_ ?_
   exact ah_
  ·have hk':(k==0)=false:=by simpa using hk
   simp only[hk,if_false];repeat(first|refine aa_ ?_|simp only[go_sem,hk'])
   refine ab_ ?_ (by(try simp only[go_sem,hk']);try exact evd);try refine aa_ ?_
   refine Re_ ?_
   exact ah_
 ·have he':(e3==0)=false:=by simpa using he
  have he2:(e3 != 0)=true:=by simpa using he
  simp only[ne_eq,he,not_false_eq_true,if_true]at ce ⊢;refine am_ [1,2] (ce) evd (aj_.mk' (by simp) evd) ?_;refine evg ?_;repeat(first|refine aa_ ?_|simp only[go_sem,he'])
  refine ab_ ?_ (by(try simp only[go_sem,he']);try exact evd);repeat(first|refine aa_ ?_|simp only[go_sem,he2])
  refine ac_ ?_ (by(try simp only[go_sem,he2]);try exact evd);try refine aa_ ?_
  exact ah_
def WkC:List AV→List AV→Prop
 | [],[]=>True
 |c::cs,d::ds=>Wk c d∧(c.cell=true→d.cell=true)∧WkC cs ds
 |_,_=>False
theorem WkC.refl:∀cs:List AV,WkC cs cs
 | []=>trivial
 |c::cs=>⟨Wk.refl c,fun h=>h,WkC.refl cs⟩
theorem WkC.app:∀ {a b c d:List AV},WkC a b→WkC c d→WkC (a++c) (b++d)
 | [],[],_,_,_,h=>h
 |_::_,_::_,_,_,h1,h2=>⟨h1.1,h1.2.1,WkC.app h1.2.2 h2⟩
 | [],_::_,_,_,h,_|_::_,[],_,_,h,_=>h.elim
theorem WkC.rlc{E:Env}:∀ {cs ds:List AV} {us:List Value},WkC cs ds→RlC E cs us→RlC E ds us
 | [],[],_,_,h=>h
 |_::_,_::_,_,hw,⟨u,us,e,h1,h2,h3⟩=>⟨u,us,e,hw.2.1 h1,hw.1 _ _ h2,WkC.rlc hw.2.2 h3⟩
 | [],_::_,_,h,_|_::_,[],_,h,_=>h.elim
theorem Wk.agg{cs ds:List AV}(h:WkC cs ds):Wk (.agg cs) (.agg ds):=fun _ _ ⟨vs,e,hr⟩=>⟨vs,e,h.rlc hr⟩
theorem Ge_(s:Int)(r:Rt)(c:Cp)(v:AV):.int .u64 s::(rtc r++aS_ ⟨c,v⟩)=aX_ ⟨s,r,c,v⟩:=rfl
attribute [go_sem] Ge_
theorem OT_:lsl []=[]:=rfl
theorem MJ_(l:List Int)(ls:List (List Int)):lsl (l::ls)=[.sl 1 false (aq_ .i64 l)]::lsl ls:=rfl
theorem Hs_(ρ:Nat→Nat)(x:List AV)(xs:List (List AV)):cj_ ρ (x::xs)=cf_ ρ x::cj_ ρ xs:=rfl
attribute [go_sem] OT_ MJ_ Hs_
theorem JD_(n:Int)(l:List Int)(b:List UInt8)(e:Int):qC_ n [l] b e=if e≠0 then (0,e)else if bt_ l 1024=0 then (n-b.length,0)else (0,2):=by simp[qC_,iO_]
theorem JE_(n:Int)(l m:List Int)(b:List UInt8)(e:Int):qC_ n [l,m] b e=if e≠0 then (0,e)else if bt_ l 1024=0∧bt_ m 1024=0 then (n-b.length,0)else (0,2):=by simp[qC_,iO_]
def dT_(x:Int×Rt×Cp×List Int):Att:=⟨x.1,x.2.1,x.2.2.1,.sl 1 false (aq_ .i64 x.2.2.2)⟩
def dj_:Int×Rt×Cp×List Int:=(0,rt0,cp0,[])
theorem WkC.cons{c d:AV}{cs ds:List AV}(h:Wk c d)(hc:c.cell=true→d.cell=true)(h2:WkC cs ds):WkC (c::cs) (d::ds):=⟨h,hc,h2⟩
theorem WkC.same(c:AV){cs ds:List AV}(h2:WkC cs ds):WkC (c::cs) (c::ds):=.cons (Wk.refl c) (fun h=>h) h2
theorem WkC.one{c d:AV}(h:Wk c d)(hc:c.cell=true→d.cell=true):WkC [c] [d]:=.cons h hc trivial
theorem Rj_(s:Int)(r:Rt)(c:Cp){v v':AV}(h:Wk v v')(hc:v.cell=true→v'.cell=true):Wk (.agg (aX_ ⟨s,r,c,v⟩)) (.agg (aX_ ⟨s,r,c,v'⟩)):=
 Wk.agg (WkC.same _ ((WkC.refl (rtc r)).app ((WkC.refl (cpC c)).app (WkC.one h hc))))
theorem uN_:Wk (.agg (aX_ cI_)) (.agg (aX_ (dT_ dj_))):=Rj_ 0 rt0 cp0 (Wk.empty 0 1 false) fun h=>h
def iT_(b0:List UInt8)(e0:Int):(Int×Rt×Cp×List Int)×List UInt8×Int:=
 let s:=ap_ b0 e0 bh_
 let r:=bc_ s.2.1 s.2.2
 let c:=rCp r.2.1 r.2.2
 let l:=eq_ c.2.1 c.2.2
 ((s.1,r.1,c.1,l.1),l.2.1,l.2.2)
def iE_(n:Nat)(x:(Int×Rt×Cp×List Int)×List UInt8×Int):(Int×Rt×Cp×List Int)×Int×Int:=
 if x.2.2≠0 then (dj_,0,x.2.2)else if bt_ x.1.2.2.2 1024=0 then (x.1,((n-x.2.1.length:Nat):Int),0)else (dj_,0,2)
theorem Bj_(x:Int×Rt×Cp×List Int):Pu (.agg (aX_ (dT_ x))):=(cB_ _).2 (aL_ _ _)
theorem EV_:∀ (n:Nat) (last:Int) (acc:List Int) (bs:List UInt8) (e:Int),(gY_ n last acc bs e).1.length≤acc.length+n
 |0,_,_,_,_=>Nat.le_refl _
 | n + 1, last, acc, bs, e => by
   rw[gY_];split
   ·simp only;omega
   ·have:=EV_ n (last+1+(ap_ bs e 1024).1) (acc++[last+1+(ap_ bs e 1024).1]) (ap_ bs e 1024).2.1 (ap_ bs e 1024).2.2;simp only[List.length_append,List.length_cons,List.length_nil]at this;omega
theorem nH_(b:List UInt8)(e:Int):(eq_ b e).1.length≤1024:=by
 have h1:=EV_ (ap_ b e 1024).1.toNat (-1) [] (ap_ b e 1024).2.1 (ap_ b e 1024).2.2;have h2:=cO_ b e 1024 (by omega);simp only[List.length_nil]at h1;show (gY_ _ _ _ _ _).1.length≤1024
 omega
theorem Nl_(b:List UInt8)(hb:b.length≤140737488355328):
 PC Tryz.prog 44 [.sl 1 false (bts b)] (.tup [.agg (aX_ (dT_ (iE_ b.length (iT_ b 0)).1)),.int .i64 (iE_ b.length (iT_ b 0)).2.1,.int .i64 (iE_ b.length (iT_ b 0)).2.2]):=by
 refine PC.fact 6 hI_ (by simp) ⟨bO_ b,trivial⟩ ⟨Bj_ _,trivial,trivial,trivial⟩ ?_;unfold em_;refine bd ?_;rcases h1:ap_ b 0 bh_ with⟨s,b1,e1⟩
 rcases h2:bc_ b1 e1 with⟨r,b2,e2⟩
 rcases h3:rCp b2 e2 with⟨c,b3,e3⟩
 rcases h4:eq_ b3 e3 with⟨l,b4,e4⟩
 have hB:iT_ b 0=((s,r,c,l),b4,e4):=by simp only[iT_,h1,h2,h3,h4]
 have l1:=bX_ b 0 bh_;rw[h1]at l1;have l2:=eg_ b1 e1;rw[h2]at l2;have l3:=rl_ b2 e2;rw[h3]at l3;have l4:=Aw_ b3 e3;rw[h4]at l4;have l5:=nH_ b3 e3;rw[h4]at l5;dsimp only at l1 l2 l3 l4 l5;have c1:=fn_ b 0 b.length (by omega);rw[h1]at c1;have c2:=eM_ b1 false e1 (by omega);rw[h2]at c2;have c3:=qv_ b2 false e2 (by omega);rw[h3]at c3;have c4:=wP_ b3 e3 b.length (by omega);rw[h4]at c4;have ce:=hY_ b4 e4 b.length [l] true (by omega) (by omega) (by simp) (by intro i hi;simp only[List.length_cons,List.length_nil]at hi;obtain rfl:i=0:=(by omega);exact(show l.length≤140737488355328 by omega));rw[JD_]at ce;dsimp only at c1 c2 c3 c4;rw[hB];unfold iE_;dsimp only;try refine aa_ ?_
 refine am_ [] (kP_ b) evd (aj_.mk' (by simp) evd) ?_;refine evg ?_;try refine aa_ ?_
 refine BO_ [1,2] [1] (c1) (by simp) evd (aj_.mk' (by simp) evd) (by simp) (by simp[rs_]) ?_;refine evg ?_;try refine aa_ ?_
 refine iC_ [1] (c2) (by simp) evd (aj_.mk' (by simp) evd) ?_;refine evg ?_;try refine aa_ ?_
 refine am_ [1] (c3) evd (aj_.mk' (by simp) evd) ?_;refine evg ?_;try refine aa_ ?_
 refine am_ [1,2] (c4) evd (aj_.mk' (by simp) evd) ?_;refine evg ?_;try refine aa_ ?_
 by_cases he:e4=0
 ·subst he
  simp only[ne_eq,not_true_eq_false,if_false]at ce ⊢;by_cases hv:bt_ l 1024=0
  ·simp only[hv,if_true]at ce ⊢;rw[show ((b.length:Int)-(b4.length:Int))=((b.length-b4.length:Nat):Int)by omega]at ce;refine am_ [1,2] (ce) evd (aj_.mk' (by simp) evd) ?_;refine evg ?_;try refine aa_ ?_
   refine Re_ ?_
   exact ah_
  ·simp only[hv,if_false]at ce ⊢;refine am_ [1,2] (ce) evd (aj_.mk' (by simp) evd) ?_;refine evg ?_;try refine aa_ ?_
   refine Rf_ ?_
   refine⟨_,(by first|rfl|exact evd),.inr ⟨.tup [.agg (aX_ cI_),.int .i64 0,.int .i64 2],evd,⟨(cB_ _).2 trivial,trivial,trivial,trivial⟩,Wk.tup ⟨uN_,Wk.refl _,Wk.refl _,trivial⟩⟩⟩
 ·have he':(e4 != 0)=true:=by simpa using he
  simp only[ne_eq,he,not_false_eq_true,if_true]at ce ⊢;refine am_ [1,2] (ce) evd (aj_.mk' (by simp) evd) ?_;refine evg ?_;try refine aa_ ?_
  refine ac_ ?_ (by(try simp only[go_sem,he']);try exact evd);try refine aa_ ?_
  refine⟨_,(by first|rfl|exact evd),.inr ⟨.tup [.agg (aX_ cI_),.int .i64 0,.int .i64 e4],evd,⟨(cB_ _).2 trivial,trivial,trivial,trivial⟩,Wk.tup ⟨uN_,Wk.refl _,Wk.refl _,trivial⟩⟩⟩
abbrev Cv:=Int×Int×Rt×List Int
def gQ_(x:Cv):Clm:=⟨x.1,x.2.1,x.2.2.1,.sl 1 false (aq_ .i64 x.2.2.2)⟩
theorem DN_(x:Cv)(ρ:Nat→Nat):(gQ_ x).map (ren ρ)=gQ_ x:=by simp only[gQ_,Clm.map,ren,ck_]
theorem HT_(x:Cv)(σ:St)(zs:List Nat):(gQ_ x).map (fz σ zs)=gQ_ x:=by simp only[gQ_,Clm.map,fz,cR_]
theorem Jv_(x:Cv):(gQ_ x).good=true:=rfl
theorem Jw_(x:Cv):(gQ_ x).vals=.sl 1 false (aq_ .i64 x.2.2.2):=rfl
theorem qs_(x:Cv):(gQ_ x).Pure:=aL_ _ _
attribute [go_sem] DN_ HT_ Jv_ Jw_
def fP_:Cv:=(0,0,rt0,[])
def gX_(b0:List UInt8)(e0:Int):Cv×List UInt8×Int:=
 let s:=ap_ b0 e0 bh_
 let t:=ap_ s.2.1 s.2.2 bh_
 let r:=bc_ t.2.1 t.2.2
 let l:=eq_ r.2.1 r.2.2
 ((s.1,t.1,r.1,l.1),l.2.1,l.2.2)
theorem ES_(b:List UInt8)(e:Int):(gX_ b e).2.1.length≤b.length:=
 Nat.le_trans (Aw_ _ _) (Nat.le_trans (eg_ _ _) (Nat.le_trans (bX_ _ _ _) (bX_ _ _ _)))
theorem nh_(b:List UInt8)(e:Int):(gX_ b e).1.2.2.2.length≤1024:=nH_ _ _
theorem AE_(b:List UInt8)(e n:Int)(hb:b.length≤140737488355328):
 ar_ Tryz.prog 92 [.ptr 1 0] [rdr false b e,rr n] (.agg (bC_ (gQ_ (gX_ b e).1))) [rdr false (gX_ b e).2.1 (gX_ b e).2.2,rr n]:=by
 refine ar_.fact 4 lf_ (by simp) ?_ (by simp);unfold fJ_;refine bd ?_;rcases h1:ap_ b e bh_ with⟨s,b1,e1⟩
 rcases h2:ap_ b1 e1 bh_ with⟨t,b2,e2⟩
 rcases h3:bc_ b2 e2 with⟨r,b3,e3⟩
 rcases h4:eq_ b3 e3 with⟨l,b4,e4⟩
 have hB:gX_ b e=((s,t,r,l),b4,e4):=by simp only[gX_,h1,h2,h3,h4]
 have l1:=bX_ b e bh_;rw[h1]at l1;have l2:=bX_ b1 e1 bh_;rw[h2]at l2;have l3:=eg_ b2 e2;rw[h3]at l3;dsimp only at l1 l2 l3;have c1:=fn_ b e n (by omega);rw[h1]at c1;have c2:=fn_ b1 e1 n (by omega);rw[h2]at c2;have c3:=eM_ b2 false e2 (by omega);rw[h3]at c3;have c4:=wP_ b3 e3 n (by omega);rw[h4]at c4;dsimp only at c1 c2 c3 c4;rw[hB];dsimp only;try refine aa_ ?_
 refine am_ [0,1] (c1) evd (aj_.mk' (by simp) evd) ?_;refine evg ?_;try refine aa_ ?_
 refine am_ [0,1] (c2) evd (aj_.mk' (by simp) evd) ?_;refine evg ?_;try refine aa_ ?_
 refine am_ [0] (c3) evd (aj_.mk' (by simp) evd) ?_;refine evg ?_;try refine aa_ ?_
 refine am_ [0,1] (c4) evd (aj_.mk' (by simp) evd) ?_;refine evg ?_;try refine aa_ ?_
 exact Sg_ [] [0,1]
abbrev Sv:=Cv×Cv
def dP_(x:Sv):Slg:=⟨gQ_ x.1,gQ_ x.2⟩
def cV_:Sv:=(fP_,fP_)
def hp_(b0:List UInt8)(e0:Int):Sv×List UInt8×Int:=
 let s:=gX_ b0 e0
 let t:=gX_ s.2.1 s.2.2
 ((s.1,t.1),t.2.1,t.2.2)
def hH_(n:Nat)(x:Sv×List UInt8×Int):Sv×Int×Int:=
 if x.2.2≠0 then (cV_,0,x.2.2)else if bt_ x.1.1.2.2.2 1024=0∧bt_ x.1.2.2.2.2 1024=0 then (x.1,((n-x.2.1.length:Nat):Int),0)else (cV_,0,2)
theorem HO_(x:Sv):Pu (.agg (bI_ (dP_ x))):=(cU_ _).2 ⟨qs_ _,qs_ _⟩
theorem uP_(s t:Int)(r:Rt){v v':AV}(h:Wk v v')(hc:v.cell=true→v'.cell=true):WkC (bC_ ⟨s,t,r,v⟩) (bC_ ⟨s,t,r,v'⟩):=
 WkC.same _ (WkC.same _ ((WkC.refl (rtc r)).app (WkC.one h hc)))
theorem uO_:Wk (.agg (bI_ cz_)) (.agg (bI_ (dP_ cV_))):=
 Wk.agg ((uP_ 0 0 rt0 (Wk.empty 0 1 false) fun h=>h).app (uP_ 0 0 rt0 (Wk.empty 0 1 false) fun h=>h))
theorem Nn_(b:List UInt8)(hb:b.length≤140737488355328):
 PC Tryz.prog 49 [.sl 1 false (bts b)] (.tup [.agg (bI_ (dP_ (hH_ b.length (hp_ b 0)).1)),.int .i64 (hH_ b.length (hp_ b 0)).2.1,.int .i64 (hH_ b.length (hp_ b 0)).2.2]):=by
 refine PC.fact 6 jP_ (by simp) ⟨bO_ b,trivial⟩ ⟨HO_ _,trivial,trivial,trivial⟩ ?_;unfold eY_;refine bd ?_;rcases h1:gX_ b 0 with⟨s,b1,e1⟩
 rcases h2:gX_ b1 e1 with⟨t,b2,e2⟩
 have hB:hp_ b 0=((s,t),b2,e2):=by simp only[hp_,h1,h2]
 have l1:=ES_ b 0;rw[h1]at l1;have l2:=ES_ b1 e1;rw[h2]at l2;have k1:=nh_ b 0;rw[h1]at k1;have k2:=nh_ b1 e1;rw[h2]at k2;dsimp only at l1 l2 k1 k2;have c1:=AE_ b 0 b.length (by omega);rw[h1]at c1;have c2:=AE_ b1 e1 b.length (by omega);rw[h2]at c2
 have ce:=hY_ b2 e2 b.length [s.2.2.2,t.2.2.2] true (by omega) (by omega) (by simp) (by
  intro i hi;simp only[List.length_cons,List.length_nil]at hi;have:i=0∨i=1:=by omega
  rcases this with rfl|rfl
  ·exact(show s.2.2.2.length≤140737488355328 by omega)
  ·exact(show t.2.2.2.length≤140737488355328 by omega))
 rw[JE_]at ce;dsimp only at c1 c2;rw[hB];unfold hH_;dsimp only;try refine aa_ ?_
 refine am_ [] (kP_ b) evd (aj_.mk' (by simp) evd) ?_;refine evg ?_;try refine aa_ ?_
 refine am_ [1,2] (c1) evd (aj_.mk' (by simp) evd) ?_;refine evg ?_;try refine aa_ ?_
 refine am_ [1,2] (c2) evd (aj_.mk' (by simp) evd) ?_;refine evg ?_;try refine aa_ ?_
 by_cases he:e2=0
 ·subst he
  simp only[ne_eq,not_true_eq_false,if_false]at ce ⊢;by_cases hv:bt_ s.2.2.2 1024=0∧bt_ t.2.2.2 1024=0
  ·rw[if_pos hv]at ce ⊢;rw[show ((b.length:Int)-(b2.length:Int))=((b.length-b2.length:Nat):Int)by omega]at ce;refine am_ [1,2] (ce) evd (aj_.mk' (by simp) evd) ?_;refine evg ?_;try refine aa_ ?_
   refine Re_ ?_
   exact ah_
  ·rw[if_neg hv]at ce ⊢;refine am_ [1,2] (ce) evd (aj_.mk' (by simp) evd) ?_;refine evg ?_;try refine aa_ ?_
   refine Rf_ ?_
   refine⟨_,(by first|rfl|exact evd),.inr ⟨.tup [.agg (bI_ cz_),.int .i64 0,.int .i64 2],evd,⟨(cU_ _).2 ⟨trivial,trivial⟩,trivial,trivial,trivial⟩,Wk.tup ⟨uO_,Wk.refl _,Wk.refl _,trivial⟩⟩⟩
 ·have he':(e2 != 0)=true:=by simpa using he
  simp only[ne_eq,he,not_false_eq_true,if_true]at ce ⊢;refine am_ [1,2] (ce) evd (aj_.mk' (by simp) evd) ?_;refine evg ?_;try refine aa_ ?_
  refine ac_ ?_ (by(try simp only[go_sem,he']);try exact evd);try refine aa_ ?_
  refine⟨_,(by first|rfl|exact evd),.inr ⟨.tup [.agg (bI_ cz_),.int .i64 0,.int .i64 e2],evd,⟨(cU_ _).2 ⟨trivial,trivial⟩,trivial,trivial,trivial⟩,Wk.tup ⟨uO_,Wk.refl _,Wk.refl _,trivial⟩⟩⟩
abbrev Tv:=Cp×List Int
def fo_(x:Tv):Tab:=⟨x.1,.sl 1 false (aq_ .u64 x.2)⟩
def cP_:Tv:=(cp0,[])
theorem HP_(x:Tv):Pu (.agg (aS_ (fo_ x))):=(cs_ _).2 (aL_ _ _)
theorem Dt_(c:Cp){v v':AV}(h:Wk v v')(hc:v.cell=true→v'.cell=true):Wk (.agg (aS_ ⟨c,v⟩)) (.agg (aS_ ⟨c,v'⟩)):=Wk.agg ((WkC.refl (cpC c)).app (WkC.one h hc))
theorem rL_:Wk (.agg (aS_ ca_)) (.agg (aS_ (fo_ cP_))):=Dt_ cp0 (Wk.empty 0 1 false) fun h=>h
def gb_(b0:List UInt8)(e0:Int):Tv×List UInt8×Int:=
 let s:=ap_ b0 e0 bh_
 let r:=bc_ s.2.1 s.2.2
 let n:=ap_ r.2.1 r.2.2 1024
 let l:=dr_ n.1.toNat [] n.2.1 n.2.2
 ((⟨s.1,r.1⟩,l.1),l.2.1,l.2.2)
theorem No_(b:List UInt8)(hb:b.length≤140737488355328):
 PC Tryz.prog 52 [.sl 1 false (bts b)] (.tup [.agg (aS_ (fo_ (dec cP_ b.length (gb_ b 0)).1)),.int .i64 (dec cP_ b.length (gb_ b 0)).2.1,.int .i64 (dec cP_ b.length (gb_ b 0)).2.2]):=by
 refine PC.fact 8 ma_ (by simp) ⟨bO_ b,trivial⟩ ⟨HP_ _,trivial,trivial,trivial⟩ ?_;unfold ge_;refine bd ?_;rcases h1:ap_ b 0 bh_ with⟨s,b1,e1⟩
 rcases h2:bc_ b1 e1 with⟨r,b2,e2⟩
 rcases h3:ap_ b2 e2 1024 with⟨n,b3,e3⟩
 have hB:gb_ b 0=((⟨s,r⟩,(dr_ n.toNat [] b3 e3).1),(dr_ n.toNat [] b3 e3).2.1,(dr_ n.toNat [] b3 e3).2.2):=by simp only[gb_,h1,h2,h3]
 have l1:=bX_ b 0 bh_;rw[h1]at l1;have l2:=eg_ b1 e1;rw[h2]at l2;have l3:=bX_ b2 e2 1024;rw[h3]at l3;have n0:=bK_ b2 e2 1024;rw[h3]at n0;have n1:=cO_ b2 e2 1024 (by omega);rw[h3]at n1;dsimp only at l1 l2 l3 n0 n1;have c1:=fn_ b 0 b.length (by omega);rw[h1]at c1;have c2:=eM_ b1 false e1 (by omega);rw[h2]at c2;have c3:=eP_ b2 false e2 1024 (by omega);rw[h3]at c3;dsimp only at c1 c2 c3;rw[hB];have hL:dr_ n.toNat [] b3 e3=dr_ n.toNat [] b3 e3:=rfl;generalize hLL:dr_ n.toNat [] b3 e3=L at *;unfold dec;dsimp only;try refine aa_ ?_
 refine am_ [] (kP_ b) evd (aj_.mk' (by simp) evd) ?_;refine evg ?_;try refine aa_ ?_
 refine BO_ [1,2] [1] (c1) (by simp) evd (aj_.mk' (by simp) evd) (by simp) (by simp[rs_]) ?_;refine evg ?_;try refine aa_ ?_
 refine iC_ [1] (c2) (by simp) evd (aj_.mk' (by simp) evd) ?_;refine evg ?_;try refine aa_ ?_
 refine am_ [1] (c3) evd (aj_.mk' (by simp) evd) ?_;refine evg ?_;try refine aa_ ?_
 refine bF_ (fun x:Bool×List Int×List UInt8×Int=>⟨8,[.sl 1 false (bts b),.dead,.ptr 0 0,.int .i64 0,.int .i64 0,.ptr 2 0,.int .u64 n,.int .u64 x.2.1.length],[]⟩)
  (fun x=>.var (aS_ ⟨⟨s,r⟩,if x.1 then .hs 1 3 0 x.2.1.length else .sl 0 true []⟩)::rdr false x.2.2.1 x.2.2.2::.var [.ptr 1 0,.int .i64 b.length]::(if x.1 then [.vec 1 (aq_ .u64 x.2.1)]else [])) (fun x=>n.toNat-x.2.1.length)
  (fun x=>dr_ (n.toNat-x.2.1.length) x.2.1 x.2.2.1 x.2.2.2=L∧x.2.1.length≤n.toNat∧x.2.2.1.length≤b.length∧(x.1=false→x.2.1=[]))
  (false,[],b3,e3) ⟨by simpa using hLL,by simp,by dsimp only;omega,by simp⟩ ?_ ?_
 ·exact Sn_ [] [0,1,2]
 rintro⟨st,acc,bb,ee⟩ ⟨i1,i2,i3,i4⟩;dsimp only at i1 i2 i3 i4 ⊢;have hw1:IntKind.u64.wrap ((acc.length:Int)+1)=((acc.length+1:Nat):Int):=by rw[aH_ (by omega) (by omega)];omega
 have c4:=dU_ bb false ee;have c5:=fn_ bb ee b.length (by omega);by_cases hi:acc.length<n.toNat
 ·have hi':decide ((acc.length:Int)<n)=true:=by rw[decide_eq_true_eq];omega
  obtain⟨k,hk⟩:∃k,n.toNat-acc.length=k+1:=⟨n.toNat-acc.length-1,by omega⟩
  rw[hk,dr_]at i1;by_cases he:ee=0
  ·subst he
   rw[if_neg (by simp)]at i1;have v2:=bX_ bb 0 bh_;generalize ap_ bb 0 bh_=V at *;obtain⟨v,b4,e4⟩:=V;dsimp only at v2 c5 i1;cases st with
   | false =>
     obtain rfl:=i4 rfl;simp only[List.length_nil]at hi hk i2;have hi0:decide ((0:Int)<n)=true:=by rw[decide_eq_true_eq];omega
     have hwz:IntKind.u64.wrap ((0:Int)+1)=1:=by decide
     repeat(first|refine aa_ ?_|simp only[go_sem,hi0])
     refine am_ [1] (c4) evd (aj_.mk' (by simp) evd) ?_;refine evg ?_;try refine aa_ ?_
     refine Rf_ ?_
     refine BO_ [1,2] [1] (c5) (by simp) evd (aj_.mk' (by simp) evd) (by simp) (by simp[rs_]) ?_;refine evg ?_;repeat(first|refine aa_ ?_|simp only[go_sem,hwz])
     refine⟨(true,[v],b4,e4),⟨?_,?_,?_,?_⟩,?_,?_⟩
     ·simp only[List.length_cons,List.length_nil];rw[show n.toNat-(0+1)=k by omega];exact i1
     ·simp only[List.length_cons,List.length_nil];omega
     ·dsimp only;omega
     ·simp
     ·simp only[List.length_cons,List.length_nil];omega
     ·exact Sn_ [] [0,1,2,4]
   | true =>
     repeat(first|refine aa_ ?_|simp only[go_sem,hi'])
     refine am_ [1] (c4) evd (aj_.mk' (by simp) evd) ?_;refine evg ?_;try refine aa_ ?_
     refine Rf_ ?_
     refine BO_ [1,2] [1] (c5) (by simp) evd (aj_.mk' (by simp) evd) (by simp) (by simp[rs_]) ?_;refine evg ?_;repeat(first|refine aa_ ?_|simp only[go_sem,hw1])
     refine⟨(true,acc++[v],b4,e4),⟨?_,?_,?_,?_⟩,?_,?_⟩
     ·simp only[List.length_append,List.length_cons,List.length_nil];rw[show n.toNat-(acc.length+(0+1))=k by omega];exact i1
     ·simp only[List.length_append,List.length_cons,List.length_nil];omega
     ·dsimp only;omega
     ·simp
     ·simp only[List.length_append,List.length_cons,List.length_nil];omega
     ·exact Sn_ [] [0,1,2,5]
  ·have he':(ee==0)=false:=by simpa using he
   have he2:(ee != 0)=true:=by simpa using he
   rw[if_pos he]at i1;subst i1;dsimp only at hB ⊢;have ce:=(hY_ bb ee b.length [] true (by omega) (by omega) (by simp) (by simp)).wk (xs:=[.ptr 1 0,.sl 0 true []]) ⟨Wk.refl _,Wk.empty 0 1 _,trivial⟩;rw[ny_]at ce;cases st with
   | false =>
     obtain rfl:=i4 rfl;simp only[List.length_nil]at hi i2;have hi0:decide ((0:Int)<n)=true:=by rw[decide_eq_true_eq];omega
     repeat(first|refine aa_ ?_|simp only[go_sem,hi0])
     refine am_ [1] (c4) evd (aj_.mk' (by simp) evd) ?_;refine evg ?_;repeat(first|refine aa_ ?_|simp only[go_sem,he'])
     refine Re_ ?_
     simp only[ne_eq,he,not_false_eq_true,if_true]at ce ⊢;refine am_ [1,2] (ce) evd (aj_.mk' (by simp) evd) ?_;refine evg ?_;try refine aa_ ?_
     refine ac_ ?_ (by(try simp only[go_sem,he2]);try exact evd);try refine aa_ ?_
     refine⟨_,(by first|rfl|exact evd),.inr ⟨.tup [.agg (aS_ ca_),.int .i64 0,.int .i64 ee],evd,⟨(cs_ _).2 trivial,trivial,trivial,trivial⟩,Wk.tup ⟨rL_,Wk.refl _,Wk.refl _,trivial⟩⟩⟩
   | true =>
     repeat(first|refine aa_ ?_|simp only[go_sem,hi'])
     refine am_ [1] (c4) evd (aj_.mk' (by simp) evd) ?_;refine evg ?_;repeat(first|refine aa_ ?_|simp only[go_sem,he'])
     refine Re_ ?_
     simp only[ne_eq,he,not_false_eq_true,if_true]at ce ⊢;refine am_ [1,2] (ce) evd (aj_.mk' (by simp) evd) ?_;refine evg ?_;try refine aa_ ?_
     refine ac_ ?_ (by(try simp only[go_sem,he2]);try exact evd);try refine aa_ ?_
     refine⟨_,(by first|rfl|exact evd),.inr ⟨.tup [.agg (aS_ ca_),.int .i64 0,.int .i64 ee],evd,⟨(cs_ _).2 trivial,trivial,trivial,trivial⟩,Wk.tup ⟨rL_,Wk.refl _,Wk.refl _,trivial⟩⟩⟩
 ·have hi':decide ((acc.length:Int)<n)=false:=by rw[decide_eq_false_iff_not];omega
  rw[show n.toNat-acc.length=0 by omega,dr_]at i1;subst i1;dsimp only at hB ⊢;have ce:=(hY_ bb ee b.length [] true (by omega) (by omega) (by simp) (by simp)).wk (xs:=[.ptr 1 0,.sl 0 true []]) ⟨Wk.refl _,Wk.empty 0 1 _,trivial⟩;rw[ny_]at ce;by_cases he:ee=0
  ·subst he
   cases st with
   | false =>
     obtain rfl:=i4 rfl;simp only[List.length_nil]at hi i2;have hi0:decide ((0:Int)<n)=false:=by rw[decide_eq_false_iff_not];omega
     repeat(first|refine aa_ ?_|simp only[go_sem,hi0])
     refine Re_ ?_
     simp only[ne_eq,not_true_eq_false,if_false]at ce ⊢;rw[show ((b.length:Int)-(bb.length:Int))=((b.length-bb.length:Nat):Int)by omega]at ce;refine am_ [1,2] (ce) evd (aj_.mk' (by simp) evd) ?_;refine evg ?_;try refine aa_ ?_
     refine Re_ ?_
     refine⟨_,(by first|rfl|exact evd),.inr ⟨.tup [.agg (aS_ ⟨⟨s,r⟩,.sl 0 true []⟩),.int .i64 ((b.length-bb.length:Nat):Int),.int .i64 0],evd,⟨(cs_ _).2 trivial,trivial,trivial,trivial⟩,Wk.tup ⟨Dt_ _ (Wk.empty 0 1 false) fun h=>h,Wk.refl _,Wk.refl _,trivial⟩⟩⟩
   | true =>
     repeat(first|refine aa_ ?_|simp only[go_sem,hi'])
     refine Re_ ?_
     simp only[ne_eq,not_true_eq_false,if_false]at ce ⊢;rw[show ((b.length:Int)-(bb.length:Int))=((b.length-bb.length:Nat):Int)by omega]at ce;refine am_ [1,2] (ce) evd (aj_.mk' (by simp) evd) ?_;refine evg ?_;try refine aa_ ?_
     refine Re_ ?_
     exact ah_
  ·have he2:(ee != 0)=true:=by simpa using he
   cases st with
   | false =>
     obtain rfl:=i4 rfl;simp only[List.length_nil]at hi i2;have hi0:decide ((0:Int)<n)=false:=by rw[decide_eq_false_iff_not];omega
     repeat(first|refine aa_ ?_|simp only[go_sem,hi0])
     refine Re_ ?_
     simp only[ne_eq,he,not_false_eq_true,if_true]at ce ⊢;refine am_ [1,2] (ce) evd (aj_.mk' (by simp) evd) ?_;refine evg ?_;try refine aa_ ?_
     refine ac_ ?_ (by(try simp only[go_sem,he2]);try exact evd);try refine aa_ ?_
     refine⟨_,(by first|rfl|exact evd),.inr ⟨.tup [.agg (aS_ ca_),.int .i64 0,.int .i64 ee],evd,⟨(cs_ _).2 trivial,trivial,trivial,trivial⟩,Wk.tup ⟨rL_,Wk.refl _,Wk.refl _,trivial⟩⟩⟩
   | true =>
     repeat(first|refine aa_ ?_|simp only[go_sem,hi'])
     refine Re_ ?_
     simp only[ne_eq,he,not_false_eq_true,if_true]at ce ⊢;refine am_ [1,2] (ce) evd (aj_.mk' (by simp) evd) ?_;refine evg ?_;try refine aa_ ?_
     refine ac_ ?_ (by(try simp only[go_sem,he2]);try exact evd);try refine aa_ ?_
     refine⟨_,(by first|rfl|exact evd),.inr ⟨.tup [.agg (aS_ ca_),.int .i64 0,.int .i64 ee],evd,⟨(cs_ _).2 trivial,trivial,trivial,trivial⟩,Wk.tup ⟨rL_,Wk.refl _,Wk.refl _,trivial⟩⟩⟩
end Go.Proofs.YtipiipgpnkpejaaGreat
