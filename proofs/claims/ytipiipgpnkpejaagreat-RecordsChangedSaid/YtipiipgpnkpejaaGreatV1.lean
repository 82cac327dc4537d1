/-
 My texts En, Eo, Ep, Eq, Fd, Fb, Fe, joined.
-/
import Derived.Test.YtipiipgpnkpejaaGreatW8
import Derived.Test.YtipiipgpnkpejaaGreatW9
import Derived.Test.YtipiipgpnkpejaaGreatW3
namespace Go.Proofs.YtipiipgpnkpejaaGreat
open Go Go.FH Go.RowKit
set_option linter.unusedVariables false
set_option linter.unusedSimpArgs false

theorem Aw_ (b:List UInt8) (e:Int):(rBool b e).2.1 <:+ b:=by
 unfold rBool
 split
 · exact List.suffix_refl _
 · split
   · exact List.suffix_refl _
   · split
     · exact List.suffix_refl _
     · exact List.suffix_cons _ _
theorem rj_ (b:List UInt8) (e:Int):(rWide b e).2.1 <:+ b:=cc_ b e
theorem kA_ (b:List UInt8) (e:Int):(rCp b e).2.1 <:+ b:=by
 unfold rCp
 split
 · exact List.suffix_refl _
 · exact(cc_ _ _).trans (bd_ _ _ _)
theorem uY_:∀ (n:Nat) (last:Int) (acc:List Int) (bs:List UInt8) (e:Int),(rLst n last acc bs e).2.1 <:+ bs
 | 0,_,_,bs,_=>List.suffix_refl _
 | n + 1, last, acc, bs, e => by
   rw[rLst]
   split
   · exact List.suffix_refl _
   · exact(uY_ _ _ _ _ _).trans (bd_ bs e 1024)
theorem lj_ (b:List UInt8) (e:Int):(rList b e).2.1 <:+ b:=(uY_ _ _ _ _ _).trans (bd_ _ _ _)
theorem vg_ (b:List UInt8) (e:Int):(rClm b e).2.1 <:+ b:=(lj_ _ _).trans ((cc_ _ _).trans ((bd_ _ _ _).trans (bd_ _ _ _)))

theorem ma_ (B b:List UInt8) (e:Int) (hs:b <:+ B) (hb:B.length≤140737488355328):
   ACall Tryz.prog 90 [.ptr 0 0] [sro false B b e] (.sl 1 false (nums .i64 (rList b e).1)) [sro false B (rList b e).2.1 (rList b e).2.2]:=by
 refine ACall.fact 7 mq_ (by simp) ?_ (by simp)
 unfold gx_;refine bd ?_
 have hu:=bv_ B b false e 1024 hs hb
 have hl:=bd_ b e 1024
 have hu0:=bz_ b e 1024
 have hu1:=cj_ b e 1024 (by omega)
 have hL:rLst (rUint b e 1024).1.toNat (-1) [] (rUint b e 1024).2.1 (rUint b e 1024).2.2=rList b e:=rfl
 generalize rList b e=L at *
 generalize rUint b e 1024=U at *
 obtain⟨u,b1,e1⟩:=U
 dsimp only at hu hu0 hu1 hl hL ⊢
 have hw0:IntKind.i64.wrap u=u:=ah_ (by omega) (by omega)
 simp only[sro]at hu ⊢
 generalize ((B.length-b.length:Nat):Int)=A0 at *
 have g1:=hl.trans hs
 clear hl hs
 try refine aa_ ?_
 refine ocall [0] (hu) evd (Picks.mk' (by simp) evd) ?_;refine evg ?_
 repeat(first | refine aa_ ?_ | simp only[go_sem,hw0])
 refine bm_ (fun x:Bool × Int × List Int × List UInt8 × Int=>⟨7,[.ptr 0 0,.dead,.sl 0 true [],.int .i64 u,if x.1 then .hs 1 1 0 x.2.2.1.length else .sl 0 true [],.int .i64 x.2.1,.int .i64 x.2.2.1.length],[]⟩)
   (fun x=>sro false B x.2.2.2.1 x.2.2.2.2::(if x.1 then [.vec 1 (nums .i64 x.2.2.1)]else [])) (fun x=>u.toNat-x.2.2.1.length)
   (fun x=>rLst (u.toNat-x.2.2.1.length) x.2.1 x.2.2.1 x.2.2.2.1 x.2.2.2.2=L∧x.2.2.1.length≤u.toNat∧x.2.2.2.1 <:+ B∧-1≤x.2.1∧x.2.1≤1025*x.2.2.1.length∧(x.1=false→x.2.2.1=[]))
   (false,-1,[],b1,e1) ⟨by simpa using hL,by simp,g1,by simp,by simp,by simp⟩ ?_ ?_
 · refine GC.mk' [] [0] (by simp) rfl (by simp) (by simp) evd evd
 rintro⟨st,last,acc,bb,ee⟩ ⟨i1,i2,i3,i4,i5,i6⟩
 dsimp only at i1 i2 i3 i4 i5 i6 ⊢
 have hw1:=af_ (n:=acc.length+1) (i:=acc.length) (by omega) (by omega)
 have c2:=bv_ B bb false ee 1024 i3 hb
 have hwl:IntKind.i64.wrap (last+1)=last+1:=ah_ (by omega) (by omega)
 by_cases hi:acc.length<u.toNat
 · have hi':decide ((acc.length:Int)<u)=true:=by rw[decide_eq_true_eq];omega
   obtain⟨k,hk⟩:∃ k,u.toNat-acc.length=k+1:=⟨u.toNat-acc.length-1,by omega⟩
   rw[hk,rLst]at i1
   by_cases he:ee=0
   · subst he
     rw[if_neg (by simp)]at i1
     have v0:=bz_ bb 0 1024
     have v1:=cj_ bb 0 1024 (by omega)
     have v2:=bd_ bb 0 1024
     generalize rUint bb 0 1024=V at *
     obtain⟨v,b2,e2⟩:=V
     dsimp only at v0 v1 v2 c2 i1
     have v3:=v2.trans i3
     have hwv:IntKind.i64.wrap v=v:=ah_ (by omega) (by omega)
     have hwn:IntKind.i64.wrap (last+1+v)=last+1+v:=ah_ (by omega) (by omega)
     simp only[sro]at c2 ⊢
     generalize ((B.length-bb.length:Nat):Int)=A1 at *
     cases st with
     | false =>
       obtain rfl:=i6 rfl
       simp only[List.length_nil]at hi hk i2 i5
       have hi0:decide ((0:Int)<u)=true:=by rw[decide_eq_true_eq];omega
       have hwz:IntKind.i64.wrap ((0:Int)+1)=1:=by decide
       repeat(first | refine aa_ ?_ | simp only[go_sem,hi0])
       refine ac_ ?_
       repeat(first | refine aa_ ?_ | simp only[go_sem,hwl])
       refine ocall [0] (c2) evd (Picks.mk' (by simp) evd) ?_;refine evg ?_
       repeat(first | refine aa_ ?_ | simp only[go_sem,hwv,hwn,hwz])
       refine⟨(true,last+1+v,[last+1+v],b2,e2),⟨?_,?_,v3,?_,?_,?_⟩,?_,?_⟩
       · simp only[List.length_cons,List.length_nil]
         rw[show u.toNat-(0+1)=k by omega]
         exact i1
       · simp only[List.length_cons,List.length_nil];omega
       · dsimp only;omega
       · simp only[List.length_cons,List.length_nil];omega
       · simp
       · simp only[List.length_cons,List.length_nil];omega
       · refine GC.mk' [] [0,1] (by simp) rfl (by simp) (by simp) evd evd
     | true =>
       repeat(first | refine aa_ ?_ | simp only[go_sem,hi'])
       refine ac_ ?_
       repeat(first | refine aa_ ?_ | simp only[go_sem,hwl])
       refine ocall [0] (c2) evd (Picks.mk' (by simp) evd) ?_;refine evg ?_
       repeat(first | refine aa_ ?_ | simp only[go_sem,hwv,hwn,hw1])
       refine⟨(true,last+1+v,acc++[last+1+v],b2,e2),⟨?_,?_,v3,?_,?_,?_⟩,?_,?_⟩
       · simp only[List.length_append,List.length_cons,List.length_nil]
         rw[show u.toNat-(acc.length+(0+1))=k by omega]
         exact i1
       · simp only[List.length_append,List.length_cons,List.length_nil];omega
       · dsimp only;omega
       · simp only[List.length_append,List.length_cons,List.length_nil];omega
       · simp
       · simp only[List.length_append,List.length_cons,List.length_nil];omega
       · refine GC.mk' [] [0,2] (by simp) rfl (by simp) (by simp) evd evd
   · have he':(ee==0)=false:=by simpa using he
     rw[if_pos he]at i1
     rw[← i1]
     dsimp only
     simp only[sro]
     generalize ((B.length-bb.length:Nat):Int)=A1 at *
     cases st with
     | false =>
       obtain rfl:=i6 rfl
       simp only[List.length_nil]at hi hk i2
       have hi0:decide ((0:Int)<u)=true:=by rw[decide_eq_true_eq];omega
       repeat(first | refine aa_ ?_ | simp only[go_sem,hi0,he'])
       refine ab_ ?_
       try refine aa_ ?_
       refine finQw [] [0] _ (by simp) (by first | rfl | exact evd) (by simp) rfl (by simp) (by simp) evd evd (Wk.empty 0 1 _)
     | true =>
       repeat(first | refine aa_ ?_ | simp only[go_sem,hi',he'])
       refine ab_ ?_
       try refine aa_ ?_
       refine finQ [1] [0] _ (by simp) (by first | rfl | exact evd) (by simp) rfl (by simp) (by simp) evd evd
 · have hi':decide ((acc.length:Int)<u)=false:=by rw[decide_eq_false_iff_not];omega
   rw[show u.toNat-acc.length=0 by omega,rLst]at i1
   rw[← i1]
   dsimp only
   simp only[sro]
   generalize ((B.length-bb.length:Nat):Int)=A1 at *
   cases st with
   | false =>
     obtain rfl:=i6 rfl
     have hi0:decide ((0:Int)<u)=false:=by simpa using hi'
     repeat(first | refine aa_ ?_ | simp only[go_sem,hi0])
     refine ab_ ?_
     try refine aa_ ?_
     refine finQw [] [0] _ (by simp) (by first | rfl | exact evd) (by simp) rfl (by simp) (by simp) evd evd (Wk.empty 0 1 _)
   | true =>
     repeat(first | refine aa_ ?_ | simp only[go_sem,hi'])
     refine ab_ ?_
     try refine aa_ ?_
     refine finQ [1] [0] _ (by simp) (by first | rfl | exact evd) (by simp) rfl (by simp) (by simp) evd evd

set_option maxRecDepth 100000 in
theorem qD_ (B b:List UInt8) (e:Int) (hs:b <:+ B) (hb:B.length≤140737488355328):
   ACall Tryz.prog 86 [.ptr 0 0] [sro false B b e] (.agg (blkC (rBlk b e).1)) [sro false B (rBlk b e).2.1 (rBlk b e).2.2]:=by
 refine ACall.fact 4 le_ (by simp) ?_ (by simp)
 unfold ga_;refine bd ?_
 rcases h1:rUint b e maxU with⟨s,b1,e1⟩
 rcases h2:rRoot b1 e1 with⟨r,b2,e2⟩
 rcases h3:rRoot b2 e2 with⟨p,b3,e3⟩
 rcases h4:rRoot b3 e3 with⟨y,b4,e4⟩
 rcases h5:rWide b4 e4 with⟨d,b5,e5⟩
 rcases h6:rWide b5 e5 with⟨g,b6,e6⟩
 rcases h7:rCp b6 e6 with⟨j,b7,e7⟩
 rcases h8:rCp b7 e7 with⟨f,b8,e8⟩
 rcases h9:rCp b8 e8 with⟨u,b9,e9⟩
 rcases h10:rCp b9 e9 with⟨v,b10,e10⟩
 rcases h11:rBool b10 e10 with⟨t,b11,e11⟩
 have s1:=bd_ b e maxU;rw[h1]at s1;have s1:b1 <:+ B:=s1.trans hs
 have s2:=cc_ b1 e1;rw[h2]at s2;have s2:b2 <:+ B:=s2.trans s1
 have s3:=cc_ b2 e2;rw[h3]at s3;have s3:b3 <:+ B:=s3.trans s2
 have s4:=cc_ b3 e3;rw[h4]at s4;have s4:b4 <:+ B:=s4.trans s3
 have s5:=rj_ b4 e4;rw[h5]at s5;have s5:b5 <:+ B:=s5.trans s4
 have s6:=rj_ b5 e5;rw[h6]at s6;have s6:b6 <:+ B:=s6.trans s5
 have s7:=kA_ b6 e6;rw[h7]at s7;have s7:b7 <:+ B:=s7.trans s6
 have s8:=kA_ b7 e7;rw[h8]at s8;have s8:b8 <:+ B:=s8.trans s7
 have s9:=kA_ b8 e8;rw[h9]at s9;have s9:b9 <:+ B:=s9.trans s8
 have s10:=kA_ b9 e9;rw[h10]at s10;have s10:b10 <:+ B:=s10.trans s9
 have s11:=Aw_ b10 e10;rw[h11]at s11;have s11:b11 <:+ B:=s11.trans s10
 have c1:=bv_ B b false e maxU hs hb;rw[h1]at c1;dsimp only at c1
 have c2:=bR_ B b1 e1 s1 hb;rw[h2]at c2;dsimp only at c2
 have c3:=bR_ B b2 e2 s2 hb;rw[h3]at c3;dsimp only at c3
 have c4:=bR_ B b3 e3 s3 hb;rw[h4]at c4;dsimp only at c4
 have c5:=on_ B b4 e4 s4 hb;rw[h5]at c5;dsimp only at c5
 have c6:=on_ B b5 e5 s5 hb;rw[h6]at c6;dsimp only at c6
 have c7:=hE_ B b6 e6 s6 hb;rw[h7]at c7;dsimp only at c7
 have c8:=hE_ B b7 e7 s7 hb;rw[h8]at c8;dsimp only at c8
 have c9:=hE_ B b8 e8 s8 hb;rw[h9]at c9;dsimp only at c9
 have c10:=hE_ B b9 e9 s9 hb;rw[h10]at c10;dsimp only at c10
 have c11:=wk_ B b10 e10 s10 hb;rw[h11]at c11;dsimp only at c11
 have hB:rBlk b e=(⟨⟨u,v⟩,s,r,p,y,d,g,j,f,t⟩,b11,e11):=by simp only[rBlk,h1,h2,h3,h4,h5,h6,h7,h8,h9,h10,h11]
 rw[hB]
 dsimp only
 simp only[sro]at c1 c2 c3 c4 c5 c6 c7 c8 c9 c10 c11 ⊢
 generalize ((B.length-b.length:Nat):Int)=A0 at *
 generalize ((B.length-b1.length:Nat):Int)=A1 at *
 generalize ((B.length-b2.length:Nat):Int)=A2 at *
 generalize ((B.length-b3.length:Nat):Int)=A3 at *
 generalize ((B.length-b4.length:Nat):Int)=A4 at *
 generalize ((B.length-b5.length:Nat):Int)=A5 at *
 generalize ((B.length-b6.length:Nat):Int)=A6 at *
 generalize ((B.length-b7.length:Nat):Int)=A7 at *
 generalize ((B.length-b8.length:Nat):Int)=A8 at *
 generalize ((B.length-b9.length:Nat):Int)=A9 at *
 generalize ((B.length-b10.length:Nat):Int)=A10 at *
 generalize ((B.length-b11.length:Nat):Int)=A11 at *
 try refine aa_ ?_
 refine ocall [0] (c1) evd (Picks.mk' (by simp) evd) ?_;refine evg ?_
 try refine aa_ ?_
 refine ocall [0] (c2) evd (Picks.mk' (by simp) evd) ?_;refine evg ?_
 try refine aa_ ?_
 refine ocall [0] (c3) evd (Picks.mk' (by simp) evd) ?_;refine evg ?_
 try refine aa_ ?_
 refine ocall [0] (c4) evd (Picks.mk' (by simp) evd) ?_;refine evg ?_
 try refine aa_ ?_
 refine ocall [0] (c5) evd (Picks.mk' (by simp) evd) ?_;refine evg ?_
 try refine aa_ ?_
 refine ocall [0] (c6) evd (Picks.mk' (by simp) evd) ?_;refine evg ?_
 try refine aa_ ?_
 refine ocall [0] (c7) evd (Picks.mk' (by simp) evd) ?_;refine evg ?_
 try refine aa_ ?_
 refine ocall [0] (c8) evd (Picks.mk' (by simp) evd) ?_;refine evg ?_
 try refine aa_ ?_
 refine ocall [0] (c9) evd (Picks.mk' (by simp) evd) ?_;refine evg ?_
 try refine aa_ ?_
 refine ocall [0] (c10) evd (Picks.mk' (by simp) evd) ?_;refine evg ?_
 try refine aa_ ?_
 refine ocall [0] (c11) evd (Picks.mk' (by simp) evd) ?_;refine evg ?_
 try refine aa_ ?_
 refine finQ [] [0] _ (by simp) (by first | rfl | exact evd) (by simp) rfl (by simp) (by simp) evd evd

set_option maxRecDepth 100000 in
theorem De_ (b:List UInt8) (hb:b.length≤140737488355328):
   PC Tryz.prog 46 [.sl 1 false (bts b)] (.tup [.agg (blkC (dec blk0 b.length (rBlk b 0)).1),.int .i64 (dec blk0 b.length (rBlk b 0)).2.1,.int .i64 (dec blk0 b.length (rBlk b 0)).2.2]):=by
 refine PC.fact 7 jt_ (by simp) ⟨bG_ b,trivial⟩ ⟨bV_ _,trivial,trivial,trivial⟩ ?_
 unfold ez_;refine bd ?_
 have c1:=qD_ b b 0 (List.suffix_refl _) hb
 generalize rBlk b 0=X at *
 obtain⟨x,b1,e1⟩:=X
 unfold dec
 dsimp only at c1 ⊢
 simp only[sro,Nat.sub_self]at c1
 generalize ((b.length-b1.length:Nat):Int)=A1 at *
 try refine aa_ ?_
 refine ocall [1] (c1) evd (Picks.mk' (by simp) evd) ?_;refine evg ?_
 try refine aa_ ?_
 by_cases he:e1=0
 · subst he
   simp only[ne_eq,not_true_eq_false,if_false]
   refine ab_ ?_
   try refine aa_ ?_
   exact fin0
 · have he':(e1 != 0)=true:=by simpa using he
   simp only[ne_eq,he,not_false_eq_true,if_true]
   refine ac_ ?_ (by(try simp only[go_sem,he']);try exact evd)
   try refine aa_ ?_
   exact fin0

theorem BS_ (b:List UInt8) (hb:b.length≤140737488355328):
   PC Tryz.prog 56 [.sl 1 false (bts b)] (.tup [.agg (vdtC (decV b.length (rVdt b 0)).1),.int .i64 (decV b.length (rVdt b 0)).2.1,.int .i64 (decV b.length (rVdt b 0)).2.2]):=by
 refine PC.fact 7 hJ_ (by simp) ⟨bG_ b,trivial⟩ ⟨eI_ _,trivial,trivial,trivial⟩ ?_
 unfold dB_;refine bd ?_
 rcases h1:rUint b 0 maxU with⟨s,b1,e1⟩
 rcases h2:rUint b1 e1 4 with⟨k,b2,e2⟩
 rcases h3:rRoot b2 e2 with⟨r,b3,e3⟩
 have s1:=bd_ b 0 maxU;rw[h1]at s1;have s1:b1 <:+ b:=s1.trans (List.suffix_refl _)
 have s2:=bd_ b1 e1 4;rw[h2]at s2;have s2:b2 <:+ b:=s2.trans s1
 have s3:=cc_ b2 e2;rw[h3]at s3;have s3:b3 <:+ b:=s3.trans s2
 have c1:=bv_ b b false 0 maxU (List.suffix_refl _) hb;rw[h1]at c1;dsimp only at c1
 have c2:=bv_ b b1 false e1 4 s1 hb;rw[h2]at c2;dsimp only at c2
 have c3:=bR_ b b2 e2 s2 hb;rw[h3]at c3;dsimp only at c3
 have hB:rVdt b 0=(⟨s,k,r⟩,b3,e3):=by simp only[rVdt,h1,h2,h3]
 have k0:=bz_ b1 e1 4;rw[h2]at k0
 have k4:=cj_ b1 e1 4 (by omega);rw[h2]at k4
 dsimp only at k0 k4
 have hw:IntKind.i64.wrap k=k:=ah_ (by omega) (by omega)
 rw[hB]
 unfold decV
 dsimp only
 simp only[sro,Nat.sub_self]at c1 c2 c3
 generalize ((b.length-b1.length:Nat):Int)=A1 at *
 generalize ((b.length-b2.length:Nat):Int)=A2 at *
 generalize ((b.length-b3.length:Nat):Int)=A3 at *
 try refine aa_ ?_
 refine ocall [1] (c1) evd (Picks.mk' (by simp) evd) ?_;refine evg ?_
 try refine aa_ ?_
 refine ocall [1] (c2) evd (Picks.mk' (by simp) evd) ?_;refine evg ?_
 repeat(first | refine aa_ ?_ | simp only[go_sem,hw])
 refine ocall [1] (c3) evd (Picks.mk' (by simp) evd) ?_;refine evg ?_
 try refine aa_ ?_
 by_cases he:e3=0
 · subst he
   simp only[ne_eq,not_true_eq_false,if_false]
   refine ab_ ?_
   by_cases hk:k=0
   · subst hk
     simp only[if_true]
     try refine aa_ ?_
     refine ac_ ?_
     try refine aa_ ?_
     exact fin0
   · have hk':(k==0)=false:=by simpa using hk
     simp only[hk,if_false]
     repeat(first | refine aa_ ?_ | simp only[go_sem,hk'])
     refine ab_ ?_ (by(try simp only[go_sem,hk']);try exact evd)
     try refine aa_ ?_
     exact fin0
 · have he':(e3 != 0)=true:=by simpa using he
   simp only[ne_eq,he,not_false_eq_true,if_true]
   refine ac_ ?_ (by(try simp only[go_sem,he']);try exact evd)
   try refine aa_ ?_
   exact fin0

theorem CQ_ (b:List UInt8) (hb:b.length≤140737488355328):
   PC Tryz.prog 47 [.sl 1 false (bts b)] (.tup [.agg (attC (attL (decA b.length (rAtt b 0)).1)),.int .i64 (decA b.length (rAtt b 0)).2.1,.int .i64 (decA b.length (rAtt b 0)).2.2]):=by
 refine PC.fact 7 fw_ (by simp) ⟨bG_ b,trivial⟩ ⟨xV_ _,trivial,trivial,trivial⟩ ?_
 unfold cD_;refine bd ?_
 rcases h1:rUint b 0 maxU with⟨s,b1,e1⟩
 rcases h2:rRoot b1 e1 with⟨r,b2,e2⟩
 rcases h3:rCp b2 e2 with⟨c,b3,e3⟩
 rcases h4:rList b3 e3 with⟨l,b4,e4⟩
 have s1:=bd_ b 0 maxU;rw[h1]at s1;have s1:b1 <:+ b:=s1.trans (List.suffix_refl _)
 have s2:=cc_ b1 e1;rw[h2]at s2;have s2:b2 <:+ b:=s2.trans s1
 have s3:=kA_ b2 e2;rw[h3]at s3;have s3:b3 <:+ b:=s3.trans s2
 have s4:=lj_ b3 e3;rw[h4]at s4;have s4:b4 <:+ b:=s4.trans s3
 have c1:=bv_ b b false 0 maxU (List.suffix_refl _) hb;rw[h1]at c1;dsimp only at c1
 have c2:=bR_ b b1 e1 s1 hb;rw[h2]at c2;dsimp only at c2
 have c3:=hE_ b b2 e2 s2 hb;rw[h3]at c3;dsimp only at c3
 have c4:=ma_ b b3 e3 s3 hb;rw[h4]at c4;dsimp only at c4
 have hB:rAtt b 0=((s,r,c,l),b4,e4):=by simp only[rAtt,h1,h2,h3,h4]
 have l5:=ib_ b3 e3;rw[h4]at l5;dsimp only at l5
 have cv:=ch_ l false 1024 (by omega)
 rw[hB]
 unfold decA
 dsimp only
 simp only[sro,Nat.sub_self]at c1 c2 c3 c4
 generalize ((b.length-b1.length:Nat):Int)=A1 at *
 generalize ((b.length-b2.length:Nat):Int)=A2 at *
 generalize ((b.length-b3.length:Nat):Int)=A3 at *
 generalize ((b.length-b4.length:Nat):Int)=A4 at *
 try refine aa_ ?_
 refine ocall [1] (c1) evd (Picks.mk' (by simp) evd) ?_;refine evg ?_
 try refine aa_ ?_
 refine ocall [1] (c2) evd (Picks.mk' (by simp) evd) ?_;refine evg ?_
 try refine aa_ ?_
 refine ocall [1] (c3) evd (Picks.mk' (by simp) evd) ?_;refine evg ?_
 try refine aa_ ?_
 refine ocall [1] (c4) evd (Picks.mk' (by simp) evd) ?_;refine evg ?_
 try refine aa_ ?_
 by_cases he:e4=0
 · subst he
   simp only[ne_eq,not_true_eq_false,if_false]
   refine ab_ ?_
   try refine aa_ ?_
   refine pcall cv ?_
   try refine aa_ ?_
   by_cases hv:vErr l 1024=0
   · simp only[hv,if_true]
     refine ab_ ?_
     try refine aa_ ?_
     exact fin0
   · have hv':(vErr l 1024 != 0)=true:=by simpa using hv
     simp only[hv,if_false]
     refine ac_ ?_ (by(try simp only[go_sem,hv']);try exact evd)
     try refine aa_ ?_
     refine⟨_,(by first | rfl | exact evd),.inr ⟨.tup [.agg (attC att0),.int .i64 0,.int .i64 2],evd,⟨(bt_ _).2 trivial,trivial,trivial,trivial⟩,Wk.tup ⟨mX_,Wk.refl _,Wk.refl _,trivial⟩⟩⟩
 · have he':(e4 != 0)=true:=by simpa using he
   simp only[ne_eq,he,not_false_eq_true,if_true]
   refine ac_ ?_ (by(try simp only[go_sem,he']);try exact evd)
   try refine aa_ ?_
   refine⟨_,(by first | rfl | exact evd),.inr ⟨.tup [.agg (attC att0),.int .i64 0,.int .i64 e4],evd,⟨(bt_ _).2 trivial,trivial,trivial,trivial⟩,Wk.tup ⟨mX_,Wk.refl _,Wk.refl _,trivial⟩⟩⟩

theorem oi_ (B b:List UInt8) (e:Int) (hs:b <:+ B) (hb:B.length≤140737488355328):
   ACall Tryz.prog 93 [.ptr 0 0] [sro false B b e] (.agg (clmC (clmL (rClm b e).1))) [sro false B (rClm b e).2.1 (rClm b e).2.2]:=by
 refine ACall.fact 4 kU_ (by simp) ?_ (by simp)
 unfold fM_;refine bd ?_
 rcases h1:rUint b e maxU with⟨s,b1,e1⟩
 rcases h2:rUint b1 e1 maxU with⟨t,b2,e2⟩
 rcases h3:rRoot b2 e2 with⟨r,b3,e3⟩
 rcases h4:rList b3 e3 with⟨l,b4,e4⟩
 have s1:=bd_ b e maxU;rw[h1]at s1;have s1:b1 <:+ B:=s1.trans hs
 have s2:=bd_ b1 e1 maxU;rw[h2]at s2;have s2:b2 <:+ B:=s2.trans s1
 have s3:=cc_ b2 e2;rw[h3]at s3;have s3:b3 <:+ B:=s3.trans s2
 have s4:=lj_ b3 e3;rw[h4]at s4;have s4:b4 <:+ B:=s4.trans s3
 have c1:=bv_ B b false e maxU hs hb;rw[h1]at c1;dsimp only at c1
 have c2:=bv_ B b1 false e1 maxU s1 hb;rw[h2]at c2;dsimp only at c2
 have c3:=bR_ B b2 e2 s2 hb;rw[h3]at c3;dsimp only at c3
 have c4:=ma_ B b3 e3 s3 hb;rw[h4]at c4;dsimp only at c4
 have hB:rClm b e=((s,t,r,l),b4,e4):=by simp only[rClm,h1,h2,h3,h4]
 rw[hB]
 dsimp only
 simp only[sro]at c1 c2 c3 c4 ⊢
 generalize ((B.length-b.length:Nat):Int)=A0 at *
 generalize ((B.length-b1.length:Nat):Int)=A1 at *
 generalize ((B.length-b2.length:Nat):Int)=A2 at *
 generalize ((B.length-b3.length:Nat):Int)=A3 at *
 generalize ((B.length-b4.length:Nat):Int)=A4 at *
 try refine aa_ ?_
 refine ocall [0] (c1) evd (Picks.mk' (by simp) evd) ?_;refine evg ?_
 try refine aa_ ?_
 refine ocall [0] (c2) evd (Picks.mk' (by simp) evd) ?_;refine evg ?_
 try refine aa_ ?_
 refine ocall [0] (c3) evd (Picks.mk' (by simp) evd) ?_;refine evg ?_
 try refine aa_ ?_
 refine ocall [0] (c4) evd (Picks.mk' (by simp) evd) ?_;refine evg ?_
 try refine aa_ ?_
 refine finQ [] [0] _ (by simp) (by first | rfl | exact evd) (by simp) rfl (by simp) (by simp) evd evd

theorem Fc_ (x:Cv) (h1:U64 x.1) (h2:U64 x.2.1) (h3:x.2.2.2.length≤140737488355328):ClmU (clmL x) x.2.2.2 false:=⟨h1,h2,rfl,h3⟩
theorem yr_ (b:List UInt8) (e:Int):U64 (rUint b e maxU).1:=⟨bz_ b e maxU,Int.lt_of_le_of_lt (cj_ b e maxU (by decide)) (by decide)⟩
theorem Bl_ (b:List UInt8) (e:Int):ClmU (clmL (rClm b e).1) (rClm b e).1.2.2.2 false:=
 Fc_ _ (yr_ _ _) (yr_ _ _) (Nat.le_trans (hX_ b e) (by decide))

theorem Cn_ (b:List UInt8) (hb:b.length≤140737488355328):
   PC Tryz.prog 50 [.sl 1 false (bts b)] (.tup [.agg (slgC (slgL (decS b.length (rSlg b 0)).1)),.int .i64 (decS b.length (rSlg b 0)).2.1,.int .i64 (decS b.length (rSlg b 0)).2.2]):=by
 refine PC.fact 9 gR_ (by simp) ⟨bG_ b,trivial⟩ ⟨xX_ _,trivial,trivial,trivial⟩ ?_
 unfold dk_;refine bd ?_
 rcases h1:rClm b 0 with⟨s,b1,e1⟩
 rcases h2:rClm b1 e1 with⟨t,b2,e2⟩
 have s1:=vg_ b 0;rw[h1]at s1;have s1:b1 <:+ b:=s1.trans (List.suffix_refl _)
 have s2:=vg_ b1 e1;rw[h2]at s2;have s2:b2 <:+ b:=s2.trans s1
 have c1:=oi_ b b 0 (List.suffix_refl _) hb;rw[h1]at c1;dsimp only at c1
 have c2:=oi_ b b1 e1 s1 hb;rw[h2]at c2;dsimp only at c2
 have hB:rSlg b 0=((s,t),b2,e2):=by simp only[rSlg,h1,h2]
 have u1:=Bl_ b 0;rw[h1]at u1
 have u2:=Bl_ b1 e1;rw[h2]at u2
 dsimp only at u1 u2
 have cv:=nN_ (slgL (s,t)) s.2.2.2 t.2.2.2 false false u1 u2
 rw[hB]
 unfold decS
 dsimp only
 simp only[sro,Nat.sub_self]at c1 c2
 generalize ((b.length-b1.length:Nat):Int)=A1 at *
 generalize ((b.length-b2.length:Nat):Int)=A2 at *
 have hm:slgL (s,t)=⟨clmL s,clmL t⟩:=rfl
 rw[hm]at cv
 try refine aa_ ?_
 refine ocall [1] (c1) evd (Picks.mk' (by simp) evd) ?_;refine evg ?_
 try refine aa_ ?_
 refine ocall [1] (c2) evd (Picks.mk' (by simp) evd) ?_;refine evg ?_
 try refine aa_ ?_
 by_cases he:e2=0
 · subst he
   simp only[ne_eq,not_true_eq_false,if_false]
   refine ab_ ?_
   try refine aa_ ?_
   refine pcall cv ?_
   try refine aa_ ?_
   by_cases hv:vErr s.2.2.2 1024=0∧vErr t.2.2.2 1024=0
   · have hq:slErr s.2.2.2 t.2.2.2=0:=by rw[slErr,if_pos hv.1];exact hv.2
     simp only[hv,and_self,if_true]
     refine ab_ ?_ (by(try simp only[go_sem,hq]);try exact evd)
     try refine aa_ ?_
     exact fin0
   · have hq:(slErr s.2.2.2 t.2.2.2 != 0)=true:=by
       have:slErr s.2.2.2 t.2.2.2≠0:=by
         unfold slErr
         split
         · rename_i h1';exact fun h2'=>hv ⟨h1',h2'⟩
         · assumption
       simpa using this
     rw[if_neg hv]
     refine ac_ ?_ (by(try simp only[go_sem,hq]);try exact evd)
     try refine aa_ ?_
     refine⟨_,(by first | rfl | exact evd),.inr ⟨.tup [.agg (slgC slg0),.int .i64 0,.int .i64 2],evd,⟨(bI_ _).2 ⟨trivial,trivial⟩,trivial,trivial,trivial⟩,Wk.tup ⟨nc_,Wk.refl _,Wk.refl _,trivial⟩⟩⟩
 · have he':(e2 != 0)=true:=by simpa using he
   simp only[ne_eq,he,not_false_eq_true,if_true]
   refine ac_ ?_ (by(try simp only[go_sem,he']);try exact evd)
   try refine aa_ ?_
   refine⟨_,(by first | rfl | exact evd),.inr ⟨.tup [.agg (slgC slg0),.int .i64 0,.int .i64 e2],evd,⟨(bI_ _).2 ⟨trivial,trivial⟩,trivial,trivial,trivial⟩,Wk.tup ⟨nc_,Wk.refl _,Wk.refl _,trivial⟩⟩⟩

theorem vv_ (x:Tv) (ρ:Nat→Nat):(tabL x).map (ren ρ)=tabL x:=by simp only[tabL,Tab.map,ren,bh_]
theorem xN_ (x:Tv) (σ:St) (zs:List Nat):(tabL x).map (fz σ zs)=tabL x:=by simp only[tabL,Tab.map,fz,bD_]
theorem yY_ (x:Tv):(tabL x).good=true:=rfl
attribute [go_sem] vv_ xN_ yY_
theorem pH_ (B b:List UInt8) (e:Int) (hs:b <:+ B) (hb:B.length≤140737488355328):
   ACall Tryz.prog 97 [.ptr 0 0] [sro false B b e] (.agg (tabC (tabL (rTab b e).1))) [sro false B (rTab b e).2.1 (rTab b e).2.2]:=by
 refine ACall.fact 6 lh_ (by simp) ?_ (by simp)
 unfold fX_;refine bd ?_
 rcases h1:rUint b e maxU with⟨s,b1,e1⟩
 rcases h2:rRoot b1 e1 with⟨r,b2,e2⟩
 rcases h3:rUint b2 e2 1024 with⟨n,b3,e3⟩
 have s1:=bd_ b e maxU;rw[h1]at s1;have s1:b1 <:+ B:=s1.trans hs
 have s2:=cc_ b1 e1;rw[h2]at s2;have s2:b2 <:+ B:=s2.trans s1
 have s3:=bd_ b2 e2 1024;rw[h3]at s3;have s3:b3 <:+ B:=s3.trans s2
 have c1:=bv_ B b false e maxU hs hb;rw[h1]at c1;dsimp only at c1
 have c2:=bR_ B b1 e1 s1 hb;rw[h2]at c2;dsimp only at c2
 have c3:=bv_ B b2 false e2 1024 s2 hb;rw[h3]at c3;dsimp only at c3
 have hB:rTab b e=((⟨s,r⟩,(rNums n.toNat [] b3 e3).1),(rNums n.toNat [] b3 e3).2.1,(rNums n.toNat [] b3 e3).2.2):=by simp only[rTab,h1,h2,h3]
 have n0:=bz_ b2 e2 1024;rw[h3]at n0
 have n1:=cj_ b2 e2 1024 (by omega);rw[h3]at n1
 dsimp only at n0 n1
 have hw:IntKind.i64.wrap n=n:=ah_ (by omega) (by omega)
 rw[hB]
 generalize hLL:rNums n.toNat [] b3 e3=L at *
 dsimp only
 simp only[sro]at c1 c2 c3 ⊢
 generalize ((B.length-b.length:Nat):Int)=A0 at *
 generalize ((B.length-b1.length:Nat):Int)=A1 at *
 generalize ((B.length-b2.length:Nat):Int)=A2 at *
 try refine aa_ ?_
 refine ocall [0] (c1) evd (Picks.mk' (by simp) evd) ?_;refine evg ?_
 try refine aa_ ?_
 refine ocall [0] (c2) evd (Picks.mk' (by simp) evd) ?_;refine evg ?_
 try refine aa_ ?_
 refine ocall [0] (c3) evd (Picks.mk' (by simp) evd) ?_;refine evg ?_
 repeat(first | refine aa_ ?_ | simp only[go_sem,hw])
 refine bm_ (fun x:Bool × List Int × List UInt8 × Int=>⟨6,[.ptr 0 0,.dead,.ptr 1 0,.ptr 2 0,.int .i64 n,.int .i64 x.2.1.length],[]⟩)
   (fun x=>sro false B x.2.2.1 x.2.2.2::.var (tabC tab0)::.var (tabC ⟨⟨s,r⟩,if x.1 then .hs 1 3 0 x.2.1.length else .sl 0 true []⟩)::(if x.1 then [.vec 1 (nums .u64 x.2.1)]else [])) (fun x=>n.toNat-x.2.1.length)
   (fun x=>rNums (n.toNat-x.2.1.length) x.2.1 x.2.2.1 x.2.2.2=L∧x.2.1.length≤n.toNat∧x.2.2.1 <:+ B∧(x.1=false→x.2.1=[]))
   (false,[],b3,e3) ⟨by simpa using hLL,by simp,s3,by simp⟩ ?_ ?_
 · refine GC.mk' [] [0,1,2] (by simp) rfl (by simp) (by simp) evd evd
 rintro⟨st,acc,bb,ee⟩ ⟨i1,i2,i3,i4⟩
 dsimp only at i1 i2 i3 i4 ⊢
 have hw1:=af_ (n:=acc.length+1) (i:=acc.length) (by omega) (by omega)
 have c5:=bv_ B bb false ee maxU i3 hb
 by_cases hi:acc.length<n.toNat
 · have hi':decide ((acc.length:Int)<n)=true:=by rw[decide_eq_true_eq];omega
   obtain⟨k,hk⟩:∃ k,n.toNat-acc.length=k+1:=⟨n.toNat-acc.length-1,by omega⟩
   rw[hk,rNums]at i1
   by_cases he:ee=0
   · subst he
     rw[if_neg (by simp)]at i1
     have v2:=bd_ bb 0 maxU
     generalize rUint bb 0 maxU=V at *
     obtain⟨v,b4,e4⟩:=V
     dsimp only at v2 c5 i1
     have v3:=v2.trans i3
     simp only[sro]at c5 ⊢
     generalize ((B.length-bb.length:Nat):Int)=A4 at *
     cases st with
     | false =>
       obtain rfl:=i4 rfl
       simp only[List.length_nil]at hi hk i2
       have hi0:decide ((0:Int)<n)=true:=by rw[decide_eq_true_eq];omega
       have hwz:IntKind.i64.wrap ((0:Int)+1)=1:=by decide
       repeat(first | refine aa_ ?_ | simp only[go_sem,hi0])
       refine ac_ ?_
       try refine aa_ ?_
       refine dcall [0] (c5) (by simp) evd (Picks.mk' (by simp) evd) ?_;refine evg ?_
       repeat(first | refine aa_ ?_ | simp only[go_sem,hwz])
       refine⟨(true,[v],b4,e4),⟨?_,?_,v3,?_⟩,?_,?_⟩
       · simp only[List.length_cons,List.length_nil]
         rw[show n.toNat-(0+1)=k by omega]
         exact i1
       · simp only[List.length_cons,List.length_nil];omega
       · simp
       · simp only[List.length_cons,List.length_nil];omega
       · refine GC.mk' [] [0,1,2,4] (by simp) rfl (by simp) (by simp) evd evd
     | true =>
       repeat(first | refine aa_ ?_ | simp only[go_sem,hi'])
       refine ac_ ?_
       try refine aa_ ?_
       refine dcall [0] (c5) (by simp) evd (Picks.mk' (by simp) evd) ?_;refine evg ?_
       repeat(first | refine aa_ ?_ | simp only[go_sem,hw1])
       refine⟨(true,acc++[v],b4,e4),⟨?_,?_,v3,?_⟩,?_,?_⟩
       · simp only[List.length_append,List.length_cons,List.length_nil]
         rw[show n.toNat-(acc.length+(0+1))=k by omega]
         exact i1
       · simp only[List.length_append,List.length_cons,List.length_nil];omega
       · simp
       · simp only[List.length_append,List.length_cons,List.length_nil];omega
       · refine GC.mk' [] [0,1,2,5] (by simp) rfl (by simp) (by simp) evd evd
   · have he':(ee==0)=false:=by simpa using he
     rw[if_pos he]at i1
     subst i1
     dsimp only
     simp only[sro]
     generalize ((B.length-bb.length:Nat):Int)=A4 at *
     cases st with
     | false =>
       obtain rfl:=i4 rfl
       simp only[List.length_nil]at hi i2
       have hi0:decide ((0:Int)<n)=true:=by rw[decide_eq_true_eq];omega
       repeat(first | refine aa_ ?_ | simp only[go_sem,hi0,he'])
       refine ab_ ?_
       try refine aa_ ?_
       refine finQw [] [0] _ (by simp) (by first | rfl | exact evd) (by simp) rfl (by simp) (by simp) evd evd (tD_ _ (Wk.empty 0 1 false) fun h=>h)
     | true =>
       repeat(first | refine aa_ ?_ | simp only[go_sem,hi',he'])
       refine ab_ ?_
       try refine aa_ ?_
       refine finQ [3] [0] _ (by simp) (by first | rfl | exact evd) (by simp) rfl (by simp) (by simp) evd evd
 · have hi':decide ((acc.length:Int)<n)=false:=by rw[decide_eq_false_iff_not];omega
   rw[show n.toNat-acc.length=0 by omega,rNums]at i1
   subst i1
   dsimp only
   simp only[sro]
   generalize ((B.length-bb.length:Nat):Int)=A4 at *
   cases st with
   | false =>
     obtain rfl:=i4 rfl
     simp only[List.length_nil]at hi i2
     have hi0:decide ((0:Int)<n)=false:=by rw[decide_eq_false_iff_not];omega
     repeat(first | refine aa_ ?_ | simp only[go_sem,hi0])
     refine ab_ ?_
     try refine aa_ ?_
     refine finQw [] [0] _ (by simp) (by first | rfl | exact evd) (by simp) rfl (by simp) (by simp) evd evd (tD_ _ (Wk.empty 0 1 false) fun h=>h)
   | true =>
     repeat(first | refine aa_ ?_ | simp only[go_sem,hi'])
     refine ab_ ?_
     try refine aa_ ?_
     refine finQ [3] [0] _ (by simp) (by first | rfl | exact evd) (by simp) rfl (by simp) (by simp) evd evd

theorem Ce_ (b:List UInt8) (hb:b.length≤140737488355328):
   PC Tryz.prog 53 [.sl 1 false (bts b)] (.tup [.agg (tabC (tabL (dec tabZ b.length (rTab b 0)).1)),.int .i64 (dec tabZ b.length (rTab b 0)).2.1,.int .i64 (dec tabZ b.length (rTab b 0)).2.2]):=by
 refine PC.fact 7 jD_ (by simp) ⟨bG_ b,trivial⟩ ⟨xK_ _,trivial,trivial,trivial⟩ ?_
 unfold eV_;refine bd ?_
 have c1:=pH_ b b 0 (List.suffix_refl _) hb
 generalize rTab b 0=X at *
 obtain⟨x,b1,e1⟩:=X
 unfold dec
 dsimp only at c1 ⊢
 simp only[sro,Nat.sub_self]at c1
 generalize ((b.length-b1.length:Nat):Int)=A1 at *
 try refine aa_ ?_
 refine ocall [1] (c1) evd (Picks.mk' (by simp) evd) ?_;refine evg ?_
 try refine aa_ ?_
 by_cases he:e1=0
 · subst he
   simp only[ne_eq,not_true_eq_false,if_false]
   refine ab_ ?_
   try refine aa_ ?_
   exact fin0
 · have he':(e1 != 0)=true:=by simpa using he
   simp only[ne_eq,he,not_false_eq_true,if_true]
   refine ac_ ?_ (by(try simp only[go_sem,he']);try exact evd)
   try refine aa_ ?_
   refine⟨_,(by first | rfl | exact evd),.inr ⟨.tup [.agg (tabC tab0),.int .i64 0,.int .i64 e1],evd,⟨(bs_ _).2 trivial,trivial,trivial,trivial⟩,Wk.tup ⟨ka_,Wk.refl _,Wk.refl _,trivial⟩⟩⟩

theorem Eu_ (x:Bool):selAV true (.bool x) (.tup [])=.bool x:=rfl
theorem Eq_ (y:Bool):selAV false (.tup []) (.bool y)=.bool y:=rfl
attribute [go_sem] Eu_ Eq_
theorem iN_ (l m:List Int) (c d:Bool) (hl:l.length≤140737488355328) (hm:m.length≤140737488355328):PC Tryz.prog 91 [.sl 1 c (nums .i64 l),.sl 1 d (nums .i64 m)] (.bool (decide (l=m))):=by
 refine PC.fact 6 mi_ (by simp) ⟨aw_ _ _,aw_ _ _,trivial⟩ trivial ?_
 unfold gK_;refine bd ?_
 by_cases hlen:l.length=m.length
 · have h0:((l.length:Int) != (m.length:Int))=false:=by rw[hlen];exact bne_self_eq_false _
   try refine aa_ ?_
   refine ab_ ?_ (by(try simp only[go_sem,h0]);try exact evd)
   try refine aa_ ?_
   refine bM_ (fun i:Nat=>⟨6,[.sl 1 c (nums .i64 l),.sl 1 d (nums .i64 m),.dead,.dead,.bool false,.int .i64 i],[]⟩) (fun _=>[]) (fun i=>l.length-i) (fun i=>i≤l.length∧l.take i=m.take i) [] 0 ⟨by omega,rfl⟩ evd rfl ?_
   rintro i ⟨hi,hv⟩
   try dsimp only
   try refine aa_ ?_
   refine al_ evd (fun h=>?_) (fun h=>?_)
   · have h1:i<l.length:=by simpa using h
     have h2:i<m.length:=by omega
     have hw:=af_ h1 (by omega)
     have g1:=bK_ (k:=.i64) h1
     have g2:=bK_ (k:=.i64) h2
     by_cases he:l.getD i 0=m.getD i 0
     · rw[he]at g1
       repeat(first | refine aa_ ?_ | simp only[go_sem,g1,g2])
       refine ab_ ?_
       repeat(first | refine aa_ ?_ | simp only[go_sem,hw])
       refine⟨i+1,⟨h1,?_⟩,by omega,rfl⟩
       rw[List.take_add_one,List.take_add_one,hv,List.getElem?_eq_getElem h1,List.getElem?_eq_getElem h2]
       rw[List.getD_eq_getElem?_getD,List.getD_eq_getElem?_getD,List.getElem?_eq_getElem h1,List.getElem?_eq_getElem h2]at he
       simp only[Option.getD_some]at he
       rw[he]
     · have he':(l.getD i 0 != m.getD i 0)=true:=by simpa using he
       have hne:decide (l=m)=false:=by rw[decide_eq_false_iff_not];intro hh;rw[hh]at he;exact he rfl
       rw[hne]
       repeat(first | refine aa_ ?_ | simp only[go_sem,g1,g2])
       refine ac_ ?_ (by(try simp only[go_sem,he']);try exact evd)
       try refine aa_ ?_
       exact fin0
   · have h1:i=l.length:=by simp at h;omega
     subst h1
     have he:l=m:=by
       rw[List.take_length,hlen,List.take_length]at hv
       exact hv
     subst he
     rw[decide_eq_true rfl]
     try refine aa_ ?_
     exact fin0
 · have h0:((l.length:Int) != (m.length:Int))=true:=by simp;omega
   have hne:decide (l=m)=false:=by rw[decide_eq_false_iff_not];intro hh;rw[hh]at hlen;exact hlen rfl
   rw[hne]
   try refine aa_ ?_
   refine ac_ ?_ (by(try simp only[go_sem,h0]);try exact evd)
   try refine aa_ ?_
   exact fin0
theorem qJ_ (l m:List Int) (c d:Bool) (hl:l.length≤140737488355328) (hm:m.length≤140737488355328):PC Tryz.prog 98 [.sl 1 c (nums .u64 l),.sl 1 d (nums .u64 m)] (.bool (decide (l=m))):=by
 refine PC.fact 6 js_ (by simp) ⟨aw_ _ _,aw_ _ _,trivial⟩ trivial ?_
 unfold eB_;refine bd ?_
 by_cases hlen:l.length=m.length
 · have h0:((l.length:Int) != (m.length:Int))=false:=by rw[hlen];exact bne_self_eq_false _
   try refine aa_ ?_
   refine ab_ ?_ (by(try simp only[go_sem,h0]);try exact evd)
   try refine aa_ ?_
   refine bM_ (fun i:Nat=>⟨6,[.sl 1 c (nums .u64 l),.sl 1 d (nums .u64 m),.dead,.dead,.bool false,.int .i64 i],[]⟩) (fun _=>[]) (fun i=>l.length-i) (fun i=>i≤l.length∧l.take i=m.take i) [] 0 ⟨by omega,rfl⟩ evd rfl ?_
   rintro i ⟨hi,hv⟩
   try dsimp only
   try refine aa_ ?_
   refine al_ evd (fun h=>?_) (fun h=>?_)
   · have h1:i<l.length:=by simpa using h
     have h2:i<m.length:=by omega
     have hw:=af_ h1 (by omega)
     have g1:=bK_ (k:=.u64) h1
     have g2:=bK_ (k:=.u64) h2
     by_cases he:l.getD i 0=m.getD i 0
     · rw[he]at g1
       repeat(first | refine aa_ ?_ | simp only[go_sem,g1,g2])
       refine ab_ ?_
       repeat(first | refine aa_ ?_ | simp only[go_sem,hw])
       refine⟨i+1,⟨h1,?_⟩,by omega,rfl⟩
       rw[List.take_add_one,List.take_add_one,hv,List.getElem?_eq_getElem h1,List.getElem?_eq_getElem h2]
       rw[List.getD_eq_getElem?_getD,List.getD_eq_getElem?_getD,List.getElem?_eq_getElem h1,List.getElem?_eq_getElem h2]at he
       simp only[Option.getD_some]at he
       rw[he]
     · have he':(l.getD i 0 != m.getD i 0)=true:=by simpa using he
       have hne:decide (l=m)=false:=by rw[decide_eq_false_iff_not];intro hh;rw[hh]at he;exact he rfl
       rw[hne]
       repeat(first | refine aa_ ?_ | simp only[go_sem,g1,g2])
       refine ac_ ?_ (by(try simp only[go_sem,he']);try exact evd)
       try refine aa_ ?_
       exact fin0
   · have h1:i=l.length:=by simp at h;omega
     subst h1
     have he:l=m:=by
       rw[List.take_length,hlen,List.take_length]at hv
       exact hv
     subst he
     rw[decide_eq_true rfl]
     try refine aa_ ?_
     exact fin0
 · have h0:((l.length:Int) != (m.length:Int))=true:=by simp;omega
   have hne:decide (l=m)=false:=by rw[decide_eq_false_iff_not];intro hh;rw[hh]at hlen;exact hlen rfl
   rw[hne]
   try refine aa_ ?_
   refine ac_ ?_ (by(try simp only[go_sem,h0]);try exact evd)
   try refine aa_ ?_
   exact fin0

theorem vH_ (x y:Att) (l m:List Int) (c d:Bool) (hx:x.vals=.sl 1 c (nums .i64 l)) (hy:y.vals=.sl 1 d (nums .i64 m)) (hl:l.length≤140737488355328) (hm:m.length≤140737488355328):
   PC Tryz.prog 48 [.agg (attC x),.agg (attC y)] (.bool (decide (x.slot=y.slot∧x.root=y.root∧x.target=y.target∧l=m))):=by
 refine PC.fact 5 gs_ (by simp) ⟨(bt_ x).2 (by rw[Att.Pure,hx];exact aw_ _ _),(bt_ y).2 (by rw[Att.Pure,hy];exact aw_ _ _),trivial⟩ trivial ?_
 unfold dc_;refine bd ?_
 have gx:x.good=true:=by rw[Att.good,hx];rfl
 have gy:y.good=true:=by rw[Att.good,hy];rfl
 by_cases h1:x.slot=y.slot
 · have e1:(x.slot==y.slot)=true:=by simp[h1]
   by_cases h2:x.root=y.root
   · have e2:decide (x.root=y.root)=true:=by simp[h2]
     by_cases h3:x.target=y.target
     · have e3:decide (x.target=y.target)=true:=by simp[h3]
       repeat(first | refine aa_ ?_ | simp only[go_sem,gx,gy,hx,hy,e1,e2,e3])
       refine pcall (iN_ l m c d hl hm) ?_
       try refine aa_ ?_
       refine⟨_,(by first | rfl | exact evd),.inl ?_⟩;(try simp only[go_sem,Nat.reduceAdd,Nat.reduceSub,Nat.reduceMul,Nat.reduceLT,Nat.reduceLeDiff,Nat.reduceEqDiff,reduceIte,Int.reduceToNat,Int.reduceLT,Int.reduceLE,Int.reduceEq,Int.reduceNeg,reduceCtorEq,Int.reduceBEq,Int.reduceBNe])
       try simp[h1,h2,h3]
     · have e3:decide (x.target=y.target)=false:=by simp[h3]
       repeat(first | refine aa_ ?_ | simp only[go_sem,gx,gy,hx,hy,e1,e2,e3])
       refine⟨_,(by first | rfl | exact evd),.inl ?_⟩;(try simp only[go_sem,Nat.reduceAdd,Nat.reduceSub,Nat.reduceMul,Nat.reduceLT,Nat.reduceLeDiff,Nat.reduceEqDiff,reduceIte,Int.reduceToNat,Int.reduceLT,Int.reduceLE,Int.reduceEq,Int.reduceNeg,reduceCtorEq,Int.reduceBEq,Int.reduceBNe])
       try simp[h1,h2,h3]
   · have e2:decide (x.root=y.root)=false:=by simp[h2]
     repeat(first | refine aa_ ?_ | simp only[go_sem,gx,gy,hx,hy,e1,e2])
     refine⟨_,(by first | rfl | exact evd),.inl ?_⟩;(try simp only[go_sem,Nat.reduceAdd,Nat.reduceSub,Nat.reduceMul,Nat.reduceLT,Nat.reduceLeDiff,Nat.reduceEqDiff,reduceIte,Int.reduceToNat,Int.reduceLT,Int.reduceLE,Int.reduceEq,Int.reduceNeg,reduceCtorEq,Int.reduceBEq,Int.reduceBNe])
     try simp[h1,h2]
 · have e1:(x.slot==y.slot)=false:=by simp[h1]
   repeat(first | refine aa_ ?_ | simp only[go_sem,gx,gy,hx,hy,e1])
   refine⟨_,(by first | rfl | exact evd),.inl ?_⟩;(try simp only[go_sem,Nat.reduceAdd,Nat.reduceSub,Nat.reduceMul,Nat.reduceLT,Nat.reduceLeDiff,Nat.reduceEqDiff,reduceIte,Int.reduceToNat,Int.reduceLT,Int.reduceLE,Int.reduceEq,Int.reduceNeg,reduceCtorEq,Int.reduceBEq,Int.reduceBNe])
   try simp[h1]

theorem uA_ (x y:Clm) (l m:List Int) (c d:Bool) (hx:x.vals=.sl 1 c (nums .i64 l)) (hy:y.vals=.sl 1 d (nums .i64 m)) (hl:l.length≤140737488355328) (hm:m.length≤140737488355328):
   PC Tryz.prog 94 [.agg (clmC x),.agg (clmC y)] (.bool (decide (x.src=y.src∧x.tgt=y.tgt∧x.root=y.root∧l=m))):=by
 refine PC.fact 5 lb_ (by simp) ⟨(fO_ x).2 (by rw[Clm.Pure,hx];exact aw_ _ _),(fO_ y).2 (by rw[Clm.Pure,hy];exact aw_ _ _),trivial⟩ trivial ?_
 unfold fB_;refine bd ?_
 have gx:x.good=true:=by rw[Clm.good,hx];rfl
 have gy:y.good=true:=by rw[Clm.good,hy];rfl
 by_cases h1:x.src=y.src
 · have e1:(x.src==y.src)=true:=by simp[h1]
   by_cases h2:x.tgt=y.tgt
   · have e2:(x.tgt==y.tgt)=true:=by simp[h2]
     by_cases h3:x.root=y.root
     · have e3:decide (x.root=y.root)=true:=by simp[h3]
       repeat(first | refine aa_ ?_ | simp only[go_sem,gx,gy,hx,hy,e1,e2,e3])
       refine pcall (iN_ l m c d hl hm) ?_
       try refine aa_ ?_
       refine⟨_,(by first | rfl | exact evd),.inl ?_⟩;(try simp only[go_sem,Nat.reduceAdd,Nat.reduceSub,Nat.reduceMul,Nat.reduceLT,Nat.reduceLeDiff,Nat.reduceEqDiff,reduceIte,Int.reduceToNat,Int.reduceLT,Int.reduceLE,Int.reduceEq,Int.reduceNeg,reduceCtorEq,Int.reduceBEq,Int.reduceBNe])
       try simp[h1,h2,h3]
     · have e3:decide (x.root=y.root)=false:=by simp[h3]
       repeat(first | refine aa_ ?_ | simp only[go_sem,gx,gy,hx,hy,e1,e2,e3])
       refine⟨_,(by first | rfl | exact evd),.inl ?_⟩;(try simp only[go_sem,Nat.reduceAdd,Nat.reduceSub,Nat.reduceMul,Nat.reduceLT,Nat.reduceLeDiff,Nat.reduceEqDiff,reduceIte,Int.reduceToNat,Int.reduceLT,Int.reduceLE,Int.reduceEq,Int.reduceNeg,reduceCtorEq,Int.reduceBEq,Int.reduceBNe])
       try simp[h1,h2,h3]
   · have e2:(x.tgt==y.tgt)=false:=by simp[h2]
     repeat(first | refine aa_ ?_ | simp only[go_sem,gx,gy,hx,hy,e1,e2])
     refine⟨_,(by first | rfl | exact evd),.inl ?_⟩;(try simp only[go_sem,Nat.reduceAdd,Nat.reduceSub,Nat.reduceMul,Nat.reduceLT,Nat.reduceLeDiff,Nat.reduceEqDiff,reduceIte,Int.reduceToNat,Int.reduceLT,Int.reduceLE,Int.reduceEq,Int.reduceNeg,reduceCtorEq,Int.reduceBEq,Int.reduceBNe])
     try simp[h1,h2]
 · have e1:(x.src==y.src)=false:=by simp[h1]
   repeat(first | refine aa_ ?_ | simp only[go_sem,gx,gy,hx,hy,e1])
   refine⟨_,(by first | rfl | exact evd),.inl ?_⟩;(try simp only[go_sem,Nat.reduceAdd,Nat.reduceSub,Nat.reduceMul,Nat.reduceLT,Nat.reduceLeDiff,Nat.reduceEqDiff,reduceIte,Int.reduceToNat,Int.reduceLT,Int.reduceLE,Int.reduceEq,Int.reduceNeg,reduceCtorEq,Int.reduceBEq,Int.reduceBNe])
   try simp[h1]

theorem uT_ (x y:Tab) (l m:List Int) (c d:Bool) (hx:x.bals=.sl 1 c (nums .u64 l)) (hy:y.bals=.sl 1 d (nums .u64 m)) (hl:l.length≤140737488355328) (hm:m.length≤140737488355328):
   PC Tryz.prog 54 [.agg (tabC x),.agg (tabC y)] (.bool (decide (x.cp=y.cp∧l=m))):=by
 refine PC.fact 5 lE_ (by simp) ⟨(bs_ x).2 (by rw[Tab.Pure,hx];exact aw_ _ _),(bs_ y).2 (by rw[Tab.Pure,hy];exact aw_ _ _),trivial⟩ trivial ?_
 unfold fY_;refine bd ?_
 have gx:x.good=true:=by rw[Tab.good,hx];rfl
 have gy:y.good=true:=by rw[Tab.good,hy];rfl
 by_cases h1:x.cp=y.cp
 · have e1:decide (x.cp=y.cp)=true:=by simp[h1]
   repeat(first | refine aa_ ?_ | simp only[go_sem,gx,gy,hx,hy,e1])
   refine pcall (qJ_ l m c d hl hm) ?_
   try refine aa_ ?_
   refine⟨_,(by first | rfl | exact evd),.inl ?_⟩;(try simp only[go_sem,Nat.reduceAdd,Nat.reduceSub,Nat.reduceMul,Nat.reduceLT,Nat.reduceLeDiff,Nat.reduceEqDiff,reduceIte,Int.reduceToNat,Int.reduceLT,Int.reduceLE,Int.reduceEq,Int.reduceNeg,reduceCtorEq,Int.reduceBEq,Int.reduceBNe])
   try simp[h1]
 · have e1:decide (x.cp=y.cp)=false:=by simp[h1]
   repeat(first | refine aa_ ?_ | simp only[go_sem,gx,gy,hx,hy,e1])
   refine⟨_,(by first | rfl | exact evd),.inl ?_⟩;(try simp only[go_sem,Nat.reduceAdd,Nat.reduceSub,Nat.reduceMul,Nat.reduceLT,Nat.reduceLeDiff,Nat.reduceEqDiff,reduceIte,Int.reduceToNat,Int.reduceLT,Int.reduceLE,Int.reduceEq,Int.reduceNeg,reduceCtorEq,Int.reduceBEq,Int.reduceBNe])
   try simp[h1]

theorem ul_ (x y:Slg) (l1 l2 m1 m2:List Int) (c1 c2 d1 d2:Bool) (hx1:x.fst.vals=.sl 1 c1 (nums .i64 l1)) (hx2:x.snd.vals=.sl 1 c2 (nums .i64 l2)) (hy1:y.fst.vals=.sl 1 d1 (nums .i64 m1)) (hy2:y.snd.vals=.sl 1 d2 (nums .i64 m2))
   (hl1:l1.length≤140737488355328) (hl2:l2.length≤140737488355328) (hm1:m1.length≤140737488355328) (hm2:m2.length≤140737488355328):
   PC Tryz.prog 51 [.agg (slgC x),.agg (slgC y)] (.bool (decide (x.fst.src=y.fst.src∧x.fst.tgt=y.fst.tgt∧x.fst.root=y.fst.root∧l1=m1)&&decide (x.snd.src=y.snd.src∧x.snd.tgt=y.snd.tgt∧x.snd.root=y.snd.root∧l2=m2))):=by
 have px1:x.fst.Pure:=by rw[Clm.Pure,hx1];exact aw_ _ _
 have px2:x.snd.Pure:=by rw[Clm.Pure,hx2];exact aw_ _ _
 have py1:y.fst.Pure:=by rw[Clm.Pure,hy1];exact aw_ _ _
 have py2:y.snd.Pure:=by rw[Clm.Pure,hy2];exact aw_ _ _
 have gx1:x.fst.good=true:=by rw[Clm.good,hx1];rfl
 have gx2:x.snd.good=true:=by rw[Clm.good,hx2];rfl
 have gy1:y.fst.good=true:=by rw[Clm.good,hy1];rfl
 have gy2:y.snd.good=true:=by rw[Clm.good,hy2];rfl
 have gx:x.good=true:=by rw[Slg.good,gx1,gx2];rfl
 have gy:y.good=true:=by rw[Slg.good,gy1,gy2];rfl
 refine PC.fact 5 ip_ (by simp) ⟨(bI_ x).2 ⟨px1,px2⟩,(bI_ y).2 ⟨py1,py2⟩,trivial⟩ trivial ?_
 unfold dX_;refine bd ?_
 have k1:=uA_ x.fst y.fst l1 m1 c1 d1 hx1 hy1 hl1 hm1
 have k2:=uA_ x.snd y.snd l2 m2 c2 d2 hx2 hy2 hl2 hm2
 generalize decide (x.fst.src=y.fst.src∧x.fst.tgt=y.fst.tgt∧x.fst.root=y.fst.root∧l1=m1)=b1 at *
 generalize decide (x.snd.src=y.snd.src∧x.snd.tgt=y.snd.tgt∧x.snd.root=y.snd.root∧l2=m2)=b2 at *
 cases b1
 · repeat(first | refine aa_ ?_ | simp only[go_sem,gx,gy,gx1,gx2,gy1,gy2])
   refine pcall k1 ?_
   repeat(first | refine aa_ ?_ | simp only[go_sem,gx,gy,gx1,gx2,gy1,gy2])
   exact fin0
 · repeat(first | refine aa_ ?_ | simp only[go_sem,gx,gy,gx1,gx2,gy1,gy2])
   refine pcall k1 ?_
   repeat(first | refine aa_ ?_ | simp only[go_sem,gx,gy,gx1,gx2,gy1,gy2])
   refine pcall k2 ?_
   try refine aa_ ?_
   exact fin0

theorem vErr349:vErr [3,4,9] 1024=0:=by
 unfold vErr
 rw[if_neg (by simp),cM_ (by simp),if_neg (by simp),if_neg (by simp),cM_ (by simp),if_neg (by simp),if_neg (by simp),cM_ (by simp),if_neg (by simp),if_neg (by simp),il_ (by simp)]
def E5:List UInt8:=[7]++List.replicate 32 0++([0]++List.replicate 32 0)++[3,3,0,4]
theorem aenc5 (v:AV):aenc ⟨7,rt0,cp0,v⟩ [3,4,9]=E5:=by
 have e1:lenc [3,4,9]=[3,3,0,4]:=by
   unfold lenc
   rw[cK_ (by simp),cK_ (by simp),cK_ (by simp),hY_ (by simp)]
   simp[dstep,bi_]
 rw[aenc,e1,cenc]
 simp only[cp0,Int.toNat_zero,show (7:Int).toNat=7 from rfl]
 rw[bi_ (by decide),bi_ (by decide)]
 rfl
theorem rAtt5:rAtt E5 0=((7,rt0,cp0,[3,4,9]),[],0):=by decide +kernel
theorem decA5:decA E5.length (rAtt E5 0)=((7,rt0,cp0,[3,4,9]),70,0):=by
 rw[rAtt5]
 simp only[decA,ne_eq,not_true_eq_false,if_false,vErr349,if_true]
 rfl
set_option maxRecDepth 100000 in
theorem fl_:PC Tryz.prog 16 [] (.bool true):=by
 refine PC.fact 7 sL_ (by simp) trivial trivial ?_
 unfold kb_;refine bd ?_
 have c1:=CY_ ⟨7,rt0,cp0,.sl 1 true (nums .i64 [3,4,9])⟩ [3,4,9] true rfl (by decide) ⟨by decide,by decide⟩ ⟨by decide,by decide⟩
 have c2:=vk_ E5 (by decide)
 rw[vErr349,if_pos rfl,aenc5]at c1
 rw[decA5]at c2
 have hm:attL (7,rt0,cp0,[3,4,9])=⟨7,rt0,cp0,.sl 1 false (nums .i64 [3,4,9])⟩:=rfl
 rw[hm]at c2
 have hl:E5.length=70:=rfl
 have hw:IntKind.i64.wrap ((70:Int)-4)=66:=by decide
 have hd:List.drop 66 E5=[3,3,0,4]:=by decide
 have hg:(nums .i64 [3,4,9]).getD 2 []=[.int .i64 9]:=rfl
 try refine aa_ ?_
 refine pcall c1 ?_
 try refine aa_ ?_
 refine pcall c2 ?_
 have hq:(([3,3,0,4]:List UInt8)==[UInt8.ofNat 3,UInt8.ofNat 3,UInt8.ofNat 0,UInt8.ofNat 4])=true:=by decide
 repeat(first | refine aa_ ?_ | simp only[go_sem,hl,hw,hd,hg,hq])
 exact fin0

theorem yT_ (x:Int × Rt × Cp × List Int) (h:x.2.2.2.length≤140737488355328):PC Tryz.prog 48 [.agg (attC (attL x)),.agg (attC (attL x))] (.bool true):=by
 have:=vH_ (attL x) (attL x) x.2.2.2 x.2.2.2 false false rfl rfl h h
 simpa using this
theorem yU_ (x:Sv) (h1:x.1.2.2.2.length≤140737488355328) (h2:x.2.2.2.2.length≤140737488355328):PC Tryz.prog 51 [.agg (slgC (slgL x)),.agg (slgC (slgL x))] (.bool true):=by
 have:=ul_ (slgL x) (slgL x) x.1.2.2.2 x.2.2.2.2 x.1.2.2.2 x.2.2.2.2 false false false false rfl rfl rfl rfl h1 h2 h1 h2
 simpa using this
theorem zs_ (x:Tv) (h:x.2.length≤140737488355328):PC Tryz.prog 54 [.agg (tabC (tabL x)),.agg (tabC (tabL x))] (.bool true):=by
 have:=uT_ (tabL x) (tabL x) x.2 x.2 false false rfl rfl h h
 simpa using this
theorem ri_:∀ (n:Nat) (acc:List Int) (bs:List UInt8) (e:Int),(rNums n acc bs e).1.length≤acc.length+n
 | 0,_,_,_=>Nat.le_refl _
 | n + 1, acc, bs, e => by
   rw[rNums]
   split
   · simp only;omega
   · have:=ri_ n (acc++[(rUint bs e maxU).1]) (rUint bs e maxU).2.1 (rUint bs e maxU).2.2
     simp only[List.length_append,List.length_cons,List.length_nil]at this
     omega
theorem Cz_ (b:List UInt8) (e:Int):(rTab b e).1.2.length≤1024:=by
 unfold rTab
 simp only
 have h1:=ri_ (rUint (rRoot (rUint b e maxU).2.1 (rUint b e maxU).2.2).2.1 (rRoot (rUint b e maxU).2.1 (rUint b e maxU).2.2).2.2 1024).1.toNat [] (rUint (rRoot (rUint b e maxU).2.1 (rUint b e maxU).2.2).2.1 (rRoot (rUint b e maxU).2.1 (rUint b e maxU).2.2).2.2 1024).2.1 (rUint (rRoot (rUint b e maxU).2.1 (rUint b e maxU).2.2).2.1 (rRoot (rUint b e maxU).2.1 (rUint b e maxU).2.2).2.2 1024).2.2
 have h2:=cj_ (rRoot (rUint b e maxU).2.1 (rUint b e maxU).2.2).2.1 (rRoot (rUint b e maxU).2.1 (rUint b e maxU).2.2).2.2 1024 (by omega)
 simp only[List.length_nil]at h1
 omega
theorem Bm_ (b:List UInt8):(decA b.length (rAtt b 0)).1.2.2.2.length≤1024:=by
 unfold decA
 have h:(rAtt b 0).1.2.2.2.length≤1024:=ib_ _ _
 (repeat' split)<;>first | exact h | simp[attZ]
theorem BB_ (b:List UInt8):(decS b.length (rSlg b 0)).1.1.2.2.2.length≤1024∧(decS b.length (rSlg b 0)).1.2.2.2.2.length≤1024:=by
 unfold decS
 have h1:(rSlg b 0).1.1.2.2.2.length≤1024:=hX_ _ _
 have h2:(rSlg b 0).1.2.2.2.2.length≤1024:=hX_ _ _
 (repeat' split)<;>first | exact⟨h1,h2⟩ | simp[slgZ,clmZ]
theorem BK_ (b:List UInt8):(dec tabZ b.length (rTab b 0)).1.2.length≤1024:=by
 unfold dec
 have h:=Cz_ b 0
 split<;>first | exact h | simp[tabZ]

theorem vS_ (x:Int × Rt × Cp × List Int) (ρ:Nat→Nat):(attL x).map (ren ρ)=attL x:=by simp only[attL,Att.map,ren,bh_]
theorem ya_ (x:Int × Rt × Cp × List Int) (σ:St) (zs:List Nat):(attL x).map (fz σ zs)=attL x:=by simp only[attL,Att.map,fz,bD_]
theorem yG_ (x:Int × Rt × Cp × List Int):(attL x).good=true:=rfl
theorem vb_ (x:Sv) (ρ:Nat→Nat):(slgL x).map (ren ρ)=slgL x:=by simp only[slgL,Slg.map,uz_]
theorem xT_ (x:Sv) (σ:St) (zs:List Nat):(slgL x).map (fz σ zs)=slgL x:=by simp only[slgL,Slg.map,yh_]
theorem AR_ (x:Sv):(slgL x).good=true:=rfl
attribute [go_sem] vS_ ya_ yG_ vb_ xT_ AR_
set_option maxRecDepth 100000 in
set_option maxHeartbeats 4000000 in
theorem pc_RecordsDecodes (b:List UInt8) (hb:b.length≤maxLen):PC Tryz.prog 17 [.sl 1 false (bts b)] (.bool true):=by
 refine PC.fact 21 gS_ (by simp) ⟨bG_ _,trivial⟩ trivial ?_
 unfold dm_;refine bd ?_
 by_cases h:2000<b.length
 · have h':decide ((2000:Int)<(b.length:Int))=true:=by rw[decide_eq_true_eq];omega
   try refine aa_ ?_
   refine ac_ ?_ (by(try simp only[go_sem,h']);try exact evd)
   try refine aa_ ?_
   refine pcall fl_ ?_
   try refine aa_ ?_
   exact fin0
 · have h':decide ((2000:Int)<(b.length:Int))=false:=by rw[decide_eq_false_iff_not];omega
   have d1:=BY_ b (by omega)
   have d2:=De_ b (by omega)
   have d3:=vk_ b (by omega)
   have d4:=CQ_ b (by omega)
   have d5:=BE_ b (by omega)
   have d6:=Cn_ b (by omega)
   have d7:=Bb_ b (by omega)
   have d8:=Ce_ b (by omega)
   have d9:=Dq_ b (by omega)
   have d10:=BS_ b (by omega)
   have n1:=Bm_ b
   have n2:=BB_ b
   have n3:=BK_ b
   generalize dec blk0 b.length (rBlk b 0)=X1 at *
   generalize decA b.length (rAtt b 0)=X2 at *
   generalize decS b.length (rSlg b 0)=X3 at *
   generalize dec tabZ b.length (rTab b 0)=X4 at *
   generalize decV b.length (rVdt b 0)=X5 at *
   obtain⟨x1,k1,e1⟩:=X1
   obtain⟨x2,k2,e2⟩:=X2
   obtain⟨x3,k3,e3⟩:=X3
   obtain⟨x4,k4,e4⟩:=X4
   obtain⟨x5,k5,e5⟩:=X5
   dsimp only at d1 d2 d3 d4 d5 d6 d7 d8 d9 d10 n1 n2 n3
   have m2:=yT_ x2 (by omega)
   have m3:=yU_ x3 (by omega) (by omega)
   have m4:=zs_ x4 (by omega)
   try refine aa_ ?_
   refine ab_ ?_ (by(try simp only[go_sem,h']);try exact evd)
   try refine aa_ ?_
   refine pcall d1 ?_
   try refine aa_ ?_
   refine pcall d2 ?_
   try refine aa_ ?_
   refine ab_ ?_
   try refine aa_ ?_
   refine pcall d3 ?_
   try refine aa_ ?_
   refine pcall d4 ?_
   try refine aa_ ?_
   refine pcall m2 ?_
   try refine aa_ ?_
   refine ab_ ?_
   try refine aa_ ?_
   refine pcall d5 ?_
   try refine aa_ ?_
   refine pcall d6 ?_
   try refine aa_ ?_
   refine pcall m3 ?_
   try refine aa_ ?_
   refine ab_ ?_
   try refine aa_ ?_
   refine pcall d7 ?_
   try refine aa_ ?_
   refine pcall d8 ?_
   try refine aa_ ?_
   refine pcall m4 ?_
   try refine aa_ ?_
   refine ab_ ?_
   try refine aa_ ?_
   refine pcall d9 ?_
   try refine aa_ ?_
   refine pcall d10 ?_
   try refine aa_ ?_
   refine pcall fl_ ?_
   try refine aa_ ?_
   exact fin0


theorem U64.of {n:Int}(h:(Lit.int .u64 n).wf=true):U64 n:=⟨(bounds_u64 h).1,by have:=(bounds_u64 h).2;omega⟩
end Go.Proofs.YtipiipgpnkpejaaGreat
