/- Joined. -/
import Derived.Test.YtblipkgpoaonaaaGreatW8
import Derived.Test.YtblipkgpoaonaaaGreatW9
import Derived.Test.YtblipkgpoaonaaaGreatW3
set_option linter.unusedVariables false
set_option linter.unusedSimpArgs false
set_option maxRecDepth 8000
set_option maxHeartbeats 4000000
namespace Go.Proofs.YtblipkgpoaonaaaGreat
open Go Go.FH Go.RowKit
theorem xL(b:List UInt8)(e:Int):(fE b e).2.1 <:+ b:=by
 unfold fE;split
 ·exact amP _
 ·split
  ·exact amP _
  ·split
   ·exact amP _
   ·exact List.suffix_cons _ _
theorem sf(b:List UInt8)(e:Int):(gE b e).2.1 <:+ b:=eY b e
theorem xN(b:List UInt8)(e:Int):(rCp b e).2.1 <:+ b:=by
 unfold rCp;split
 ·exact amP _
 ·exact(eY _ _).trans (se _ _ _)
theorem Gi:∀ (n:Nat) (last:Int) (acc:List Int) (bs:List UInt8) (e:Int),(CG n last acc bs e).2.1 <:+ bs
 |0,_,_,bs,_=>amP _
 | n + 1, last, acc, bs, e => by
   rw[CG];split
   ·exact amP _
   ·exact(Gi _ _ _ _ _).trans (se bs e 1024)
theorem I2(b:List UInt8)(e:Int):(xf b e).2.1 <:+ b:=(Gi _ _ _ _ _).trans (se _ _ _)
theorem Er:∀ (n:Nat) (acc:List Int) (bs:List UInt8) (e:Int),(gm n acc bs e).2.1 <:+ bs
 |0,_,bs,_=>amP _
 | n + 1, acc, bs, e => by
   rw[gm];split
   ·exact amP _
   ·exact(Er _ _ _ _).trans (se bs e bU)
theorem Gn(B b:List UInt8)(e:Int)(hs:b <:+ B)(hb:B.length<=140737488355328):
 ay Tryz.prog 312 [.ptr 0 0] [sro false B b e] (.sl 1 false (aH .i64 (xf b e).1)) [sro false B (xf b e).2.1 (xf b e).2.2]:=by
 refine dS 7 ?_;have hu:=iC B b false e 1024 hs hb;have hl:=se b e 1024;have hu0:=gw b e 1024;have hu1:=mW b e 1024 NB;have hL:CG (aR b e 1024).1.toNat (-1) [] (aR b e 1024).2.1 (aR b e 1024).2.2=xf b e:=rfl;generalize xf b e=L at *;generalize aR b e 1024=U at *;obtain⟨u,b1,e1⟩:=U;dsimp only at hu hu0 hu1 hl hL ⊢;have hw0:IntKind.i64.wrap u=u:=aL NB NB;simp only[sro]at hu ⊢;generalize ((B.length-b.length:Nat):Int)=A0 at *;have g1:=hl.trans hs;clear hl hs;refine gon ?_;refine oce [0] hu ?_;refine ah hw0 ?_
 refine eZ (fun x:Bool×Int×List Int×List UInt8×Int=>⟨7,[.ptr 0 0,.dead,.sl 0 true [],.int .i64 u,if x.1 then .hs 1 1 0 x.2.2.1.length else .sl 0 true [],.int .i64 x.2.1,.int .i64 x.2.2.1.length],[]⟩)
  (fun x=>sro false B x.2.2.2.1 x.2.2.2.2::(if x.1 then [.vec 1 (aH .i64 x.2.2.1)]else [])) (fun x=>u.toNat-x.2.2.1.length)
  (fun x=>CG (u.toNat-x.2.2.1.length) x.2.1 x.2.2.1 x.2.2.2.1 x.2.2.2.2=L/\x.2.2.1.length<=u.toNat/\x.2.2.2.1 <:+ B/\-1<=x.2.1/\x.2.1<=1025*x.2.2.1.length/\(x.1=false->x.2.2.1=[]))
  (false,-1,[],b1,e1) ⟨by simpa using hL,NC,g1,NC,NC,NC⟩ ?_ ?_
 ·exact ais [] [0]
 rintro⟨st,last,acc,bb,ee⟩ ⟨i1,i2,i3,i4,i5,i6⟩;dsimp only at i1 i2 i3 i4 i5 i6 ⊢;have hw1:=af (n:=acc.length+1) (i:=acc.length) NB NB;have c2:=iC B bb false ee 1024 i3 hb;have hwl:IntKind.i64.wrap (last+1)=last+1:=aL NB NB;by_cases hi:acc.length<u.toNat
 ·have hi':decide ((acc.length:Int)<u)=true:=by rw[amg];omega
  obtain⟨k,hk⟩:∃k,u.toNat-acc.length=k+1:=⟨u.toNat-acc.length-1,NB⟩
  rw[hk,CG]at i1;by_cases he:ee=0
  ·subst he
   rw[al5 NC]at i1;have v0:=gw bb 0 1024;have v1:=mW bb 0 1024 NB;have v2:=se bb 0 1024;generalize aR bb 0 1024=V at *;obtain⟨v,b2,e2⟩:=V;dsimp only at v0 v1 v2 c2 i1;have v3:=v2.trans i3;have hwv:IntKind.i64.wrap v=v:=aL NB NB;have hwn:IntKind.i64.wrap (last+1+v)=last+1+v:=aL NB NB;simp only[sro]at c2 ⊢;generalize ((B.length-bb.length:Nat):Int)=A1 at *;cases st with
   | false =>
     obtain rfl:=i6 rfl;simp only[ama]at hi hk i2 i5;have hi0:decide ((0:Int)<u)=true:=by rw[amg];omega
     have hwz:IntKind.i64.wrap ((0:Int)+1)=1:=NE
     refine bw hi0 ?_;refine ah hwl ?_;refine oce [0] c2 ?_;refine dC hwv hwn hwz ?_;refine⟨(true,last+1+v,[last+1+v],b2,e2),⟨?_,?_,v3,?_,?_,?_⟩,?_,?_⟩
     ·simp only[al8,ama];rw[show u.toNat-(0+1)=k by omega];exact i1
     ·simp only[al8,ama];omega
     ·dsimp only;omega
     ·simp only[al8,ama];omega
     ·simp
     ·simp only[al8,ama];omega
     ·exact ais [] [0,1]
   | true =>
     refine bw hi' ?_;refine ah hwl ?_;refine oce [0] c2 ?_;refine dC hwv hwn hw1 ?_;refine⟨(true,last+1+v,acc++[last+1+v],b2,e2),⟨?_,?_,v3,?_,?_,?_⟩,?_,?_⟩
     ·simp only[akC,al8,ama];rw[show u.toNat-(acc.length+(0+1))=k by omega];exact i1
     ·simp only[akC,al8,ama];omega
     ·dsimp only;omega
     ·simp only[akC,al8,ama];omega
     ·simp
     ·simp only[akC,al8,ama];omega
     ·exact ais [] [0,2]
  ·have he':(ee==0)=false:=by simpa using he
   rw[al7 he]at i1;rw[<-i1];dsimp only;simp only[sro];generalize ((B.length-bb.length:Nat):Int)=A1 at *;cases st with
   | false =>
     obtain rfl:=i6 rfl;simp only[ama]at hi hk i2;have hi0:decide ((0:Int)<u)=true:=by rw[amg];omega
     refine fU hi0 he' ?_;refine HM [] [0] _ NC (by first|rfl|exact evd) NC rfl NC NC evd evd (Wk.empty 0 1 _)
   | true =>
     refine fU hi' he' ?_;exact ahY [1] [0]
 ·have hi':decide ((acc.length:Int)<u)=false:=by rw[ami];omega
  rw[show u.toNat-acc.length=0 by omega,CG]at i1;rw[<-i1];dsimp only;simp only[sro];generalize ((B.length-bb.length:Nat):Int)=A1 at *;cases st with
  | false =>
    obtain rfl:=i6 rfl;have hi0:decide ((0:Int)<u)=false:=by simpa using hi'
    refine aF hi0 ?_;refine HM [] [0] _ NC (by first|rfl|exact evd) NC rfl NC NC evd evd (Wk.empty 0 1 _)
  | true =>
    refine aF hi' ?_;exact ahY [1] [0]
set_option maxRecDepth 100000 in
theorem Em(B b:List UInt8)(e:Int)(hs:b <:+ B)(hb:B.length<=140737488355328):
 ay Tryz.prog 116 [.ptr 0 0] [sro false B b e] (.agg (aO (zW b e).1)) [sro false B (zW b e).2.1 (zW b e).2.2]:=by
 refine dS 4 ?_;rcases h1:aR b e bU with⟨s,b1,e1⟩
 rcases h2:pp b1 e1 with⟨r,b2,e2⟩
 rcases h3:pp b2 e2 with⟨p,b3,e3⟩
 rcases h4:pp b3 e3 with⟨y,b4,e4⟩
 rcases h5:gE b4 e4 with⟨d,b5,e5⟩
 rcases h6:gE b5 e5 with⟨g,b6,e6⟩
 rcases h7:rCp b6 e6 with⟨j,b7,e7⟩
 rcases h8:rCp b7 e7 with⟨f,b8,e8⟩
 rcases h9:rCp b8 e8 with⟨u,b9,e9⟩
 rcases h10:rCp b9 e9 with⟨v,b10,e10⟩
 rcases h11:fE b10 e10 with⟨t,b11,e11⟩
 have s1:=se b e bU;rw[h1]at s1;have s1:b1 <:+ B:=s1.trans hs
 have s2:=eY b1 e1;rw[h2]at s2;have s2:b2 <:+ B:=s2.trans s1
 have s3:=eY b2 e2;rw[h3]at s3;have s3:b3 <:+ B:=s3.trans s2
 have s4:=eY b3 e3;rw[h4]at s4;have s4:b4 <:+ B:=s4.trans s3
 have s5:=sf b4 e4;rw[h5]at s5;have s5:b5 <:+ B:=s5.trans s4
 have s6:=sf b5 e5;rw[h6]at s6;have s6:b6 <:+ B:=s6.trans s5
 have s7:=xN b6 e6;rw[h7]at s7;have s7:b7 <:+ B:=s7.trans s6
 have s8:=xN b7 e7;rw[h8]at s8;have s8:b8 <:+ B:=s8.trans s7
 have s9:=xN b8 e8;rw[h9]at s9;have s9:b9 <:+ B:=s9.trans s8
 have s10:=xN b9 e9;rw[h10]at s10;have s10:b10 <:+ B:=s10.trans s9
 have s11:=xL b10 e10;rw[h11]at s11;have s11:b11 <:+ B:=s11.trans s10
 have c1:=iC B b false e bU hs hb;rw[h1]at c1;dsimp only at c1;have c2:=jo B b1 e1 s1 hb;rw[h2]at c2;dsimp only at c2;have c3:=jo B b2 e2 s2 hb;rw[h3]at c3;dsimp only at c3;have c4:=jo B b3 e3 s3 hb;rw[h4]at c4;dsimp only at c4;have c5:=BO B b4 e4 s4 hb;rw[h5]at c5;dsimp only at c5;have c6:=BO B b5 e5 s5 hb;rw[h6]at c6;dsimp only at c6;have c7:=yk B b6 e6 s6 hb;rw[h7]at c7;dsimp only at c7;have c8:=yk B b7 e7 s7 hb;rw[h8]at c8;dsimp only at c8;have c9:=yk B b8 e8 s8 hb;rw[h9]at c9;dsimp only at c9;have c10:=yk B b9 e9 s9 hb;rw[h10]at c10;dsimp only at c10;have c11:=Ed B b10 e10 s10 hb;rw[h11]at c11;dsimp only at c11;have hB:zW b e=(⟨⟨u,v⟩,s,r,p,y,d,g,j,f,t⟩,b11,e11):=by simp only[zW,h1,h2,h3,h4,h5,h6,h7,h8,h9,h10,h11]
 rw[hB];dsimp only;simp only[sro]at c1 c2 c3 c4 c5 c6 c7 c8 c9 c10 c11 ⊢;generalize ((B.length-b.length:Nat):Int)=A0 at *;generalize ((B.length-b1.length:Nat):Int)=A1 at *;generalize ((B.length-b2.length:Nat):Int)=A2 at *;generalize ((B.length-b3.length:Nat):Int)=A3 at *;generalize ((B.length-b4.length:Nat):Int)=A4 at *;generalize ((B.length-b5.length:Nat):Int)=A5 at *;generalize ((B.length-b6.length:Nat):Int)=A6 at *;generalize ((B.length-b7.length:Nat):Int)=A7 at *;generalize ((B.length-b8.length:Nat):Int)=A8 at *;generalize ((B.length-b9.length:Nat):Int)=A9 at *;generalize ((B.length-b10.length:Nat):Int)=A10 at *;generalize ((B.length-b11.length:Nat):Int)=A11 at *;refine gon ?_;refine ocg [0] c1 ?_;refine ocg [0] c2 ?_;refine ocg [0] c3 ?_;refine ocg [0] c4 ?_;refine ocg [0] c5 ?_;refine ocg [0] c6 ?_;refine ocg [0] c7 ?_;refine ocg [0] c8 ?_;refine ocg [0] c9 ?_;refine ocg [0] c10 ?_;refine ocg [0] c11 ?_;exact ahY [] [0]
theorem Kg(b:List UInt8)(hb:b.length<=140737488355328):
 PC Tryz.prog 211 [.sl 1 false (bts b)] (.tup [.agg (cy (rj (Ds b.length (D9 b 0)).1)),.int .i64 (Ds b.length (D9 b 0)).2.1,.int .i64 (Ds b.length (D9 b 0)).2.2]):=by
 refine PC.fact 7 uV NC ⟨iV b,trivial⟩ ⟨adl _,trivial,trivial,trivial⟩ ?_;unfold f7;refine bd ?_;rcases h1:aR b 0 bU with⟨s,b1,e1⟩
 rcases h2:pp b1 e1 with⟨r,b2,e2⟩
 rcases h3:rCp b2 e2 with⟨c,b3,e3⟩
 rcases h4:xf b3 e3 with⟨l,b4,e4⟩
 have s1:=se b 0 bU;rw[h1]at s1;have s1:b1 <:+ b:=s1.trans (amP _)
 have s2:=eY b1 e1;rw[h2]at s2;have s2:b2 <:+ b:=s2.trans s1
 have s3:=xN b2 e2;rw[h3]at s3;have s3:b3 <:+ b:=s3.trans s2
 have s4:=I2 b3 e3;rw[h4]at s4;have s4:b4 <:+ b:=s4.trans s3
 have c1:=iC b b false 0 bU (amP _) hb;rw[h1]at c1;dsimp only at c1;have c2:=jo b b1 e1 s1 hb;rw[h2]at c2;dsimp only at c2;have c3:=yk b b2 e2 s2 hb;rw[h3]at c3;dsimp only at c3;have c4:=Gn b b3 e3 s3 hb;rw[h4]at c4;dsimp only at c4;have hB:D9 b 0=((s,r,c,l),b4,e4):=by simp only[D9,h1,h2,h3,h4]
 have l5:=M7 b3 e3;rw[h4]at l5;dsimp only at l5;have cv:=gl l false 1024 NB;rw[hB];unfold Ds;dsimp only;simp only[sro,akQ]at c1 c2 c3 c4;generalize ((b.length-b1.length:Nat):Int)=A1 at *;generalize ((b.length-b2.length:Nat):Int)=A2 at *;generalize ((b.length-b3.length:Nat):Int)=A3 at *;generalize ((b.length-b4.length:Nat):Int)=A4 at *;refine gon ?_;refine ocg [1] c1 ?_;refine ocg [1] c2 ?_;refine ocg [1] c3 ?_;refine ocg [1] c4 ?_;by_cases he:e4=0
 ·subst he
  simp only[ajT,amp,amj];refine agE ?_;refine ahG cv ?_;by_cases hv:cE l 1024=0
  ·simp only[hv,amt];refine agE ?_;exact ai
  ·have hv':(cE l 1024 != 0)=true:=by simpa using hv
   simp only[hv,amj];refine ax ?_ (by(try simp only[go_sem,hv']);try exact evd);refine gon ?_;refine⟨_,(by first|rfl|exact evd),.inr ⟨.tup [.agg (cy Do),.int .i64 0,.int .i64 2],evd,⟨(fB _).2 trivial,trivial,trivial,trivial⟩,Wk.tup ⟨Xj,Wk.refl _,Wk.refl _,trivial⟩⟩⟩
 ·have he':(e4 != 0)=true:=by simpa using he
  simp only[ajT,he,amu,amt];refine ax ?_ (by(try simp only[go_sem,he']);try exact evd);refine gon ?_;refine⟨_,(by first|rfl|exact evd),.inr ⟨.tup [.agg (cy Do),.int .i64 0,.int .i64 e4],evd,⟨(fB _).2 trivial,trivial,trivial,trivial⟩,Wk.tup ⟨Xj,Wk.refl _,Wk.refl _,trivial⟩⟩⟩
theorem CK(b:List UInt8)(e:Int):U64 (aR b e bU).1:=⟨gw b e bU,alA (mW b e bU NE) NE⟩
theorem Kk(x:Tv)(ρ:Nat->Nat):(EU x).map (ren ρ)=EU x:=by simp only[EU,Tab.map,ren,dG]
theorem FM(x:Tv)(σ:St)(zs:List Nat):(EU x).map (fz σ zs)=EU x:=by simp only[EU,Tab.map,fz,ew]
theorem jW(x:Tv):(EU x).good=true:=rfl
attribute [go_sem] Kk FM jW
theorem En(B b:List UInt8)(e:Int)(hs:b <:+ B)(hb:B.length<=140737488355328):
 ay Tryz.prog 120 [.ptr 0 0] [sro false B b e] (.agg (cx (EU (mV b e).1))) [sro false B (mV b e).2.1 (mV b e).2.2]:=by
 refine dS 6 ?_;rcases h1:aR b e bU with⟨s,b1,e1⟩
 rcases h2:pp b1 e1 with⟨r,b2,e2⟩
 rcases h3:aR b2 e2 1024 with⟨n,b3,e3⟩
 have s1:=se b e bU;rw[h1]at s1;have s1:b1 <:+ B:=s1.trans hs
 have s2:=eY b1 e1;rw[h2]at s2;have s2:b2 <:+ B:=s2.trans s1
 have s3:=se b2 e2 1024;rw[h3]at s3;have s3:b3 <:+ B:=s3.trans s2
 have c1:=iC B b false e bU hs hb;rw[h1]at c1;dsimp only at c1;have c2:=jo B b1 e1 s1 hb;rw[h2]at c2;dsimp only at c2;have c3:=iC B b2 false e2 1024 s2 hb;rw[h3]at c3;dsimp only at c3;have hB:mV b e=((⟨s,r⟩,(gm n.toNat [] b3 e3).1),(gm n.toNat [] b3 e3).2.1,(gm n.toNat [] b3 e3).2.2):=by simp only[mV,h1,h2,h3]
 have n0:=gw b2 e2 1024;rw[h3]at n0;have n1:=mW b2 e2 1024 NB;rw[h3]at n1;dsimp only at n0 n1;have hw:IntKind.i64.wrap n=n:=aL NB NB;rw[hB];generalize hLL:gm n.toNat [] b3 e3=L at *;dsimp only;simp only[sro]at c1 c2 c3 ⊢;generalize ((B.length-b.length:Nat):Int)=A0 at *;generalize ((B.length-b1.length:Nat):Int)=A1 at *;generalize ((B.length-b2.length:Nat):Int)=A2 at *;refine gon ?_;refine ocg [0] c1 ?_;refine ocg [0] c2 ?_;refine oce [0] c3 ?_;refine ah hw ?_
 refine eZ (fun x:Bool×List Int×List UInt8×Int=>⟨6,[.ptr 0 0,.dead,.ptr 1 0,.ptr 2 0,.int .i64 n,.int .i64 x.2.1.length],[]⟩)
  (fun x=>sro false B x.2.2.1 x.2.2.2::.var (cx yp)::.var (cx ⟨⟨s,r⟩,if x.1 then .hs 1 3 0 x.2.1.length else .sl 0 true []⟩)::(if x.1 then [.vec 1 (aH .u64 x.2.1)]else [])) (fun x=>n.toNat-x.2.1.length)
  (fun x=>gm (n.toNat-x.2.1.length) x.2.1 x.2.2.1 x.2.2.2=L/\x.2.1.length<=n.toNat/\x.2.2.1 <:+ B/\(x.1=false->x.2.1=[]))
  (false,[],b3,e3) ⟨by simpa using hLL,NC,s3,NC⟩ ?_ ?_
 ·exact ais [] [0,1,2]
 rintro⟨st,acc,bb,ee⟩ ⟨i1,i2,i3,i4⟩;dsimp only at i1 i2 i3 i4 ⊢;have hw1:=af (n:=acc.length+1) (i:=acc.length) NB NB;have c5:=iC B bb false ee bU i3 hb;by_cases hi:acc.length<n.toNat
 ·have hi':decide ((acc.length:Int)<n)=true:=by rw[amg];omega
  obtain⟨k,hk⟩:∃k,n.toNat-acc.length=k+1:=⟨n.toNat-acc.length-1,NB⟩
  rw[hk,gm]at i1;by_cases he:ee=0
  ·subst he
   rw[al5 NC]at i1;have v2:=se bb 0 bU;generalize aR bb 0 bU=V at *;obtain⟨v,b4,e4⟩:=V;dsimp only at v2 c5 i1;have v3:=v2.trans i3;simp only[sro]at c5 ⊢;generalize ((B.length-bb.length:Nat):Int)=A4 at *;cases st with
   | false =>
     obtain rfl:=i4 rfl;simp only[ama]at hi hk i2;have hi0:decide ((0:Int)<n)=true:=by rw[amg];omega
     have hwz:IntKind.i64.wrap ((0:Int)+1)=1:=NE
     refine aM hi0 ?_;refine dce [0] c5 ?_;refine ah hwz ?_;refine⟨(true,[v],b4,e4),⟨?_,?_,v3,?_⟩,?_,?_⟩
     ·simp only[al8,ama];rw[show n.toNat-(0+1)=k by omega];exact i1
     ·simp only[al8,ama];omega
     ·simp
     ·simp only[al8,ama];omega
     ·exact ais [] [0,1,2,4]
   | true =>
     refine aM hi' ?_;refine dce [0] c5 ?_;refine ah hw1 ?_;refine⟨(true,acc++[v],b4,e4),⟨?_,?_,v3,?_⟩,?_,?_⟩
     ·simp only[akC,al8,ama];rw[show n.toNat-(acc.length+(0+1))=k by omega];exact i1
     ·simp only[akC,al8,ama];omega
     ·simp
     ·simp only[akC,al8,ama];omega
     ·exact ais [] [0,1,2,5]
  ·have he':(ee==0)=false:=by simpa using he
   rw[al7 he]at i1;subst i1;dsimp only;simp only[sro];generalize ((B.length-bb.length:Nat):Int)=A4 at *;cases st with
   | false =>
     obtain rfl:=i4 rfl;simp only[ama]at hi i2;have hi0:decide ((0:Int)<n)=true:=by rw[amg];omega
     refine fU hi0 he' ?_;refine HM [] [0] _ NC (by first|rfl|exact evd) NC rfl NC NC evd evd (adb _ (Wk.empty 0 1 false) fun h=>h)
   | true =>
     refine fU hi' he' ?_;exact ahY [3] [0]
 ·have hi':decide ((acc.length:Int)<n)=false:=by rw[ami];omega
  rw[show n.toNat-acc.length=0 by omega,gm]at i1;subst i1;dsimp only;simp only[sro];generalize ((B.length-bb.length:Nat):Int)=A4 at *;cases st with
  | false =>
    obtain rfl:=i4 rfl;simp only[ama]at hi i2;have hi0:decide ((0:Int)<n)=false:=by rw[ami];omega
    refine aF hi0 ?_;refine HM [] [0] _ NC (by first|rfl|exact evd) NC rfl NC NC evd evd (adb _ (Wk.empty 0 1 false) fun h=>h)
  | true =>
    refine aF hi' ?_;exact ahY [3] [0]
theorem KD(x:Bool):I3 true (.bool x) (.tup [])=.bool x:=rfl
theorem KC(y:Bool):I3 false (.tup []) (.bool y)=.bool y:=rfl
attribute [go_sem] KD KC
theorem ra(l m:List Int)(c d:Bool)(hl:l.length<=140737488355328)(hm:m.length<=140737488355328):PC Tryz.prog 125 [.sl 1 c (aH .i64 l),.sl 1 d (aH .i64 m)] (.bool (decide (l=m))):=by
 refine PC.fact 6 FZ NC ⟨bE _ _,bE _ _,trivial⟩ trivial ?_;unfold tP;refine bd ?_;by_cases hlen:l.length=m.length
 ·have h0:((l.length:Int) != (m.length:Int))=false:=by rw[hlen];exact bne_self_eq_false _
  refine gon ?_;refine aB ?_ (by(try simp only[go_sem,h0]);try exact evd);refine gon ?_;refine gM (fun i:Nat=>⟨6,[.sl 1 c (aH .i64 l),.sl 1 d (aH .i64 m),.dead,.dead,.bool false,.int .i64 i],[]⟩) (fun _=>[]) (fun i=>l.length-i) (fun i=>i<=l.length/\l.take i=m.take i) [] 0 ⟨NB,rfl⟩ evd rfl ?_;rintro i ⟨hi,hv⟩;try dsimp only
  refine gon ?_;refine aY evd (fun h=>?_) (fun h=>?_)
  ·have h1:i<l.length:=by simpa using h
   have h2:i<m.length:=NB
   have hw:=af h1 NB;have g1:=fF (k:=.i64) h1;have g2:=fF (k:=.i64) h2;by_cases he:l.getD i 0=m.getD i 0
   ·rw[he]at g1;refine fp g1 g2 ?_;refine ah hw ?_;refine⟨i+1,⟨h1,?_⟩,NB,rfl⟩;rw[amY,amY,hv,al6 h1,al6 h2];rw[alt,alt,al6 h1,al6 h2]at he;simp only[amT]at he;rw[he]
   ·have he':(l.getD i 0 != m.getD i 0)=true:=by simpa using he
    have hne:decide (l=m)=false:=by rw[ami];intro hh;rw[hh]at he;exact he rfl
    rw[hne];refine aZ g1 g2 ?_;refine ax ?_ (by(try simp only[go_sem,he']);try exact evd);refine gon ?_;exact ai
  ·have h1:i=l.length:=by simp at h;omega
   subst h1
   have he:l=m:=by
    rw[ajp,hlen,ajp]at hv;exact hv
   subst he;rw[au rfl];refine gon ?_;exact ai
 ·have h0:((l.length:Int) != (m.length:Int))=true:=by simp;omega
  have hne:decide (l=m)=false:=by rw[ami];intro hh;rw[hh]at hlen;exact hlen rfl
  rw[hne];refine gon ?_;refine ax ?_ (by(try simp only[go_sem,h0]);try exact evd);refine gon ?_;exact ai
theorem zn(l m:List Int)(c d:Bool)(hl:l.length<=140737488355328)(hm:m.length<=140737488355328):PC Tryz.prog 123 [.sl 1 c (aH .u64 l),.sl 1 d (aH .u64 m)] (.bool (decide (l=m))):=by
 refine PC.fact 6 zO NC ⟨bE _ _,bE _ _,trivial⟩ trivial ?_;unfold ph;refine bd ?_;by_cases hlen:l.length=m.length
 ·have h0:((l.length:Int) != (m.length:Int))=false:=by rw[hlen];exact bne_self_eq_false _
  refine gon ?_;refine aB ?_ (by(try simp only[go_sem,h0]);try exact evd);refine gon ?_;refine gM (fun i:Nat=>⟨6,[.sl 1 c (aH .u64 l),.sl 1 d (aH .u64 m),.dead,.dead,.bool false,.int .i64 i],[]⟩) (fun _=>[]) (fun i=>l.length-i) (fun i=>i<=l.length/\l.take i=m.take i) [] 0 ⟨NB,rfl⟩ evd rfl ?_;rintro i ⟨hi,hv⟩;try dsimp only
  refine gon ?_;refine aY evd (fun h=>?_) (fun h=>?_)
  ·have h1:i<l.length:=by simpa using h
   have h2:i<m.length:=NB
   have hw:=af h1 NB;have g1:=fF (k:=.u64) h1;have g2:=fF (k:=.u64) h2;by_cases he:l.getD i 0=m.getD i 0
   ·rw[he]at g1;refine fp g1 g2 ?_;refine ah hw ?_;refine⟨i+1,⟨h1,?_⟩,NB,rfl⟩;rw[amY,amY,hv,al6 h1,al6 h2];rw[alt,alt,al6 h1,al6 h2]at he;simp only[amT]at he;rw[he]
   ·have he':(l.getD i 0 != m.getD i 0)=true:=by simpa using he
    have hne:decide (l=m)=false:=by rw[ami];intro hh;rw[hh]at he;exact he rfl
    rw[hne];refine aZ g1 g2 ?_;refine ax ?_ (by(try simp only[go_sem,he']);try exact evd);refine gon ?_;exact ai
  ·have h1:i=l.length:=by simp at h;omega
   subst h1
   have he:l=m:=by
    rw[ajp,hlen,ajp]at hv;exact hv
   subst he;rw[au rfl];refine gon ?_;exact ai
 ·have h0:((l.length:Int) != (m.length:Int))=true:=by simp;omega
  have hne:decide (l=m)=false:=by rw[ami];intro hh;rw[hh]at hlen;exact hlen rfl
  rw[hne];refine gon ?_;refine ax ?_ (by(try simp only[go_sem,h0]);try exact evd);refine gon ?_;exact ai
theorem SE(x y:Att)(l m:List Int)(c d:Bool)(hx:x.vals=.sl 1 c (aH .i64 l))(hy:y.vals=.sl 1 d (aH .i64 m))(hl:l.length<=140737488355328)(hm:m.length<=140737488355328):
 PC Tryz.prog 128 [.agg (cy x),.agg (cy y)] (.bool (decide (x.slot=y.slot/\x.root=y.root/\x.target=y.target/\l=m))):=by
 refine PC.fact 5 sU NC ⟨(fB x).2 (by rw[Att.Pure,hx];exact bE _ _),(fB y).2 (by rw[Att.Pure,hy];exact bE _ _),trivial⟩ trivial ?_;unfold kE;refine bd ?_;have gx:x.good=true:=by rw[Att.good,hx];rfl
 have gy:y.good=true:=by rw[Att.good,hy];rfl
 by_cases h1:x.slot=y.slot
 ·have e1:(x.slot==y.slot)=true:=by simp[h1]
  by_cases h2:x.root=y.root
  ·have e2:decide (x.root=y.root)=true:=by simp[h2]
   by_cases h3:x.target=y.target
   ·have e3:decide (x.target=y.target)=true:=by simp[h3]
    refine jj gx gy hx hy e1 e2 e3 ?_;refine ahG (ra l m c d hl hm) ?_;refine⟨_,(by first|rfl|exact evd),.inl ?_⟩;refine evg ?_;try simp[h1,h2,h3]
   ·have e3:decide (x.target=y.target)=false:=by simp[h3]
    refine jj gx gy hx hy e1 e2 e3 ?_;refine⟨_,(by first|rfl|exact evd),.inl ?_⟩;refine evg ?_;try simp[h1,h2,h3]
  ·have e2:decide (x.root=y.root)=false:=by simp[h2]
   refine eV gx gy hx hy e1 e2 ?_;refine⟨_,(by first|rfl|exact evd),.inl ?_⟩;refine evg ?_;try simp[h1,h2]
 ·have e1:(x.slot==y.slot)=false:=by simp[h1]
  refine eU gx gy hx hy e1 ?_;refine⟨_,(by first|rfl|exact evd),.inl ?_⟩;refine evg ?_;try simp[h1]
theorem C0(x y:Clm)(l m:List Int)(c d:Bool)(hx:x.vals=.sl 1 c (aH .i64 l))(hy:y.vals=.sl 1 d (aH .i64 m))(hl:l.length<=140737488355328)(hm:m.length<=140737488355328):
 PC Tryz.prog 355 [.agg (du x),.agg (du y)] (.bool (decide (x.src=y.src/\x.tgt=y.tgt/\x.root=y.root/\l=m))):=by
 refine PC.fact 5 tO NC ⟨(re x).2 (by rw[Clm.Pure,hx];exact bE _ _),(re y).2 (by rw[Clm.Pure,hy];exact bE _ _),trivial⟩ trivial ?_;unfold mI;refine bd ?_;have gx:x.good=true:=by rw[Clm.good,hx];rfl
 have gy:y.good=true:=by rw[Clm.good,hy];rfl
 by_cases h1:x.src=y.src
 ·have e1:(x.src==y.src)=true:=by simp[h1]
  by_cases h2:x.tgt=y.tgt
  ·have e2:(x.tgt==y.tgt)=true:=by simp[h2]
   by_cases h3:x.root=y.root
   ·have e3:decide (x.root=y.root)=true:=by simp[h3]
    refine jj gx gy hx hy e1 e2 e3 ?_;refine ahG (ra l m c d hl hm) ?_;refine⟨_,(by first|rfl|exact evd),.inl ?_⟩;refine evg ?_;try simp[h1,h2,h3]
   ·have e3:decide (x.root=y.root)=false:=by simp[h3]
    refine jj gx gy hx hy e1 e2 e3 ?_;refine⟨_,(by first|rfl|exact evd),.inl ?_⟩;refine evg ?_;try simp[h1,h2,h3]
  ·have e2:(x.tgt==y.tgt)=false:=by simp[h2]
   refine eV gx gy hx hy e1 e2 ?_;refine⟨_,(by first|rfl|exact evd),.inl ?_⟩;refine evg ?_;try simp[h1,h2]
 ·have e1:(x.src==y.src)=false:=by simp[h1]
  refine eU gx gy hx hy e1 ?_;refine⟨_,(by first|rfl|exact evd),.inl ?_⟩;refine evg ?_;try simp[h1]
theorem SG(x y:Tab)(l m:List Int)(c d:Bool)(hx:x.bals=.sl 1 c (aH .u64 l))(hy:y.bals=.sl 1 d (aH .u64 m))(hl:l.length<=140737488355328)(hm:m.length<=140737488355328):
 PC Tryz.prog 214 [.agg (cx x),.agg (cx y)] (.bool (decide (x.cp=y.cp/\l=m))):=by
 refine PC.fact 5 DK NC ⟨(eP x).2 (by rw[Tab.Pure,hx];exact bE _ _),(eP y).2 (by rw[Tab.Pure,hy];exact bE _ _),trivial⟩ trivial ?_;unfold rE;refine bd ?_;have gx:x.good=true:=by rw[Tab.good,hx];rfl
 have gy:y.good=true:=by rw[Tab.good,hy];rfl
 by_cases h1:x.cp=y.cp
 ·have e1:decide (x.cp=y.cp)=true:=by simp[h1]
  refine eU gx gy hx hy e1 ?_;refine ahG (zn l m c d hl hm) ?_;refine⟨_,(by first|rfl|exact evd),.inl ?_⟩;refine evg ?_;try simp[h1]
 ·have e1:decide (x.cp=y.cp)=false:=by simp[h1]
  refine eU gx gy hx hy e1 ?_;refine⟨_,(by first|rfl|exact evd),.inl ?_⟩;refine evg ?_;try simp[h1]
theorem Ko(x y:Slg)(l1 l2 m1 m2:List Int)(c1 c2 d1 d2:Bool)(hx1:x.fst.vals=.sl 1 c1 (aH .i64 l1))(hx2:x.snd.vals=.sl 1 c2 (aH .i64 l2))(hy1:y.fst.vals=.sl 1 d1 (aH .i64 m1))(hy2:y.snd.vals=.sl 1 d2 (aH .i64 m2))
 (hl1:l1.length<=140737488355328) (hl2:l2.length<=140737488355328) (hm1:m1.length<=140737488355328) (hm2:m2.length<=140737488355328):
 PC Tryz.prog 264 [.agg (d7 x),.agg (d7 y)] (.bool (decide (x.fst.src=y.fst.src/\x.fst.tgt=y.fst.tgt/\x.fst.root=y.fst.root/\l1=m1)&&decide (x.snd.src=y.snd.src/\x.snd.tgt=y.snd.tgt/\x.snd.root=y.snd.root/\l2=m2))):=by
 have px1:x.fst.Pure:=by rw[Clm.Pure,hx1];exact bE _ _
 have px2:x.snd.Pure:=by rw[Clm.Pure,hx2];exact bE _ _
 have py1:y.fst.Pure:=by rw[Clm.Pure,hy1];exact bE _ _
 have py2:y.snd.Pure:=by rw[Clm.Pure,hy2];exact bE _ _
 have gx1:x.fst.good=true:=by rw[Clm.good,hx1];rfl
 have gx2:x.snd.good=true:=by rw[Clm.good,hx2];rfl
 have gy1:y.fst.good=true:=by rw[Clm.good,hy1];rfl
 have gy2:y.snd.good=true:=by rw[Clm.good,hy2];rfl
 have gx:x.good=true:=by rw[Slg.good,gx1,gx2];rfl
 have gy:y.good=true:=by rw[Slg.good,gy1,gy2];rfl
 refine PC.fact 5 qm NC ⟨(j7 x).2 ⟨px1,px2⟩,(j7 y).2 ⟨py1,py2⟩,trivial⟩ trivial ?_;unfold mo;refine bd ?_;have k1:=C0 x.fst y.fst l1 m1 c1 d1 hx1 hy1 hl1 hm1;have k2:=C0 x.snd y.snd l2 m2 c2 d2 hx2 hy2 hl2 hm2;generalize decide (x.fst.src=y.fst.src/\x.fst.tgt=y.fst.tgt/\x.fst.root=y.fst.root/\l1=m1)=b1 at *;generalize decide (x.snd.src=y.snd.src/\x.snd.tgt=y.snd.tgt/\x.snd.root=y.snd.root/\l2=m2)=b2 at *;cases b1
 ·refine eV gx gy gx1 gx2 gy1 gy2 ?_;refine am k1 ?_;refine eV gx gy gx1 gx2 gy1 gy2 ?_;exact ai
 ·refine eV gx gy gx1 gx2 gy1 gy2 ?_;refine am k1 ?_;refine eV gx gy gx1 gx2 gy1 gy2 ?_;refine ahG k2 ?_;exact ai
theorem CJ{n:Int}(h:U64 n)(t:List UInt8):aR (br n.toNat++t) 0 bU=(n,t,0):=by
 have h0:=h.lo;have h1:=h.hi;have:=(th (n:=n.toNat) (m:=bU) NB (by simp only[bU];omega)).full t;(try simp only at this)
 rw[this,show ((n.toNat:Nat):Int)=n by omega]
theorem GA{n m:Int}(h0:0<=n)(h1:n<=m)(h2:m<18446744073709551616)(t:List UInt8):aR (br n.toNat++t) 0 m=(n,t,0):=by
 have:=(th (n:=n.toNat) (m:=m) NB NB).full t;(try simp only at this)
 rw[this,show ((n.toNat:Nat):Int)=n by omega]
theorem xM{c:Cp}(h:U64 c.ep)(t:List UInt8):rCp (dt c++t) 0=(c,t,0):=(ab9 c h.lo h.hi).full t
theorem Gz(r:Rt)(t:List UInt8):pp (r.1++t) 0=(r,t,0):=(zZ r).full t
theorem M8{l:List Int}(hv:cE l 1024=0)(t:List UInt8):∀ (k i:Nat),l.length-i=k->i<=l.length->CG k (if i=0 then -1 else l.getD (i-1) 0) (l.take i) (kM l i++t) 0=(l,t,0)
 | 0, i, hk, hi => by
   have:i=l.length:=NB
   subst this;rw[xF NB,CG,ajp,amD]
 | k + 1, i, hk, hi => by
   have hlt:i<l.length:=NB
   have hd:=xU hv hlt;rw[pB hlt,CG,al5 NC,amd,GA hd.1 NB NB]
   have e:(if i=0 then -1 else l.getD (i-1) 0)+1+fY l i=l.getD i 0:=by
    unfold fY;split
    ·subst_vars;omega
    ·omega
   have e2:l.take i++[l.getD i 0]=l.take (i+1):=by
    rw[amY,alt,al6 hlt];rfl
   simp only;rw[e,e2];have:=M8 hv t k (i+1) NB NB;rw[al5 NB,alz]at this;exact this
theorem aeq{l:List Int}(hv:cE l 1024=0)(t:List UInt8):xf (sW l++t) 0=(l,t,0):=by
 have hl:=C5 (n:=1024) hv;have h1:=GA (n:=l.length) (m:=1024) NB NB NB (kM l 0++t);rw[amw]at h1;unfold xf;rw[sW,amd,h1];have:=M8 hv t _ 0 rfl NB;simpa using this
theorem IG:∀ (l acc:List Int) (t:List UInt8),(∀n∈l,U64 n)->gm l.length acc (wx l++t) 0=(acc++l,t,0)
 | [],acc,t,_=>by simp[gm,wx]
 | n :: l, acc, t, h => by
   rw[al8,gm,al5 NC,wx,amd,CJ (h n NC)];simp only;rw[IG l (acc++[n]) t (fun m hm=>h m (by simp[hm]))];simp
theorem Y3(x:Att)(l:List Int)(h1:U64 x.slot)(h2:U64 x.target.ep)(hv:cE l 1024=0):D9 (oW x l) 0=((x.slot,x.root,x.target,l),[],0):=by
 have e:=aeq hv [];rw[amo]at e;unfold D9;simp only[oW,amd,CJ h1,Gz,xM h2,e]
theorem Zb{x:Tab}{l:List Int}{cl:Bool}(h:GR x l cl)(hl:l.length<=1024):mV (oK x l) 0=((x.cp,l),[],0):=by
 have h1:=GA (n:=l.length) (m:=1024) NB NB NB (wx l);rw[amw]at h1;have e:=IG l [] [] h.all;rw[amo]at e;unfold mV;simp only[oK,dt,amd,CJ h.ep,Gz,h1,amw,e];rfl
theorem Y4(x:Blk)(h:NQ x)(hd:∀n∈x.diff.1,0<=n/\n<18446744073709551616)(hp:∀n∈x.pdiff.1,0<=n/\n<18446744073709551616)(t:List UInt8):zW (i9 x++t) 0=(x,t,0):=by
 have w1:=fun t=>(Aa x.diff hd).full t
 have w2:=fun t=>(Aa x.pdiff hp).full t
 have b1:=fun t=>(IE x.timely).full t
 unfold zW;simp only[i9,amd,CJ h.slot,Gz,w1,w2,xM h.just,xM h.fin,xM h.j,xM h.f,b1]
theorem M9:∀ (n:Nat) (acc:List Int) (bs:List UInt8) (e:Int),(gm n acc bs e).1.length<=acc.length+n
 |0,_,_,_=>amb _
 | n + 1, acc, bs, e => by
   rw[gm];split
   ·simp only;omega
   ·have:=M9 n (acc++[(aR bs e bU).1]) (aR bs e bU).2.1 (aR bs e bU).2.2;simp only[akC,al8,ama]at this;omega
theorem acb(b:List UInt8)(e:Int):(mV b e).1.2.length<=1024:=by
 unfold mV;simp only;have h1:=M9 (aR (pp (aR b e bU).2.1 (aR b e bU).2.2).2.1 (pp (aR b e bU).2.1 (aR b e bU).2.2).2.2 1024).1.toNat [] (aR (pp (aR b e bU).2.1 (aR b e bU).2.2).2.1 (pp (aR b e bU).2.1 (aR b e bU).2.2).2.2 1024).2.1 (aR (pp (aR b e bU).2.1 (aR b e bU).2.2).2.1 (pp (aR b e bU).2.1 (aR b e bU).2.2).2.2 1024).2.2;have h2:=mW (pp (aR b e bU).2.1 (aR b e bU).2.2).2.1 (pp (aR b e bU).2.1 (aR b e bU).2.2).2.2 1024 NB;simp only[ama]at h1;omega
theorem aaT(b:List UInt8):(Ds b.length (D9 b 0)).1.2.2.2.length<=1024:=by
 unfold Ds;have h:(D9 b 0).1.2.2.2.length<=1024:=M7 _ _;(repeat' split)<;>first|exact h|simp[oX]
theorem BK(x:Int×Rt×Cp×List Int)(ρ:Nat->Nat):(rj x).map (ren ρ)=rj x:=by simp only[rj,Att.map,ren,dG]
theorem EY(x:Int×Rt×Cp×List Int)(σ:St)(zs:List Nat):(rj x).map (fz σ zs)=rj x:=by simp only[rj,Att.map,fz,ew]
theorem eW(x:Int×Rt×Cp×List Int):(rj x).good=true:=rfl
theorem Dc(x:Sv)(ρ:Nat->Nat):(nO x).map (ren ρ)=nO x:=by simp only[nO,Slg.map,BS]
theorem Fw(x:Sv)(σ:St)(zs:List Nat):(nO x).map (fz σ zs)=nO x:=by simp only[nO,Slg.map,EZ]
theorem HE(x:Sv):(nO x).good=true:=rfl
attribute [go_sem] BK EY eW Dc Fw HE
end Go.Proofs.YtblipkgpoaonaaaGreat
