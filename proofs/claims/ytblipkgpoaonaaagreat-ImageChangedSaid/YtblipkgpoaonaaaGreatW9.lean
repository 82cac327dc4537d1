/- Joined. -/
import Derived.Test.YtblipkgpoaonaaaGreatW8
import Derived.Test.YtblipkgpoaonaaaGreatW3
set_option linter.unusedVariables false
set_option linter.unusedSimpArgs false
set_option maxRecDepth 8000
set_option maxHeartbeats 4000000
namespace Go.Proofs.YtblipkgpoaonaaaGreat
open Go Go.FH Go.RowKit
abbrev rr(n:Int):cn:=.var [.ptr 0 0,.int .i64 n]
theorem EB(b:List UInt8):ay Tryz.prog 306 [.sl 1 false (bts b)] [] (.ptr 1 0) [rdr false b 0,rr b.length]:=by
 refine dS 3 ?_;refine gon ?_;refine ocg [] (Fo b) ?_;exact ahY [] [0,1]
theorem tm(b:List UInt8)(e n:Int)(hb:b.length<=140737488355328):
 ay Tryz.prog 307 [.ptr 1 0] [rdr false b e,rr n] (.int .u64 (aR b e bU).1) [rdr false (aR b e bU).2.1 (aR b e bU).2.2,rr n]:=by
 refine dS 3 ?_;have hu:=lX b false e bU hb;generalize aR b e bU=U at *;obtain⟨u,b1,e1⟩:=U;dsimp only at hu ⊢;refine gon ?_;refine ocg [0] hu ?_;exact ahY [] [0,1]
theorem mW(b:List UInt8)(e m:Int)(hm:0<=m):(aR b e m).1<=m:=by
 unfold aR;(repeat' split)<;>first|omega|(simp only;omega)
theorem U9(b:List UInt8)(e n:Int)(hb:b.length<=140737488355328):
 ay Tryz.prog 308 [.ptr 1 0] [rdr false b e,rr n] (.sl 1 false (aH .i64 (xf b e).1)) [rdr false (xf b e).2.1 (xf b e).2.2,rr n]:=by
 refine dS 7 ?_;have hu:=lX b false e 1024 hb;have hl:=cV b e 1024;have hu0:=gw b e 1024;have hu1:=mW b e 1024 NB;have hL:CG (aR b e 1024).1.toNat (-1) [] (aR b e 1024).2.1 (aR b e 1024).2.2=xf b e:=rfl;generalize xf b e=L at *;generalize aR b e 1024=U at *;obtain⟨u,b1,e1⟩:=U;dsimp only at hu hu0 hu1 hl hL ⊢;have hw0:IntKind.i64.wrap u=u:=aL NB NB;refine gon ?_;refine oce [0] hu ?_;refine ah hw0 ?_
 refine eZ (fun x:Bool×Int×List Int×List UInt8×Int=>⟨7,[.ptr 1 0,.dead,.sl 0 true [],if x.1 then .hs 1 2 0 x.2.2.1.length else .sl 0 true [],.int .i64 u,.int .i64 x.2.2.1.length,.dead],[]⟩)
  (fun x=>if x.1 then [rdr false x.2.2.2.1 x.2.2.2.2,rr n,.vec 1 (aH .i64 x.2.2.1)]else [rdr false x.2.2.2.1 x.2.2.2.2,rr n]) (fun x=>u.toNat-x.2.2.1.length)
  (fun x=>CG (u.toNat-x.2.2.1.length) x.2.1 x.2.2.1 x.2.2.2.1 x.2.2.2.2=L/\x.2.2.1.length<=u.toNat/\x.2.2.2.1.length<=b.length/\-1<=x.2.1/\x.2.1<=1025*x.2.2.1.length/\(x.1=false->x.2.2.1=[]/\x.2.1=-1)/\(x.1=true->0<x.2.2.1.length/\x.2.2.1.getD (x.2.2.1.length-1) 0=x.2.1))
  (false,-1,[],b1,e1) ⟨by simpa using hL,NC,hl,NC,NC,NC,NC⟩ ?_ ?_
 ·exact ais [] [0,1]
 rintro⟨st,last,acc,bb,ee⟩ ⟨i1,i2,i3,i4,i5,i6,i7⟩;dsimp only at i1 i2 i3 i4 i5 i6 i7 ⊢;have hw1:=af (n:=acc.length+1) (i:=acc.length) NB NB;have c1:=po bb false ee;have c2:=lX bb false ee 1024 NB;by_cases hi:acc.length<u.toNat
 ·have hi':decide ((acc.length:Int)<u)=true:=by rw[amg];omega
  obtain⟨k,hk⟩:∃k,u.toNat-acc.length=k+1:=⟨u.toNat-acc.length-1,NB⟩
  rw[hk,CG]at i1;by_cases he:ee=0
  ·subst he
   rw[al5 NC]at i1;have v0:=gw bb 0 1024;have v1:=mW bb 0 1024 NB;have v2:=cV bb 0 1024;generalize aR bb 0 1024=V at *;obtain⟨v,b2,e2⟩:=V;dsimp only at v0 v1 v2 c2 i1;have hwv:IntKind.i64.wrap v=v:=aL NB NB;cases st with
   | false =>
     obtain⟨rfl,rfl⟩:=i6 rfl;simp only[ama]at hi hk i2;have hi0:decide ((0:Int)<u)=true:=by rw[amg];omega
     have hwz:IntKind.i64.wrap ((0:Int)+1)=1:=NE
     refine ah hi0 ?_;refine oce [0] c1 ?_;refine aX ?_;refine oce [0] c2 ?_;refine bJ hwv ?_;refine aZ hwv hwz ?_;refine⟨(true,v,[v],b2,e2),⟨?_,?_,?_,?_,?_,?_,?_⟩,?_,?_⟩
     ·have e0:(-1:Int)+1+v=v:=NB
      rw[e0]at i1;simp only[al8,ama];rw[show u.toNat-(0+1)=k by omega];exact i1
     ·simp only[al8,ama];omega
     ·dsimp only;omega
     ·dsimp only;omega
     ·simp only[al8,ama];omega
     ·simp
     ·simp
     ·simp only[al8,ama];omega
     ·exact ais [] [0,1,2]
   | true =>
     obtain⟨p1,p2⟩:=i7 rfl;have hg:=fF (k:=.i64) (show acc.length-1<acc.length by omega);rw[p2]at hg;have hp:decide ((0:Int)<(acc.length:Int))=true:=by rw[amg];omega
     have hwm:IntKind.i64.wrap ((acc.length:Int)-1)=((acc.length-1:Nat):Int):=by rw[aL NB NB];omega
     have hwl:IntKind.i64.wrap (last+1)=last+1:=aL NB NB;have hwn:IntKind.i64.wrap (v+(last+1))=last+1+v:=by rw[aL NB NB];omega
     refine ah hi' ?_;refine oce [0] c1 ?_;refine aX ?_;refine oce [0] c2 ?_;refine ah hwv ?_;refine ax ?_ (by(try simp only[go_sem,hp]);try exact evd);refine eU hwm hg hwl hwn hw1 ?_;refine⟨(true,last+1+v,acc++[last+1+v],b2,e2),⟨?_,?_,?_,?_,?_,?_,?_⟩,?_,?_⟩
     ·simp only[akC,al8,ama];rw[show u.toNat-(acc.length+(0+1))=k by omega];exact i1
     ·simp only[akC,al8,ama];omega
     ·dsimp only;omega
     ·dsimp only;omega
     ·simp only[akC,al8,ama];omega
     ·simp
     ·intro _;simp only[akC,al8,ama];exact⟨NB,by simp[alt]⟩
     ·simp only[akC,al8,ama];omega
     ·exact ais [] [0,1,3]
  ·have he':(ee==0)=false:=by simpa using he
   rw[al7 he]at i1;cases st with
   | false =>
     obtain⟨rfl,rfl⟩:=i6 rfl;simp only[ama]at hi hk i2;have hi0:decide ((0:Int)<u)=true:=by rw[amg];omega
     rw[<-i1];refine ah hi0 ?_;refine oce [0] c1 ?_;refine aF he' ?_;refine HM [] [0,1] _ NC (by first|rfl|exact evd) NC rfl NC NC evd evd (Wk.empty 0 1 _)
   | true =>
     rw[<-i1];refine ah hi' ?_;refine oce [0] c1 ?_;refine aF he' ?_;exact ahY [2] [0,1]
 ·have hi':decide ((acc.length:Int)<u)=false:=by rw[ami];omega
  rw[show u.toNat-acc.length=0 by omega,CG]at i1;cases st with
  | false =>
    obtain⟨rfl,rfl⟩:=i6 rfl;have hi0:decide ((0:Int)<u)=false:=by simpa using hi'
    rw[<-i1];refine aF hi0 ?_;refine HM [] [0,1] _ NC (by first|rfl|exact evd) NC rfl NC NC evd evd (Wk.empty 0 1 _)
  | true =>
    rw[<-i1];refine aF hi' ?_;exact ahY [2] [0,1]
def lsl(ls:List (List Int)):List (List AV):=ls.map fun l=>[.sl 1 false (aH .i64 l)]
theorem UB(ls:List (List Int)):(lsl ls).length=ls.length:=by simp[lsl]
theorem abl{ls:List (List Int)}{i:Nat}(h:i<ls.length):(lsl ls).getD i []=[.sl 1 false (aH .i64 (ls.getD i []))]:=by
 simp[lsl,alt,h]
attribute [go_sem] UB
def qY(ls:List (List Int))(i:Nat):Bool:=(ls.drop i).all fun l=>cE l 1024==0
theorem abP{ls:List (List Int)}{i:Nat}(h:i<ls.length):qY ls i=((cE (ls.getD i []) 1024==0)&&qY ls (i+1)):=by
 unfold qY;rw[amG h,akg,alt,al6 h];rfl
def Hm(n:Int)(ls:List (List Int))(b:List UInt8)(e:Int):Int×Int:=if e≠0 then (0,e)else if qY ls 0 then (n-b.length,0)else (0,2)
theorem xO(b:List UInt8)(e n:Int)(ls:List (List Int))(cl:Bool)(hb:b.length<=n)(hn:n<=140737488355328)(hls:ls.length<=1000)(hl:∀i,i<ls.length->(ls.getD i []).length<=140737488355328):
 ay Tryz.prog 309 [.ptr 1 0,.sl 1 cl (lsl ls)] [rdr false b e,rr n] (.tup [.int .i64 (Hm n ls b e).1,.int .i64 (Hm n ls b e).2]) [rdr false b e,rr n]:=by
 refine dS 20 ?_;unfold Hm;have c1:=po b false e;have c2:=Zt b false e;by_cases he:e=0
 ·subst he
  simp only[ajT,amp,amj];refine gon ?_;refine oce [0] c1 ?_;refine bk ?_
  refine gM (fun i:Nat=>⟨20,[.ptr 1 0,.sl 1 cl (lsl ls),.dead,.dead,.int .i64 0,.int .i64 0,.int .i64 0,.dead,.dead,.dead,.dead,.dead,.dead,.dead,.dead,.dead,.dead,.sl 1 cl (lsl ls),.int .i64 ls.length,.int .i64 i],[]⟩) (fun _=>[rdr false b 0,rr n]) (fun i=>ls.length-i)
   (fun i=>i<=ls.length/\qY ls i=qY ls 0) [7,8,9,10,11,12,13,14,15,16] 0 ⟨NB,rfl⟩ evd rfl ?_
  rintro i ⟨i1,i2⟩;try dsimp only
  refine gon ?_;refine aY evd (fun h=>?_) (fun h=>?_)
  ·have hi:i<ls.length:=by simpa using h
   have hg:=abl hi;have hv:=tq (ls.getD i []) false 1024 (hl i hi);have hw:=af hi NB;rw[abP hi]at i2;by_cases hq:cE (ls.getD i []) 1024=0
   ·rw[hq]at hv i2;simp only[beq_self_eq_true,am2]at i2;refine ah hg ?_;refine am hv ?_;refine dQ ?_;refine ah hw ?_;exact⟨i+1,⟨hi,i2⟩,NB,rfl⟩
   ·have hq':(cE (ls.getD i []) 1024 != 0)=true:=by simpa using hq
    have hq2:(cE (ls.getD i []) 1024==0)=false:=by simpa using hq
    rw[hq2,ajq]at i2;rw[<-i2];refine ah hg ?_;refine ahG hv ?_;refine ax ?_ (by(try simp only[go_sem,hq']);try exact evd);refine gon ?_;exact ahY [] [0,1]
  ·have hi:i=ls.length:=by simp at h;omega
   subst hi;have:qY ls ls.length=true:=by simp[qY]
   rw[<-i2,this];simp only[amt];have hw:IntKind.i64.wrap (n-(b.length:Int))=n-b.length:=aL NB NB;refine gon ?_;refine dre [0] c2 ?_;refine ah hw ?_;exact ahY [] [0,1]
 ·have he':(e != 0)=true:=by simpa using he
  simp only[ajT,he,amu,amt];refine gon ?_;refine ocg [0] c1 ?_;refine ax ?_ (by(try simp only[go_sem,he']);try exact evd);refine gon ?_;exact ahY [] [0,1]
theorem Y5(b:List UInt8)(e:Int):(fE b e).2.1.length<=b.length:=by
 unfold fE;split
 ·exact amb _
 ·split
  ·exact amb _
  ·split
   ·exact amb _
   ·simp
theorem Nh(b:List UInt8)(e:Int):(gE b e).2.1.length<=b.length:=lP b e
theorem CF(b:List UInt8)(e:Int):(rCp b e).2.1.length<=b.length:=by
 unfold rCp;split
 ·exact amb _
 ·exact ams (lP _ _) (cV _ _ _)
theorem G5(pul:Pul)(slot:Int)(root parent payload:Rt)(diff pdiff:Wd)(just fin:Cp)(timely:Bool):
 dB pul++.int .u64 slot::(rtc root++(rtc parent++(rtc payload++(wdc diff++(wdc pdiff++(cpC just++cx ⟨fin,.bool timely⟩))))))=aO ⟨pul,slot,root,parent,payload,diff,pdiff,just,fin,timely⟩:=rfl
attribute [go_sem] G5
def zW(b0:List UInt8)(e0:Int):Blk×List UInt8×Int:=
 let s:=aR b0 e0 bU
 let r:=pp s.2.1 s.2.2
 let p:=pp r.2.1 r.2.2
 let y:=pp p.2.1 p.2.2
 let d:=gE y.2.1 y.2.2
 let g:=gE d.2.1 d.2.2
 let j:=rCp g.2.1 g.2.2
 let f:=rCp j.2.1 j.2.2
 let u:=rCp f.2.1 f.2.2
 let v:=rCp u.2.1 u.2.2
 let t:=fE v.2.1 v.2.2
 (⟨⟨u.1,v.1⟩,s.1,r.1,p.1,y.1,d.1,g.1,j.1,f.1,t.1⟩,t.2.1,t.2.2)
def dec{α:Type}(z:α)(n:Nat)(x:α×List UInt8×Int):α×Int×Int:=if x.2.2≠0 then (z,0,x.2.2)else (x.1,((n-x.2.1.length:Nat):Int),0)
theorem Dv(n:Int)(b:List UInt8)(e:Int):Hm n [] b e=if e≠0 then (0,e)else (n-b.length,0):=by simp[Hm,qY]
set_option maxRecDepth 100000 in
theorem aci(b:List UInt8)(hb:b.length<=140737488355328):
 PC Tryz.prog 204 [.sl 1 false (bts b)] (.tup [.agg (aO (dec cw b.length (zW b 0)).1),.int .i64 (dec cw b.length (zW b 0)).2.1,.int .i64 (dec cw b.length (zW b 0)).2.2]):=by
 refine PC.fact 6 uv NC ⟨iV b,trivial⟩ ⟨gA _,trivial,trivial,trivial⟩ ?_;unfold li;refine bd ?_;rcases h1:aR b 0 bU with⟨s,b1,e1⟩
 rcases h2:pp b1 e1 with⟨r,b2,e2⟩
 rcases h3:pp b2 e2 with⟨p,b3,e3⟩
 rcases h4:pp b3 e3 with⟨y,b4,e4⟩
 rcases h5:gE b4 e4 with⟨d,b5,e5⟩
 rcases h6:gE b5 e5 with⟨g,b6,e6⟩
 rcases h7:rCp b6 e6 with⟨j,b7,e7⟩
 rcases h8:rCp b7 e7 with⟨f,b8,e8⟩
 rcases h9:rCp b8 e8 with⟨u,b9,e9⟩
 rcases h10:rCp b9 e9 with⟨v,b10,e10⟩
 rcases h11:fE b10 e10 with⟨t,b11,e11⟩
 have hB:zW b 0=(⟨⟨u,v⟩,s,r,p,y,d,g,j,f,t⟩,b11,e11):=by simp only[zW,h1,h2,h3,h4,h5,h6,h7,h8,h9,h10,h11]
 have l1:=cV b 0 bU;rw[h1]at l1;have l2:=lP b1 e1;rw[h2]at l2;have l3:=lP b2 e2;rw[h3]at l3;have l4:=lP b3 e3;rw[h4]at l4;have l5:=Nh b4 e4;rw[h5]at l5;have l6:=Nh b5 e5;rw[h6]at l6;have l7:=CF b6 e6;rw[h7]at l7;have l8:=CF b7 e7;rw[h8]at l8;have l9:=CF b8 e8;rw[h9]at l9;have l10:=CF b9 e9;rw[h10]at l10;have l11:=Y5 b10 e10;rw[h11]at l11;dsimp only at l1 l2 l3 l4 l5 l6 l7 l8 l9 l10 l11;have c1:=tm b 0 b.length NB;rw[h1]at c1;have c2:=jS b1 false e1 NB;rw[h2]at c2;have c3:=jS b2 false e2 NB;rw[h3]at c3;have c4:=jS b3 false e3 NB;rw[h4]at c4;have c5:=EM b4 false e4 NB;rw[h5]at c5;have c6:=EM b5 false e5 NB;rw[h6]at c6;have c7:=xB b6 false e6 NB;rw[h7]at c7;have c8:=xB b7 false e7 NB;rw[h8]at c8;have c9:=xB b8 false e8 NB;rw[h9]at c9;have c10:=xB b9 false e9 NB;rw[h10]at c10;have c11:=Mi b10 false e10 NB;rw[h11]at c11;have ce:=(xO b11 e11 b.length [] true NB NB NC NC).wk (xs:=[.ptr 1 0,.sl 0 true []]) ⟨Wk.refl _,Wk.empty 0 1 _,trivial⟩;rw[Dv]at ce;dsimp only at c1 c2 c3 c4 c5 c6 c7 c8 c9 c10 c11;rw[hB];unfold dec;dsimp only;refine gon ?_;refine ocg [] (EB b) ?_;refine ocg [1,2] c1 ?_;refine dcg [1] c2 ?_;refine dcg [1] c3 ?_;refine dcg [1] c4 ?_;refine dcg [1] c5 ?_;refine dcg [1] c6 ?_;refine dcg [1] c7 ?_;refine dcg [1] c8 ?_;refine dcg [1] c9 ?_;refine dcg [1] c10 ?_;refine ocg [1] c11 ?_;by_cases he:e11=0
 ·subst he;simp only[ajT,amp,amj]at ce ⊢;rw[show ((b.length:Int)-(b11.length:Int))=((b.length-b11.length:Nat):Int)by omega]at ce;refine oce [1,2] ce ?_;refine bk ?_;exact ai
 ·have he':(e11 != 0)=true:=by simpa using he
  simp only[ajT,he,amu,amt]at ce ⊢;refine ocg [1,2] ce ?_;refine ax ?_ (by(try simp only[go_sem,he']);try exact evd);refine gon ?_;exact ai
def WkC:List AV->List AV->Prop
 | [],[]=>True
 |c::cs,d::ds=>Wk c d/\(c.cell=true->d.cell=true)/\WkC cs ds
 |_,_=>False
theorem WkC.refl:∀cs:List AV,WkC cs cs
 | []=>trivial
 |c::cs=>⟨Wk.refl c,fun h=>h,WkC.refl cs⟩
theorem WkC.app:∀ {a b c d:List AV},WkC a b->WkC c d->WkC (a++c) (b++d)
 | [],[],_,_,_,h=>h
 |_::_,_::_,_,_,h1,h2=>⟨h1.1,h1.2.1,WkC.app h1.2.2 h2⟩
 | [],_::_,_,_,h,_|_::_,[],_,_,h,_=>h.elim
theorem WkC.rlc{E:Env}:∀ {cs ds:List AV} {us:List Value},WkC cs ds->RlC E cs us->RlC E ds us
 | [],[],_,_,h=>h
 |_::_,_::_,_,hw,⟨u,us,e,h1,h2,h3⟩=>⟨u,us,e,hw.2.1 h1,hw.1 _ _ h2,WkC.rlc hw.2.2 h3⟩
 | [],_::_,_,h,_|_::_,[],_,h,_=>h.elim
theorem Wk.agg{cs ds:List AV}(h:WkC cs ds):Wk (.agg cs) (.agg ds):=fun _ _ ⟨vs,e,hr⟩=>⟨vs,e,h.rlc hr⟩
theorem rW{fr:Fr}{σ:St}{rs:List gN}{r r0:AV}{l:List AV}(hl:dH fr σ rs=some l:=by first|rfl|exact evd)(hv:fz σ (List.range σ.length) (gk l)=r0:=by(try simp only[go_sem,Nat.reduceAdd,Nat.reduceSub,Nat.reduceMul,Nat.reduceLT,Nat.reduceLeDiff,Nat.reduceEqDiff,reduceIte,Int.reduceToNat,Int.reduceLT,Int.reduceLE,Int.reduceEq,Int.reduceNeg,reduceCtorEq,Int.reduceBEq,Int.reduceBNe]);try rfl)(hp:Pu r0:=by exact puA)(hw:Wk r0 r:=by repeat'(first|exact Wk.refl _|exact Wk.empty _ _ _|exact Wk.open_ _ _ _|refine Wk.tup ?_|refine Wk.agg ?_|exact trivial|(intro h;first|exact h|rfl)|constructor)):∃l,dH fr σ rs=some l/\(fz σ (List.range σ.length) (gk l)=r\/∃r0,fz σ (List.range σ.length) (gk l)=r0/\Pu r0/\Wk r0 r):=⟨l,hl,.inr ⟨r0,hv,hp,hw⟩⟩
theorem G4(s:Int)(r:Rt)(c:Cp)(v:AV):.int .u64 s::(rtc r++cx ⟨c,v⟩)=cy ⟨s,r,c,v⟩:=rfl
attribute [go_sem] G4
theorem oF:lsl []=[]:=rfl
theorem lU(l:List Int)(ls:List (List Int)):lsl (l::ls)=[.sl 1 false (aH .i64 l)]::lsl ls:=rfl
theorem Hy(ρ:Nat->Nat)(x:List AV)(xs:List (List AV)):bH ρ (x::xs)=bZ ρ x::bH ρ xs:=rfl
attribute [go_sem] oF lU Hy
theorem X9(n:Int)(l:List Int)(b:List UInt8)(e:Int):Hm n [l] b e=if e≠0 then (0,e)else if cE l 1024=0 then (n-b.length,0)else (0,2):=by simp[Hm,qY]
def rj(x:Int×Rt×Cp×List Int):Att:=⟨x.1,x.2.1,x.2.2.1,.sl 1 false (aH .i64 x.2.2.2)⟩
def oX:Int×Rt×Cp×List Int:=(0,rt0,cp0,[])
theorem WkC.cons{c d:AV}{cs ds:List AV}(h:Wk c d)(hc:c.cell=true->d.cell=true)(h2:WkC cs ds):WkC (c::cs) (d::ds):=⟨h,hc,h2⟩
theorem WkC.same(c:AV){cs ds:List AV}(h2:WkC cs ds):WkC (c::cs) (c::ds):=.cons (Wk.refl c) (fun h=>h) h2
theorem WkC.one{c d:AV}(h:Wk c d)(hc:c.cell=true->d.cell=true):WkC [c] [d]:=.cons h hc trivial
theorem agJ(s:Int)(r:Rt)(c:Cp){v v':AV}(h:Wk v v')(hc:v.cell=true->v'.cell=true):Wk (.agg (cy ⟨s,r,c,v⟩)) (.agg (cy ⟨s,r,c,v'⟩)):=
 Wk.agg (WkC.same _ ((WkC.refl (rtc r)).app ((WkC.refl (cpC c)).app (WkC.one h hc))))
theorem Xj:Wk (.agg (cy Do)) (.agg (cy (rj oX))):=agJ 0 rt0 cp0 (Wk.empty 0 1 false) fun h=>h
def D9(b0:List UInt8)(e0:Int):(Int×Rt×Cp×List Int)×List UInt8×Int:=
 let s:=aR b0 e0 bU
 let r:=pp s.2.1 s.2.2
 let c:=rCp r.2.1 r.2.2
 let l:=xf c.2.1 c.2.2
 ((s.1,r.1,c.1,l.1),l.2.1,l.2.2)
def Ds(n:Nat)(x:(Int×Rt×Cp×List Int)×List UInt8×Int):(Int×Rt×Cp×List Int)×Int×Int:=
 if x.2.2≠0 then (oX,0,x.2.2)else if cE x.1.2.2.2 1024=0 then (x.1,((n-x.2.1.length:Nat):Int),0)else (oX,0,2)
theorem adl(x:Int×Rt×Cp×List Int):Pu (.agg (cy (rj x))):=(fB _).2 (bE _ _)
theorem Si:∀ (n:Nat) (last:Int) (acc:List Int) (bs:List UInt8) (e:Int),(CG n last acc bs e).1.length<=acc.length+n
 |0,_,_,_,_=>amb _
 | n + 1, last, acc, bs, e => by
   rw[CG];split
   ·simp only;omega
   ·have:=Si n (last+1+(aR bs e 1024).1) (acc++[last+1+(aR bs e 1024).1]) (aR bs e 1024).2.1 (aR bs e 1024).2.2;simp only[akC,al8,ama]at this;omega
theorem M7(b:List UInt8)(e:Int):(xf b e).1.length<=1024:=by
 have h1:=Si (aR b e 1024).1.toNat (-1) [] (aR b e 1024).2.1 (aR b e 1024).2.2;have h2:=mW b e 1024 NB;simp only[ama]at h1;show (CG _ _ _ _ _).1.length<=1024
 omega
theorem ach(b:List UInt8)(hb:b.length<=140737488355328):
 PC Tryz.prog 202 [.sl 1 false (bts b)] (.tup [.agg (cy (rj (Ds b.length (D9 b 0)).1)),.int .i64 (Ds b.length (D9 b 0)).2.1,.int .i64 (Ds b.length (D9 b 0)).2.2]):=by
 refine PC.fact 6 oq NC ⟨iV b,trivial⟩ ⟨adl _,trivial,trivial,trivial⟩ ?_;unfold gW;refine bd ?_;rcases h1:aR b 0 bU with⟨s,b1,e1⟩
 rcases h2:pp b1 e1 with⟨r,b2,e2⟩
 rcases h3:rCp b2 e2 with⟨c,b3,e3⟩
 rcases h4:xf b3 e3 with⟨l,b4,e4⟩
 have hB:D9 b 0=((s,r,c,l),b4,e4):=by simp only[D9,h1,h2,h3,h4]
 have l1:=cV b 0 bU;rw[h1]at l1;have l2:=lP b1 e1;rw[h2]at l2;have l3:=CF b2 e2;rw[h3]at l3;have l4:=Y7 b3 e3;rw[h4]at l4;have l5:=M7 b3 e3;rw[h4]at l5;dsimp only at l1 l2 l3 l4 l5;have c1:=tm b 0 b.length NB;rw[h1]at c1;have c2:=jS b1 false e1 NB;rw[h2]at c2;have c3:=xB b2 false e2 NB;rw[h3]at c3;have c4:=U9 b3 e3 b.length NB;rw[h4]at c4;have ce:=xO b4 e4 b.length [l] true NB NB NC (by intro i hi;simp only[al8,ama]at hi;obtain rfl:i=0:=NB;exact(show l.length<=140737488355328 by omega));rw[X9]at ce;dsimp only at c1 c2 c3 c4;rw[hB];unfold Ds;dsimp only;refine gon ?_;refine ocg [] (EB b) ?_;refine Ow [1,2] [1] (c1) NC evd (aq.mk' NC evd) NC (by simp[CQ]) ?_;refine evg ?_;refine gon ?_;refine dcg [1] c2 ?_;refine ocg [1] c3 ?_;refine ocg [1,2] c4 ?_;by_cases he:e4=0
 ·subst he
  simp only[ajT,amp,amj]at ce ⊢;by_cases hv:cE l 1024=0
  ·simp only[hv,amt]at ce ⊢;rw[show ((b.length:Int)-(b4.length:Int))=((b.length-b4.length:Nat):Int)by omega]at ce;refine oce [1,2] ce ?_;refine bk ?_;exact ai
  ·simp only[hv,amj]at ce ⊢;refine oce [1,2] ce ?_;refine aX ?_;refine⟨_,(by first|rfl|exact evd),.inr ⟨.tup [.agg (cy Do),.int .i64 0,.int .i64 2],evd,⟨(fB _).2 trivial,trivial,trivial,trivial⟩,Wk.tup ⟨Xj,Wk.refl _,Wk.refl _,trivial⟩⟩⟩
 ·have he':(e4 != 0)=true:=by simpa using he
  simp only[ajT,he,amu,amt]at ce ⊢;refine ocg [1,2] ce ?_;refine ax ?_ (by(try simp only[go_sem,he']);try exact evd);refine gon ?_;refine⟨_,(by first|rfl|exact evd),.inr ⟨.tup [.agg (cy Do),.int .i64 0,.int .i64 e4],evd,⟨(fB _).2 trivial,trivial,trivial,trivial⟩,Wk.tup ⟨Xj,Wk.refl _,Wk.refl _,trivial⟩⟩⟩
abbrev Cv:=Int×Int×Rt×List Int
def ahc(x:Cv):Clm:=⟨x.1,x.2.1,x.2.2.1,.sl 1 false (aH .i64 x.2.2.2)⟩
theorem BS(x:Cv)(ρ:Nat->Nat):(ahc x).map (ren ρ)=ahc x:=by simp only[ahc,Clm.map,ren,dG]
theorem EZ(x:Cv)(σ:St)(zs:List Nat):(ahc x).map (fz σ zs)=ahc x:=by simp only[ahc,Clm.map,fz,ew]
theorem gg(x:Cv):(ahc x).good=true:=rfl
theorem gP(x:Cv):(ahc x).vals=.sl 1 false (aH .i64 x.2.2.2):=rfl
theorem zL(x:Cv):(ahc x).Pure:=bE _ _
attribute [go_sem] BS EZ gg gP
def oV:Cv:=(0,0,rt0,[])
abbrev Sv:=Cv×Cv
def nO(x:Sv):Slg:=⟨ahc x.1,ahc x.2⟩
def mB:Sv:=(oV,oV)
theorem FR(s t:Int)(r:Rt){v v':AV}(h:Wk v v')(hc:v.cell=true->v'.cell=true):WkC (du ⟨s,t,r,v⟩) (du ⟨s,t,r,v'⟩):=
 WkC.same _ (WkC.same _ ((WkC.refl (rtc r)).app (WkC.one h hc)))
abbrev Tv:=Cp×List Int
def EU(x:Tv):Tab:=⟨x.1,.sl 1 false (aH .u64 x.2)⟩
def j4:Tv:=(cp0,[])
theorem adm(x:Tv):Pu (.agg (cx (EU x))):=(eP _).2 (bE _ _)
theorem adb(c:Cp){v v':AV}(h:Wk v v')(hc:v.cell=true->v'.cell=true):Wk (.agg (cx ⟨c,v⟩)) (.agg (cx ⟨c,v'⟩)):=Wk.agg ((WkC.refl (cpC c)).app (WkC.one h hc))
theorem GL:Wk (.agg (cx yp)) (.agg (cx (EU j4))):=adb cp0 (Wk.empty 0 1 false) fun h=>h
def mV(b0:List UInt8)(e0:Int):Tv×List UInt8×Int:=
 let s:=aR b0 e0 bU
 let r:=pp s.2.1 s.2.2
 let n:=aR r.2.1 r.2.2 1024
 let l:=gm n.1.toNat [] n.2.1 n.2.2
 ((⟨s.1,r.1⟩,l.1),l.2.1,l.2.2)
theorem acj(b:List UInt8)(hb:b.length<=140737488355328):
 PC Tryz.prog 206 [.sl 1 false (bts b)] (.tup [.agg (cx (EU (dec j4 b.length (mV b 0)).1)),.int .i64 (dec j4 b.length (mV b 0)).2.1,.int .i64 (dec j4 b.length (mV b 0)).2.2]):=by
 refine PC.fact 8 uw NC ⟨iV b,trivial⟩ ⟨adm _,trivial,trivial,trivial⟩ ?_;unfold lj;refine bd ?_;rcases h1:aR b 0 bU with⟨s,b1,e1⟩
 rcases h2:pp b1 e1 with⟨r,b2,e2⟩
 rcases h3:aR b2 e2 1024 with⟨n,b3,e3⟩
 have hB:mV b 0=((⟨s,r⟩,(gm n.toNat [] b3 e3).1),(gm n.toNat [] b3 e3).2.1,(gm n.toNat [] b3 e3).2.2):=by simp only[mV,h1,h2,h3]
 have l1:=cV b 0 bU;rw[h1]at l1;have l2:=lP b1 e1;rw[h2]at l2;have l3:=cV b2 e2 1024;rw[h3]at l3;have n0:=gw b2 e2 1024;rw[h3]at n0;have n1:=mW b2 e2 1024 NB;rw[h3]at n1;dsimp only at l1 l2 l3 n0 n1;have c1:=tm b 0 b.length NB;rw[h1]at c1;have c2:=jS b1 false e1 NB;rw[h2]at c2;have c3:=lX b2 false e2 1024 NB;rw[h3]at c3;dsimp only at c1 c2 c3;rw[hB];have hL:gm n.toNat [] b3 e3=gm n.toNat [] b3 e3:=rfl;generalize hLL:gm n.toNat [] b3 e3=L at *;unfold dec;dsimp only;refine gon ?_;refine ocg [] (EB b) ?_;refine Ow [1,2] [1] (c1) NC evd (aq.mk' NC evd) NC (by simp[CQ]) ?_;refine evg ?_;refine gon ?_;refine dcg [1] c2 ?_;refine ocg [1] c3 ?_
 refine eZ (fun x:Bool×List Int×List UInt8×Int=>⟨8,[.sl 1 false (bts b),.dead,.ptr 0 0,.int .i64 0,.int .i64 0,.ptr 2 0,.int .u64 n,.int .u64 x.2.1.length],[]⟩)
  (fun x=>.var (cx ⟨⟨s,r⟩,if x.1 then .hs 1 3 0 x.2.1.length else .sl 0 true []⟩)::rdr false x.2.2.1 x.2.2.2::.var [.ptr 1 0,.int .i64 b.length]::(if x.1 then [.vec 1 (aH .u64 x.2.1)]else [])) (fun x=>n.toNat-x.2.1.length)
  (fun x=>gm (n.toNat-x.2.1.length) x.2.1 x.2.2.1 x.2.2.2=L/\x.2.1.length<=n.toNat/\x.2.2.1.length<=b.length/\(x.1=false->x.2.1=[]))
  (false,[],b3,e3) ⟨by simpa using hLL,NC,by dsimp only;omega,NC⟩ ?_ ?_
 ·exact ais [] [0,1,2]
 rintro⟨st,acc,bb,ee⟩ ⟨i1,i2,i3,i4⟩;dsimp only at i1 i2 i3 i4 ⊢;have hw1:IntKind.u64.wrap ((acc.length:Int)+1)=((acc.length+1:Nat):Int):=by rw[aN NB NB];omega
 have c4:=po bb false ee;have c5:=tm bb ee b.length NB;by_cases hi:acc.length<n.toNat
 ·have hi':decide ((acc.length:Int)<n)=true:=by rw[amg];omega
  obtain⟨k,hk⟩:∃k,n.toNat-acc.length=k+1:=⟨n.toNat-acc.length-1,NB⟩
  rw[hk,gm]at i1;by_cases he:ee=0
  ·subst he
   rw[al5 NC]at i1;have v2:=cV bb 0 bU;generalize aR bb 0 bU=V at *;obtain⟨v,b4,e4⟩:=V;dsimp only at v2 c5 i1;cases st with
   | false =>
     obtain rfl:=i4 rfl;simp only[ama]at hi hk i2;have hi0:decide ((0:Int)<n)=true:=by rw[amg];omega
     have hwz:IntKind.u64.wrap ((0:Int)+1)=1:=NE
     refine ah hi0 ?_;refine oce [1] c4 ?_;refine aX ?_;refine Ow [1,2] [1] (c5) NC evd (aq.mk' NC evd) NC (by simp[CQ]) ?_;refine evg ?_;refine ah hwz ?_;refine⟨(true,[v],b4,e4),⟨?_,?_,?_,?_⟩,?_,?_⟩
     ·simp only[al8,ama];rw[show n.toNat-(0+1)=k by omega];exact i1
     ·simp only[al8,ama];omega
     ·dsimp only;omega
     ·simp
     ·simp only[al8,ama];omega
     ·exact ais [] [0,1,2,4]
   | true =>
     refine ah hi' ?_;refine oce [1] c4 ?_;refine aX ?_;refine Ow [1,2] [1] (c5) NC evd (aq.mk' NC evd) NC (by simp[CQ]) ?_;refine evg ?_;refine ah hw1 ?_;refine⟨(true,acc++[v],b4,e4),⟨?_,?_,?_,?_⟩,?_,?_⟩
     ·simp only[akC,al8,ama];rw[show n.toNat-(acc.length+(0+1))=k by omega];exact i1
     ·simp only[akC,al8,ama];omega
     ·dsimp only;omega
     ·simp
     ·simp only[akC,al8,ama];omega
     ·exact ais [] [0,1,2,5]
  ·have he':(ee==0)=false:=by simpa using he
   have he2:(ee != 0)=true:=by simpa using he
   rw[al7 he]at i1;subst i1;dsimp only at hB ⊢;have ce:=(xO bb ee b.length [] true NB NB NC NC).wk (xs:=[.ptr 1 0,.sl 0 true []]) ⟨Wk.refl _,Wk.empty 0 1 _,trivial⟩;rw[Dv]at ce;cases st with
   | false =>
     obtain rfl:=i4 rfl;simp only[ama]at hi i2;have hi0:decide ((0:Int)<n)=true:=by rw[amg];omega
     refine ah hi0 ?_;refine oce [1] c4 ?_;refine aF he' ?_;simp only[ajT,he,amu,amt]at ce ⊢;refine ocg [1,2] ce ?_;refine ax ?_ (by(try simp only[go_sem,he2]);try exact evd);refine gon ?_;refine⟨_,(by first|rfl|exact evd),.inr ⟨.tup [.agg (cx yp),.int .i64 0,.int .i64 ee],evd,⟨(eP _).2 trivial,trivial,trivial,trivial⟩,Wk.tup ⟨GL,Wk.refl _,Wk.refl _,trivial⟩⟩⟩
   | true =>
     refine ah hi' ?_;refine oce [1] c4 ?_;refine aF he' ?_;simp only[ajT,he,amu,amt]at ce ⊢;refine ocg [1,2] ce ?_;refine ax ?_ (by(try simp only[go_sem,he2]);try exact evd);refine gon ?_;refine⟨_,(by first|rfl|exact evd),.inr ⟨.tup [.agg (cx yp),.int .i64 0,.int .i64 ee],evd,⟨(eP _).2 trivial,trivial,trivial,trivial⟩,Wk.tup ⟨GL,Wk.refl _,Wk.refl _,trivial⟩⟩⟩
 ·have hi':decide ((acc.length:Int)<n)=false:=by rw[ami];omega
  rw[show n.toNat-acc.length=0 by omega,gm]at i1;subst i1;dsimp only at hB ⊢;have ce:=(xO bb ee b.length [] true NB NB NC NC).wk (xs:=[.ptr 1 0,.sl 0 true []]) ⟨Wk.refl _,Wk.empty 0 1 _,trivial⟩;rw[Dv]at ce;by_cases he:ee=0
  ·subst he
   cases st with
   | false =>
     obtain rfl:=i4 rfl;simp only[ama]at hi i2;have hi0:decide ((0:Int)<n)=false:=by rw[ami];omega
     refine aF hi0 ?_;simp only[ajT,amp,amj]at ce ⊢;rw[show ((b.length:Int)-(bb.length:Int))=((b.length-bb.length:Nat):Int)by omega]at ce;refine oce [1,2] ce ?_;refine bk ?_;refine⟨_,(by first|rfl|exact evd),.inr ⟨.tup [.agg (cx ⟨⟨s,r⟩,.sl 0 true []⟩),.int .i64 ((b.length-bb.length:Nat):Int),.int .i64 0],evd,⟨(eP _).2 trivial,trivial,trivial,trivial⟩,Wk.tup ⟨adb _ (Wk.empty 0 1 false) fun h=>h,Wk.refl _,Wk.refl _,trivial⟩⟩⟩
   | true =>
     refine aF hi' ?_;simp only[ajT,amp,amj]at ce ⊢;rw[show ((b.length:Int)-(bb.length:Int))=((b.length-bb.length:Nat):Int)by omega]at ce;refine oce [1,2] ce ?_;refine bk ?_;exact ai
  ·have he2:(ee != 0)=true:=by simpa using he
   cases st with
   | false =>
     obtain rfl:=i4 rfl;simp only[ama]at hi i2;have hi0:decide ((0:Int)<n)=false:=by rw[ami];omega
     refine aF hi0 ?_;simp only[ajT,he,amu,amt]at ce ⊢;refine ocg [1,2] ce ?_;refine ax ?_ (by(try simp only[go_sem,he2]);try exact evd);refine gon ?_;refine⟨_,(by first|rfl|exact evd),.inr ⟨.tup [.agg (cx yp),.int .i64 0,.int .i64 ee],evd,⟨(eP _).2 trivial,trivial,trivial,trivial⟩,Wk.tup ⟨GL,Wk.refl _,Wk.refl _,trivial⟩⟩⟩
   | true =>
     refine aF hi' ?_;simp only[ajT,he,amu,amt]at ce ⊢;refine ocg [1,2] ce ?_;refine ax ?_ (by(try simp only[go_sem,he2]);try exact evd);refine gon ?_;refine⟨_,(by first|rfl|exact evd),.inr ⟨.tup [.agg (cx yp),.int .i64 0,.int .i64 ee],evd,⟨(eP _).2 trivial,trivial,trivial,trivial⟩,Wk.tup ⟨GL,Wk.refl _,Wk.refl _,trivial⟩⟩⟩
end Go.Proofs.YtblipkgpoaonaaaGreat
