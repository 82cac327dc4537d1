/-
 My texts Ej, Ek, El, Em, joined.
-/
import Derived.Test.YtipiipgpnkpejaaGreatW8
import Derived.Test.YtipiipgpnkpejaaGreatW3
namespace Go.Proofs.YtipiipgpnkpejaaGreat
open Go Go.FH Go.RowKit
set_option linter.unusedVariables false
set_option linter.unusedSimpArgs false

abbrev rr (n:Int):AObj:=.var [.ptr 0 0,.int .i64 n]
theorem fG_ (b:List UInt8):ACall Tryz.prog 78 [.sl 1 false (bts b)] [] (.ptr 1 0) [rdr false b 0,rr b.length]:=by
 refine ACall.fact 3 iv_ (by simp) ?_ (by simp)
 unfold dT_;refine bd ?_
 try refine aa_ ?_
 refine ocall [] (we_ b) evd (Picks.mk' (by simp) evd) ?_;refine evg ?_
 try refine aa_ ?_
 refine finQ [] [0,1] _ (by simp) (by first | rfl | exact evd) (by simp) rfl (by simp) (by simp) evd evd
theorem cJ_ (b:List UInt8) (e n:Int) (hb:b.length≤140737488355328):
   ACall Tryz.prog 79 [.ptr 1 0] [rdr false b e,rr n] (.int .u64 (rUint b e maxU).1) [rdr false (rUint b e maxU).2.1 (rUint b e maxU).2.2,rr n]:=by
 refine ACall.fact 3 fD_ (by simp) ?_ (by simp)
 unfold cP_;refine bd ?_
 have hu:=es_ b false e maxU hb
 generalize rUint b e maxU=U at *
 obtain⟨u,b1,e1⟩:=U
 dsimp only at hu ⊢
 try refine aa_ ?_
 refine ocall [0] (hu) evd (Picks.mk' (by simp) evd) ?_;refine evg ?_
 try refine aa_ ?_
 refine finQ [] [0,1] _ (by simp) (by first | rfl | exact evd) (by simp) rfl (by simp) (by simp) evd evd

theorem cj_ (b:List UInt8) (e m:Int) (hm:0≤m):(rUint b e m).1≤m:=by
 unfold rUint
 (repeat' split)<;>first | omega | (simp only;omega)

theorem nH_ (b:List UInt8) (e n:Int) (hb:b.length≤140737488355328):
   ACall Tryz.prog 82 [.ptr 1 0] [rdr false b e,rr n] (.sl 1 false (nums .i64 (rList b e).1)) [rdr false (rList b e).2.1 (rList b e).2.2,rr n]:=by
 refine ACall.fact 7 gT_ (by simp) ?_ (by simp)
 unfold dj_;refine bd ?_
 have hu:=es_ b false e 1024 hb
 have hl:=bf_ b e 1024
 have hu0:=bz_ b e 1024
 have hu1:=cj_ b e 1024 (by omega)
 have hL:rLst (rUint b e 1024).1.toNat (-1) [] (rUint b e 1024).2.1 (rUint b e 1024).2.2=rList b e:=rfl
 generalize rList b e=L at *
 generalize rUint b e 1024=U at *
 obtain⟨u,b1,e1⟩:=U
 dsimp only at hu hu0 hu1 hl hL ⊢
 have hw0:IntKind.i64.wrap u=u:=ah_ (by omega) (by omega)
 try refine aa_ ?_
 refine ocall [0] (hu) evd (Picks.mk' (by simp) evd) ?_;refine evg ?_
 repeat(first | refine aa_ ?_ | simp only[go_sem,hw0])
 refine bm_ (fun x:Bool × Int × List Int × List UInt8 × Int=>⟨7,[.ptr 1 0,.dead,.sl 0 true [],if x.1 then .hs 1 2 0 x.2.2.1.length else .sl 0 true [],.int .i64 u,.int .i64 x.2.2.1.length,.dead],[]⟩)
   (fun x=>if x.1 then [rdr false x.2.2.2.1 x.2.2.2.2,rr n,.vec 1 (nums .i64 x.2.2.1)]else [rdr false x.2.2.2.1 x.2.2.2.2,rr n]) (fun x=>u.toNat-x.2.2.1.length)
   (fun x=>rLst (u.toNat-x.2.2.1.length) x.2.1 x.2.2.1 x.2.2.2.1 x.2.2.2.2=L∧x.2.2.1.length≤u.toNat∧x.2.2.2.1.length≤b.length∧-1≤x.2.1∧x.2.1≤1025*x.2.2.1.length∧(x.1=false→x.2.2.1=[]∧x.2.1=-1)∧(x.1=true→0<x.2.2.1.length∧x.2.2.1.getD (x.2.2.1.length-1) 0=x.2.1))
   (false,-1,[],b1,e1) ⟨by simpa using hL,by simp,hl,by simp,by simp,by simp,by simp⟩ ?_ ?_
 · refine GC.mk' [] [0,1] (by simp) rfl (by simp) (by simp) evd evd
 rintro⟨st,last,acc,bb,ee⟩ ⟨i1,i2,i3,i4,i5,i6,i7⟩
 dsimp only at i1 i2 i3 i4 i5 i6 i7 ⊢
 have hw1:=af_ (n:=acc.length+1) (i:=acc.length) (by omega) (by omega)
 have c1:=nf_ bb false ee
 have c2:=es_ bb false ee 1024 (by omega)
 by_cases hi:acc.length<u.toNat
 · have hi':decide ((acc.length:Int)<u)=true:=by rw[decide_eq_true_eq];omega
   obtain⟨k,hk⟩:∃ k,u.toNat-acc.length=k+1:=⟨u.toNat-acc.length-1,by omega⟩
   rw[hk,rLst]at i1
   by_cases he:ee=0
   · subst he
     rw[if_neg (by simp)]at i1
     have v0:=bz_ bb 0 1024
     have v1:=cj_ bb 0 1024 (by omega)
     have v2:=bf_ bb 0 1024
     generalize rUint bb 0 1024=V at *
     obtain⟨v,b2,e2⟩:=V
     dsimp only at v0 v1 v2 c2 i1
     have hwv:IntKind.i64.wrap v=v:=ah_ (by omega) (by omega)
     cases st with
     | false =>
       obtain⟨rfl,rfl⟩:=i6 rfl
       simp only[List.length_nil]at hi hk i2
       have hi0:decide ((0:Int)<u)=true:=by rw[decide_eq_true_eq];omega
       have hwz:IntKind.i64.wrap ((0:Int)+1)=1:=by decide
       repeat(first | refine aa_ ?_ | simp only[go_sem,hi0])
       refine ocall [0] (c1) evd (Picks.mk' (by simp) evd) ?_;refine evg ?_
       try refine aa_ ?_
       refine ac_ ?_
       try refine aa_ ?_
       refine ocall [0] (c2) evd (Picks.mk' (by simp) evd) ?_;refine evg ?_
       repeat(first | refine aa_ ?_ | simp only[go_sem,hwv])
       refine ab_ ?_
       repeat(first | refine aa_ ?_ | simp only[go_sem,hwv,hwz])
       refine⟨(true,v,[v],b2,e2),⟨?_,?_,?_,?_,?_,?_,?_⟩,?_,?_⟩
       · have e0:(-1:Int)+1+v=v:=by omega
         rw[e0]at i1
         simp only[List.length_cons,List.length_nil]
         rw[show u.toNat-(0+1)=k by omega]
         exact i1
       · simp only[List.length_cons,List.length_nil];omega
       · dsimp only;omega
       · dsimp only;omega
       · simp only[List.length_cons,List.length_nil];omega
       · simp
       · simp
       · simp only[List.length_cons,List.length_nil];omega
       · refine GC.mk' [] [0,1,2] (by simp) rfl (by simp) (by simp) evd evd
     | true =>
       obtain⟨p1,p2⟩:=i7 rfl
       have hg:=bK_ (k:=.i64) (show acc.length-1<acc.length by omega)
       rw[p2]at hg
       have hp:decide ((0:Int)<(acc.length:Int))=true:=by rw[decide_eq_true_eq];omega
       have hwm:IntKind.i64.wrap ((acc.length:Int)-1)=((acc.length-1:Nat):Int):=by rw[ah_ (by omega) (by omega)];omega
       have hwl:IntKind.i64.wrap (last+1)=last+1:=ah_ (by omega) (by omega)
       have hwn:IntKind.i64.wrap (v+(last+1))=last+1+v:=by rw[ah_ (by omega) (by omega)];omega
       repeat(first | refine aa_ ?_ | simp only[go_sem,hi'])
       refine ocall [0] (c1) evd (Picks.mk' (by simp) evd) ?_;refine evg ?_
       try refine aa_ ?_
       refine ac_ ?_
       try refine aa_ ?_
       refine ocall [0] (c2) evd (Picks.mk' (by simp) evd) ?_;refine evg ?_
       repeat(first | refine aa_ ?_ | simp only[go_sem,hwv])
       refine ac_ ?_ (by(try simp only[go_sem,hp]);try exact evd)
       repeat(first | refine aa_ ?_ | simp only[go_sem,hwm,hg,hwl,hwn,hw1])
       refine⟨(true,last+1+v,acc++[last+1+v],b2,e2),⟨?_,?_,?_,?_,?_,?_,?_⟩,?_,?_⟩
       · simp only[List.length_append,List.length_cons,List.length_nil]
         rw[show u.toNat-(acc.length+(0+1))=k by omega]
         exact i1
       · simp only[List.length_append,List.length_cons,List.length_nil];omega
       · dsimp only;omega
       · dsimp only;omega
       · simp only[List.length_append,List.length_cons,List.length_nil];omega
       · simp
       · intro _
         simp only[List.length_append,List.length_cons,List.length_nil]
         exact⟨by omega,by simp[List.getD_eq_getElem?_getD]⟩
       · simp only[List.length_append,List.length_cons,List.length_nil];omega
       · refine GC.mk' [] [0,1,3] (by simp) rfl (by simp) (by simp) evd evd
   · have he':(ee==0)=false:=by simpa using he
     rw[if_pos he]at i1
     cases st with
     | false =>
       obtain⟨rfl,rfl⟩:=i6 rfl
       simp only[List.length_nil]at hi hk i2
       have hi0:decide ((0:Int)<u)=true:=by rw[decide_eq_true_eq];omega
       rw[← i1]
       repeat(first | refine aa_ ?_ | simp only[go_sem,hi0])
       refine ocall [0] (c1) evd (Picks.mk' (by simp) evd) ?_;refine evg ?_
       repeat(first | refine aa_ ?_ | simp only[go_sem,he'])
       refine ab_ ?_
       try refine aa_ ?_
       refine finQw [] [0,1] _ (by simp) (by first | rfl | exact evd) (by simp) rfl (by simp) (by simp) evd evd (Wk.empty 0 1 _)
     | true =>
       rw[← i1]
       repeat(first | refine aa_ ?_ | simp only[go_sem,hi'])
       refine ocall [0] (c1) evd (Picks.mk' (by simp) evd) ?_;refine evg ?_
       repeat(first | refine aa_ ?_ | simp only[go_sem,he'])
       refine ab_ ?_
       try refine aa_ ?_
       refine finQ [2] [0,1] _ (by simp) (by first | rfl | exact evd) (by simp) rfl (by simp) (by simp) evd evd
 · have hi':decide ((acc.length:Int)<u)=false:=by rw[decide_eq_false_iff_not];omega
   rw[show u.toNat-acc.length=0 by omega,rLst]at i1
   cases st with
   | false =>
     obtain⟨rfl,rfl⟩:=i6 rfl
     have hi0:decide ((0:Int)<u)=false:=by simpa using hi'
     rw[← i1]
     repeat(first | refine aa_ ?_ | simp only[go_sem,hi0])
     refine ab_ ?_
     try refine aa_ ?_
     refine finQw [] [0,1] _ (by simp) (by first | rfl | exact evd) (by simp) rfl (by simp) (by simp) evd evd (Wk.empty 0 1 _)
   | true =>
     rw[← i1]
     repeat(first | refine aa_ ?_ | simp only[go_sem,hi'])
     refine ab_ ?_
     try refine aa_ ?_
     refine finQ [2] [0,1] _ (by simp) (by first | rfl | exact evd) (by simp) rfl (by simp) (by simp) evd evd

def lsl (ls:List (List Int)):List (List AV):=ls.map fun l=>[.sl 1 false (nums .i64 l)]
theorem Br_ (ls:List (List Int)):PuLL (lsl ls):=by
 rw[fR_];intro x hx
 obtain⟨l,_,rfl⟩:=List.mem_map.1 hx
 exact⟨aw_ _ _,trivial⟩
theorem zX_ (ρ:Nat→Nat) (ls:List (List Int)):renLL ρ (lsl ls)=lsl ls:=(Br_ ls).ren ρ
theorem CU_ (σ:St) (zs:List Nat) (ls:List (List Int)):fzLL σ zs (lsl ls)=lsl ls:=(Br_ ls).fz σ zs
theorem xy_ (ls:List (List Int)):(lsl ls).length=ls.length:=by simp[lsl]
theorem BL_ {ls:List (List Int)}{i:Nat}(h:i<ls.length):(lsl ls).getD i []=[.sl 1 false (nums .i64 (ls.getD i []))]:=by
 simp[lsl,List.getD_eq_getElem?_getD,h]
attribute [go_sem] zX_ CU_ xy_
def okFrom (ls:List (List Int)) (i:Nat):Bool:=(ls.drop i).all fun l=>vErr l 1024==0
theorem Ck_ {ls:List (List Int)}{i:Nat}(h:i<ls.length):okFrom ls i=((vErr (ls.getD i []) 1024==0)&&okFrom ls (i+1)):=by
 unfold okFrom
 rw[List.drop_eq_getElem_cons h,List.all_cons,List.getD_eq_getElem?_getD,List.getElem?_eq_getElem h];rfl
def endOf (n:Int) (ls:List (List Int)) (b:List UInt8) (e:Int):Int × Int:=if e≠0 then (0,e)else if okFrom ls 0 then (n-b.length,0)else (0,2)
theorem eo_ (b:List UInt8) (e n:Int) (ls:List (List Int)) (cl:Bool) (hb:b.length≤n) (hn:n≤140737488355328) (hls:ls.length≤1000) (hl:∀ i,i<ls.length→(ls.getD i []).length≤140737488355328):
   ACall Tryz.prog 83 [.ptr 1 0,.sl 1 cl (lsl ls)] [rdr false b e,rr n] (.tup [.int .i64 (endOf n ls b e).1,.int .i64 (endOf n ls b e).2]) [rdr false b e,rr n]:=by
 refine ACall.fact 20 hN_ (by simp) ?_ (by simp)
 unfold dJ_ endOf;refine bd ?_
 have c1:=nf_ b false e
 have c2:=Au_ b false e
 by_cases he:e=0
 · subst he
   simp only[ne_eq,not_true_eq_false,if_false]
   try refine aa_ ?_
   refine ocall [0] (c1) evd (Picks.mk' (by simp) evd) ?_;refine evg ?_
   try refine aa_ ?_
   refine ab_ ?_
   try refine aa_ ?_
   refine bM_ (fun i:Nat=>⟨20,[.ptr 1 0,.sl 1 cl (lsl ls),.dead,.dead,.int .i64 0,.int .i64 0,.int .i64 0,.dead,.dead,.dead,.dead,.dead,.dead,.dead,.dead,.dead,.dead,.sl 1 cl (lsl ls),.int .i64 ls.length,.int .i64 i],[]⟩) (fun _=>[rdr false b 0,rr n]) (fun i=>ls.length-i)
     (fun i=>i≤ls.length∧okFrom ls i=okFrom ls 0) [7,8,9,10,11,12,13,14,15,16] 0 ⟨by omega,rfl⟩ evd rfl ?_
   rintro i ⟨i1,i2⟩
   try dsimp only
   try refine aa_ ?_
   refine al_ evd (fun h=>?_) (fun h=>?_)
   · have hi:i<ls.length:=by simpa using h
     have hg:=BL_ hi
     have hv:=oH_ (ls.getD i []) false 1024 (hl i hi)
     have hw:=af_ hi (by omega)
     rw[Ck_ hi]at i2
     by_cases hq:vErr (ls.getD i []) 1024=0
     · rw[hq]at hv i2
       simp only[beq_self_eq_true,Bool.true_and]at i2
       repeat(first | refine aa_ ?_ | simp only[go_sem,hg])
       refine pcall hv ?_
       try refine aa_ ?_
       refine ab_ ?_
       repeat(first | refine aa_ ?_ | simp only[go_sem,hw])
       exact⟨i+1,⟨hi,i2⟩,by omega,rfl⟩
     · have hq':(vErr (ls.getD i []) 1024 != 0)=true:=by simpa using hq
       have hq2:(vErr (ls.getD i []) 1024==0)=false:=by simpa using hq
       rw[hq2,Bool.false_and]at i2
       rw[← i2]
       repeat(first | refine aa_ ?_ | simp only[go_sem,hg])
       refine pcall hv ?_
       try refine aa_ ?_
       refine ac_ ?_ (by(try simp only[go_sem,hq']);try exact evd)
       try refine aa_ ?_
       refine finQ [] [0,1] _ (by simp) (by first | rfl | exact evd) (by simp) rfl (by simp) (by simp) evd evd
   · have hi:i=ls.length:=by simp at h;omega
     subst hi
     have:okFrom ls ls.length=true:=by simp[okFrom]
     rw[← i2,this]
     simp only[if_true]
     have hw:IntKind.i64.wrap (n-(b.length:Int))=n-b.length:=ah_ (by omega) (by omega)
     try refine aa_ ?_
     refine dcallr [0] (c2) evd (Picks.mk' (by simp) evd) ?_;refine evg ?_
     repeat(first | refine aa_ ?_ | simp only[go_sem,hw])
     refine finQ [] [0,1] _ (by simp) (by first | rfl | exact evd) (by simp) rfl (by simp) (by simp) evd evd
 · have he':(e != 0)=true:=by simpa using he
   simp only[ne_eq,he,not_false_eq_true,if_true]
   try refine aa_ ?_
   refine ocall [0] (c1) evd (Picks.mk' (by simp) evd) ?_;refine evg ?_
   try refine aa_ ?_
   refine ac_ ?_ (by(try simp only[go_sem,he']);try exact evd)
   try refine aa_ ?_
   refine finQ [] [0,1] _ (by simp) (by first | rfl | exact evd) (by simp) rfl (by simp) (by simp) evd evd

theorem yC_ (b:List UInt8) (e:Int):(rBool b e).2.1.length≤b.length:=by
 unfold rBool
 split
 · exact Nat.le_refl _
 · split
   · exact Nat.le_refl _
   · split
     · exact Nat.le_refl _
     · simp
theorem rt_ (b:List UInt8) (e:Int):(rWide b e).2.1.length≤b.length:=bZ_ b e
theorem ko_ (b:List UInt8) (e:Int):(rCp b e).2.1.length≤b.length:=by
 unfold rCp
 split
 · exact Nat.le_refl _
 · exact Nat.le_trans (bZ_ _ _) (bf_ _ _ _)

theorem wV_ (pul:Pul) (slot:Int) (root parent payload:Rt) (diff pdiff:Wd) (just fin:Cp) (timely:Bool):
   pulC pul++.int .u64 slot::(rtc root++(rtc parent++(rtc payload++(wdc diff++(wdc pdiff++(cpC just++tabC ⟨fin,.bool timely⟩))))))=blkC ⟨pul,slot,root,parent,payload,diff,pdiff,just,fin,timely⟩:=rfl
attribute [go_sem] wV_
def rBlk (b0:List UInt8) (e0:Int):Blk × List UInt8 × Int:=
 let s:=rUint b0 e0 maxU
 let r:=rRoot s.2.1 s.2.2
 let p:=rRoot r.2.1 r.2.2
 let y:=rRoot p.2.1 p.2.2
 let d:=rWide y.2.1 y.2.2
 let g:=rWide d.2.1 d.2.2
 let j:=rCp g.2.1 g.2.2
 let f:=rCp j.2.1 j.2.2
 let u:=rCp f.2.1 f.2.2
 let v:=rCp u.2.1 u.2.2
 let t:=rBool v.2.1 v.2.2
 (⟨⟨u.1,v.1⟩,s.1,r.1,p.1,y.1,d.1,g.1,j.1,f.1,t.1⟩,t.2.1,t.2.2)
def dec {α:Type}(z:α) (n:Nat) (x:α × List UInt8 × Int):α × Int × Int:=if x.2.2≠0 then (z,0,x.2.2)else (x.1,((n-x.2.1.length:Nat):Int),0)
theorem hZ_ (n:Int) (b:List UInt8) (e:Int):endOf n [] b e=if e≠0 then (0,e)else (n-b.length,0):=by simp[endOf,okFrom]

set_option maxRecDepth 100000 in
theorem BY_ (b:List UInt8) (hb:b.length≤140737488355328):
   PC Tryz.prog 45 [.sl 1 false (bts b)] (.tup [.agg (blkC (dec blk0 b.length (rBlk b 0)).1),.int .i64 (dec blk0 b.length (rBlk b 0)).2.1,.int .i64 (dec blk0 b.length (rBlk b 0)).2.2]):=by
 refine PC.fact 6 gO_ (by simp) ⟨bG_ b,trivial⟩ ⟨bV_ _,trivial,trivial,trivial⟩ ?_
 unfold dl_;refine bd ?_
 rcases h1:rUint b 0 maxU with⟨s,b1,e1⟩
 rcases h2:rRoot b1 e1 with⟨r,b2,e2⟩
 rcases h3:rRoot b2 e2 with⟨p,b3,e3⟩
 rcases h4:rRoot b3 e3 with⟨y,b4,e4⟩
 rcases h5:rWide b4 e4 with⟨d,b5,e5⟩
 rcases h6:rWide b5 e5 with⟨g,b6,e6⟩
 rcases h7:rCp b6 e6 with⟨j,b7,e7⟩
 rcases h8:rCp b7 e7 with⟨f,b8,e8⟩
 rcases h9:rCp b8 e8 with⟨u,b9,e9⟩
 rcases h10:rCp b9 e9 with⟨v,b10,e10⟩
 rcases h11:rBool b10 e10 with⟨t,b11,e11⟩
 have hB:rBlk b 0=(⟨⟨u,v⟩,s,r,p,y,d,g,j,f,t⟩,b11,e11):=by simp only[rBlk,h1,h2,h3,h4,h5,h6,h7,h8,h9,h10,h11]
 have l1:=bf_ b 0 maxU;rw[h1]at l1
 have l2:=bZ_ b1 e1;rw[h2]at l2
 have l3:=bZ_ b2 e2;rw[h3]at l3
 have l4:=bZ_ b3 e3;rw[h4]at l4
 have l5:=rt_ b4 e4;rw[h5]at l5
 have l6:=rt_ b5 e5;rw[h6]at l6
 have l7:=ko_ b6 e6;rw[h7]at l7
 have l8:=ko_ b7 e7;rw[h8]at l8
 have l9:=ko_ b8 e8;rw[h9]at l9
 have l10:=ko_ b9 e9;rw[h10]at l10
 have l11:=yC_ b10 e10;rw[h11]at l11
 dsimp only at l1 l2 l3 l4 l5 l6 l7 l8 l9 l10 l11
 have c1:=cJ_ b 0 b.length (by omega);rw[h1]at c1
 have c2:=cu_ b1 false e1 (by omega);rw[h2]at c2
 have c3:=cu_ b2 false e2 (by omega);rw[h3]at c3
 have c4:=cu_ b3 false e3 (by omega);rw[h4]at c4
 have c5:=rd_ b4 false e4 (by omega);rw[h5]at c5
 have c6:=rd_ b5 false e5 (by omega);rw[h6]at c6
 have c7:=jK_ b6 false e6 (by omega);rw[h7]at c7
 have c8:=jK_ b7 false e7 (by omega);rw[h8]at c8
 have c9:=jK_ b8 false e8 (by omega);rw[h9]at c9
 have c10:=jK_ b9 false e9 (by omega);rw[h10]at c10
 have c11:=zb_ b10 false e10 (by omega);rw[h11]at c11
 have ce:=(eo_ b11 e11 b.length [] true (by omega) (by omega) (by simp) (by simp)).wk (xs:=[.ptr 1 0,.sl 0 true []]) ⟨Wk.refl _,Wk.empty 0 1 _,trivial⟩
 rw[hZ_]at ce
 dsimp only at c1 c2 c3 c4 c5 c6 c7 c8 c9 c10 c11
 rw[hB]
 unfold dec
 dsimp only
 try refine aa_ ?_
 refine ocall [] (fG_ b) evd (Picks.mk' (by simp) evd) ?_;refine evg ?_
 try refine aa_ ?_
 refine ocall [1,2] (c1) evd (Picks.mk' (by simp) evd) ?_;refine evg ?_
 try refine aa_ ?_
 refine dcall [1] (c2) (by simp) evd (Picks.mk' (by simp) evd) ?_;refine evg ?_
 try refine aa_ ?_
 refine dcall [1] (c3) (by simp) evd (Picks.mk' (by simp) evd) ?_;refine evg ?_
 try refine aa_ ?_
 refine dcall [1] (c4) (by simp) evd (Picks.mk' (by simp) evd) ?_;refine evg ?_
 try refine aa_ ?_
 refine dcall [1] (c5) (by simp) evd (Picks.mk' (by simp) evd) ?_;refine evg ?_
 try refine aa_ ?_
 refine dcall [1] (c6) (by simp) evd (Picks.mk' (by simp) evd) ?_;refine evg ?_
 try refine aa_ ?_
 refine dcall [1] (c7) (by simp) evd (Picks.mk' (by simp) evd) ?_;refine evg ?_
 try refine aa_ ?_
 refine dcall [1] (c8) (by simp) evd (Picks.mk' (by simp) evd) ?_;refine evg ?_
 try refine aa_ ?_
 refine dcall [1] (c9) (by simp) evd (Picks.mk' (by simp) evd) ?_;refine evg ?_
 try refine aa_ ?_
 refine dcall [1] (c10) (by simp) evd (Picks.mk' (by simp) evd) ?_;refine evg ?_
 try refine aa_ ?_
 refine ocall [1] (c11) evd (Picks.mk' (by simp) evd) ?_;refine evg ?_
 try refine aa_ ?_
 by_cases he:e11=0
 · subst he
   simp only[ne_eq,not_true_eq_false,if_false]at ce ⊢
   rw[show ((b.length:Int)-(b11.length:Int))=((b.length-b11.length:Nat):Int)by omega]at ce
   refine ocall [1,2] (ce) evd (Picks.mk' (by simp) evd) ?_;refine evg ?_
   try refine aa_ ?_
   refine ab_ ?_
   try refine aa_ ?_
   exact fin0
 · have he':(e11 != 0)=true:=by simpa using he
   simp only[ne_eq,he,not_false_eq_true,if_true]at ce ⊢
   refine ocall [1,2] (ce) evd (Picks.mk' (by simp) evd) ?_;refine evg ?_
   try refine aa_ ?_
   refine ac_ ?_ (by(try simp only[go_sem,he']);try exact evd)
   try refine aa_ ?_
   exact fin0

def rVdt (b0:List UInt8) (e0:Int):Vdt × List UInt8 × Int:=
 let s:=rUint b0 e0 maxU
 let k:=rUint s.2.1 s.2.2 4
 let r:=rRoot k.2.1 k.2.2
 (⟨s.1,k.1,r.1⟩,r.2.1,r.2.2)
def decV (n:Nat) (x:Vdt × List UInt8 × Int):Vdt × Int × Int:=if x.2.2≠0 then (vdt0,0,x.2.2)else if x.1.kind=0 then (vdt0,0,2)else (x.1,((n-x.2.1.length:Nat):Int),0)
theorem Dq_ (b:List UInt8) (hb:b.length≤140737488355328):
   PC Tryz.prog 55 [.sl 1 false (bts b)] (.tup [.agg (vdtC (decV b.length (rVdt b 0)).1),.int .i64 (decV b.length (rVdt b 0)).2.1,.int .i64 (decV b.length (rVdt b 0)).2.2]):=by
 refine PC.fact 6 fH_ (by simp) ⟨bG_ b,trivial⟩ ⟨eI_ _,trivial,trivial,trivial⟩ ?_
 unfold cN_;refine bd ?_
 rcases h1:rUint b 0 maxU with⟨s,b1,e1⟩
 rcases h2:rUint b1 e1 4 with⟨k,b2,e2⟩
 rcases h3:rRoot b2 e2 with⟨r,b3,e3⟩
 have hB:rVdt b 0=(⟨s,k,r⟩,b3,e3):=by simp only[rVdt,h1,h2,h3]
 have l1:=bf_ b 0 maxU;rw[h1]at l1
 have l2:=bf_ b1 e1 4;rw[h2]at l2
 have l3:=bZ_ b2 e2;rw[h3]at l3
 have k0:=bz_ b1 e1 4;rw[h2]at k0
 have k4:=cj_ b1 e1 4 (by omega);rw[h2]at k4
 dsimp only at l1 l2 l3 k0 k4
 have c1:=cJ_ b 0 b.length (by omega);rw[h1]at c1
 have c2:=es_ b1 false e1 4 (by omega);rw[h2]at c2
 have c3:=cu_ b2 false e2 (by omega);rw[h3]at c3
 have ce:=(eo_ b3 e3 b.length [] true (by omega) (by omega) (by simp) (by simp)).wk (xs:=[.ptr 1 0,.sl 0 true []]) ⟨Wk.refl _,Wk.empty 0 1 _,trivial⟩
 rw[hZ_]at ce
 dsimp only at c1 c2 c3
 have hw:IntKind.i64.wrap k=k:=ah_ (by omega) (by omega)
 rw[hB]
 unfold decV
 dsimp only
 try refine aa_ ?_
 refine ocall [] (fG_ b) evd (Picks.mk' (by simp) evd) ?_;refine evg ?_
 try refine aa_ ?_
 refine ocall [1,2] (c1) evd (Picks.mk' (by simp) evd) ?_;refine evg ?_
 try refine aa_ ?_
 refine ocall [1] (c2) evd (Picks.mk' (by simp) evd) ?_;refine evg ?_
 repeat(first | refine aa_ ?_ | simp only[go_sem,hw])
 refine ocall [1] (c3) evd (Picks.mk' (by simp) evd) ?_;refine evg ?_
 try refine aa_ ?_
 by_cases he:e3=0
 · subst he
   simp only[ne_eq,not_true_eq_false,if_false]at ce ⊢
   rw[show ((b.length:Int)-(b3.length:Int))=((b.length-b3.length:Nat):Int)by omega]at ce
   refine ocall [1,2] (ce) evd (Picks.mk' (by simp) evd) ?_;refine evg ?_
   by_cases hk:k=0
   · subst hk
     simp only[if_true]
     try refine aa_ ?_
     refine ac_ ?_
     try refine aa_ ?_
     refine ac_ ?_
     try refine aa_ ?_
     exact fin0
   · have hk':(k==0)=false:=by simpa using hk
     simp only[hk,if_false]
     repeat(first | refine aa_ ?_ | simp only[go_sem,hk'])
     refine ab_ ?_ (by(try simp only[go_sem,hk']);try exact evd)
     try refine aa_ ?_
     refine ab_ ?_
     try refine aa_ ?_
     exact fin0
 · have he':(e3==0)=false:=by simpa using he
   have he2:(e3 != 0)=true:=by simpa using he
   simp only[ne_eq,he,not_false_eq_true,if_true]at ce ⊢
   refine ocall [1,2] (ce) evd (Picks.mk' (by simp) evd) ?_;refine evg ?_
   repeat(first | refine aa_ ?_ | simp only[go_sem,he'])
   refine ab_ ?_ (by(try simp only[go_sem,he']);try exact evd)
   repeat(first | refine aa_ ?_ | simp only[go_sem,he2])
   refine ac_ ?_ (by(try simp only[go_sem,he2]);try exact evd)
   try refine aa_ ?_
   exact fin0

def WkC:List AV→List AV→Prop
 | [],[]=>True
 | c::cs,d::ds=>Wk c d∧(c.cell=true→d.cell=true)∧WkC cs ds
 | _,_=>False
theorem WkC.refl:∀ cs:List AV,WkC cs cs
 | []=>trivial
 | c::cs=>⟨Wk.refl c,fun h=>h,WkC.refl cs⟩
theorem WkC.app:∀ {a b c d:List AV},WkC a b→WkC c d→WkC (a++c) (b++d)
 | [],[],_,_,_,h=>h
 | _::_,_::_,_,_,h1,h2=>⟨h1.1,h1.2.1,WkC.app h1.2.2 h2⟩
 | [],_::_,_,_,h,_ | _::_,[],_,_,h,_=>h.elim
theorem WkC.rlc {E:Env}:∀ {cs ds:List AV}{us:List Value},WkC cs ds→RlC E cs us→RlC E ds us
 | [],[],_,_,h=>h
 | _::_,_::_,_,hw,⟨u,us,e,h1,h2,h3⟩=>⟨u,us,e,hw.2.1 h1,hw.1 _ _ h2,WkC.rlc hw.2.2 h3⟩
 | [],_::_,_,h,_ | _::_,[],_,h,_=>h.elim
theorem Wk.agg {cs ds:List AV}(h:WkC cs ds):Wk (.agg cs) (.agg ds):=fun _ _ ⟨vs,e,hr⟩=>⟨vs,e,h.rlc hr⟩

theorem xC_ (s:Int) (r:Rt) (c:Cp) (v:AV):.int .u64 s::(rtc r++tabC ⟨c,v⟩)=attC ⟨s,r,c,v⟩:=rfl
attribute [go_sem] xC_
theorem Ex_:lsl []=[]:=rfl
theorem Bq_ (l:List Int) (ls:List (List Int)):lsl (l::ls)=[.sl 1 false (nums .i64 l)]::lsl ls:=rfl
theorem xr_ (ρ:Nat→Nat) (x:List AV) (xs:List (List AV)):renLL ρ (x::xs)=renL ρ x::renLL ρ xs:=rfl
attribute [go_sem] Ex_ Bq_ xr_
theorem za_ (n:Int) (l:List Int) (b:List UInt8) (e:Int):endOf n [l] b e=if e≠0 then (0,e)else if vErr l 1024=0 then (n-b.length,0)else (0,2):=by simp[endOf,okFrom]
theorem zW_ (n:Int) (l m:List Int) (b:List UInt8) (e:Int):endOf n [l,m] b e=if e≠0 then (0,e)else if vErr l 1024=0∧vErr m 1024=0 then (n-b.length,0)else (0,2):=by simp[endOf,okFrom]

def attL (x:Int × Rt × Cp × List Int):Att:=⟨x.1,x.2.1,x.2.2.1,.sl 1 false (nums .i64 x.2.2.2)⟩
def attZ:Int × Rt × Cp × List Int:=(0,rt0,cp0,[])
theorem WkC.cons {c d:AV}{cs ds:List AV}(h:Wk c d) (hc:c.cell=true→d.cell=true) (h2:WkC cs ds):WkC (c::cs) (d::ds):=⟨h,hc,h2⟩
theorem WkC.same (c:AV) {cs ds:List AV}(h2:WkC cs ds):WkC (c::cs) (c::ds):=.cons (Wk.refl c) (fun h=>h) h2
theorem WkC.one {c d:AV}(h:Wk c d) (hc:c.cell=true→d.cell=true):WkC [c] [d]:=.cons h hc trivial
theorem EZ_ (s:Int) (r:Rt) (c:Cp) {v v':AV}(h:Wk v v') (hc:v.cell=true→v'.cell=true):Wk (.agg (attC ⟨s,r,c,v⟩)) (.agg (attC ⟨s,r,c,v'⟩)):=
 Wk.agg (WkC.same _ ((WkC.refl (rtc r)).app ((WkC.refl (cpC c)).app (WkC.one h hc))))
theorem mX_:Wk (.agg (attC att0)) (.agg (attC (attL attZ))):=EZ_ 0 rt0 cp0 (Wk.empty 0 1 false) fun h=>h
def rAtt (b0:List UInt8) (e0:Int):(Int × Rt × Cp × List Int) × List UInt8 × Int:=
 let s:=rUint b0 e0 maxU
 let r:=rRoot s.2.1 s.2.2
 let c:=rCp r.2.1 r.2.2
 let l:=rList c.2.1 c.2.2
 ((s.1,r.1,c.1,l.1),l.2.1,l.2.2)
def decA (n:Nat) (x:(Int × Rt × Cp × List Int) × List UInt8 × Int):(Int × Rt × Cp × List Int) × Int × Int:=
 if x.2.2≠0 then (attZ,0,x.2.2)else if vErr x.1.2.2.2 1024=0 then (x.1,((n-x.2.1.length:Nat):Int),0)else (attZ,0,2)
theorem xV_ (x:Int × Rt × Cp × List Int):Pu (.agg (attC (attL x))):=(bt_ _).2 (aw_ _ _)

theorem uV_:∀ (n:Nat) (last:Int) (acc:List Int) (bs:List UInt8) (e:Int),(rLst n last acc bs e).1.length≤acc.length+n
 | 0,_,_,_,_=>Nat.le_refl _
 | n + 1, last, acc, bs, e => by
   rw[rLst]
   split
   · simp only;omega
   · have:=uV_ n (last+1+(rUint bs e 1024).1) (acc++[last+1+(rUint bs e 1024).1]) (rUint bs e 1024).2.1 (rUint bs e 1024).2.2
     simp only[List.length_append,List.length_cons,List.length_nil]at this
     omega
theorem ib_ (b:List UInt8) (e:Int):(rList b e).1.length≤1024:=by
 have h1:=uV_ (rUint b e 1024).1.toNat (-1) [] (rUint b e 1024).2.1 (rUint b e 1024).2.2
 have h2:=cj_ b e 1024 (by omega)
 simp only[List.length_nil]at h1
 show (rLst _ _ _ _ _).1.length≤1024
 omega

theorem vk_ (b:List UInt8) (hb:b.length≤140737488355328):
   PC Tryz.prog 44 [.sl 1 false (bts b)] (.tup [.agg (attC (attL (decA b.length (rAtt b 0)).1)),.int .i64 (decA b.length (rAtt b 0)).2.1,.int .i64 (decA b.length (rAtt b 0)).2.2]):=by
 refine PC.fact 6 ei_ (by simp) ⟨bG_ b,trivial⟩ ⟨xV_ _,trivial,trivial,trivial⟩ ?_
 unfold ce_;refine bd ?_
 rcases h1:rUint b 0 maxU with⟨s,b1,e1⟩
 rcases h2:rRoot b1 e1 with⟨r,b2,e2⟩
 rcases h3:rCp b2 e2 with⟨c,b3,e3⟩
 rcases h4:rList b3 e3 with⟨l,b4,e4⟩
 have hB:rAtt b 0=((s,r,c,l),b4,e4):=by simp only[rAtt,h1,h2,h3,h4]
 have l1:=bf_ b 0 maxU;rw[h1]at l1
 have l2:=bZ_ b1 e1;rw[h2]at l2
 have l3:=ko_ b2 e2;rw[h3]at l3
 have l4:=qN_ b3 e3;rw[h4]at l4
 have l5:=ib_ b3 e3;rw[h4]at l5
 dsimp only at l1 l2 l3 l4 l5
 have c1:=cJ_ b 0 b.length (by omega);rw[h1]at c1
 have c2:=cu_ b1 false e1 (by omega);rw[h2]at c2
 have c3:=jK_ b2 false e2 (by omega);rw[h3]at c3
 have c4:=nH_ b3 e3 b.length (by omega);rw[h4]at c4
 have ce:=eo_ b4 e4 b.length [l] true (by omega) (by omega) (by simp) (by intro i hi;simp only[List.length_cons,List.length_nil]at hi;obtain rfl:i=0:=(by omega);exact(show l.length≤140737488355328 by omega))
 rw[za_]at ce
 dsimp only at c1 c2 c3 c4
 rw[hB]
 unfold decA
 dsimp only
 try refine aa_ ?_
 refine ocall [] (fG_ b) evd (Picks.mk' (by simp) evd) ?_;refine evg ?_
 try refine aa_ ?_
 refine dcallc [1,2] [1] (c1) (by simp) evd (Picks.mk' (by simp) evd) (by simp) (by simp[sameC]) ?_;refine evg ?_
 try refine aa_ ?_
 refine dcall [1] (c2) (by simp) evd (Picks.mk' (by simp) evd) ?_;refine evg ?_
 try refine aa_ ?_
 refine ocall [1] (c3) evd (Picks.mk' (by simp) evd) ?_;refine evg ?_
 try refine aa_ ?_
 refine ocall [1,2] (c4) evd (Picks.mk' (by simp) evd) ?_;refine evg ?_
 try refine aa_ ?_
 by_cases he:e4=0
 · subst he
   simp only[ne_eq,not_true_eq_false,if_false]at ce ⊢
   by_cases hv:vErr l 1024=0
   · simp only[hv,if_true]at ce ⊢
     rw[show ((b.length:Int)-(b4.length:Int))=((b.length-b4.length:Nat):Int)by omega]at ce
     refine ocall [1,2] (ce) evd (Picks.mk' (by simp) evd) ?_;refine evg ?_
     try refine aa_ ?_
     refine ab_ ?_
     try refine aa_ ?_
     exact fin0
   · simp only[hv,if_false]at ce ⊢
     refine ocall [1,2] (ce) evd (Picks.mk' (by simp) evd) ?_;refine evg ?_
     try refine aa_ ?_
     refine ac_ ?_
     try refine aa_ ?_
     refine⟨_,(by first | rfl | exact evd),.inr ⟨.tup [.agg (attC att0),.int .i64 0,.int .i64 2],evd,⟨(bt_ _).2 trivial,trivial,trivial,trivial⟩,Wk.tup ⟨mX_,Wk.refl _,Wk.refl _,trivial⟩⟩⟩
 · have he':(e4 != 0)=true:=by simpa using he
   simp only[ne_eq,he,not_false_eq_true,if_true]at ce ⊢
   refine ocall [1,2] (ce) evd (Picks.mk' (by simp) evd) ?_;refine evg ?_
   try refine aa_ ?_
   refine ac_ ?_ (by(try simp only[go_sem,he']);try exact evd)
   try refine aa_ ?_
   refine⟨_,(by first | rfl | exact evd),.inr ⟨.tup [.agg (attC att0),.int .i64 0,.int .i64 e4],evd,⟨(bt_ _).2 trivial,trivial,trivial,trivial⟩,Wk.tup ⟨mX_,Wk.refl _,Wk.refl _,trivial⟩⟩⟩

abbrev Cv:=Int × Int × Rt × List Int
def clmL (x:Cv):Clm:=⟨x.1,x.2.1,x.2.2.1,.sl 1 false (nums .i64 x.2.2.2)⟩
theorem uz_ (x:Cv) (ρ:Nat→Nat):(clmL x).map (ren ρ)=clmL x:=by simp only[clmL,Clm.map,ren,bh_]
theorem yh_ (x:Cv) (σ:St) (zs:List Nat):(clmL x).map (fz σ zs)=clmL x:=by simp only[clmL,Clm.map,fz,bD_]
theorem zD_ (x:Cv):(clmL x).good=true:=rfl
theorem yP_ (x:Cv):(clmL x).vals=.sl 1 false (nums .i64 x.2.2.2):=rfl
theorem mU_ (x:Cv):(clmL x).Pure:=aw_ _ _
attribute [go_sem] uz_ yh_ zD_ yP_
def clmZ:Cv:=(0,0,rt0,[])
def rClm (b0:List UInt8) (e0:Int):Cv × List UInt8 × Int:=
 let s:=rUint b0 e0 maxU
 let t:=rUint s.2.1 s.2.2 maxU
 let r:=rRoot t.2.1 t.2.2
 let l:=rList r.2.1 r.2.2
 ((s.1,t.1,r.1,l.1),l.2.1,l.2.2)
theorem ui_ (b:List UInt8) (e:Int):(rClm b e).2.1.length≤b.length:=
 Nat.le_trans (qN_ _ _) (Nat.le_trans (bZ_ _ _) (Nat.le_trans (bf_ _ _ _) (bf_ _ _ _)))
theorem hX_ (b:List UInt8) (e:Int):(rClm b e).1.2.2.2.length≤1024:=ib_ _ _

theorem ry_ (b:List UInt8) (e n:Int) (hb:b.length≤140737488355328):
   ACall Tryz.prog 92 [.ptr 1 0] [rdr false b e,rr n] (.agg (clmC (clmL (rClm b e).1))) [rdr false (rClm b e).2.1 (rClm b e).2.2,rr n]:=by
 refine ACall.fact 4 go_ (by simp) ?_ (by simp)
 unfold cU_;refine bd ?_
 rcases h1:rUint b e maxU with⟨s,b1,e1⟩
 rcases h2:rUint b1 e1 maxU with⟨t,b2,e2⟩
 rcases h3:rRoot b2 e2 with⟨r,b3,e3⟩
 rcases h4:rList b3 e3 with⟨l,b4,e4⟩
 have hB:rClm b e=((s,t,r,l),b4,e4):=by simp only[rClm,h1,h2,h3,h4]
 have l1:=bf_ b e maxU;rw[h1]at l1
 have l2:=bf_ b1 e1 maxU;rw[h2]at l2
 have l3:=bZ_ b2 e2;rw[h3]at l3
 dsimp only at l1 l2 l3
 have c1:=cJ_ b e n (by omega);rw[h1]at c1
 have c2:=cJ_ b1 e1 n (by omega);rw[h2]at c2
 have c3:=cu_ b2 false e2 (by omega);rw[h3]at c3
 have c4:=nH_ b3 e3 n (by omega);rw[h4]at c4
 dsimp only at c1 c2 c3 c4
 rw[hB]
 dsimp only
 try refine aa_ ?_
 refine ocall [0,1] (c1) evd (Picks.mk' (by simp) evd) ?_;refine evg ?_
 try refine aa_ ?_
 refine ocall [0,1] (c2) evd (Picks.mk' (by simp) evd) ?_;refine evg ?_
 try refine aa_ ?_
 refine ocall [0] (c3) evd (Picks.mk' (by simp) evd) ?_;refine evg ?_
 try refine aa_ ?_
 refine ocall [0,1] (c4) evd (Picks.mk' (by simp) evd) ?_;refine evg ?_
 try refine aa_ ?_
 refine finQ [] [0,1] _ (by simp) (by first | rfl | exact evd) (by simp) rfl (by simp) (by simp) evd evd

abbrev Sv:=Cv × Cv
def slgL (x:Sv):Slg:=⟨clmL x.1,clmL x.2⟩
def slgZ:Sv:=(clmZ,clmZ)
def rSlg (b0:List UInt8) (e0:Int):Sv × List UInt8 × Int:=
 let s:=rClm b0 e0
 let t:=rClm s.2.1 s.2.2
 ((s.1,t.1),t.2.1,t.2.2)
def decS (n:Nat) (x:Sv × List UInt8 × Int):Sv × Int × Int:=
 if x.2.2≠0 then (slgZ,0,x.2.2)else if vErr x.1.1.2.2.2 1024=0∧vErr x.1.2.2.2.2 1024=0 then (x.1,((n-x.2.1.length:Nat):Int),0)else (slgZ,0,2)
theorem xX_ (x:Sv):Pu (.agg (slgC (slgL x))):=(bI_ _).2 ⟨mU_ _,mU_ _⟩
theorem mR_ (s t:Int) (r:Rt) {v v':AV}(h:Wk v v') (hc:v.cell=true→v'.cell=true):WkC (clmC ⟨s,t,r,v⟩) (clmC ⟨s,t,r,v'⟩):=
 WkC.same _ (WkC.same _ ((WkC.refl (rtc r)).app (WkC.one h hc)))
theorem nc_:Wk (.agg (slgC slg0)) (.agg (slgC (slgL slgZ))):=
 Wk.agg ((mR_ 0 0 rt0 (Wk.empty 0 1 false) fun h=>h).app (mR_ 0 0 rt0 (Wk.empty 0 1 false) fun h=>h))

theorem BE_ (b:List UInt8) (hb:b.length≤140737488355328):
   PC Tryz.prog 49 [.sl 1 false (bts b)] (.tup [.agg (slgC (slgL (decS b.length (rSlg b 0)).1)),.int .i64 (decS b.length (rSlg b 0)).2.1,.int .i64 (decS b.length (rSlg b 0)).2.2]):=by
 refine PC.fact 6 fA_ (by simp) ⟨bG_ b,trivial⟩ ⟨xX_ _,trivial,trivial,trivial⟩ ?_
 unfold cx_;refine bd ?_
 rcases h1:rClm b 0 with⟨s,b1,e1⟩
 rcases h2:rClm b1 e1 with⟨t,b2,e2⟩
 have hB:rSlg b 0=((s,t),b2,e2):=by simp only[rSlg,h1,h2]
 have l1:=ui_ b 0;rw[h1]at l1
 have l2:=ui_ b1 e1;rw[h2]at l2
 have k1:=hX_ b 0;rw[h1]at k1
 have k2:=hX_ b1 e1;rw[h2]at k2
 dsimp only at l1 l2 k1 k2
 have c1:=ry_ b 0 b.length (by omega);rw[h1]at c1
 have c2:=ry_ b1 e1 b.length (by omega);rw[h2]at c2
 have ce:=eo_ b2 e2 b.length [s.2.2.2,t.2.2.2] true (by omega) (by omega) (by simp) (by
   intro i hi
   simp only[List.length_cons,List.length_nil]at hi
   have:i=0∨i=1:=by omega
   rcases this with rfl | rfl
   · exact(show s.2.2.2.length≤140737488355328 by omega)
   · exact(show t.2.2.2.length≤140737488355328 by omega))
 rw[zW_]at ce
 dsimp only at c1 c2
 rw[hB]
 unfold decS
 dsimp only
 try refine aa_ ?_
 refine ocall [] (fG_ b) evd (Picks.mk' (by simp) evd) ?_;refine evg ?_
 try refine aa_ ?_
 refine ocall [1,2] (c1) evd (Picks.mk' (by simp) evd) ?_;refine evg ?_
 try refine aa_ ?_
 refine ocall [1,2] (c2) evd (Picks.mk' (by simp) evd) ?_;refine evg ?_
 try refine aa_ ?_
 by_cases he:e2=0
 · subst he
   simp only[ne_eq,not_true_eq_false,if_false]at ce ⊢
   by_cases hv:vErr s.2.2.2 1024=0∧vErr t.2.2.2 1024=0
   · rw[if_pos hv]at ce ⊢
     rw[show ((b.length:Int)-(b2.length:Int))=((b.length-b2.length:Nat):Int)by omega]at ce
     refine ocall [1,2] (ce) evd (Picks.mk' (by simp) evd) ?_;refine evg ?_
     try refine aa_ ?_
     refine ab_ ?_
     try refine aa_ ?_
     exact fin0
   · rw[if_neg hv]at ce ⊢
     refine ocall [1,2] (ce) evd (Picks.mk' (by simp) evd) ?_;refine evg ?_
     try refine aa_ ?_
     refine ac_ ?_
     try refine aa_ ?_
     refine⟨_,(by first | rfl | exact evd),.inr ⟨.tup [.agg (slgC slg0),.int .i64 0,.int .i64 2],evd,⟨(bI_ _).2 ⟨trivial,trivial⟩,trivial,trivial,trivial⟩,Wk.tup ⟨nc_,Wk.refl _,Wk.refl _,trivial⟩⟩⟩
 · have he':(e2 != 0)=true:=by simpa using he
   simp only[ne_eq,he,not_false_eq_true,if_true]at ce ⊢
   refine ocall [1,2] (ce) evd (Picks.mk' (by simp) evd) ?_;refine evg ?_
   try refine aa_ ?_
   refine ac_ ?_ (by(try simp only[go_sem,he']);try exact evd)
   try refine aa_ ?_
   refine⟨_,(by first | rfl | exact evd),.inr ⟨.tup [.agg (slgC slg0),.int .i64 0,.int .i64 e2],evd,⟨(bI_ _).2 ⟨trivial,trivial⟩,trivial,trivial,trivial⟩,Wk.tup ⟨nc_,Wk.refl _,Wk.refl _,trivial⟩⟩⟩

abbrev Tv:=Cp × List Int
def tabL (x:Tv):Tab:=⟨x.1,.sl 1 false (nums .u64 x.2)⟩
def tabZ:Tv:=(cp0,[])
theorem xK_ (x:Tv):Pu (.agg (tabC (tabL x))):=(bs_ _).2 (aw_ _ _)
theorem tD_ (c:Cp) {v v':AV}(h:Wk v v') (hc:v.cell=true→v'.cell=true):Wk (.agg (tabC ⟨c,v⟩)) (.agg (tabC ⟨c,v'⟩)):=Wk.agg ((WkC.refl (cpC c)).app (WkC.one h hc))
theorem ka_:Wk (.agg (tabC tab0)) (.agg (tabC (tabL tabZ))):=tD_ cp0 (Wk.empty 0 1 false) fun h=>h
def rTab (b0:List UInt8) (e0:Int):Tv × List UInt8 × Int:=
 let s:=rUint b0 e0 maxU
 let r:=rRoot s.2.1 s.2.2
 let n:=rUint r.2.1 r.2.2 1024
 let l:=rNums n.1.toNat [] n.2.1 n.2.2
 ((⟨s.1,r.1⟩,l.1),l.2.1,l.2.2)

theorem Bb_ (b:List UInt8) (hb:b.length≤140737488355328):
   PC Tryz.prog 52 [.sl 1 false (bts b)] (.tup [.agg (tabC (tabL (dec tabZ b.length (rTab b 0)).1)),.int .i64 (dec tabZ b.length (rTab b 0)).2.1,.int .i64 (dec tabZ b.length (rTab b 0)).2.2]):=by
 refine PC.fact 8 gP_ (by simp) ⟨bG_ b,trivial⟩ ⟨xK_ _,trivial,trivial,trivial⟩ ?_
 unfold dh_;refine bd ?_
 rcases h1:rUint b 0 maxU with⟨s,b1,e1⟩
 rcases h2:rRoot b1 e1 with⟨r,b2,e2⟩
 rcases h3:rUint b2 e2 1024 with⟨n,b3,e3⟩
 have hB:rTab b 0=((⟨s,r⟩,(rNums n.toNat [] b3 e3).1),(rNums n.toNat [] b3 e3).2.1,(rNums n.toNat [] b3 e3).2.2):=by simp only[rTab,h1,h2,h3]
 have l1:=bf_ b 0 maxU;rw[h1]at l1
 have l2:=bZ_ b1 e1;rw[h2]at l2
 have l3:=bf_ b2 e2 1024;rw[h3]at l3
 have n0:=bz_ b2 e2 1024;rw[h3]at n0
 have n1:=cj_ b2 e2 1024 (by omega);rw[h3]at n1
 dsimp only at l1 l2 l3 n0 n1
 have c1:=cJ_ b 0 b.length (by omega);rw[h1]at c1
 have c2:=cu_ b1 false e1 (by omega);rw[h2]at c2
 have c3:=es_ b2 false e2 1024 (by omega);rw[h3]at c3
 dsimp only at c1 c2 c3
 rw[hB]
 have hL:rNums n.toNat [] b3 e3=rNums n.toNat [] b3 e3:=rfl
 generalize hLL:rNums n.toNat [] b3 e3=L at *
 unfold dec
 dsimp only
 try refine aa_ ?_
 refine ocall [] (fG_ b) evd (Picks.mk' (by simp) evd) ?_;refine evg ?_
 try refine aa_ ?_
 refine dcallc [1,2] [1] (c1) (by simp) evd (Picks.mk' (by simp) evd) (by simp) (by simp[sameC]) ?_;refine evg ?_
 try refine aa_ ?_
 refine dcall [1] (c2) (by simp) evd (Picks.mk' (by simp) evd) ?_;refine evg ?_
 try refine aa_ ?_
 refine ocall [1] (c3) evd (Picks.mk' (by simp) evd) ?_;refine evg ?_
 try refine aa_ ?_
 refine bm_ (fun x:Bool × List Int × List UInt8 × Int=>⟨8,[.sl 1 false (bts b),.dead,.ptr 0 0,.int .i64 0,.int .i64 0,.ptr 2 0,.int .u64 n,.int .u64 x.2.1.length],[]⟩)
   (fun x=>.var (tabC ⟨⟨s,r⟩,if x.1 then .hs 1 3 0 x.2.1.length else .sl 0 true []⟩)::rdr false x.2.2.1 x.2.2.2::.var [.ptr 1 0,.int .i64 b.length]::(if x.1 then [.vec 1 (nums .u64 x.2.1)]else [])) (fun x=>n.toNat-x.2.1.length)
   (fun x=>rNums (n.toNat-x.2.1.length) x.2.1 x.2.2.1 x.2.2.2=L∧x.2.1.length≤n.toNat∧x.2.2.1.length≤b.length∧(x.1=false→x.2.1=[]))
   (false,[],b3,e3) ⟨by simpa using hLL,by simp,by dsimp only;omega,by simp⟩ ?_ ?_
 · refine GC.mk' [] [0,1,2] (by simp) rfl (by simp) (by simp) evd evd
 rintro⟨st,acc,bb,ee⟩ ⟨i1,i2,i3,i4⟩
 dsimp only at i1 i2 i3 i4 ⊢
 have hw1:IntKind.u64.wrap ((acc.length:Int)+1)=((acc.length+1:Nat):Int):=by rw[aB_ (by omega) (by omega)];omega
 have c4:=nf_ bb false ee
 have c5:=cJ_ bb ee b.length (by omega)
 by_cases hi:acc.length<n.toNat
 · have hi':decide ((acc.length:Int)<n)=true:=by rw[decide_eq_true_eq];omega
   obtain⟨k,hk⟩:∃ k,n.toNat-acc.length=k+1:=⟨n.toNat-acc.length-1,by omega⟩
   rw[hk,rNums]at i1
   by_cases he:ee=0
   · subst he
     rw[if_neg (by simp)]at i1
     have v2:=bf_ bb 0 maxU
     generalize rUint bb 0 maxU=V at *
     obtain⟨v,b4,e4⟩:=V
     dsimp only at v2 c5 i1
     cases st with
     | false =>
       obtain rfl:=i4 rfl
       simp only[List.length_nil]at hi hk i2
       have hi0:decide ((0:Int)<n)=true:=by rw[decide_eq_true_eq];omega
       have hwz:IntKind.u64.wrap ((0:Int)+1)=1:=by decide
       repeat(first | refine aa_ ?_ | simp only[go_sem,hi0])
       refine ocall [1] (c4) evd (Picks.mk' (by simp) evd) ?_;refine evg ?_
       try refine aa_ ?_
       refine ac_ ?_
       try refine aa_ ?_
       refine dcallc [1,2] [1] (c5) (by simp) evd (Picks.mk' (by simp) evd) (by simp) (by simp[sameC]) ?_;refine evg ?_
       repeat(first | refine aa_ ?_ | simp only[go_sem,hwz])
       refine⟨(true,[v],b4,e4),⟨?_,?_,?_,?_⟩,?_,?_⟩
       · simp only[List.length_cons,List.length_nil]
         rw[show n.toNat-(0+1)=k by omega]
         exact i1
       · simp only[List.length_cons,List.length_nil];omega
       · dsimp only;omega
       · simp
       · simp only[List.length_cons,List.length_nil];omega
       · refine GC.mk' [] [0,1,2,4] (by simp) rfl (by simp) (by simp) evd evd
     | true =>
       repeat(first | refine aa_ ?_ | simp only[go_sem,hi'])
       refine ocall [1] (c4) evd (Picks.mk' (by simp) evd) ?_;refine evg ?_
       try refine aa_ ?_
       refine ac_ ?_
       try refine aa_ ?_
       refine dcallc [1,2] [1] (c5) (by simp) evd (Picks.mk' (by simp) evd) (by simp) (by simp[sameC]) ?_;refine evg ?_
       repeat(first | refine aa_ ?_ | simp only[go_sem,hw1])
       refine⟨(true,acc++[v],b4,e4),⟨?_,?_,?_,?_⟩,?_,?_⟩
       · simp only[List.length_append,List.length_cons,List.length_nil]
         rw[show n.toNat-(acc.length+(0+1))=k by omega]
         exact i1
       · simp only[List.length_append,List.length_cons,List.length_nil];omega
       · dsimp only;omega
       · simp
       · simp only[List.length_append,List.length_cons,List.length_nil];omega
       · refine GC.mk' [] [0,1,2,5] (by simp) rfl (by simp) (by simp) evd evd
   · have he':(ee==0)=false:=by simpa using he
     have he2:(ee != 0)=true:=by simpa using he
     rw[if_pos he]at i1
     subst i1
     dsimp only at hB ⊢
     have ce:=(eo_ bb ee b.length [] true (by omega) (by omega) (by simp) (by simp)).wk (xs:=[.ptr 1 0,.sl 0 true []]) ⟨Wk.refl _,Wk.empty 0 1 _,trivial⟩
     rw[hZ_]at ce
     cases st with
     | false =>
       obtain rfl:=i4 rfl
       simp only[List.length_nil]at hi i2
       have hi0:decide ((0:Int)<n)=true:=by rw[decide_eq_true_eq];omega
       repeat(first | refine aa_ ?_ | simp only[go_sem,hi0])
       refine ocall [1] (c4) evd (Picks.mk' (by simp) evd) ?_;refine evg ?_
       repeat(first | refine aa_ ?_ | simp only[go_sem,he'])
       refine ab_ ?_
       try refine aa_ ?_
       simp only[ne_eq,he,not_false_eq_true,if_true]at ce ⊢
       refine ocall [1,2] (ce) evd (Picks.mk' (by simp) evd) ?_;refine evg ?_
       try refine aa_ ?_
       refine ac_ ?_ (by(try simp only[go_sem,he2]);try exact evd)
       try refine aa_ ?_
       refine⟨_,(by first | rfl | exact evd),.inr ⟨.tup [.agg (tabC tab0),.int .i64 0,.int .i64 ee],evd,⟨(bs_ _).2 trivial,trivial,trivial,trivial⟩,Wk.tup ⟨ka_,Wk.refl _,Wk.refl _,trivial⟩⟩⟩
     | true =>
       repeat(first | refine aa_ ?_ | simp only[go_sem,hi'])
       refine ocall [1] (c4) evd (Picks.mk' (by simp) evd) ?_;refine evg ?_
       repeat(first | refine aa_ ?_ | simp only[go_sem,he'])
       refine ab_ ?_
       try refine aa_ ?_
       simp only[ne_eq,he,not_false_eq_true,if_true]at ce ⊢
       refine ocall [1,2] (ce) evd (Picks.mk' (by simp) evd) ?_;refine evg ?_
       try refine aa_ ?_
       refine ac_ ?_ (by(try simp only[go_sem,he2]);try exact evd)
       try refine aa_ ?_
       refine⟨_,(by first | rfl | exact evd),.inr ⟨.tup [.agg (tabC tab0),.int .i64 0,.int .i64 ee],evd,⟨(bs_ _).2 trivial,trivial,trivial,trivial⟩,Wk.tup ⟨ka_,Wk.refl _,Wk.refl _,trivial⟩⟩⟩
 · have hi':decide ((acc.length:Int)<n)=false:=by rw[decide_eq_false_iff_not];omega
   rw[show n.toNat-acc.length=0 by omega,rNums]at i1
   subst i1
   dsimp only at hB ⊢
   have ce:=(eo_ bb ee b.length [] true (by omega) (by omega) (by simp) (by simp)).wk (xs:=[.ptr 1 0,.sl 0 true []]) ⟨Wk.refl _,Wk.empty 0 1 _,trivial⟩
   rw[hZ_]at ce
   by_cases he:ee=0
   · subst he
     cases st with
     | false =>
       obtain rfl:=i4 rfl
       simp only[List.length_nil]at hi i2
       have hi0:decide ((0:Int)<n)=false:=by rw[decide_eq_false_iff_not];omega
       repeat(first | refine aa_ ?_ | simp only[go_sem,hi0])
       refine ab_ ?_
       try refine aa_ ?_
       simp only[ne_eq,not_true_eq_false,if_false]at ce ⊢
       rw[show ((b.length:Int)-(bb.length:Int))=((b.length-bb.length:Nat):Int)by omega]at ce
       refine ocall [1,2] (ce) evd (Picks.mk' (by simp) evd) ?_;refine evg ?_
       try refine aa_ ?_
       refine ab_ ?_
       try refine aa_ ?_
       refine⟨_,(by first | rfl | exact evd),.inr ⟨.tup [.agg (tabC ⟨⟨s,r⟩,.sl 0 true []⟩),.int .i64 ((b.length-bb.length:Nat):Int),.int .i64 0],evd,⟨(bs_ _).2 trivial,trivial,trivial,trivial⟩,Wk.tup ⟨tD_ _ (Wk.empty 0 1 false) fun h=>h,Wk.refl _,Wk.refl _,trivial⟩⟩⟩
     | true =>
       repeat(first | refine aa_ ?_ | simp only[go_sem,hi'])
       refine ab_ ?_
       try refine aa_ ?_
       simp only[ne_eq,not_true_eq_false,if_false]at ce ⊢
       rw[show ((b.length:Int)-(bb.length:Int))=((b.length-bb.length:Nat):Int)by omega]at ce
       refine ocall [1,2] (ce) evd (Picks.mk' (by simp) evd) ?_;refine evg ?_
       try refine aa_ ?_
       refine ab_ ?_
       try refine aa_ ?_
       exact fin0
   · have he2:(ee != 0)=true:=by simpa using he
     cases st with
     | false =>
       obtain rfl:=i4 rfl
       simp only[List.length_nil]at hi i2
       have hi0:decide ((0:Int)<n)=false:=by rw[decide_eq_false_iff_not];omega
       repeat(first | refine aa_ ?_ | simp only[go_sem,hi0])
       refine ab_ ?_
       try refine aa_ ?_
       simp only[ne_eq,he,not_false_eq_true,if_true]at ce ⊢
       refine ocall [1,2] (ce) evd (Picks.mk' (by simp) evd) ?_;refine evg ?_
       try refine aa_ ?_
       refine ac_ ?_ (by(try simp only[go_sem,he2]);try exact evd)
       try refine aa_ ?_
       refine⟨_,(by first | rfl | exact evd),.inr ⟨.tup [.agg (tabC tab0),.int .i64 0,.int .i64 ee],evd,⟨(bs_ _).2 trivial,trivial,trivial,trivial⟩,Wk.tup ⟨ka_,Wk.refl _,Wk.refl _,trivial⟩⟩⟩
     | true =>
       repeat(first | refine aa_ ?_ | simp only[go_sem,hi'])
       refine ab_ ?_
       try refine aa_ ?_
       simp only[ne_eq,he,not_false_eq_true,if_true]at ce ⊢
       refine ocall [1,2] (ce) evd (Picks.mk' (by simp) evd) ?_;refine evg ?_
       try refine aa_ ?_
       refine ac_ ?_ (by(try simp only[go_sem,he2]);try exact evd)
       try refine aa_ ?_
       refine⟨_,(by first | rfl | exact evd),.inr ⟨.tup [.agg (tabC tab0),.int .i64 0,.int .i64 ee],evd,⟨(bs_ _).2 trivial,trivial,trivial,trivial⟩,Wk.tup ⟨ka_,Wk.refl _,Wk.refl _,trivial⟩⟩⟩
end Go.Proofs.YtipiipgpnkpejaaGreat
