/-
 My texts Ea, Ed, Ee, Ef, Eh, Eg, Ei, joined.
-/
import Derived.Test.YtnjdpnfglgcjcaaGreatW7
import Derived.Test.YtnjdpnfglgcjcaaGreatW4
import Derived.Test.YtnjdpnfglgcjcaaGreatW3
set_option linter.unusedVariables false
set_option linter.unusedSimpArgs false
set_option maxRecDepth 8000
set_option maxHeartbeats 4000000
namespace Go.Proofs.YtnjdpnfglgcjcaaGreat
open Go Go.FH
def o7(l:List Int)(n:Int)(i:Nat):Int:=
 if i<l.length then (if l.getD i 0<0\/n<=l.getD i 0 then 3 else if 0<i/\l.getD i 0<=l.getD (i-1) 0 then 8 else o7 l n (i+1))else 0
termination_by l.length-i
def dr(l:List Int)(n:Int):Int:=if l=[]then 2 else o7 l n 0
theorem oq{l:List Int}{n:Int}{i:Nat}(h:i<l.length):o7 l n i=if l.getD i 0<0\/n<=l.getD i 0 then 3 else if 0<i/\l.getD i 0<=l.getD (i-1) 0 then 8 else o7 l n (i+1):=by
 rw[o7,if_pos h]
theorem uA{l:List Int}{n:Int}{i:Nat}(h:¬i<l.length):o7 l n i=0:=by rw[o7,if_neg h]
def mE(l:List Int)(i:Nat):Int:=if i=0 then l.getD 0 0 else l.getD i 0-(l.getD (i-1) 0+1)
def qh(l:List Int)(i:Nat):List UInt8:=if i<l.length then dI (mE l i).toNat++qh l (i+1)else []
termination_by l.length-i
theorem xu{l:List Int}{i:Nat}(h:i<l.length):qh l i=dI (mE l i).toNat++qh l (i+1):=by rw[qh,if_pos h]
theorem Jn{l:List Int}{i:Nat}(h:¬i<l.length):qh l i=[]:=by rw[qh,if_neg h]
theorem Jo(l:List Int)(i:Nat)(hi:i<=l.length):l.length-i<=(qh l i).length:=by
 by_cases h:i<l.length
 ·rw[xu h,List.length_append];have:=Jo l (i+1) h;have:=Y6 (mE l i).toNat
  omega
 ·omega
termination_by l.length-i
def HI(l:List Int):List UInt8:=dI l.length++qh l 0
theorem PL{l:List Int}{n:Int}:∀ (k i:Nat),l.length-i=k->o7 l n i=0->∀j,i<=j->j<l.length->0<=l.getD j 0/\l.getD j 0<n/\(0<j->l.getD (j-1) 0<l.getD j 0)
 |0,i,hk,h,j,h1,h2=>by omega
 | k + 1, i, hk, h, j, h1, h2 => by
   rw[oq (by omega)]at h;split at h
   ·cases h
   ·rename_i ha
    split at h
    ·cases h
    ·rename_i hb
     by_cases hj:j=i
     ·subst hj;refine⟨by omega,by omega,fun h0=>?_⟩;have:=not_and.1 hb h0;omega
     ·exact PL k (i+1) (by omega) h j (by omega) h2
theorem jw{l:List Int}{n:Int}(h:dr l n=0):l≠[]/\∀j,j<l.length->0<=l.getD j 0/\l.getD j 0<n/\(0<j->l.getD (j-1) 0<l.getD j 0):=by
 unfold dr at h;split at h
 ·cases h
 ·rename_i h0;exact⟨h0,fun j hj=>PL _ 0 rfl h j (by omega) hj⟩
theorem J8{l:List Int}{n:Int}(h:dr l n=0){j:Nat}(hj:j<l.length):0<=mE l j/\mE l j<n:=by
 have h1:=(jw h).2 j hj;unfold mE;split
 ·subst_vars;exact⟨h1.1,h1.2.1⟩
 ·have h2:=h1.2.2 (by omega);have h3:=(jw h).2 (j-1) (by omega);omega
def HO:List Int->List UInt8
 | []=>[]
 |x::l=>dI x.toNat++HO l
theorem fZ{k:IntKind}{ns:List Int}{i:Nat}(h:i<ns.length):(ax k ns).getD i []=[.int k (ns.getD i 0)]:=by
 rw[US h,List.getD_eq_getElem?_getD,List.getElem?_eq_getElem h];rfl
theorem ou(l:List Int)(cl:Bool)(n:Int)(hb:l.length<=140737488355328):PC Tryz.prog 215 [.sl 1 cl (ax .i64 l),.int .i64 n] (.int .i64 (dr l n)):=by
 refine PC.fact 13 qJ (by simp) ⟨bj .i64 l,trivial,trivial⟩ trivial ?_;unfold j7 dr;refine bd ?_;by_cases h0:l=[]
 ·subst h0;rw[if_pos rfl];refine aV ?_;exact af
 rw[if_neg h0];have hl:0<l.length:=List.length_pos_iff.2 h0;have hl':((l.length:Int)==0)=false:=by simp;omega
 refine ap hl' ?_;refine aB ?_ (by(try simp only[go_sem,hl']);try exact evd);refine gon ?_;refine li (fun i:Nat=>⟨13,[.sl 1 cl (ax .i64 l),.int .i64 n,.dead,.dead,.int .i64 0,.dead,.dead,.dead,.dead,.dead,.sl 1 cl (ax .i64 l),.int .i64 l.length,.int .i64 i],[]⟩) (fun _=>[]) (fun i=>l.length-i) (fun i=>i<=l.length/\o7 l n i=o7 l n 0) [5,6,7,8,9] 0 ⟨by omega,rfl⟩ evd rfl ?_;rintro i ⟨hi,hv⟩;try dsimp only
 refine gon ?_;refine du evd (fun h=>?_) (fun h=>?_)
 ·have h1:i<l.length:=by simp at h;omega
  have hg:=fZ (k:=.i64) h1;have hi':((i:Int)+1)=((i+1:Nat):Int):=by omega
  have hw:=ah h1 (by omega);rw[oq h1]at hv;generalize hx:l.getD i 0=x at *;by_cases hA:x<0\/n<=x
  ·rw[if_pos hA]at hv
   rw[<-hv];by_cases hx0:x<0
   ·have hx0':decide (x<0)=true:=by simpa using hx0
    refine cn hg hx0' ?_;exact af
   ·have hx0':decide (x<0)=false:=by simpa using hx0
    have hx1:decide (n<=x)=true:=by rw[decide_eq_true_eq];omega
    refine fK hg hx0' hx1 ?_;exact af
  ·rw [if_neg hA] at hv
   have hx0':decide (x<0)=false:=by rw[decide_eq_false_iff_not];omega
   have hx1:decide (n<=x)=false:=by rw[decide_eq_false_iff_not];omega
   refine vW hg hx0' hx1 ?_;by_cases hp:0<i
   ·have hp':decide ((0:Int)<(i:Int))=true:=by rw[decide_eq_true_eq];omega
    have hw1:IntKind.i64.wrap ((i:Int)-1)=((i-1:Nat):Int):=by rw[aK (by omega) (by omega)];omega
    have hg2:=fZ (k:=.i64) (show i-1<l.length by omega);by_cases hB:x<=l.getD (i-1) 0
    ·have hB':decide (x<=l.getD (i-1) 0)=true:=by simpa using hB
     rw[if_pos ⟨hp,hB⟩]at hv;rw[<-hv];refine eO hg hp' hw1 hg2 hB' ?_;refine abX ?_;exact af
    ·have hB':decide (x<=l.getD (i-1) 0)=false:=by simpa using hB
     rw[if_neg (fun hh=>hB hh.2)]at hv;refine eO hg hp' hw1 hg2 hB' ?_;refine aB ?_;refine ap hw ?_;exact⟨i+1,⟨h1,hv⟩,by omega,rfl⟩
   ·have hp':decide ((0:Int)<(i:Int))=false:=by rw[decide_eq_false_iff_not];omega
    rw[if_neg (fun hh=>hp hh.1)]at hv;refine aQ hp' ?_;refine ap hw ?_;exact⟨i+1,⟨h1,hv⟩,by omega,rfl⟩
 ·have h1:i=l.length:=by simp at h;omega
  subst h1;rw[<-hv,uA (by omega)];refine gon ?_;exact af
theorem gp(l:List Int)(cl:Bool)(n:Int)(hb:l.length<=140737488355328):PC Tryz.prog 242 [.sl 1 cl (ax .i64 l),.int .i64 n] (.int .i64 (dr l n)):=by
 refine PC.fact 6 uJ (by simp) ⟨bj .i64 l,trivial,trivial⟩ trivial ?_;unfold mz dr;refine bd ?_;by_cases h0:l=[]
 ·subst h0;rw[if_pos rfl];refine aV ?_;exact af
 rw[if_neg h0];have hl:0<l.length:=List.length_pos_iff.2 h0;have hl':((l.length:Int)==0)=false:=by simp;omega
 refine ap hl' ?_;refine aB ?_ (by(try simp only[go_sem,hl']);try exact evd);refine gon ?_;refine li (fun i:Nat=>⟨6,[.sl 1 cl (ax .i64 l),.int .i64 n,.dead,.dead,.int .i64 0,.int .i64 i],[]⟩) (fun _=>[]) (fun i=>l.length-i) (fun i=>i<=l.length/\o7 l n i=o7 l n 0) [] 0 ⟨by omega,rfl⟩ evd rfl ?_;rintro i ⟨hi,hv⟩;try dsimp only
 refine gon ?_;refine du evd (fun h=>?_) (fun h=>?_)
 ·have h1:i<l.length:=by simp at h;omega
  have hg:=fZ (k:=.i64) h1;have hi':((i:Int)+1)=((i+1:Nat):Int):=by omega
  have hw:=ah h1 (by omega);rw[oq h1]at hv;generalize hx:l.getD i 0=x at *;by_cases hA:x<0\/n<=x
  ·rw[if_pos hA]at hv
   rw[<-hv];by_cases hx0:x<0
   ·have hx0':decide (x<0)=true:=by simpa using hx0
    refine cn hg hx0' ?_;exact af
   ·have hx0':decide (x<0)=false:=by simpa using hx0
    have hx1:decide (n<=x)=true:=by rw[decide_eq_true_eq];omega
    refine fK hg hx0' hx1 ?_;exact af
  ·rw [if_neg hA] at hv
   have hx0':decide (x<0)=false:=by rw[decide_eq_false_iff_not];omega
   have hx1:decide (n<=x)=false:=by rw[decide_eq_false_iff_not];omega
   refine vW hg hx0' hx1 ?_;by_cases hp:0<i
   ·have hp':decide ((0:Int)<(i:Int))=true:=by rw[decide_eq_true_eq];omega
    have hw1:IntKind.i64.wrap ((i:Int)-1)=((i-1:Nat):Int):=by rw[aK (by omega) (by omega)];omega
    have hg2:=fZ (k:=.i64) (show i-1<l.length by omega);by_cases hB:x<=l.getD (i-1) 0
    ·have hB':decide (x<=l.getD (i-1) 0)=true:=by simpa using hB
     rw[if_pos ⟨hp,hB⟩]at hv;rw[<-hv];refine eO hg hp' hw1 hg2 hB' ?_;refine abX ?_;exact af
    ·have hB':decide (x<=l.getD (i-1) 0)=false:=by simpa using hB
     rw[if_neg (fun hh=>hB hh.2)]at hv;refine eO hg hp' hw1 hg2 hB' ?_;refine aB ?_;refine ap hw ?_;exact⟨i+1,⟨h1,hv⟩,by omega,rfl⟩
   ·have hp':decide ((0:Int)<(i:Int))=false:=by rw[decide_eq_false_iff_not];omega
    rw[if_neg (fun hh=>hp hh.1)]at hv;refine aQ hp' ?_;refine ap hw ?_;exact⟨i+1,⟨h1,hv⟩,by omega,rfl⟩
 ·have h1:i=l.length:=by simp at h;omega
  subst h1;rw[<-hv,uA (by omega)];refine gon ?_;exact af
def ab6(f:FuncId)(xs:List AV)(e:List UInt8):Prop:=∀bs:List UInt8,bs.length+e.length<=140737488355328->aI Tryz.prog f (.hs 1 0 0 bs.length::xs) [.vec 1 (bts bs)] (.hs 1 1 0 (bs.length+e.length)) [.gone,.vec 1 (bts (bs++e))]
theorem AP(l:List Int)(cl:Bool)(hv:dr l 1024=0):ab6 278 [.sl 1 cl (ax .i64 l)] (HI l):=by
 intro bs hb;refine aI.fact 6 N1 (by simp) ?_ (by simp);unfold BE;refine bd ?_;have hl:(HI l).length=(dI l.length).length+(qh l 0).length:=by rw[HI,List.length_append]
 have hll:l.length<=(qh l 0).length:=Jo l 0 (by omega);have hu:=(d7 (l.length:Int) (by omega) (by omega)).own bs (by rw[Int.toNat_natCast];omega);rw[Int.toNat_natCast]at hu;have hw0:IntKind.u64.wrap (l.length:Int)=(l.length:Int):=aU (by omega) (by omega);refine ap hw0 ?_;refine bP [0] (hu) evd (bx.mk' (by simp) evd) ?_;refine evg ?_;refine gon ?_
 refine gN (fun x:List UInt8×Nat=>⟨6,[.hs 1 1 0 x.1.length,.sl 1 cl (ax .i64 l),.dead,.dead,.sl 0 true [],.int .i64 x.2],[]⟩)
  (fun x=>[.gone,.vec 1 (bts x.1)]) (fun x=>l.length-x.2) (fun x=>x.2<=l.length/\x.1++qh l x.2=bs++HI l) (bs++dI l.length,0) ⟨by simp,by simp[HI]⟩ ?_ ?_
 ·simp only[List.length_append];exact adk [] [0,1]
 rintro⟨acc,i⟩ ⟨h1,h2⟩;dsimp only at h1 h2 ⊢;have hal:acc.length+(qh l i).length=bs.length+(HI l).length:=by simpa using congrArg List.length h2
 refine gon ?_;refine du evd (fun h=>?_) (fun h=>?_)
 ·have hi:i<l.length:=by simpa using h
  have hg:=fZ (k:=.i64) hi;have hd:=J8 hv hi;have hi0:=(jw hv).2 i hi;rw[xu hi]at h2 hal;rw[List.length_append]at hal;have ha:=(d7 (mE l i) hd.1 (by omega)).own acc (by omega);have hw:=ah hi (by omega);have hwd:IntKind.u64.wrap (mE l i)=mE l i:=aU (by omega) (by omega);by_cases hp:0<i
  ·have hp':((i:Int)==0)=false:=by simp;omega
   have hi1:=(jw hv).2 (i-1) (by omega);have hw1:IntKind.i64.wrap ((i:Int)-1)=((i-1:Nat):Int):=by rw[aK (by omega) (by omega)];omega
   have hg2:=fZ (k:=.i64) (show i-1<l.length by omega);have hw2:IntKind.i64.wrap (l.getD i 0-l.getD (i-1) 0)=l.getD i 0-l.getD (i-1) 0:=aK (by omega) (by omega);have hw3:IntKind.i64.wrap (l.getD i 0-l.getD (i-1) 0-1)=mE l i:=by rw[mE,if_neg (by omega),aK (by omega) (by omega)];omega
   refine ap hp' ?_;refine aB ?_ (by(try simp only[go_sem,hp']);try exact evd);refine eI hg hw1 hg2 hw2 hw3 hwd ?_;refine cO [1] (ha) (by simp) evd (dt.mk' (by simp) (by simp) evd) ?_;refine evg ?_;refine ap hw ?_;refine⟨(acc++dI (mE l i).toNat,i+1),⟨hi,by simpa using h2⟩,by dsimp only;omega,?_⟩;simp only[List.length_append];exact adk [] [0,2]
  ·have h0:i=0:=by omega
   subst h0;have e0:l.getD 0 0=mE l 0:=by rw[mE,if_pos rfl]
   have hz:IntKind.i64.wrap ((0:Int)+1)=1:=by decide
   rw[e0]at hg;refine kO ?_;refine aO hg hwd ?_;refine bP [1] (ha) evd (bx.mk' (by simp) evd) ?_;refine evg ?_;refine ap hz ?_;refine⟨(acc++dI (mE l 0).toNat,0+1),⟨hi,by simpa using h2⟩,by dsimp only;omega,?_⟩;simp only[List.length_append];exact adk [] [0,2]
 ·have hi:i=l.length:=by simp at h;omega
  subst hi;rw[Jn (by omega),List.append_nil]at h2;rw[<-h2];have h3:=congrArg List.length h2;rw[List.length_append]at h3;rw[<-h3];refine gon ?_;exact adb [] [0,1]
end Go.Proofs.YtnjdpnfglgcjcaaGreat
namespace Go.Proofs.YtnjdpnfglgcjcaaGreat
open Go Go.FH Go.RowKit
theorem TM{l:List Int}{n:Int}(h:dr l n=0):∀j,j<l.length->(j:Int)<=l.getD j 0
 |0,hj=>by have:=((jw h).2 0 hj).1;omega
 | j + 1, hj => by
   have h1:=TM h j (by omega);have h2:=((jw h).2 (j+1) hj).2.2 (by omega);simp only[Nat.add_sub_cancel]at h2;omega
theorem Y9{l:List Int}{n:Nat}(h:dr l n=0):l.length<=n:=by
 by_cases h0:l.length=0
 ·omega
 ·have h1:=TM h (l.length-1) (by omega);have h2:=((jw h).2 (l.length-1) (by omega)).2.1;omega
theorem OD{l:List Int}(hv:dr l 1024=0):∀ (k i:Nat),l.length-i=k->(qh l i).length<=10*k
 |0,i,hk=>by rw[Jn (by omega)];simp
 | k + 1, i, hk => by
   rw[xu (by omega),List.length_append];have h1:=OD hv k (i+1) (by omega);have h2:=J8 hv (j:=i) (by omega);have h3:=jD (n:=(mE l i).toNat) (by omega);omega
theorem SS{l:List Int}(hv:dr l 1024=0):(HI l).length<=10250:=by
 have h1:=Y9 (n:=1024) hv;have h2:=OD hv _ 0 rfl;have h3:=jD (n:=l.length) (by omega);rw[HI,List.length_append];omega
def acb(x:Att)(l:List Int):List UInt8:=dI x.slot.toNat++x.root.1++kF x.target++HI l
structure U64(n:Int):Prop where
 lo:0<=n
 hi:n<18446744073709551616
theorem U64.len{n:Int}(h:U64 n):(dI n.toNat).length<=10:=jD (by have:=h.lo;have:=h.hi;omega)
theorem ub{c:Cp}(h:U64 c.ep):(kF c).length<=42:=by
 have:=h.len;have:=c.rt.2;rw[kF,List.length_append];omega
theorem YB(x:Att)(l:List Int)(cl:Bool)(hx:x.vals=.sl 1 cl (ax .i64 l))(hl:l.length<=140737488355328)(h1:U64 x.slot)(h2:U64 x.target.ep):
 PC Tryz.prog 171 [.agg (bZ x)] (.tup [.sl 1 false (bts (if dr l 1024=0 then acb x l else [])),.int .i64 (dr l 1024)]):=by
 refine PC.fact 5 pn (by simp) ⟨(hZ x).2 (by rw[Att.Pure,hx];exact bj _ _),trivial⟩ ⟨pd _,trivial,trivial⟩ ?_;unfold jc;refine bd ?_;have hc:=gp l cl 1024 hl;have hg:x.good=true:=by rw[Att.good,hx];rfl
 by_cases hv:dr l 1024=0
 ·have hr:=x.root.2;have q1:=h1.len;have q2:=ub h2;have q3:=SS hv;have p1:=(d7 x.slot h1.lo h1.hi).nil (by omega);have p2:=(gM x.root).own (dI x.slot.toNat) (by omega);have p3:=(zl x.target h2.lo h2.hi).own (dI x.slot.toNat++x.root.1) (by rw[List.length_append];omega);have p4:=AP l cl hv (dI x.slot.toNat++x.root.1++kF x.target) (by simp only[List.length_append];omega);rw[if_pos hv];rw[hv]at hc ⊢;refine aO hx hg ?_;refine ai hc ?_;refine dk ?_;refine ap hx ?_;refine cO [] (p1) (by simp) evd (dt.mk' (by simp) (by simp) evd) ?_;refine evg ?_;refine gon ?_;refine cO [1] (p2) (by simp) evd (dt.mk' (by simp) (by simp) evd) ?_;refine evg ?_;refine gon ?_;refine cO [2] (p3) (by simp) evd (dt.mk' (by simp) (by simp) evd) ?_;refine evg ?_;refine ap hx ?_;refine cO [3] (p4) (by simp) evd (dt.mk' (by simp) (by simp) evd) ?_;refine evg ?_;refine gon ?_;exact af
 ·have hv':(dr l 1024 != 0)=true:=by simpa using hv
  rw[if_neg hv];refine aO hx hg ?_;refine acT hc ?_;refine aF ?_ (by(try simp only[go_sem,hv']);try exact evd);refine gon ?_;refine⟨_,rfl,.inr ⟨.tup [.sl 0 true [],.int .i64 (dr l 1024)],evd,⟨trivial,trivial,trivial⟩,Wk.tup ⟨Wk.empty _ _ _,Wk.refl _,trivial⟩⟩⟩
def vP(x:Clm)(l:List Int):List UInt8:=dI x.src.toNat++dI x.tgt.toNat++x.root.1++HI l
structure zF(x:Clm)(l:List Int)(cl:Bool):Prop where
 src:U64 x.src
 tgt:U64 x.tgt
 vals:x.vals=.sl 1 cl (ax .i64 l)
 len:l.length<=140737488355328
theorem D1{x:Clm}{l:List Int}{cl:Bool}(h:zF x l cl)(hv:dr l 1024=0):(vP x l).length<=10302:=by
 have:=h.src.len;have:=h.tgt.len;have:=SS hv;have:=x.root.2;simp only[vP,List.length_append];omega
theorem zF.good{x:Clm}{l:List Int}{cl:Bool}(h:zF x l cl):x.good=true:=by rw[Clm.good,h.vals];rfl
theorem zF.pu{x:Clm}{l:List Int}{cl:Bool}(h:zF x l cl):x.Pure:=by rw[Clm.Pure,h.vals];exact bj _ _
theorem zF.map{x:Clm}{l:List Int}{cl:Bool}(h:zF x l cl)(ρ:Nat->Nat):x.map (ren ρ)=x:=by
 have hv:=h.vals;obtain⟨s,t,r,v⟩:=x;simp only at hv;subst hv;simp only[Clm.map,ren,ei]
theorem R7(x:Clm)(l:List Int)(cl:Bool)(hx:zF x l cl)(hv:dr l 1024=0):ab6 358 [.agg (de x)] (vP x l):=by
 intro bs hb;refine aI.fact 5 yK (by simp) ?_ (by simp);unfold qC;refine bd ?_;simp only[vP,List.length_append,<-List.append_assoc,<-Nat.add_assoc]at hb ⊢;have hg:=hx.good;have hvs:=hx.vals;have p1:=(d7 x.src hx.src.lo hx.src.hi).own bs (by omega);have p2:=(d7 x.tgt hx.tgt.lo hx.tgt.hi).own (bs++dI x.src.toNat) (by simp only[List.length_append];omega);have p3:=(gM x.root).own (bs++dI x.src.toNat++dI x.tgt.toNat) (by simp only[List.length_append];omega);have p4:=AP l cl hv (bs++dI x.src.toNat++dI x.tgt.toNat++x.root.1) (by simp only[List.length_append];omega);refine ap hg ?_;refine cO [0] (p1) (by simp) evd (dt.mk' (by simp) (by simp) evd) ?_;refine evg ?_;refine gon ?_;refine cO [2] (p2) (by simp) evd (dt.mk' (by simp) (by simp) evd) ?_;refine evg ?_;refine gon ?_;refine cO [3] (p3) (by simp) evd (dt.mk' (by simp) (by simp) evd) ?_;refine evg ?_;refine ap hvs ?_;refine cO [4] (p4) (by simp) evd (dt.mk' (by simp) (by simp) evd) ?_;refine evg ?_;refine gon ?_;exact adb [] [0,5]
theorem R6(x:Clm)(l:List Int)(cl:Bool)(hx:zF x l cl)(hv:dr l 1024=0):aI Tryz.prog 358 [.sl 0 true [],.agg (de x)] [] (.hs 1 0 0 (vP x l).length) [.vec 1 (bts (vP x l))]:=by
 refine aI.fact 5 yK (by simp) ?_ (by simp);have hb:=D1 hx hv;unfold qC;refine bd ?_;simp only[vP,List.length_append,<-List.append_assoc,<-Nat.add_assoc]at hb ⊢;have hg:=hx.good;have hvs:=hx.vals;have p1:=(d7 x.src hx.src.lo hx.src.hi).nil (by omega);have p2:=(d7 x.tgt hx.tgt.lo hx.tgt.hi).own (dI x.src.toNat) (by omega);have p3:=(gM x.root).own (dI x.src.toNat++dI x.tgt.toNat) (by simp only[List.length_append];omega);have p4:=AP l cl hv (dI x.src.toNat++dI x.tgt.toNat++x.root.1) (by simp only[List.length_append];omega);refine ap hg ?_;refine cO [] (p1) (by simp) evd (dt.mk' (by simp) (by simp) evd) ?_;refine evg ?_;refine gon ?_;refine cO [1] (p2) (by simp) evd (dt.mk' (by simp) (by simp) evd) ?_;refine evg ?_;refine gon ?_;refine cO [2] (p3) (by simp) evd (dt.mk' (by simp) (by simp) evd) ?_;refine evg ?_;refine ap hvs ?_;refine cO [3] (p4) (by simp) evd (dt.mk' (by simp) (by simp) evd) ?_;refine evg ?_;refine gon ?_;exact adb [] [4]
def Pn(l1 l2:List Int):Int:=if dr l1 1024=0 then dr l2 1024 else dr l1 1024
def aa6(x:Slg)(l1 l2:List Int):List UInt8:=vP x.fst l1++vP x.snd l2
theorem YD(x:Slg)(l1 l2:List Int)(c1 c2:Bool)(h1:zF x.fst l1 c1)(h2:zF x.snd l2 c2):
 PC Tryz.prog 296 [.agg (dq x)] (.tup [.sl 1 false (bts (if Pn l1 l2=0 then aa6 x l1 l2 else [])),.int .i64 (Pn l1 l2)]):=by
 refine PC.fact 6 rN (by simp) ⟨(ia x).2 ⟨h1.pu,h2.pu⟩,trivial⟩ ⟨pd _,trivial,trivial⟩ ?_;unfold kM;refine bd ?_;have hg:x.good=true:=by rw[Slg.good,h1.good,h2.good];rfl
 have hv1:=h1.vals;have hv2:=h2.vals;have m1:=h1.map;have m2:=h2.map;have k1:=gp l1 c1 1024 h1.len;have k2:=gp l2 c2 1024 h2.len;unfold Pn;by_cases e1:dr l1 1024=0
 ·simp only[e1,if_true]
  rw[e1]at k1;by_cases e2:dr l2 1024=0
  ·simp only[e2,if_true];rw[e2]at k2;have q1:=D1 h1 e1;have q2:=D1 h2 e2;have p1:=R6 x.fst l1 c1 h1 e1;have p2:=R7 x.snd l2 c2 h2 e2 (vP x.fst l1) (by omega);refine cZ hg hv1 hv2 ?_;refine ai k1 ?_;refine dk ?_;refine cZ hg hv1 hv2 ?_;refine ai k2 ?_;refine bh ?_;refine cO [] (p1) (by simp) (by(try simp only[go_sem,m1]);try exact evd) (dt.mk' (by simp) (by simp) (by(try simp only[go_sem,m1]);try exact evd)) ?_;refine evg ?_;refine gon ?_;refine cO [1] (p2) (by simp) (by(try simp only[go_sem,m2]);try exact evd) (dt.mk' (by simp) (by simp) (by(try simp only[go_sem,m2]);try exact evd)) ?_;refine evg ?_;refine gon ?_;exact af
  ·have e2':(dr l2 1024 != 0)=true:=by simpa using e2
   simp only[e2,if_false];refine cZ hg hv1 hv2 ?_;refine ai k1 ?_;refine dk ?_;refine cZ hg hv1 hv2 ?_;refine acT k2 ?_;refine aF ?_ (by(try simp only[go_sem,e2']);try exact evd);refine gon ?_;refine⟨_,rfl,.inr ⟨.tup [.sl 0 true [],.int .i64 (dr l2 1024)],evd,⟨trivial,trivial,trivial⟩,Wk.tup ⟨Wk.empty _ _ _,Wk.refl _,trivial⟩⟩⟩
 ·have e1':(dr l1 1024 != 0)=true:=by simpa using e1
  simp only[e1,if_false];refine cZ hg hv1 hv2 ?_;refine acT k1 ?_;refine aF ?_ (by(try simp only[go_sem,e1']);try exact evd);refine gon ?_;refine⟨_,rfl,.inr ⟨.tup [.sl 0 true [],.int .i64 (dr l1 1024)],evd,⟨trivial,trivial,trivial⟩,Wk.tup ⟨Wk.empty _ _ _,Wk.refl _,trivial⟩⟩⟩
def acD(x:Vdt):List UInt8:=dI x.tag.toNat++dI x.kind.toNat++x.latest.1
def PK(x:Vdt):Prop:=x.kind<1\/4<x.kind
instance (x:Vdt):Decidable (PK x):=inferInstanceAs (Decidable (_\/_))
theorem YF(x:Vdt)(h1:U64 x.tag):
 PC Tryz.prog 297 [.agg (en x)] (.tup [.sl 1 false (bts (if PK x then []else acD x)),.int .i64 (if PK x then 3 else 0)]):=by
 refine PC.fact 4 s6 (by simp) ⟨rV x,trivial⟩ ⟨pd _,trivial,trivial⟩ ?_;unfold lK;refine bd ?_;by_cases hv:PK x
 ·rw[if_pos hv,if_pos hv]
  unfold PK at hv;by_cases ha:x.kind<1
  ·have ha':decide (x.kind<1)=true:=by simpa using ha
   refine aE ha' ?_;refine⟨_,rfl,.inr ⟨.tup [.sl 0 true [],.int .i64 3],evd,⟨trivial,trivial,trivial⟩,Wk.tup ⟨Wk.empty _ _ _,Wk.refl _,trivial⟩⟩⟩
  ·have ha':decide (x.kind<1)=false:=by simpa using ha
   have hb':decide (4<x.kind)=true:=by rw[decide_eq_true_eq];omega
   refine cn ha' hb' ?_;refine⟨_,rfl,.inr ⟨.tup [.sl 0 true [],.int .i64 3],evd,⟨trivial,trivial,trivial⟩,Wk.tup ⟨Wk.empty _ _ _,Wk.refl _,trivial⟩⟩⟩
 ·rw[if_neg hv,if_neg hv];unfold PK at hv;have ha':decide (x.kind<1)=false:=by rw[decide_eq_false_iff_not];omega
  have hb':decide (4<x.kind)=false:=by rw[decide_eq_false_iff_not];omega
  have hw:IntKind.u64.wrap x.kind=x.kind:=aU (by omega) (by omega);have hr:=x.latest.2;have q1:=h1.len;have q2:=jD (n:=x.kind.toNat) (by omega);have p1:=(d7 x.tag h1.lo h1.hi).nil (by omega);have p2:=(d7 x.kind (by omega) (by omega)).own (dI x.tag.toNat) (by omega);have p3:=(gM x.latest).own (dI x.tag.toNat++dI x.kind.toNat) (by rw[List.length_append];omega);refine dD ha' hb' ?_;refine ap hw ?_;refine cO [] (p1) (by simp) evd (dt.mk' (by simp) (by simp) evd) ?_;refine evg ?_;refine ap hw ?_;refine cO [1] (p2) (by simp) evd (dt.mk' (by simp) (by simp) evd) ?_;refine evg ?_;refine gon ?_;refine cO [2] (p3) (by simp) evd (dt.mk' (by simp) (by simp) evd) ?_;refine evg ?_;refine gon ?_;exact af
def acl(x:Blk):List UInt8:=dI x.slot.toNat++x.root.1++x.parent.1++x.payload.1++(fL x.diff).1++(fL x.pdiff).1++kF x.just++kF x.fin++kF x.pul.j++kF x.pul.f++Uf x.timely
structure WI(x:Blk):Prop where
 slot:U64 x.slot
 just:U64 x.just.ep
 fin:U64 x.fin.ep
 j:U64 x.pul.j.ep
 f:U64 x.pul.f.ep
theorem YC(x:Blk)(hx:WI x):PC Tryz.prog 173 [.sl 0 true [],.agg (aA x)] (.sl 1 false (bts (acl x))):=by
 refine PC.fact 5 LP (by simp) ⟨trivial,gz x,trivial⟩ (pd _) ?_;unfold yu;refine bd ?_;have r1:=x.root.2;have r2:=x.parent.2;have r3:=x.payload.2;have r4:=(fL x.diff).2;have r5:=(fL x.pdiff).2;have q1:=hx.slot.len;have q2:=ub hx.just;have q3:=ub hx.fin;have q4:=ub hx.j;have q5:=ub hx.f;have q6:(Uf x.timely).length<=1:=by cases x.timely<;>simp[Uf]
 have p1:=(d7 x.slot hx.slot.lo hx.slot.hi).nil (by omega);have p2:=(gM x.root).own (dI x.slot.toNat) (by omega);have p3:=(gM x.parent).own _ (by simp only[List.length_append];omega:(dI x.slot.toNat++x.root.1).length+x.parent.1.length<=140737488355328);have p4:=(gM x.payload).own _ (by simp only[List.length_append];omega:(dI x.slot.toNat++x.root.1++x.parent.1).length+x.payload.1.length<=140737488355328);have p5:=(J3 x.diff).own _ (by simp only[List.length_append];omega:(dI x.slot.toNat++x.root.1++x.parent.1++x.payload.1).length+(fL x.diff).1.length<=140737488355328);have p6:=(J3 x.pdiff).own _ (by simp only[List.length_append];omega:(dI x.slot.toNat++x.root.1++x.parent.1++x.payload.1++(fL x.diff).1).length+(fL x.pdiff).1.length<=140737488355328);have p7:=(zl x.just hx.just.lo hx.just.hi).own _ (by simp only[List.length_append];omega:(dI x.slot.toNat++x.root.1++x.parent.1++x.payload.1++(fL x.diff).1++(fL x.pdiff).1).length+(kF x.just).length<=140737488355328);have p8:=(zl x.fin hx.fin.lo hx.fin.hi).own _ (by simp only[List.length_append];omega:(dI x.slot.toNat++x.root.1++x.parent.1++x.payload.1++(fL x.diff).1++(fL x.pdiff).1++kF x.just).length+(kF x.fin).length<=140737488355328);have p9:=(zl x.pul.j hx.j.lo hx.j.hi).own _ (by simp only[List.length_append];omega:(dI x.slot.toNat++x.root.1++x.parent.1++x.payload.1++(fL x.diff).1++(fL x.pdiff).1++kF x.just++kF x.fin).length+(kF x.pul.j).length<=140737488355328);have p10:=(zl x.pul.f hx.f.lo hx.f.hi).own _ (by simp only[List.length_append];omega:(dI x.slot.toNat++x.root.1++x.parent.1++x.payload.1++(fL x.diff).1++(fL x.pdiff).1++kF x.just++kF x.fin++kF x.pul.j).length+(kF x.pul.f).length<=140737488355328);have p11:=(VU x.timely).own _ (by simp only[List.length_append];omega:(dI x.slot.toNat++x.root.1++x.parent.1++x.payload.1++(fL x.diff).1++(fL x.pdiff).1++kF x.just++kF x.fin++kF x.pul.j++kF x.pul.f).length+(Uf x.timely).length<=140737488355328);refine gon ?_;refine cO [] (p1) (by simp) evd (dt.mk' (by simp) (by simp) evd) ?_;refine evg ?_;refine gon ?_;refine cO [1] (p2) (by simp) evd (dt.mk' (by simp) (by simp) evd) ?_;refine evg ?_;refine gon ?_;refine cO [2] (p3) (by simp) evd (dt.mk' (by simp) (by simp) evd) ?_;refine evg ?_;refine gon ?_;refine cO [3] (p4) (by simp) evd (dt.mk' (by simp) (by simp) evd) ?_;refine evg ?_;refine gon ?_;refine cO [4] (p5) (by simp) evd (dt.mk' (by simp) (by simp) evd) ?_;refine evg ?_;refine gon ?_;refine cO [5] (p6) (by simp) evd (dt.mk' (by simp) (by simp) evd) ?_;refine evg ?_;refine gon ?_;refine cO [6] (p7) (by simp) evd (dt.mk' (by simp) (by simp) evd) ?_;refine evg ?_;refine gon ?_;refine cO [7] (p8) (by simp) evd (dt.mk' (by simp) (by simp) evd) ?_;refine evg ?_;refine gon ?_;refine cO [8] (p9) (by simp) evd (dt.mk' (by simp) (by simp) evd) ?_;refine evg ?_;refine gon ?_;refine cO [9] (p10) (by simp) evd (dt.mk' (by simp) (by simp) evd) ?_;refine evg ?_;refine gon ?_;refine cO [10] (p11) (by simp) evd (dt.mk' (by simp) (by simp) evd) ?_;refine evg ?_;refine gon ?_;exact af
structure Np(x:Tab)(l:List Int)(cl:Bool):Prop where
 ep:U64 x.cp.ep
 bals:x.bals=.sl 1 cl (ax .u64 l)
 all:∀n∈l,U64 n
 len:l.length<=140737488355328
def Y0(x:Tab)(l:List Int):List UInt8:=kF x.cp++dI l.length++HO l
theorem SZ:∀ {l:List Int},(∀n∈l,U64 n)->(HO l).length<=10*l.length
 | [],_=>by simp[HO]
 | n :: l, h => by
   have h1:=SZ (l:=l) (fun m hm=>h m (by simp[hm]));have h2:=(h n (by simp)).len;simp only[HO,List.length_append,List.length_cons];omega
theorem Vd{l:List Int}{i:Nat}(h:i<l.length):HO (l.drop i)=dI (l.getD i 0).toNat++HO (l.drop (i+1)):=by
 rw[List.drop_eq_getElem_cons h,HO,List.getD_eq_getElem?_getD,List.getElem?_eq_getElem h];rfl
theorem Np.good{x:Tab}{l:List Int}{cl:Bool}(h:Np x l cl):x.good=true:=by rw[Tab.good,h.bals];rfl
theorem Np.pu{x:Tab}{l:List Int}{cl:Bool}(h:Np x l cl):x.Pure:=by rw[Tab.Pure,h.bals];exact bj _ _
theorem Np.getD{x:Tab}{l:List Int}{cl:Bool}(h:Np x l cl){i:Nat}(hi:i<l.length):U64 (l.getD i 0):=by
 rw[List.getD_eq_getElem?_getD,List.getElem?_eq_getElem hi];exact h.all _ (List.getElem_mem hi)
theorem YE(x:Tab)(l:List Int)(cl:Bool)(hx:Np x l cl):
 PC Tryz.prog 174 [.agg (bE x)] (.tup [.sl 1 false (bts (if 1024<l.length then []else Y0 x l)),.int .i64 (if 1024<l.length then 3 else 0)]):=by
 refine PC.fact 6 xl (by simp) ⟨(gB x).2 hx.pu,trivial⟩ ⟨pd _,trivial,trivial⟩ ?_;unfold nG;refine bd ?_;have hg:=hx.good;have hv:=hx.bals;by_cases h0:1024<l.length
 ·have h0':decide ((1024:Int)<(l.length:Int))=true:=by rw[decide_eq_true_eq];omega
  rw[if_pos h0,if_pos h0];refine aO hg hv ?_;refine aF ?_ (by(try simp only[go_sem,h0']);try exact evd);refine gon ?_;refine⟨_,rfl,.inr ⟨.tup [.sl 0 true [],.int .i64 3],evd,⟨trivial,trivial,trivial⟩,Wk.tup ⟨Wk.empty _ _ _,Wk.refl _,trivial⟩⟩⟩
 have h0':decide ((1024:Int)<(l.length:Int))=false:=by rw[decide_eq_false_iff_not];omega
 rw[if_neg h0,if_neg h0];have q1:=ub hx.ep;have q2:=jD (n:=l.length) (by omega);have q3:=SZ hx.all;have hw:IntKind.u64.wrap (l.length:Int)=l.length:=aU (by omega) (by omega)
 have hm:∀ρ:Nat->Nat,x.map (ren ρ)=x:=by
  intro ρ;obtain⟨c,v⟩:=x;simp only at hv;subst hv;simp only[Tab.map,ren,ei]
 have hmf:∀ (σ:St) (zs:List Nat),x.map (fz σ zs)=x:=by
  intro σ zs;obtain⟨c,v⟩:=x;simp only at hv;subst hv;simp only[Tab.map,fz,fy]
 have hr:=x.cp.rt.2;have q4:=hx.ep.len;have p1:=(d7 x.cp.ep hx.ep.lo hx.ep.hi).nil (by omega);have p2:=(gM x.cp.rt).own (dI x.cp.ep.toNat) (by omega);have p3:=(d7 (l.length:Int) (by omega) (by omega)).own (dI x.cp.ep.toNat++x.cp.rt.1) (by rw[Int.toNat_natCast,List.length_append];omega);rw[Int.toNat_natCast]at p3;refine aO hg hv ?_;refine aB ?_ (by(try simp only[go_sem,h0']);try exact evd);refine cZ hg hv hw ?_;refine cO [] (p1) (by simp) evd (dt.mk' (by simp) (by simp) evd) ?_;refine evg ?_;refine cZ hg hv hw ?_;refine cO [1] (p2) (by simp) evd (dt.mk' (by simp) (by simp) evd) ?_;refine evg ?_;refine cZ hg hv hw ?_;refine cO [2] (p3) (by simp) evd (dt.mk' (by simp) (by simp) evd) ?_;refine evg ?_;refine aO hg hv ?_
 refine gN (fun x':List UInt8×Nat=>⟨6,[.agg (bE x),.ptr 0 0,.sl 0 true [],.int .i64 0,.hs 1 1 0 x'.1.length,.int .i64 x'.2],[]⟩)
  (fun x'=>[.var (bE x),.vec 1 (bts x'.1)]) (fun x'=>l.length-x'.2) (fun x'=>x'.2<=l.length/\x'.1++HO (l.drop x'.2)=Y0 x l) (kF x.cp++dI l.length,0) ⟨by simp,by simp[Y0]⟩ ?_ ?_
 ·simp only[List.length_append,kF,<-List.append_assoc];refine GC.mk' [] [0,3] (by simp) rfl (by simp) (by simp) (by(try simp only[go_sem,hm,hmf]);try exact evd) (by(try simp only[go_sem,hm,hmf]);try exact evd)
 rintro⟨acc,i⟩ ⟨h1,h2⟩;dsimp only at h1 h2 ⊢;have hal:=congrArg List.length h2;simp only[Y0,List.length_append]at hal;refine aO hg hv ?_;refine du evd (fun h=>?_) (fun h=>?_)
 ·have hi:i<l.length:=by simpa using h
  have hgd:=fZ (k:=.u64) hi;have hu:=hx.getD hi;rw[Vd hi]at h2 hal;rw[List.length_append]at hal;have ha:=(d7 (l.getD i 0) hu.lo hu.hi).own acc (by omega);have hwi:=ah hi (by omega);refine cZ hgd hg hv ?_;refine bP [1] (ha) evd (bx.mk' (by simp) evd) ?_;refine evg ?_;refine ap hwi ?_;refine⟨(acc++dI (l.getD i 0).toNat,i+1),⟨hi,by simpa using h2⟩,by dsimp only;omega,?_⟩;simp only[List.length_append];refine GC.mk' [] [0,2] (by simp) rfl (by simp) (by simp) (by(try simp only[go_sem,hm,hmf]);try exact evd) (by(try simp only[go_sem,hm,hmf]);try exact evd)
 ·have hi:i=l.length:=by simp at h;omega
  subst hi;rw[List.drop_length,HO,List.append_nil]at h2;rw[<-h2];refine gon ?_;exact af
end Go.Proofs.YtnjdpnfglgcjcaaGreat
