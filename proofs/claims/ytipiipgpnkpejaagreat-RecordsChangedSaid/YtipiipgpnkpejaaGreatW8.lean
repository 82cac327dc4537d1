/-
 My texts Eb, Ec, Ea, Ed, Ee, Ef, Eh, Eg, Ei, joined.
-/
import Derived.Test.YtipiipgpnkpejaaGreatW7
import Derived.Test.YtipiipgpnkpejaaGreatW4
import Derived.Test.YtipiipgpnkpejaaGreatW3
namespace Go.Proofs.YtipiipgpnkpejaaGreat
open Go Go.FH
set_option linter.unusedVariables false
set_option linter.unusedSimpArgs false

abbrev srd (cl:Bool) (p bs:List UInt8) (e:Int):AObj:=.var [.sl 1 cl (bts (p++bs)),.int .i64 p.length,.int .i64 e]

theorem uU_ {p bs:List UInt8}{i:Nat}(h:i<bs.length):(bts (p++bs)).getD (p.length+i) []=[.int .u8 (bs[i].toNat:Int)]:=by
 rw[eS_ (by rw[List.length_append];omega),List.getElem_append_right (by omega)]
 simp only[Nat.add_sub_cancel_left]

theorem rs_ (B:List UInt8) (cl:Bool) (a x:Int):ACall Tryz.prog 120 [.ptr 0 0,.int .i64 x] [.var [.sl 1 cl (bts B),.int .i64 a,.int .i64 0]] (.tup []) [.var [.sl 1 cl (bts B),.int .i64 a,.int .i64 x]]:=by
 refine ACall.fact 4 jk_ (by simp) ?_ (by simp)
 unfold eu_;refine bd ?_
 try refine aa_ ?_
 refine ac_ ?_
 try refine aa_ ?_
 refine finQ [] [0] _ (by simp) (by first | rfl | exact evd) (by simp) rfl (by simp) (by simp) evd evd
theorem eW_ (p bs:List UInt8) (cl:Bool) (x:Int):ACall Tryz.prog 120 [.ptr 0 0,.int .i64 x] [srd cl p bs 0] (.tup []) [srd cl p bs x]:=rs_ _ _ _ _

theorem yz_ (p bs : List UInt8) (cl : Bool) (hb : (p ++ bs).length ≤ 140737488355328) :
   ACall Tryz.prog 119 [.ptr 0 0] [srd cl p bs 0] (.tup [.int .u64 (rnum bs).1,.int .i64 ((p.length+(rnum bs).2.1:Nat):Int)]) [srd cl p bs (rnum bs).2.2]:=by
 refine ACall.fact 10 jN_ (by simp) ?_ (by simp)
 unfold fs_;refine bd ?_
 rw[List.length_append]at hb
 have hr:rnum bs=rnumF (bs.take 10) 0 0:=rfl
 generalize rnum bs=r at *
 try refine aa_ ?_
 refine bm_ (fun x:Nat × Int=>⟨10,[.ptr 0 0,.dead,.int .u64 0,.int .i64 0,.int .u64 x.2,.int .i64 x.1,.dead,.dead,.dead,.dead],[]⟩) (fun _=>[srd cl p bs 0]) (fun x=>10-x.1)
   (fun x=>x.1≤9∧rnumF ((bs.take 10).drop x.1) x.1 x.2=r) (0,0) ⟨by simp,hr.symm⟩ ?_ ?_
 · refine GC.mk' [] [0] (by simp) rfl (by simp) (by simp) evd evd
 rintro⟨i,v⟩ ⟨h1,h2⟩
 dsimp only at h1 h2 ⊢
 have hi10:decide ((i:Int)<10)=true:=by rw[decide_eq_true_eq];omega
 have hwa:IntKind.i64.wrap ((p.length:Int)+(i:Int))=((p.length+i:Nat):Int):=by rw[ah_ (by omega) (by omega)];omega
 repeat(first | refine aa_ ?_ | simp only[go_sem,hi10])
 refine ac_ ?_ (by(try simp only[go_sem,hi10]);try exact evd)
 by_cases hi:i<bs.length
 · have hc : decide (((p.length + bs.length : Nat) : Int) ≤ ((p.length + i : Nat) : Int)) = false := by rw [decide_eq_false_iff_not]; omega
   have hit:i<(bs.take 10).length:=by rw[List.length_take];omega
   have hge:(bs.take 10)[i]=bs[i]:=List.getElem_take
   rw[nK_ hit,hge]at h2
   have hw1:IntKind.i64.wrap (7*(i:Int))=((7*i:Nat):Int):=by rw[ah_ (by omega) (by omega)];omega
   have hw3:IntKind.u64.wrap ((7*i:Nat):Int)=((7*i:Nat):Int):=aB_ (by omega) (by omega)
   have hw2:IntKind.i64.wrap ((i:Int)+1)=((i+1:Nat):Int):=af_ (n:=11) (by omega) (by omega)
   have hw4:IntKind.i64.wrap (((p.length+i:Nat):Int)+1)=((p.length+(i+1):Nat):Int):=by rw[ah_ (by omega) (by omega)];omega
   have hgd:=uU_ (p:=p) hi
   repeat(first | refine aa_ ?_ | simp only[go_sem,hwa,hc])
   refine ab_ ?_ (by(try simp only[go_sem,hc]);try exact evd)
   by_cases hA:i=9∧1<bs[i].toNat
   · have h9':(((i:Nat):Int)==9)=true:=by simp[hA.1]
     have hb':decide ((1:Int)<(bs[i].toNat:Int))=true:=by have:=hA.2;simp;omega
     rw[if_pos hA]at h2
     subst h2
     repeat(first | refine aa_ ?_ | simp only[go_sem,hwa,hgd,h9',hb'])
     refine al_ rfl (fun h=>?_) (fun h=>by cases h)
     try refine aa_ ?_
     refine ocall [0] (eW_ p bs cl 2) evd (Picks.mk' (by simp) evd) ?_;refine evg ?_
     try refine aa_ ?_
     refine finQ [] [0] _ (by simp) (by first | rfl | exact evd) (by simp) rfl (by simp) (by simp) evd evd
   · rw [if_neg hA] at h2
     have hcc:(i=9∧¬ 1<bs[i].toNat)∨i≠9:=by omega
     rcases hcc with⟨h9,hb0⟩ | h9
     all_goals
       first
         | (have h9' : (((i : Nat) : Int) == 9) = true := (by simp [h9])
            have hb':decide ((1:Int)<(bs[i].toNat:Int))=false:=(by simp;omega)
            repeat(first | refine aa_ ?_ | simp only[go_sem,hwa,hgd,h9',hb']))
         | (have h9' : (((i : Nat) : Int) == 9) = false := (by simp; omega)
            repeat(first | refine aa_ ?_ | simp only[go_sem,hwa,hgd,h9']))
       refine al_ rfl (fun h=>by cases h) (fun h=>?_)
       repeat(first | refine aa_ ?_ | simp only[go_sem,hw1,hw3])
       refine al_ evd (fun h=>?_) (fun h=>?_)
       · have hb8:bs[i].toNat<128:=by simp at h;omega
         rw[if_pos hb8]at h2
         by_cases hz:bs[i].toNat=0
         · have hz':((bs[i].toNat:Int)==0)=true:=by simp[hz]
           repeat(first | refine aa_ ?_ | simp only[go_sem,hz'])
           refine al_ evd (fun h=>?_) (fun h=>?_)
           · rw[if_pos ⟨hz,by simpa using h⟩]at h2
             subst h2
             try refine aa_ ?_
             refine ocall [0] (eW_ p bs cl 2) evd (Picks.mk' (by simp) evd) ?_;refine evg ?_
             try refine aa_ ?_
             refine finQ [] [0] _ (by simp) (by first | rfl | exact evd) (by simp) rfl (by simp) (by simp) evd evd
           · rw[if_neg (fun hh=>by have:=hh.2;simp at h;omega)]at h2
             subst h2
             repeat(first | refine aa_ ?_ | simp only[go_sem,hwa,hw4])
             refine finQ [] [0] _ (by simp) (by first | rfl | exact evd) (by simp) rfl (by simp) (by simp) evd evd
         · have hz':((bs[i].toNat:Int)==0)=false:=by simp;omega
           rw[if_neg (fun hh=>hz hh.1)]at h2
           subst h2
           repeat(first | refine aa_ ?_ | simp only[go_sem,hz'])
           refine al_ rfl (fun h=>by cases h) (fun h=>?_)
           repeat(first | refine aa_ ?_ | simp only[go_sem,hwa,hw4])
           refine finQ [] [0] _ (by simp) (by first | rfl | exact evd) (by simp) rfl (by simp) (by simp) evd evd
       · have hb8:¬ bs[i].toNat<128:=by simp at h;omega
         rw[if_neg hb8]at h2
         repeat(first | refine aa_ ?_ | simp only[go_sem,hw2])
         refine⟨(i+1,rstep v bs[i] i),⟨by dsimp only;omega,h2⟩,by dsimp only;omega,?_⟩
         refine GC.mk' [] [0] (by simp) rfl (by simp) (by simp) evd evd
 · have hc:decide (((p.length+bs.length:Nat):Int)≤((p.length+i:Nat):Int))=true:=by rw[decide_eq_true_eq];omega
   have hn:(bs.take 10).drop i=[]:=List.drop_eq_nil_of_le (by rw[List.length_take];omega)
   rw[hn,rnumF]at h2
   subst h2
   repeat(first | refine aa_ ?_ | simp only[go_sem,hwa,hc])
   refine ac_ ?_ (by(try simp only[go_sem,hc]);try exact evd)
   try refine aa_ ?_
   refine ocall [0] (eW_ p bs cl 5) evd (Picks.mk' (by simp) evd) ?_;refine evg ?_
   try refine aa_ ?_
   refine finQ [] [0] _ (by simp) (by first | rfl | exact evd) (by simp) rfl (by simp) (by simp) evd evd

abbrev sro (cl:Bool) (B b:List UInt8) (e:Int):AObj:=.var [.sl 1 cl (bts B),.int .i64 ((B.length-b.length:Nat):Int),.int .i64 e]
theorem wu_ (p b:List UInt8):(p++b).length-b.length=p.length:=by simp
theorem jA_ (cl:Bool) (p b:List UInt8) (e:Int):sro cl (p++b) b e=srd cl p b e:=by rw[sro,wu_]
theorem vp_ (cl:Bool) (p b:List UInt8) (e:Int) {d:Nat}(h:d≤b.length):sro cl (p++b) (b.drop d) e=.var [.sl 1 cl (bts (p++b)),.int .i64 ((p.length+d:Nat):Int),.int .i64 e]:=by
 rw[sro,show (p++b).length-(b.drop d).length=p.length+d by rw[List.length_append,List.length_drop];omega]

theorem bd_ (bs:List UInt8) (e m:Int):(rUint bs e m).2.1 <:+ bs:=by
 unfold rUint
 (repeat' split)<;>first | exact List.suffix_refl _ | exact List.drop_suffix _ _
theorem cc_ (bs:List UInt8) (e:Int):(rRoot bs e).2.1 <:+ bs:=by
 unfold rRoot
 (repeat' split)<;>first | exact List.suffix_refl _ | exact List.drop_suffix _ _

theorem bv_ (B b:List UInt8) (cl:Bool) (e m:Int) (hs:b <:+ B) (hb:B.length≤140737488355328):
   ACall Tryz.prog 87 [.ptr 0 0,.int .u64 m] [sro cl B b e] (.int .u64 (rUint b e m).1) [sro cl B (rUint b e m).2.1 (rUint b e m).2.2]:=by
 obtain⟨p,rfl⟩:=hs
 refine ACall.fact 7 jC_ (by simp) ?_ (by simp)
 have hl:=yn_ b
 unfold eG_ rUint;refine bd ?_
 rw[jA_]
 by_cases he:e=0
 · subst he
   simp only[ne_eq,not_true_eq_false,if_false]
   have hw:=yz_ p b cl hb
   generalize hR:rnum b=R at *
   obtain⟨u,d,x⟩:=R
   dsimp only at hw hl ⊢
   try refine aa_ ?_
   refine ab_ ?_
   try refine aa_ ?_
   refine ocall [0] (hw) evd (Picks.mk' (by simp) evd) ?_;refine evg ?_
   try refine aa_ ?_
   by_cases hx:x=0
   · subst hx
     simp only[if_true]
     refine ab_ ?_
     try refine aa_ ?_
     refine al_ evd (fun h=>?_) (fun h=>?_)
     · have hm:m<u:=by simpa using h
       rw[if_pos hm,jA_]
       try refine aa_ ?_
       refine ocall [0] (eW_ p b cl 3) evd (Picks.mk' (by simp) evd) ?_;refine evg ?_
       try refine aa_ ?_
       refine finQ [] [0] _ (by simp) (by first | rfl | exact evd) (by simp) rfl (by simp) (by simp) evd evd
     · have hm:¬ m<u:=by simpa using h
       rw[if_neg hm,vp_ _ _ _ _ hl]
       try refine aa_ ?_
       refine finQ [] [0] _ (by simp) (by first | rfl | exact evd) (by simp) rfl (by simp) (by simp) evd evd
   · have hx':(x != 0)=true:=by simpa using hx
     rw[if_neg hx,jA_]
     refine ac_ ?_ (by(try simp only[go_sem,hx']);try exact evd)
     try refine aa_ ?_
     refine finQ [] [0] _ (by simp) (by first | rfl | exact evd) (by simp) rfl (by simp) (by simp) evd evd
 · have he':(e != 0)=true:=by simpa using he
   simp only[ne_eq,he,not_false_eq_true,if_true]
   rw[jA_]
   try refine aa_ ?_
   refine ac_ ?_ (by(try simp only[go_sem,he']);try exact evd)
   try refine aa_ ?_
   refine finQ [] [0] _ (by simp) (by first | rfl | exact evd) (by simp) rfl (by simp) (by simp) evd evd

def rTake (b:List UInt8) (e:Int) (n:Nat):List UInt8 × List UInt8 × Int:=if e≠0 then ([],b,e)else if b.length<n then ([],b,5)else (b.take n,b.drop n,0)
theorem nT_ (B b:List UInt8) (e:Int) (n:Nat) (hs:b <:+ B) (hb:B.length≤140737488355328) (hn:n≤140737488355328):
   ACall Tryz.prog 121 [.ptr 0 0,.int .i64 n] [sro false B b e] (.sl 1 false (bts (rTake b e n).1)) [sro false B (rTake b e n).2.1 (rTake b e n).2.2]:=by
 obtain⟨p,rfl⟩:=hs
 refine ACall.fact 6 jp_ (by simp) ?_ (by simp)
 unfold eH_ rTake;refine bd ?_
 rw[jA_]
 rw[List.length_append]at hb
 by_cases he:e=0
 · subst he
   simp only[ne_eq,not_true_eq_false,if_false]
   have hw1:IntKind.i64.wrap (((p.length+b.length:Nat):Int)-(p.length:Int))=(b.length:Int):=by rw[ah_ (by omega) (by omega)];omega
   have hw2:IntKind.i64.wrap ((p.length:Int)+(n:Int))=((p.length+n:Nat):Int):=by rw[ah_ (by omega) (by omega)];omega
   try refine aa_ ?_
   refine ab_ ?_
   repeat(first | refine aa_ ?_ | simp only[go_sem,hw1])
   refine al_ evd (fun h=>?_) (fun h=>?_)
   · have hm:b.length<n:=by simp at h;omega
     rw[if_pos hm,jA_]
     try refine aa_ ?_
     refine ocall [0] (eW_ p b false 5) evd (Picks.mk' (by simp) evd) ?_;refine evg ?_
     try refine aa_ ?_
     refine finQw [] [0] _ (by simp) (by first | rfl | exact evd) (by simp) rfl (by simp) (by simp) evd evd (Wk.empty 0 1 _)
   · have hm:¬ b.length<n:=by simp at h;omega
     rw[if_neg hm,vp_ _ _ _ _ (by omega)]
     have e1:List.take (p.length+n-p.length) (List.drop p.length (p++b))=List.take n b:=by rw[List.drop_left,Nat.add_sub_cancel_left]
     repeat(first | refine aa_ ?_ | simp only[go_sem,hw2,e1])
     refine finQ [] [0] _ (by simp) (by first | rfl | exact evd) (by simp) rfl (by simp) (by simp) evd evd
 · have he':(e != 0)=true:=by simpa using he
   simp only[ne_eq,he,not_false_eq_true,if_true]
   rw[jA_]
   try refine aa_ ?_
   refine ac_ ?_ (by(try simp only[go_sem,he']);try exact evd)
   try refine aa_ ?_
   refine finQw [] [0] _ (by simp) (by first | rfl | exact evd) (by simp) rfl (by simp) (by simp) evd evd (Wk.empty 0 1 _)

theorem wk_ (B b:List UInt8) (e:Int) (hs:b <:+ B) (hb:B.length≤140737488355328):
   ACall Tryz.prog 118 [.ptr 0 0] [sro false B b e] (.bool (rBool b e).1) [sro false B (rBool b e).2.1 (rBool b e).2.2]:=by
 refine ACall.fact 5 jI_ (by simp) ?_ (by simp)
 have ht:=nT_ B b e 1 hs hb (by omega)
 unfold eC_ rBool;refine bd ?_
 unfold rTake at ht
 simp only[sro]at ht ⊢
 by_cases he:e=0
 · subst he
   simp only[ne_eq,not_true_eq_false,if_false]at ht ⊢
   cases b with
   | nil =>
     simp only[List.length_nil,Nat.zero_lt_one,if_true]at ht ⊢
     try refine aa_ ?_
     refine ocall [0] (ht) evd (Picks.mk' (by simp) evd) ?_;refine evg ?_
     try refine aa_ ?_
     refine ac_ ?_
     try refine aa_ ?_
     refine finQ [] [0] _ (by simp) (by first | rfl | exact evd) (by simp) rfl (by simp) (by simp) evd evd
   | cons x r =>
     rw[if_neg (by simp)]at ht
     have e1:(x::r).take 1=[x]:=rfl
     have e2:(x::r).drop 1=r:=rfl
     rw[e1,e2]at ht
     dsimp only at ht ⊢
     have h0:0 < [x].length:=by simp
     have hg:=eS_ h0
     rw[List.getElem_cons_zero]at hg
     by_cases h1:1<x.toNat
     · have h1':decide ((1:Int)<(x.toNat:Int))=true:=by rw[decide_eq_true_eq];omega
       rw[if_pos h1]
       dsimp only
       generalize ((B.length-(x::r).length:Nat):Int)=A at *
       try refine aa_ ?_
       refine ocall [0] (ht) evd (Picks.mk' (by simp) evd) ?_;refine evg ?_
       try refine aa_ ?_
       refine ab_ ?_
       repeat(first | refine aa_ ?_ | simp only[go_sem,hg])
       refine ac_ ?_ (by(try simp only[go_sem,h1']);try exact evd)
       try refine aa_ ?_
       refine ocall [0] (rs_ B false A 2) evd (Picks.mk' (by simp) evd) ?_;refine evg ?_
       try refine aa_ ?_
       refine finQ [] [0] _ (by simp) (by first | rfl | exact evd) (by simp) rfl (by simp) (by simp) evd evd
     · have h1':decide ((1:Int)<(x.toNat:Int))=false:=by rw[decide_eq_false_iff_not];omega
       rw[if_neg h1]
       dsimp only
       generalize ((B.length-(x::r).length:Nat):Int)=A at *
       try refine aa_ ?_
       refine ocall [0] (ht) evd (Picks.mk' (by simp) evd) ?_;refine evg ?_
       try refine aa_ ?_
       refine ab_ ?_
       repeat(first | refine aa_ ?_ | simp only[go_sem,hg])
       refine ab_ ?_ (by(try simp only[go_sem,h1']);try exact evd)
       repeat(first | refine aa_ ?_ | simp only[go_sem,hg])
       refine finQ [] [0] _ (by simp) (by first | rfl | exact evd) (by simp) rfl (by simp) (by simp) evd evd
 · have he':(e != 0)=true:=by simpa using he
   simp only[ne_eq,he,not_false_eq_true,if_true]at ht ⊢
   try refine aa_ ?_
   refine ocall [0] (ht) evd (Picks.mk' (by simp) evd) ?_;refine evg ?_
   try refine aa_ ?_
   refine ac_ ?_ (by(try simp only[go_sem,he']);try exact evd)
   try refine aa_ ?_
   refine finQ [] [0] _ (by simp) (by first | rfl | exact evd) (by simp) rfl (by simp) (by simp) evd evd

theorem mM_ (b:Rt):PC Tryz.prog 141 [.agg (rtc b)] (.agg (wdc (wof b))):=by
 refine PC.fact 5 lo_ (by simp) ⟨bg_ b,trivial⟩ (xo_ (cI_ _)) ?_
 unfold fW_;refine bd ?_
 try refine aa_ ?_
 refine bM_ (fun i:Nat=>⟨5,[.agg (rtc b),.ptr 0 0,.ptr 1 0,.ptr 2 0,.int .i64 i],[]⟩) (fun i=>[.var (rtc b),.var (wdc wd0),.var (wdc (wfold b i))]) (fun i=>32-i) (fun i=>i≤32) [] 0 (by omega) evd (by rw[xY_]) ?_
 intro i hi
 try dsimp only
 try refine aa_ ?_
 refine al_ evd (fun h=>?_) (fun h=>?_)
 · have h1:i<32:=by simp at h;omega
   have s1:∀ x:Int,spl (wdc (wfold b i)) (i / 8) [.int .u64 x]=wdc ((wfold b i).set (i / 8) x):=fun x=>dy_ _ (by omega) x
   repeat(first | refine aa_ ?_ | simp only[go_sem,Nat.mul_one,ix1 h1,ix2 h1,ix3 i,ix4 i,ix5 h1,ix6 i,ix7,nk_ (wfold b i) (show i / 8<4 by omega),uW_ b (show 31-i<32 by omega),s1])
   exact⟨i+1,h1,by omega,rfl,by rw[yc_];rfl⟩
 · have h1:i=32:=by simp at h;omega
   subst h1
   try refine aa_ ?_
   exact fin0

def cpyR (t:List UInt8) (k:Nat):Rt:=if h:k=0 then rt0 else (cpyR t (k-1)).set (k-1) (t.getD (k-1) 0)
termination_by k
decreasing_by omega
theorem Bd_ (t:List UInt8):cpyR t 0=rt0:=by rw[cpyR,dif_pos rfl]
theorem CL_ (t:List UInt8) (i:Nat):cpyR t (i+1)=(cpyR t i).set i (t.getD i 0):=by rw[cpyR,dif_neg (by omega)];rfl
theorem vX_ (t:List UInt8):∀ (k i:Nat),k≤32→i<k→(cpyR t k).1.getD i 0=t.getD i 0
 | 0,i,_,h=>by omega
 | k + 1, i, hk, h => by
   have hl:=(cpyR t k).2
   simp only[CL_,Rt.set,List.getD_eq_getElem?_getD,List.getElem?_set]
   by_cases hi:i=k
   · subst hi
     rw[if_pos rfl,if_pos (by omega)];rfl
   · rw[if_neg (by omega)]
     have:=vX_ t k i (by omega) (by omega)
     rwa [List.getD_eq_getElem?_getD,List.getD_eq_getElem?_getD]at this
theorem Cd_ (t:List UInt8) (h:t.length=32):cpyR t 32=mkRt t:=by
 apply Subtype.ext
 rw[vP_ h]
 have h1:=(cpyR t 32).2
 apply List.ext_getElem (by omega)
 intro i hi1 hi2
 have:=vX_ t 32 i (by omega) (by omega)
 rwa [List.getD_eq_getElem?_getD,List.getElem?_eq_getElem hi1,List.getD_eq_getElem?_getD,List.getElem?_eq_getElem hi2]at this

theorem bR_ (B b:List UInt8) (e:Int) (hs:b <:+ B) (hb:B.length≤140737488355328):
   ACall Tryz.prog 88 [.ptr 0 0] [sro false B b e] (.agg (rtc (rRoot b e).1)) [sro false B (rRoot b e).2.1 (rRoot b e).2.2]:=by
 refine ACall.fact 6 jF_ (by simp) ?_ (by simp)
 have ht:=nT_ B b e 32 hs hb (by omega)
 have key:rRoot b e=(if (rTake b e 32).1=[]then rt0 else mkRt (rTake b e 32).1,(rTake b e 32).2)∧((rTake b e 32).1=[]∨(rTake b e 32).1.length=32):=by
   unfold rRoot rTake
   by_cases he:e=0
   · by_cases hl:b.length<32
     · simp[he,hl]
     · have:b.take 32≠[]:=fun h=>by have:=congrArg List.length h;rw[List.length_take]at this;simp only[List.length_nil]at this;omega
       simp only[he,hl,ne_eq,not_true_eq_false,if_false,this,false_or,true_and]
       rw[List.length_take];omega
   · simp[he]
 obtain⟨k1,k2⟩:=key
 rw[k1]
 generalize rTake b e 32=T at *
 obtain⟨t,b2,e2⟩:=T
 dsimp only at ht k2 ⊢
 simp only[sro]at ht ⊢
 generalize ((B.length-b.length:Nat):Int)=A at *
 generalize ((B.length-b2.length:Nat):Int)=A2 at *
 unfold eM_;refine bd ?_
 try refine aa_ ?_
 refine ocall [0] (ht) evd (Picks.mk' (by simp) evd) ?_;refine evg ?_
 try refine aa_ ?_
 have hk:t.length≤32:=by
   rcases k2 with h | h
   · rw[h];simp
   · omega
 refine bM_ (fun i:Nat=>⟨6,[.ptr 0 0,.dead,.ptr 1 0,.ptr 2 0,.sl 1 false (bts t),.int .i64 i],[]⟩) (fun i=>[.var [.sl 1 false (bts B),.int .i64 A2,.int .i64 e2],.var (rtc rt0),.var (rtc (cpyR t i))]) (fun i=>t.length-i) (fun i=>i≤t.length) [] 0 (by omega) evd (by rw[Bd_]) ?_
 intro i hi
 try dsimp only
 try refine aa_ ?_
 refine al_ evd (fun h=>?_) (fun h=>?_)
 · have h1:i<t.length:=by simp at h;omega
   have hgd:(bts t).getD i []=[.int .u8 ((t.getD i 0).toNat:Int)]:=by rw[eS_ h1,List.getD_eq_getElem?_getD,List.getElem?_eq_getElem h1];rfl
   have s1:∀ b:UInt8,spl (rtc (cpyR t i)) i [.int .u8 b.toNat]=rtc ((cpyR t i).set i b):=fun b=>ki_ _ (by omega) b
   have hw:=af_ h1 (by omega)
   repeat(first | refine aa_ ?_ | simp only[go_sem,Nat.mul_one,hgd,s1,hw])
   exact⟨i+1,h1,by omega,rfl,by rw[CL_]⟩
 · have h1:i=t.length:=by simp at h;omega
   subst h1
   have hf:cpyR t t.length=if t=[]then rt0 else mkRt t:=by
     rcases k2 with h | h
     · subst h;rw[if_pos rfl];exact Bd_ _
     · rw[if_neg (fun hh=>by rw[hh]at h;cases h),h];exact Cd_ t h
   rw[← hf]
   try refine aa_ ?_
   refine finQ [] [0] _ (by simp) (by first | rfl | exact evd) (by simp) rfl (by simp) (by simp) evd evd

theorem on_ (B b:List UInt8) (e:Int) (hs:b <:+ B) (hb:B.length≤140737488355328):
   ACall Tryz.prog 117 [.ptr 0 0] [sro false B b e] (.agg (wdc (rWide b e).1)) [sro false B (rWide b e).2.1 (rWide b e).2.2]:=by
 refine ACall.fact 4 jw_ (by simp) ?_ (by simp)
 have ht:=bR_ B b e hs hb
 unfold et_ rWide;refine bd ?_
 generalize rRoot b e=T at *
 obtain⟨t,b2,e2⟩:=T
 dsimp only at ht ⊢
 simp only[sro]at ht ⊢
 generalize ((B.length-b.length:Nat):Int)=A at *
 generalize ((B.length-b2.length:Nat):Int)=A2 at *
 try refine aa_ ?_
 refine ocall [0] (ht) evd (Picks.mk' (by simp) evd) ?_;refine evg ?_
 try refine aa_ ?_
 refine pcall (mM_ _) ?_
 try refine aa_ ?_
 refine finQ [] [0] _ (by simp) (by first | rfl | exact evd) (by simp) rfl (by simp) (by simp) evd evd

theorem hE_ (B b:List UInt8) (e:Int) (hs:b <:+ B) (hb:B.length≤140737488355328):
   ACall Tryz.prog 89 [.ptr 0 0] [sro false B b e] (.agg (cpC (rCp b e).1)) [sro false B (rCp b e).2.1 (rCp b e).2.2]:=by
 refine ACall.fact 6 fu_ (by simp) ?_ (by simp)
 have hu:=bv_ B b false e maxU hs hb
 have h1:=bd_ b e maxU
 have hr:=bR_ B _ (rUint b e maxU).2.2 (h1.trans hs) hb
 unfold cz_ rCp;refine bd ?_
 generalize rUint b e maxU=U at *
 obtain⟨u,b1,e1⟩:=U
 dsimp only at hu hr h1 ⊢
 generalize rRoot b1 e1=R at *
 obtain⟨r,b2,e2⟩:=R
 dsimp only at hr ⊢
 simp only[sro]at hu hr ⊢
 by_cases he:e2=0
 · subst he
   simp only[ne_eq,not_true_eq_false,if_false]
   generalize ((B.length-b.length:Nat):Int)=A at *
   generalize ((B.length-b1.length:Nat):Int)=A1 at *
   generalize ((B.length-b2.length:Nat):Int)=A2 at *
   try refine aa_ ?_
   refine ocall [0] (hu) evd (Picks.mk' (by simp) evd) ?_;refine evg ?_
   try refine aa_ ?_
   refine ocall [0] (hr) evd (Picks.mk' (by simp) evd) ?_;refine evg ?_
   try refine aa_ ?_
   refine ab_ ?_
   try refine aa_ ?_
   refine finQ [] [0] _ (by simp) (by first | rfl | exact evd) (by simp) rfl (by simp) (by simp) evd evd
 · have he':(e2 != 0)=true:=by simpa using he
   simp only[ne_eq,he,not_false_eq_true,if_true]
   generalize ((B.length-b.length:Nat):Int)=A at *
   generalize ((B.length-b1.length:Nat):Int)=A1 at *
   generalize ((B.length-b2.length:Nat):Int)=A2 at *
   try refine aa_ ?_
   refine ocall [0] (hu) evd (Picks.mk' (by simp) evd) ?_;refine evg ?_
   try refine aa_ ?_
   refine ocall [0] (hr) evd (Picks.mk' (by simp) evd) ?_;refine evg ?_
   try refine aa_ ?_
   refine ac_ ?_ (by(try simp only[go_sem,he']);try exact evd)
   try refine aa_ ?_
   refine finQ [] [0] _ (by simp) (by first | rfl | exact evd) (by simp) rfl (by simp) (by simp) evd evd

def vFrom (l:List Int) (n:Int) (i:Nat):Int:=
 if i<l.length then (if l.getD i 0<0∨n≤l.getD i 0 then 3 else if 0<i∧l.getD i 0≤l.getD (i-1) 0 then 8 else vFrom l n (i+1))else 0
termination_by l.length-i
def vErr (l:List Int) (n:Int):Int:=if l=[]then 2 else vFrom l n 0
theorem cM_ {l:List Int}{n:Int}{i:Nat}(h:i<l.length):vFrom l n i=if l.getD i 0<0∨n≤l.getD i 0 then 3 else if 0<i∧l.getD i 0≤l.getD (i-1) 0 then 8 else vFrom l n (i+1):=by
 rw[vFrom,if_pos h]
theorem il_ {l:List Int}{n:Int}{i:Nat}(h:¬ i<l.length):vFrom l n i=0:=by rw[vFrom,if_neg h]
def dstep (l:List Int) (i:Nat):Int:=if i=0 then l.getD 0 0 else l.getD i 0-(l.getD (i-1) 0+1)
def lFrom (l:List Int) (i:Nat):List UInt8:=if i<l.length then uenc (dstep l i).toNat++lFrom l (i+1)else []
termination_by l.length-i
theorem cK_ {l:List Int}{i:Nat}(h:i<l.length):lFrom l i=uenc (dstep l i).toNat++lFrom l (i+1):=by rw[lFrom,if_pos h]
theorem hY_ {l:List Int}{i:Nat}(h:¬ i<l.length):lFrom l i=[]:=by rw[lFrom,if_neg h]
theorem lw_ (l:List Int) (i:Nat) (hi:i≤l.length):l.length-i≤(lFrom l i).length:=by
 by_cases h:i<l.length
 · rw[cK_ h,List.length_append]
   have:=lw_ l (i+1) h
   have:=CX_ (dstep l i).toNat
   omega
 · omega
termination_by l.length-i
def lenc (l:List Int):List UInt8:=uenc l.length++lFrom l 0

theorem vT_ {l:List Int}{n:Int}:∀ (k i:Nat),l.length-i=k→vFrom l n i=0→∀ j,i≤j→j<l.length→0≤l.getD j 0∧l.getD j 0<n∧(0<j→l.getD (j-1) 0<l.getD j 0)
 | 0,i,hk,h,j,h1,h2=>by omega
 | k + 1, i, hk, h, j, h1, h2 => by
   rw[cM_ (by omega)]at h
   split at h
   · cases h
   · rename_i ha
     split at h
     · cases h
     · rename_i hb
       by_cases hj:j=i
       · subst hj
         refine⟨by omega,by omega,fun h0=>?_⟩
         have:=not_and.1 hb h0
         omega
       · exact vT_ k (i+1) (by omega) h j (by omega) h2
theorem dd_ {l:List Int}{n:Int}(h:vErr l n=0):l≠[]∧∀ j,j<l.length→0≤l.getD j 0∧l.getD j 0<n∧(0<j→l.getD (j-1) 0<l.getD j 0):=by
 unfold vErr at h
 split at h
 · cases h
 · rename_i h0
   exact⟨h0,fun j hj=>vT_ _ 0 rfl h j (by omega) hj⟩
theorem ly_ {l:List Int}{n:Int}(h:vErr l n=0) {j:Nat}(hj:j<l.length):0≤dstep l j∧dstep l j<n:=by
 have h1:=(dd_ h).2 j hj
 unfold dstep
 split
 · subst_vars;exact⟨h1.1,h1.2.1⟩
 · have h2:=h1.2.2 (by omega)
   have h3:=(dd_ h).2 (j-1) (by omega)
   omega

def rLst:Nat→Int→List Int→List UInt8→Int→List Int × List UInt8 × Int
 | 0,_,acc,bs,e=>(acc,bs,e)
 | n+1,last,acc,bs,e=>if e≠0 then (acc,bs,e)else rLst n (last+1+(rUint bs e 1024).1) (acc++[last+1+(rUint bs e 1024).1]) (rUint bs e 1024).2.1 (rUint bs e 1024).2.2
def rList (bs:List UInt8) (e:Int):List Int × List UInt8 × Int:=rLst (rUint bs e 1024).1.toNat (-1) [] (rUint bs e 1024).2.1 (rUint bs e 1024).2.2

theorem uK_:∀ (n:Nat) (last:Int) (acc:List Int) (bs:List UInt8) (e:Int),(rLst n last acc bs e).2.1.length≤bs.length
 | 0,_,_,bs,_=>Nat.le_refl _
 | n + 1, last, acc, bs, e => by
   rw[rLst]
   split
   · exact Nat.le_refl _
   · exact Nat.le_trans (uK_ _ _ _ _ _) (bf_ bs e 1024)
theorem qN_ (bs:List UInt8) (e:Int):(rList bs e).2.1.length≤bs.length:=Nat.le_trans (uK_ _ _ _ _ _) (bf_ bs e 1024)

def nenc:List Int→List UInt8
 | []=>[]
 | x::l=>uenc x.toNat++nenc l
def rNums:Nat→List Int→List UInt8→Int→List Int × List UInt8 × Int
 | 0,acc,bs,e=>(acc,bs,e)
 | n+1,acc,bs,e=>if e≠0 then (acc,bs,e)else rNums n (acc++[(rUint bs e maxU).1]) (rUint bs e maxU).2.1 (rUint bs e maxU).2.2

theorem bK_ {k:IntKind}{ns:List Int}{i:Nat}(h:i<ns.length):(nums k ns).getD i []=[.int k (ns.getD i 0)]:=by
 rw[zf_ h,List.getD_eq_getElem?_getD,List.getElem?_eq_getElem h];rfl

theorem oH_ (l:List Int) (cl:Bool) (n:Int) (hb:l.length≤140737488355328):PC Tryz.prog 74 [.sl 1 cl (nums .i64 l),.int .i64 n] (.int .i64 (vErr l n)):=by
 refine PC.fact 13 gk_ (by simp) ⟨aw_ .i64 l,trivial,trivial⟩ trivial ?_
 unfold cW_ vErr;refine bd ?_
 by_cases h0:l=[]
 · subst h0
   rw[if_pos rfl]
   try refine aa_ ?_
   refine ac_ ?_
   try refine aa_ ?_
   exact fin0
 rw[if_neg h0]
 have hl:0<l.length:=List.length_pos_iff.2 h0
 have hl':((l.length:Int)==0)=false:=by simp;omega
 repeat(first | refine aa_ ?_ | simp only[go_sem,hl'])
 refine ab_ ?_ (by(try simp only[go_sem,hl']);try exact evd)
 try refine aa_ ?_
 refine bM_ (fun i:Nat=>⟨13,[.sl 1 cl (nums .i64 l),.int .i64 n,.dead,.dead,.int .i64 0,.dead,.dead,.dead,.dead,.dead,.sl 1 cl (nums .i64 l),.int .i64 l.length,.int .i64 i],[]⟩) (fun _=>[]) (fun i=>l.length-i) (fun i=>i≤l.length∧vFrom l n i=vFrom l n 0) [5,6,7,8,9] 0 ⟨by omega,rfl⟩ evd rfl ?_
 rintro i ⟨hi,hv⟩
 try dsimp only
 try refine aa_ ?_
 refine al_ evd (fun h=>?_) (fun h=>?_)
 · have h1:i<l.length:=by simp at h;omega
   have hg:=bK_ (k:=.i64) h1
   have hi':((i:Int)+1)=((i+1:Nat):Int):=by omega
   have hw:=af_ h1 (by omega)
   rw[cM_ h1]at hv
   generalize hx:l.getD i 0=x at *
   by_cases hA:x<0∨n≤x
   · rw[if_pos hA]at hv
     rw[← hv]
     by_cases hx0:x<0
     · have hx0':decide (x<0)=true:=by simpa using hx0
       repeat(first | refine aa_ ?_ | simp only[go_sem,hg,hx0'])
       refine ac_ ?_
       try refine aa_ ?_
       exact fin0
     · have hx0':decide (x<0)=false:=by simpa using hx0
       have hx1:decide (n≤x)=true:=by rw[decide_eq_true_eq];omega
       repeat(first | refine aa_ ?_ | simp only[go_sem,hg,hx0',hx1])
       refine ac_ ?_
       try refine aa_ ?_
       exact fin0
   · rw [if_neg hA] at hv
     have hx0':decide (x<0)=false:=by rw[decide_eq_false_iff_not];omega
     have hx1:decide (n≤x)=false:=by rw[decide_eq_false_iff_not];omega
     repeat(first | refine aa_ ?_ | simp only[go_sem,hg,hx0',hx1])
     refine ab_ ?_
     by_cases hp:0<i
     · have hp':decide ((0:Int)<(i:Int))=true:=by rw[decide_eq_true_eq];omega
       have hw1:IntKind.i64.wrap ((i:Int)-1)=((i-1:Nat):Int):=by rw[ah_ (by omega) (by omega)];omega
       have hg2:=bK_ (k:=.i64) (show i-1<l.length by omega)
       by_cases hB:x≤l.getD (i-1) 0
       · have hB':decide (x≤l.getD (i-1) 0)=true:=by simpa using hB
         rw[if_pos ⟨hp,hB⟩]at hv
         rw[← hv]
         repeat(first | refine aa_ ?_ | simp only[go_sem,hg,hp',hw1,hg2,hB'])
         refine ac_ ?_
         try refine aa_ ?_
         exact fin0
       · have hB':decide (x≤l.getD (i-1) 0)=false:=by simpa using hB
         rw[if_neg (fun hh=>hB hh.2)]at hv
         repeat(first | refine aa_ ?_ | simp only[go_sem,hg,hp',hw1,hg2,hB'])
         refine ab_ ?_
         repeat(first | refine aa_ ?_ | simp only[go_sem,hw])
         exact⟨i+1,⟨h1,hv⟩,by omega,rfl⟩
     · have hp':decide ((0:Int)<(i:Int))=false:=by rw[decide_eq_false_iff_not];omega
       rw[if_neg (fun hh=>hp hh.1)]at hv
       repeat(first | refine aa_ ?_ | simp only[go_sem,hp'])
       refine ab_ ?_
       repeat(first | refine aa_ ?_ | simp only[go_sem,hw])
       exact⟨i+1,⟨h1,hv⟩,by omega,rfl⟩
 · have h1:i=l.length:=by simp at h;omega
   subst h1
   rw[← hv,il_ (by omega)]
   try refine aa_ ?_
   exact fin0

theorem ch_ (l:List Int) (cl:Bool) (n:Int) (hb:l.length≤140737488355328):PC Tryz.prog 39 [.sl 1 cl (nums .i64 l),.int .i64 n] (.int .i64 (vErr l n)):=by
 refine PC.fact 6 iw_ (by simp) ⟨aw_ .i64 l,trivial,trivial⟩ trivial ?_
 unfold dU_ vErr;refine bd ?_
 by_cases h0:l=[]
 · subst h0
   rw[if_pos rfl]
   try refine aa_ ?_
   refine ac_ ?_
   try refine aa_ ?_
   exact fin0
 rw[if_neg h0]
 have hl:0<l.length:=List.length_pos_iff.2 h0
 have hl':((l.length:Int)==0)=false:=by simp;omega
 repeat(first | refine aa_ ?_ | simp only[go_sem,hl'])
 refine ab_ ?_ (by(try simp only[go_sem,hl']);try exact evd)
 try refine aa_ ?_
 refine bM_ (fun i:Nat=>⟨6,[.sl 1 cl (nums .i64 l),.int .i64 n,.dead,.dead,.int .i64 0,.int .i64 i],[]⟩) (fun _=>[]) (fun i=>l.length-i) (fun i=>i≤l.length∧vFrom l n i=vFrom l n 0) [] 0 ⟨by omega,rfl⟩ evd rfl ?_
 rintro i ⟨hi,hv⟩
 try dsimp only
 try refine aa_ ?_
 refine al_ evd (fun h=>?_) (fun h=>?_)
 · have h1:i<l.length:=by simp at h;omega
   have hg:=bK_ (k:=.i64) h1
   have hi':((i:Int)+1)=((i+1:Nat):Int):=by omega
   have hw:=af_ h1 (by omega)
   rw[cM_ h1]at hv
   generalize hx:l.getD i 0=x at *
   by_cases hA:x<0∨n≤x
   · rw[if_pos hA]at hv
     rw[← hv]
     by_cases hx0:x<0
     · have hx0':decide (x<0)=true:=by simpa using hx0
       repeat(first | refine aa_ ?_ | simp only[go_sem,hg,hx0'])
       refine ac_ ?_
       try refine aa_ ?_
       exact fin0
     · have hx0':decide (x<0)=false:=by simpa using hx0
       have hx1:decide (n≤x)=true:=by rw[decide_eq_true_eq];omega
       repeat(first | refine aa_ ?_ | simp only[go_sem,hg,hx0',hx1])
       refine ac_ ?_
       try refine aa_ ?_
       exact fin0
   · rw [if_neg hA] at hv
     have hx0':decide (x<0)=false:=by rw[decide_eq_false_iff_not];omega
     have hx1:decide (n≤x)=false:=by rw[decide_eq_false_iff_not];omega
     repeat(first | refine aa_ ?_ | simp only[go_sem,hg,hx0',hx1])
     refine ab_ ?_
     by_cases hp:0<i
     · have hp':decide ((0:Int)<(i:Int))=true:=by rw[decide_eq_true_eq];omega
       have hw1:IntKind.i64.wrap ((i:Int)-1)=((i-1:Nat):Int):=by rw[ah_ (by omega) (by omega)];omega
       have hg2:=bK_ (k:=.i64) (show i-1<l.length by omega)
       by_cases hB:x≤l.getD (i-1) 0
       · have hB':decide (x≤l.getD (i-1) 0)=true:=by simpa using hB
         rw[if_pos ⟨hp,hB⟩]at hv
         rw[← hv]
         repeat(first | refine aa_ ?_ | simp only[go_sem,hg,hp',hw1,hg2,hB'])
         refine ac_ ?_
         try refine aa_ ?_
         exact fin0
       · have hB':decide (x≤l.getD (i-1) 0)=false:=by simpa using hB
         rw[if_neg (fun hh=>hB hh.2)]at hv
         repeat(first | refine aa_ ?_ | simp only[go_sem,hg,hp',hw1,hg2,hB'])
         refine ab_ ?_
         repeat(first | refine aa_ ?_ | simp only[go_sem,hw])
         exact⟨i+1,⟨h1,hv⟩,by omega,rfl⟩
     · have hp':decide ((0:Int)<(i:Int))=false:=by rw[decide_eq_false_iff_not];omega
       rw[if_neg (fun hh=>hp hh.1)]at hv
       repeat(first | refine aa_ ?_ | simp only[go_sem,hp'])
       refine ab_ ?_
       repeat(first | refine aa_ ?_ | simp only[go_sem,hw])
       exact⟨i+1,⟨h1,hv⟩,by omega,rfl⟩
 · have h1:i=l.length:=by simp at h;omega
   subst h1
   rw[← hv,il_ (by omega)]
   try refine aa_ ?_
   exact fin0

def AppO (f:FuncId) (xs:List AV) (e:List UInt8):Prop:=∀ bs:List UInt8,bs.length+e.length≤140737488355328→ACall Tryz.prog f (.hs 1 0 0 bs.length::xs) [.vec 1 (bts bs)] (.hs 1 1 0 (bs.length+e.length)) [.gone,.vec 1 (bts (bs++e))]

theorem ze_ (l:List Int) (cl:Bool) (hv:vErr l 1024=0):AppO 76 [.sl 1 cl (nums .i64 l)] (lenc l):=by
 intro bs hb
 refine ACall.fact 15 hA_ (by simp) ?_ (by simp)
 unfold dD_;refine bd ?_
 have hl:(lenc l).length=(uenc l.length).length+(lFrom l 0).length:=by rw[lenc,List.length_append]
 have hll:l.length≤(lFrom l 0).length:=lw_ l 0 (by omega)
 have hu:=(ge_ (l.length:Int) (by omega) (by omega)).own bs (by rw[Int.toNat_natCast];omega)
 rw[Int.toNat_natCast]at hu
 have hw0:IntKind.u64.wrap (l.length:Int)=(l.length:Int):=aB_ (by omega) (by omega)
 repeat(first | refine aa_ ?_ | simp only[go_sem,hw0])
 refine ocall [0] (hu) evd (Picks.mk' (by simp) evd) ?_;refine evg ?_
 try refine aa_ ?_
 refine bm_ (fun x:List UInt8 × Nat=>⟨15,[.hs 1 1 0 x.1.length,.sl 1 cl (nums .i64 l),.dead,.dead,.sl 0 true [],.dead,.dead,.dead,.dead,.dead,.dead,.dead,.sl 1 cl (nums .i64 l),.int .i64 l.length,.int .i64 x.2],[]⟩)
   (fun x=>[.gone,.vec 1 (bts x.1)]) (fun x=>l.length-x.2) (fun x=>x.2≤l.length∧x.1++lFrom l x.2=bs++lenc l) (bs++uenc l.length,0) ⟨by simp,by simp[lenc]⟩ ?_ ?_
 · simp only[List.length_append]
   refine GC.mk' [] [0,1] (by simp) rfl (by simp) (by simp) evd evd
 rintro⟨acc,i⟩ ⟨h1,h2⟩
 dsimp only at h1 h2 ⊢
 have hal:acc.length+(lFrom l i).length=bs.length+(lenc l).length:=by simpa using congrArg List.length h2
 try refine aa_ ?_
 refine al_ evd (fun h=>?_) (fun h=>?_)
 · have hi:i<l.length:=by simpa using h
   have hg:=bK_ (k:=.i64) hi
   have hd:=ly_ hv hi
   have hi0:=(dd_ hv).2 i hi
   rw[cK_ hi]at h2 hal
   rw[List.length_append]at hal
   have ha:=(ge_ (dstep l i) hd.1 (by omega)).own acc (by omega)
   have hw:=af_ hi (by omega)
   have hwd:IntKind.u64.wrap (dstep l i)=dstep l i:=aB_ (by omega) (by omega)
   by_cases hp:0<i
   · have hp':decide ((0:Int)<(i:Int))=true:=by rw[decide_eq_true_eq];omega
     have hi1:=(dd_ hv).2 (i-1) (by omega)
     have hw1:IntKind.i64.wrap ((i:Int)-1)=((i-1:Nat):Int):=by rw[ah_ (by omega) (by omega)];omega
     have hg2:=bK_ (k:=.i64) (show i-1<l.length by omega)
     have hw2:IntKind.i64.wrap (l.getD (i-1) 0+1)=l.getD (i-1) 0+1:=ah_ (by omega) (by omega)
     have hw3:IntKind.i64.wrap (l.getD i 0-(l.getD (i-1) 0+1))=dstep l i:=by rw[dstep,if_neg (by omega),ah_ (by omega) (by omega)]
     repeat(first | refine aa_ ?_ | simp only[go_sem,hg,hp'])
     refine ac_ ?_ (by(try simp only[go_sem,hp']);try exact evd)
     repeat(first | refine aa_ ?_ | simp only[go_sem,hw1,hg2,hw2,hw3,hwd])
     refine ocall [1] (ha) evd (Picks.mk' (by simp) evd) ?_;refine evg ?_
     repeat(first | refine aa_ ?_ | simp only[go_sem,hw])
     refine⟨(acc++uenc (dstep l i).toNat,i+1),⟨hi,by simpa using h2⟩,by dsimp only;omega,?_⟩
     simp only[List.length_append]
     refine GC.mk' [] [0,2] (by simp) rfl (by simp) (by simp) evd evd
   · have hp':decide ((0:Int)<(i:Int))=false:=by rw[decide_eq_false_iff_not];omega
     have h0:i=0:=by omega
     subst h0
     have e0:l.getD 0 0=dstep l 0:=by rw[dstep,if_pos rfl]
     have hz:IntKind.i64.wrap ((0:Int)+1)=1:=by decide
     rw[e0]at hg
     repeat(first | refine aa_ ?_ | simp only[go_sem,hg,hp'])
     refine ab_ ?_ (by(try simp only[go_sem,hp']);try exact evd)
     repeat(first | refine aa_ ?_ | simp only[go_sem,hwd])
     refine ocall [1] (ha) evd (Picks.mk' (by simp) evd) ?_;refine evg ?_
     repeat(first | refine aa_ ?_ | simp only[go_sem,hz])
     refine⟨(acc++uenc (dstep l 0).toNat,0+1),⟨hi,by simpa using h2⟩,by dsimp only;omega,?_⟩
     simp only[List.length_append]
     refine GC.mk' [] [0,2] (by simp) rfl (by simp) (by simp) evd evd
 · have hi:i=l.length:=by simp at h;omega
   subst hi
   rw[hY_ (by omega),List.append_nil]at h2
   rw[← h2]
   have h3:=congrArg List.length h2
   rw[List.length_append]at h3
   rw[← h3]
   try refine aa_ ?_
   refine finQ [] [0,1] _ (by simp) (by first | rfl | exact evd) (by simp) rfl (by simp) (by simp) evd evd

theorem lq_ (l:List Int) (cl:Bool) (hv:vErr l 1024=0):AppO 40 [.sl 1 cl (nums .i64 l)] (lenc l):=by
 intro bs hb
 refine ACall.fact 6 vB_ (by simp) ?_ (by simp)
 unfold lQ_;refine bd ?_
 have hl:(lenc l).length=(uenc l.length).length+(lFrom l 0).length:=by rw[lenc,List.length_append]
 have hll:l.length≤(lFrom l 0).length:=lw_ l 0 (by omega)
 have hu:=(bc_ (l.length:Int) (by omega) (by omega)).own bs (by rw[Int.toNat_natCast];omega)
 rw[Int.toNat_natCast]at hu
 have hw0:IntKind.u64.wrap (l.length:Int)=(l.length:Int):=aB_ (by omega) (by omega)
 repeat(first | refine aa_ ?_ | simp only[go_sem,hw0])
 refine ocall [0] (hu) evd (Picks.mk' (by simp) evd) ?_;refine evg ?_
 try refine aa_ ?_
 refine bm_ (fun x:List UInt8 × Nat=>⟨6,[.hs 1 1 0 x.1.length,.sl 1 cl (nums .i64 l),.dead,.dead,.sl 0 true [],.int .i64 x.2],[]⟩)
   (fun x=>[.gone,.vec 1 (bts x.1)]) (fun x=>l.length-x.2) (fun x=>x.2≤l.length∧x.1++lFrom l x.2=bs++lenc l) (bs++uenc l.length,0) ⟨by simp,by simp[lenc]⟩ ?_ ?_
 · simp only[List.length_append]
   refine GC.mk' [] [0,1] (by simp) rfl (by simp) (by simp) evd evd
 rintro⟨acc,i⟩ ⟨h1,h2⟩
 dsimp only at h1 h2 ⊢
 have hal:acc.length+(lFrom l i).length=bs.length+(lenc l).length:=by simpa using congrArg List.length h2
 try refine aa_ ?_
 refine al_ evd (fun h=>?_) (fun h=>?_)
 · have hi:i<l.length:=by simpa using h
   have hg:=bK_ (k:=.i64) hi
   have hd:=ly_ hv hi
   have hi0:=(dd_ hv).2 i hi
   rw[cK_ hi]at h2 hal
   rw[List.length_append]at hal
   have ha:=(bc_ (dstep l i) hd.1 (by omega)).own acc (by omega)
   have hw:=af_ hi (by omega)
   have hwd:IntKind.u64.wrap (dstep l i)=dstep l i:=aB_ (by omega) (by omega)
   by_cases hp:0<i
   · have hp':((i:Int)==0)=false:=by simp;omega
     have hi1:=(dd_ hv).2 (i-1) (by omega)
     have hw1:IntKind.i64.wrap ((i:Int)-1)=((i-1:Nat):Int):=by rw[ah_ (by omega) (by omega)];omega
     have hg2:=bK_ (k:=.i64) (show i-1<l.length by omega)
     have hw2:IntKind.i64.wrap (l.getD i 0-l.getD (i-1) 0)=l.getD i 0-l.getD (i-1) 0:=ah_ (by omega) (by omega)
     have hw3:IntKind.i64.wrap (l.getD i 0-l.getD (i-1) 0-1)=dstep l i:=by rw[dstep,if_neg (by omega),ah_ (by omega) (by omega)];omega
     repeat(first | refine aa_ ?_ | simp only[go_sem,hp'])
     refine ab_ ?_ (by(try simp only[go_sem,hp']);try exact evd)
     repeat(first | refine aa_ ?_ | simp only[go_sem,hg,hw1,hg2,hw2,hw3,hwd])
     refine dcalls [1] (ha) (by simp) evd (PickS.mk' (by simp) (by simp) evd) ?_;refine evg ?_
     repeat(first | refine aa_ ?_ | simp only[go_sem,hw])
     refine⟨(acc++uenc (dstep l i).toNat,i+1),⟨hi,by simpa using h2⟩,by dsimp only;omega,?_⟩
     simp only[List.length_append]
     refine GC.mk' [] [0,2] (by simp) rfl (by simp) (by simp) evd evd
   · have h0:i=0:=by omega
     subst h0
     have e0:l.getD 0 0=dstep l 0:=by rw[dstep,if_pos rfl]
     have hz:IntKind.i64.wrap ((0:Int)+1)=1:=by decide
     rw[e0]at hg
     try refine aa_ ?_
     refine ac_ ?_
     repeat(first | refine aa_ ?_ | simp only[go_sem,hg,hwd])
     refine ocall [1] (ha) evd (Picks.mk' (by simp) evd) ?_;refine evg ?_
     repeat(first | refine aa_ ?_ | simp only[go_sem,hz])
     refine⟨(acc++uenc (dstep l 0).toNat,0+1),⟨hi,by simpa using h2⟩,by dsimp only;omega,?_⟩
     simp only[List.length_append]
     refine GC.mk' [] [0,2] (by simp) rfl (by simp) (by simp) evd evd
 · have hi:i=l.length:=by simp at h;omega
   subst hi
   rw[hY_ (by omega),List.append_nil]at h2
   rw[← h2]
   have h3:=congrArg List.length h2
   rw[List.length_append]at h3
   rw[← h3]
   try refine aa_ ?_
   refine finQ [] [0,1] _ (by simp) (by first | rfl | exact evd) (by simp) rfl (by simp) (by simp) evd evd
end Go.Proofs.YtipiipgpnkpejaaGreat
namespace Go.Proofs.YtipiipgpnkpejaaGreat
open Go Go.FH Go.RowKit
set_option linter.unusedVariables false
set_option linter.unusedSimpArgs false

theorem yl_ {l:List Int}{n:Int}(h:vErr l n=0):∀ j,j<l.length→(j:Int)≤l.getD j 0
 | 0,hj=>by have:=((dd_ h).2 0 hj).1;omega
 | j + 1, hj => by
   have h1:=yl_ h j (by omega)
   have h2:=((dd_ h).2 (j+1) hj).2.2 (by omega)
   simp only[Nat.add_sub_cancel]at h2
   omega
theorem Cr_ {l:List Int}{n:Nat}(h:vErr l n=0):l.length≤n:=by
 by_cases h0:l.length=0
 · omega
 · have h1:=yl_ h (l.length-1) (by omega)
   have h2:=((dd_ h).2 (l.length-1) (by omega)).2.1
   omega
theorem uS_ {l:List Int}(hv:vErr l 1024=0):∀ (k i:Nat),l.length-i=k→(lFrom l i).length≤10*k
 | 0,i,hk=>by rw[hY_ (by omega)];simp
 | k + 1, i, hk => by
   rw[cK_ (by omega),List.length_append]
   have h1:=uS_ hv k (i+1) (by omega)
   have h2:=ly_ hv (j:=i) (by omega)
   have h3:=bE_ (n:=(dstep l i).toNat) (by omega)
   omega
theorem mY_ {l:List Int}(hv:vErr l 1024=0):(lenc l).length≤10250:=by
 have h1:=Cr_ (n:=1024) hv
 have h2:=uS_ hv _ 0 rfl
 have h3:=bE_ (n:=l.length) (by omega)
 rw[lenc,List.length_append]
 omega

def aenc (x:Att) (l:List Int):List UInt8:=uenc x.slot.toNat++x.root.1++cenc x.target++lenc l
structure U64 (n:Int):Prop where
 lo:0≤n
 hi:n<18446744073709551616
theorem U64.len {n:Int}(h:U64 n):(uenc n.toNat).length≤10:=bE_ (by have:=h.lo;have:=h.hi;omega)
theorem cs_ {c:Cp}(h:U64 c.ep):(cenc c).length≤42:=by
 have:=h.len
 have:=c.rt.2
 rw[cenc,List.length_append];omega

theorem CY_ (x:Att) (l:List Int) (cl:Bool) (hx:x.vals=.sl 1 cl (nums .i64 l)) (hl:l.length≤140737488355328) (h1:U64 x.slot) (h2:U64 x.target.ep):
   PC Tryz.prog 43 [.agg (attC x)] (.tup [.sl 1 false (bts (if vErr l 1024=0 then aenc x l else [])),.int .i64 (vErr l 1024)]):=by
 refine PC.fact 6 eb_ (by simp) ⟨(bt_ x).2 (by rw[Att.Pure,hx];exact aw_ _ _),trivial⟩ ⟨bG_ _,trivial,trivial⟩ ?_
 unfold cd_;refine bd ?_
 have hc:=oH_ l cl 1024 hl
 have hg:x.good=true:=by rw[Att.good,hx];rfl
 by_cases hv:vErr l 1024=0
 · have hr:=x.root.2
   have q1:=h1.len
   have q2:=cs_ h2
   have q3:=mY_ hv
   have p1:=(ge_ x.slot h1.lo h1.hi).nil (by omega)
   have p2:=(kY_ x.root).own (uenc x.slot.toNat) (by omega)
   have p3:=(Eg_ x.target h2.lo h2.hi).own (uenc x.slot.toNat++x.root.1) (by rw[List.length_append];omega)
   have p4:=ze_ l cl hv (uenc x.slot.toNat++x.root.1++cenc x.target) (by simp only[List.length_append];omega)
   rw[if_pos hv]
   rw[hv]at hc ⊢
   repeat(first | refine aa_ ?_ | simp only[go_sem,hx,hg])
   refine pcall hc ?_
   try refine aa_ ?_
   refine ab_ ?_
   try refine aa_ ?_
   refine dcalls [] (p1) (by simp) evd (PickS.mk' (by simp) (by simp) evd) ?_;refine evg ?_
   try refine aa_ ?_
   refine dcalls [1] (p2) (by simp) evd (PickS.mk' (by simp) (by simp) evd) ?_;refine evg ?_
   try refine aa_ ?_
   refine dcalls [2] (p3) (by simp) evd (PickS.mk' (by simp) (by simp) evd) ?_;refine evg ?_
   repeat(first | refine aa_ ?_ | simp only[go_sem,hx])
   refine dcalls [3] (p4) (by simp) evd (PickS.mk' (by simp) (by simp) evd) ?_;refine evg ?_
   try refine aa_ ?_
   exact fin0
 · have hv':(vErr l 1024 != 0)=true:=by simpa using hv
   rw[if_neg hv]
   repeat(first | refine aa_ ?_ | simp only[go_sem,hx,hg])
   refine pcall hc ?_
   try refine aa_ ?_
   refine ac_ ?_ (by(try simp only[go_sem,hv']);try exact evd)
   try refine aa_ ?_
   refine⟨_,rfl,.inr ⟨.tup [.sl 0 true [],.int .i64 (vErr l 1024)],evd,⟨trivial,trivial,trivial⟩,Wk.tup ⟨Wk.empty _ _ _,Wk.refl _,trivial⟩⟩⟩

theorem uZ_ (x:Att) (l:List Int) (cl:Bool) (hx:x.vals=.sl 1 cl (nums .i64 l)) (hl:l.length≤140737488355328) (h1:U64 x.slot) (h2:U64 x.target.ep):
   PC Tryz.prog 10 [.agg (attC x)] (.tup [.sl 1 false (bts (if vErr l 1024=0 then aenc x l else [])),.int .i64 (vErr l 1024)]):=by
 refine PC.fact 5 fv_ (by simp) ⟨(bt_ x).2 (by rw[Att.Pure,hx];exact aw_ _ _),trivial⟩ ⟨bG_ _,trivial,trivial⟩ ?_
 unfold cC_;refine bd ?_
 have hc:=ch_ l cl 1024 hl
 have hg:x.good=true:=by rw[Att.good,hx];rfl
 by_cases hv:vErr l 1024=0
 · have hr:=x.root.2
   have q1:=h1.len
   have q2:=cs_ h2
   have q3:=mY_ hv
   have p1:=(bc_ x.slot h1.lo h1.hi).nil (by omega)
   have p2:=(bY_ x.root).own (uenc x.slot.toNat) (by omega)
   have p3:=(jY_ x.target h2.lo h2.hi).own (uenc x.slot.toNat++x.root.1) (by rw[List.length_append];omega)
   have p4:=lq_ l cl hv (uenc x.slot.toNat++x.root.1++cenc x.target) (by simp only[List.length_append];omega)
   rw[if_pos hv]
   rw[hv]at hc ⊢
   repeat(first | refine aa_ ?_ | simp only[go_sem,hx,hg])
   refine pcall hc ?_
   try refine aa_ ?_
   refine ab_ ?_
   repeat(first | refine aa_ ?_ | simp only[go_sem,hx])
   refine dcalls [] (p1) (by simp) evd (PickS.mk' (by simp) (by simp) evd) ?_;refine evg ?_
   try refine aa_ ?_
   refine dcalls [1] (p2) (by simp) evd (PickS.mk' (by simp) (by simp) evd) ?_;refine evg ?_
   try refine aa_ ?_
   refine dcalls [2] (p3) (by simp) evd (PickS.mk' (by simp) (by simp) evd) ?_;refine evg ?_
   repeat(first | refine aa_ ?_ | simp only[go_sem,hx])
   refine dcalls [3] (p4) (by simp) evd (PickS.mk' (by simp) (by simp) evd) ?_;refine evg ?_
   try refine aa_ ?_
   exact fin0
 · have hv':(vErr l 1024 != 0)=true:=by simpa using hv
   rw[if_neg hv]
   repeat(first | refine aa_ ?_ | simp only[go_sem,hx,hg])
   refine pcall hc ?_
   try refine aa_ ?_
   refine ac_ ?_ (by(try simp only[go_sem,hv']);try exact evd)
   try refine aa_ ?_
   refine⟨_,rfl,.inr ⟨.tup [.sl 0 true [],.int .i64 (vErr l 1024)],evd,⟨trivial,trivial,trivial⟩,Wk.tup ⟨Wk.empty _ _ _,Wk.refl _,trivial⟩⟩⟩

def clenc (x:Clm) (l:List Int):List UInt8:=uenc x.src.toNat++uenc x.tgt.toNat++x.root.1++lenc l
structure ClmU (x:Clm) (l:List Int) (cl:Bool):Prop where
 src:U64 x.src
 tgt:U64 x.tgt
 vals:x.vals=.sl 1 cl (nums .i64 l)
 len:l.length≤140737488355328
theorem hL_ {x:Clm}{l:List Int}{cl:Bool}(h:ClmU x l cl) (hv:vErr l 1024=0):(clenc x l).length≤10302:=by
 have:=h.src.len
 have:=h.tgt.len
 have:=mY_ hv
 have:=x.root.2
 simp only[clenc,List.length_append];omega
theorem ClmU.good {x:Clm}{l:List Int}{cl:Bool}(h:ClmU x l cl):x.good=true:=by rw[Clm.good,h.vals];rfl
theorem ClmU.pu {x:Clm}{l:List Int}{cl:Bool}(h:ClmU x l cl):x.Pure:=by rw[Clm.Pure,h.vals];exact aw_ _ _

theorem ClmU.map {x:Clm}{l:List Int}{cl:Bool}(h:ClmU x l cl) (ρ:Nat→Nat):x.map (ren ρ)=x:=by
 have hv:=h.vals
 obtain⟨s,t,r,v⟩:=x
 simp only at hv
 subst hv
 simp only[Clm.map,ren,bh_]

theorem wl_ (x:Clm) (l:List Int) (cl:Bool) (hx:ClmU x l cl) (hv:vErr l 1024=0):AppO 42 [.agg (clmC x)] (clenc x l):=by
 intro bs hb
 refine ACall.fact 5 kC_ (by simp) ?_ (by simp)
 unfold gr_;refine bd ?_
 simp only[clenc,List.length_append,← List.append_assoc,← Nat.add_assoc]at hb ⊢
 have hg:=hx.good
 have hvs:=hx.vals
 have p1:=(bc_ x.src hx.src.lo hx.src.hi).own bs (by omega)
 have p2:=(bc_ x.tgt hx.tgt.lo hx.tgt.hi).own (bs++uenc x.src.toNat) (by simp only[List.length_append];omega)
 have p3:=(bY_ x.root).own (bs++uenc x.src.toNat++uenc x.tgt.toNat) (by simp only[List.length_append];omega)
 have p4:=lq_ l cl hv (bs++uenc x.src.toNat++uenc x.tgt.toNat++x.root.1) (by simp only[List.length_append];omega)
 repeat(first | refine aa_ ?_ | simp only[go_sem,hg])
 refine dcalls [0] (p1) (by simp) evd (PickS.mk' (by simp) (by simp) evd) ?_;refine evg ?_
 try refine aa_ ?_
 refine dcalls [2] (p2) (by simp) evd (PickS.mk' (by simp) (by simp) evd) ?_;refine evg ?_
 try refine aa_ ?_
 refine dcalls [3] (p3) (by simp) evd (PickS.mk' (by simp) (by simp) evd) ?_;refine evg ?_
 repeat(first | refine aa_ ?_ | simp only[go_sem,hvs])
 refine dcalls [4] (p4) (by simp) evd (PickS.mk' (by simp) (by simp) evd) ?_;refine evg ?_
 try refine aa_ ?_
 refine finQ [] [0,5] _ (by simp) (by first | rfl | exact evd) (by simp) rfl (by simp) (by simp) evd evd
theorem wU_ (x:Clm) (l:List Int) (cl:Bool) (hx:ClmU x l cl) (hv:vErr l 1024=0):ACall Tryz.prog 42 [.sl 0 true [],.agg (clmC x)] [] (.hs 1 0 0 (clenc x l).length) [.vec 1 (bts (clenc x l))]:=by
 refine ACall.fact 5 kC_ (by simp) ?_ (by simp)
 have hb:=hL_ hx hv
 unfold gr_;refine bd ?_
 simp only[clenc,List.length_append,← List.append_assoc,← Nat.add_assoc]at hb ⊢
 have hg:=hx.good
 have hvs:=hx.vals
 have p1:=(bc_ x.src hx.src.lo hx.src.hi).nil (by omega)
 have p2:=(bc_ x.tgt hx.tgt.lo hx.tgt.hi).own (uenc x.src.toNat) (by omega)
 have p3:=(bY_ x.root).own (uenc x.src.toNat++uenc x.tgt.toNat) (by simp only[List.length_append];omega)
 have p4:=lq_ l cl hv (uenc x.src.toNat++uenc x.tgt.toNat++x.root.1) (by simp only[List.length_append];omega)
 repeat(first | refine aa_ ?_ | simp only[go_sem,hg])
 refine dcalls [] (p1) (by simp) evd (PickS.mk' (by simp) (by simp) evd) ?_;refine evg ?_
 try refine aa_ ?_
 refine dcalls [1] (p2) (by simp) evd (PickS.mk' (by simp) (by simp) evd) ?_;refine evg ?_
 try refine aa_ ?_
 refine dcalls [2] (p3) (by simp) evd (PickS.mk' (by simp) (by simp) evd) ?_;refine evg ?_
 repeat(first | refine aa_ ?_ | simp only[go_sem,hvs])
 refine dcalls [3] (p4) (by simp) evd (PickS.mk' (by simp) (by simp) evd) ?_;refine evg ?_
 try refine aa_ ?_
 refine finQ [] [4] _ (by simp) (by first | rfl | exact evd) (by simp) rfl (by simp) (by simp) evd evd

def slErr (l1 l2:List Int):Int:=if vErr l1 1024=0 then vErr l2 1024 else vErr l1 1024
def slenc (x:Slg) (l1 l2:List Int):List UInt8:=clenc x.fst l1++clenc x.snd l2

theorem nN_ (x:Slg) (l1 l2:List Int) (c1 c2:Bool) (h1:ClmU x.fst l1 c1) (h2:ClmU x.snd l2 c2):
   PC Tryz.prog 12 [.agg (slgC x)] (.tup [.sl 1 false (bts (if slErr l1 l2=0 then slenc x l1 l2 else [])),.int .i64 (slErr l1 l2)]):=by
 refine PC.fact 6 gN_ (by simp) ⟨(bI_ x).2 ⟨h1.pu,h2.pu⟩,trivial⟩ ⟨bG_ _,trivial,trivial⟩ ?_
 unfold di_;refine bd ?_
 have hg:x.good=true:=by rw[Slg.good,h1.good,h2.good];rfl
 have hv1:=h1.vals
 have hv2:=h2.vals
 have m1:=h1.map
 have m2:=h2.map
 have k1:=ch_ l1 c1 1024 h1.len
 have k2:=ch_ l2 c2 1024 h2.len
 unfold slErr
 by_cases e1:vErr l1 1024=0
 · simp only[e1,if_true]
   rw[e1]at k1
   by_cases e2:vErr l2 1024=0
   · simp only[e2,if_true]
     rw[e2]at k2
     have q1:=hL_ h1 e1
     have q2:=hL_ h2 e2
     have p1:=wU_ x.fst l1 c1 h1 e1
     have p2:=wl_ x.snd l2 c2 h2 e2 (clenc x.fst l1) (by omega)
     repeat(first | refine aa_ ?_ | simp only[go_sem,hg,hv1,hv2])
     refine pcall k1 ?_
     try refine aa_ ?_
     refine ab_ ?_
     repeat(first | refine aa_ ?_ | simp only[go_sem,hg,hv1,hv2])
     refine pcall k2 ?_
     try refine aa_ ?_
     refine ab_ ?_
     try refine aa_ ?_
     refine dcalls [] (p1) (by simp) (by(try simp only[go_sem,m1]);try exact evd) (PickS.mk' (by simp) (by simp) (by(try simp only[go_sem,m1]);try exact evd)) ?_;refine evg ?_
     try refine aa_ ?_
     refine dcalls [1] (p2) (by simp) (by(try simp only[go_sem,m2]);try exact evd) (PickS.mk' (by simp) (by simp) (by(try simp only[go_sem,m2]);try exact evd)) ?_;refine evg ?_
     try refine aa_ ?_
     exact fin0
   · have e2':(vErr l2 1024 != 0)=true:=by simpa using e2
     simp only[e2,if_false]
     repeat(first | refine aa_ ?_ | simp only[go_sem,hg,hv1,hv2])
     refine pcall k1 ?_
     try refine aa_ ?_
     refine ab_ ?_
     repeat(first | refine aa_ ?_ | simp only[go_sem,hg,hv1,hv2])
     refine pcall k2 ?_
     try refine aa_ ?_
     refine ac_ ?_ (by(try simp only[go_sem,e2']);try exact evd)
     try refine aa_ ?_
     refine⟨_,rfl,.inr ⟨.tup [.sl 0 true [],.int .i64 (vErr l2 1024)],evd,⟨trivial,trivial,trivial⟩,Wk.tup ⟨Wk.empty _ _ _,Wk.refl _,trivial⟩⟩⟩
 · have e1':(vErr l1 1024 != 0)=true:=by simpa using e1
   simp only[e1,if_false]
   repeat(first | refine aa_ ?_ | simp only[go_sem,hg,hv1,hv2])
   refine pcall k1 ?_
   try refine aa_ ?_
   refine ac_ ?_ (by(try simp only[go_sem,e1']);try exact evd)
   try refine aa_ ?_
   refine⟨_,rfl,.inr ⟨.tup [.sl 0 true [],.int .i64 (vErr l1 1024)],evd,⟨trivial,trivial,trivial⟩,Wk.tup ⟨Wk.empty _ _ _,Wk.refl _,trivial⟩⟩⟩


def venc (x:Vdt):List UInt8:=uenc x.tag.toNat++uenc x.kind.toNat++x.latest.1
def vBad (x:Vdt):Prop:=x.kind<1∨4<x.kind
instance (x:Vdt):Decidable (vBad x):=inferInstanceAs (Decidable (_∨_))
theorem CP_ (x:Vdt) (h1:U64 x.tag):
   PC Tryz.prog 107 [.agg (vdtC x)] (.tup [.sl 1 false (bts (if vBad x then []else venc x)),.int .i64 (if vBad x then 3 else 0)]):=by
 refine PC.fact 4 hr_ (by simp) ⟨eI_ x,trivial⟩ ⟨bG_ _,trivial,trivial⟩ ?_
 unfold dK_;refine bd ?_
 by_cases hv:vBad x
 · rw[if_pos hv,if_pos hv]
   unfold vBad at hv
   by_cases ha:x.kind<1
   · have ha':decide (x.kind<1)=true:=by simpa using ha
     repeat(first | refine aa_ ?_ | simp only[go_sem,ha'])
     refine ac_ ?_
     try refine aa_ ?_
     refine⟨_,rfl,.inr ⟨.tup [.sl 0 true [],.int .i64 3],evd,⟨trivial,trivial,trivial⟩,Wk.tup ⟨Wk.empty _ _ _,Wk.refl _,trivial⟩⟩⟩
   · have ha':decide (x.kind<1)=false:=by simpa using ha
     have hb':decide (4<x.kind)=true:=by rw[decide_eq_true_eq];omega
     repeat(first | refine aa_ ?_ | simp only[go_sem,ha',hb'])
     refine ac_ ?_
     try refine aa_ ?_
     refine⟨_,rfl,.inr ⟨.tup [.sl 0 true [],.int .i64 3],evd,⟨trivial,trivial,trivial⟩,Wk.tup ⟨Wk.empty _ _ _,Wk.refl _,trivial⟩⟩⟩
 · rw[if_neg hv,if_neg hv]
   unfold vBad at hv
   have ha':decide (x.kind<1)=false:=by rw[decide_eq_false_iff_not];omega
   have hb':decide (4<x.kind)=false:=by rw[decide_eq_false_iff_not];omega
   have hw:IntKind.u64.wrap x.kind=x.kind:=aB_ (by omega) (by omega)
   have hr:=x.latest.2
   have q1:=h1.len
   have q2:=bE_ (n:=x.kind.toNat) (by omega)
   have p1:=(bc_ x.tag h1.lo h1.hi).nil (by omega)
   have p2:=(bc_ x.kind (by omega) (by omega)).own (uenc x.tag.toNat) (by omega)
   have p3:=(bY_ x.latest).own (uenc x.tag.toNat++uenc x.kind.toNat) (by rw[List.length_append];omega)
   repeat(first | refine aa_ ?_ | simp only[go_sem,ha',hb'])
   refine ab_ ?_
   repeat(first | refine aa_ ?_ | simp only[go_sem,hw])
   refine dcalls [] (p1) (by simp) evd (PickS.mk' (by simp) (by simp) evd) ?_;refine evg ?_
   repeat(first | refine aa_ ?_ | simp only[go_sem,hw])
   refine dcalls [1] (p2) (by simp) evd (PickS.mk' (by simp) (by simp) evd) ?_;refine evg ?_
   try refine aa_ ?_
   refine dcalls [2] (p3) (by simp) evd (PickS.mk' (by simp) (by simp) evd) ?_;refine evg ?_
   try refine aa_ ?_
   exact fin0

def kenc (x:Blk):List UInt8:=uenc x.slot.toNat++x.root.1++x.parent.1++x.payload.1++(wbytes x.diff).1++(wbytes x.pdiff).1++cenc x.just++cenc x.fin++cenc x.pul.j++cenc x.pul.f++benc x.timely
structure BlkU (x:Blk):Prop where
 slot:U64 x.slot
 just:U64 x.just.ep
 fin:U64 x.fin.ep
 j:U64 x.pul.j.ep
 f:U64 x.pul.f.ep
theorem vq_ (x:Blk) (hx:BlkU x):PC Tryz.prog 8 [.sl 0 true [],.agg (blkC x)] (.sl 1 false (bts (kenc x))):=by
 refine PC.fact 5 tf_ (by simp) ⟨trivial,bV_ x,trivial⟩ (bG_ _) ?_
 unfold kz_;refine bd ?_
 have r1:=x.root.2
 have r2:=x.parent.2
 have r3:=x.payload.2
 have r4:=(wbytes x.diff).2
 have r5:=(wbytes x.pdiff).2
 have q1:=hx.slot.len
 have q2:=cs_ hx.just
 have q3:=cs_ hx.fin
 have q4:=cs_ hx.j
 have q5:=cs_ hx.f
 have q6:(benc x.timely).length≤1:=by cases x.timely<;>simp[benc]
 have p1:=(bc_ x.slot hx.slot.lo hx.slot.hi).nil (by omega)
 have p2:=(bY_ x.root).own (uenc x.slot.toNat) (by omega)
 have p3:=(bY_ x.parent).own _ (by simp only[List.length_append];omega:(uenc x.slot.toNat++x.root.1).length+x.parent.1.length≤140737488355328)
 have p4:=(bY_ x.payload).own _ (by simp only[List.length_append];omega:(uenc x.slot.toNat++x.root.1++x.parent.1).length+x.payload.1.length≤140737488355328)
 have p5:=(rV_ x.diff).own _ (by simp only[List.length_append];omega:(uenc x.slot.toNat++x.root.1++x.parent.1++x.payload.1).length+(wbytes x.diff).1.length≤140737488355328)
 have p6:=(rV_ x.pdiff).own _ (by simp only[List.length_append];omega:(uenc x.slot.toNat++x.root.1++x.parent.1++x.payload.1++(wbytes x.diff).1).length+(wbytes x.pdiff).1.length≤140737488355328)
 have p7:=(jY_ x.just hx.just.lo hx.just.hi).own _ (by simp only[List.length_append];omega:(uenc x.slot.toNat++x.root.1++x.parent.1++x.payload.1++(wbytes x.diff).1++(wbytes x.pdiff).1).length+(cenc x.just).length≤140737488355328)
 have p8:=(jY_ x.fin hx.fin.lo hx.fin.hi).own _ (by simp only[List.length_append];omega:(uenc x.slot.toNat++x.root.1++x.parent.1++x.payload.1++(wbytes x.diff).1++(wbytes x.pdiff).1++cenc x.just).length+(cenc x.fin).length≤140737488355328)
 have p9:=(jY_ x.pul.j hx.j.lo hx.j.hi).own _ (by simp only[List.length_append];omega:(uenc x.slot.toNat++x.root.1++x.parent.1++x.payload.1++(wbytes x.diff).1++(wbytes x.pdiff).1++cenc x.just++cenc x.fin).length+(cenc x.pul.j).length≤140737488355328)
 have p10:=(jY_ x.pul.f hx.f.lo hx.f.hi).own _ (by simp only[List.length_append];omega:(uenc x.slot.toNat++x.root.1++x.parent.1++x.payload.1++(wbytes x.diff).1++(wbytes x.pdiff).1++cenc x.just++cenc x.fin++cenc x.pul.j).length+(cenc x.pul.f).length≤140737488355328)
 have p11:=(AP_ x.timely).own _ (by simp only[List.length_append];omega:(uenc x.slot.toNat++x.root.1++x.parent.1++x.payload.1++(wbytes x.diff).1++(wbytes x.pdiff).1++cenc x.just++cenc x.fin++cenc x.pul.j++cenc x.pul.f).length+(benc x.timely).length≤140737488355328)
 try refine aa_ ?_
 refine dcalls [] (p1) (by simp) evd (PickS.mk' (by simp) (by simp) evd) ?_;refine evg ?_
 try refine aa_ ?_
 refine dcalls [1] (p2) (by simp) evd (PickS.mk' (by simp) (by simp) evd) ?_;refine evg ?_
 try refine aa_ ?_
 refine dcalls [2] (p3) (by simp) evd (PickS.mk' (by simp) (by simp) evd) ?_;refine evg ?_
 try refine aa_ ?_
 refine dcalls [3] (p4) (by simp) evd (PickS.mk' (by simp) (by simp) evd) ?_;refine evg ?_
 try refine aa_ ?_
 refine dcalls [4] (p5) (by simp) evd (PickS.mk' (by simp) (by simp) evd) ?_;refine evg ?_
 try refine aa_ ?_
 refine dcalls [5] (p6) (by simp) evd (PickS.mk' (by simp) (by simp) evd) ?_;refine evg ?_
 try refine aa_ ?_
 refine dcalls [6] (p7) (by simp) evd (PickS.mk' (by simp) (by simp) evd) ?_;refine evg ?_
 try refine aa_ ?_
 refine dcalls [7] (p8) (by simp) evd (PickS.mk' (by simp) (by simp) evd) ?_;refine evg ?_
 try refine aa_ ?_
 refine dcalls [8] (p9) (by simp) evd (PickS.mk' (by simp) (by simp) evd) ?_;refine evg ?_
 try refine aa_ ?_
 refine dcalls [9] (p10) (by simp) evd (PickS.mk' (by simp) (by simp) evd) ?_;refine evg ?_
 try refine aa_ ?_
 refine dcalls [10] (p11) (by simp) evd (PickS.mk' (by simp) (by simp) evd) ?_;refine evg ?_
 try refine aa_ ?_
 exact fin0

structure TabU (x:Tab) (l:List Int) (cl:Bool):Prop where
 ep:U64 x.cp.ep
 bals:x.bals=.sl 1 cl (nums .u64 l)
 all:∀ n ∈ l,U64 n
 len:l.length≤140737488355328
def tenc (x:Tab) (l:List Int):List UInt8:=cenc x.cp++uenc l.length++nenc l
theorem sN_:∀ {l:List Int},(∀ n ∈ l,U64 n)→(nenc l).length≤10*l.length
 | [],_=>by simp[nenc]
 | n :: l, h => by
   have h1:=sN_ (l:=l) (fun m hm=>h m (by simp[hm]))
   have h2:=(h n (by simp)).len
   simp only[nenc,List.length_append,List.length_cons];omega
theorem zU_ {l:List Int}{i:Nat}(h:i<l.length):nenc (l.drop i)=uenc (l.getD i 0).toNat++nenc (l.drop (i+1)):=by
 rw[List.drop_eq_getElem_cons h,nenc,List.getD_eq_getElem?_getD,List.getElem?_eq_getElem h];rfl
theorem TabU.good {x:Tab}{l:List Int}{cl:Bool}(h:TabU x l cl):x.good=true:=by rw[Tab.good,h.bals];rfl
theorem TabU.pu {x:Tab}{l:List Int}{cl:Bool}(h:TabU x l cl):x.Pure:=by rw[Tab.Pure,h.bals];exact aw_ _ _
theorem TabU.getD {x:Tab}{l:List Int}{cl:Bool}(h:TabU x l cl) {i:Nat}(hi:i<l.length):U64 (l.getD i 0):=by
 rw[List.getD_eq_getElem?_getD,List.getElem?_eq_getElem hi];exact h.all _ (List.getElem_mem hi)

theorem vi_ (x:Tab) (l:List Int) (cl:Bool) (hx:TabU x l cl):
   PC Tryz.prog 14 [.agg (tabC x)] (.tup [.sl 1 false (bts (if 1024<l.length then []else tenc x l)),.int .i64 (if 1024<l.length then 3 else 0)]):=by
 refine PC.fact 6 jl_ (by simp) ⟨(bs_ x).2 hx.pu,trivial⟩ ⟨bG_ _,trivial,trivial⟩ ?_
 unfold ey_;refine bd ?_
 have hg:=hx.good
 have hv:=hx.bals
 by_cases h0:1024<l.length
 · have h0':decide ((1024:Int)<(l.length:Int))=true:=by rw[decide_eq_true_eq];omega
   rw[if_pos h0,if_pos h0]
   repeat(first | refine aa_ ?_ | simp only[go_sem,hg,hv])
   refine ac_ ?_ (by(try simp only[go_sem,h0']);try exact evd)
   try refine aa_ ?_
   refine⟨_,rfl,.inr ⟨.tup [.sl 0 true [],.int .i64 3],evd,⟨trivial,trivial,trivial⟩,Wk.tup ⟨Wk.empty _ _ _,Wk.refl _,trivial⟩⟩⟩
 have h0':decide ((1024:Int)<(l.length:Int))=false:=by rw[decide_eq_false_iff_not];omega
 rw[if_neg h0,if_neg h0]
 have q1:=cs_ hx.ep
 have q2:=bE_ (n:=l.length) (by omega)
 have q3:=sN_ hx.all
 have hw:IntKind.u64.wrap (l.length:Int)=l.length:=aB_ (by omega) (by omega)
 have hm:∀ ρ:Nat→Nat,x.map (ren ρ)=x:=by
   intro ρ
   obtain⟨c,v⟩:=x
   simp only at hv
   subst hv
   simp only[Tab.map,ren,bh_]
 have hmf:∀ (σ:St) (zs:List Nat),x.map (fz σ zs)=x:=by
   intro σ zs
   obtain⟨c,v⟩:=x
   simp only at hv
   subst hv
   simp only[Tab.map,fz,bD_]
 have hr:=x.cp.rt.2
 have q4:=hx.ep.len
 have p1:=(bc_ x.cp.ep hx.ep.lo hx.ep.hi).nil (by omega)
 have p2:=(bY_ x.cp.rt).own (uenc x.cp.ep.toNat) (by omega)
 have p3:=(bc_ (l.length:Int) (by omega) (by omega)).own (uenc x.cp.ep.toNat++x.cp.rt.1) (by rw[Int.toNat_natCast,List.length_append];omega)
 rw[Int.toNat_natCast]at p3
 repeat(first | refine aa_ ?_ | simp only[go_sem,hg,hv])
 refine ab_ ?_ (by(try simp only[go_sem,h0']);try exact evd)
 repeat(first | refine aa_ ?_ | simp only[go_sem,hg,hv,hw])
 refine dcalls [] (p1) (by simp) evd (PickS.mk' (by simp) (by simp) evd) ?_;refine evg ?_
 repeat(first | refine aa_ ?_ | simp only[go_sem,hg,hv,hw])
 refine dcalls [1] (p2) (by simp) evd (PickS.mk' (by simp) (by simp) evd) ?_;refine evg ?_
 repeat(first | refine aa_ ?_ | simp only[go_sem,hg,hv,hw])
 refine dcalls [2] (p3) (by simp) evd (PickS.mk' (by simp) (by simp) evd) ?_;refine evg ?_
 repeat(first | refine aa_ ?_ | simp only[go_sem,hg,hv])
 refine bm_ (fun x':List UInt8 × Nat=>⟨6,[.agg (tabC x),.ptr 0 0,.sl 0 true [],.int .i64 0,.hs 1 1 0 x'.1.length,.int .i64 x'.2],[]⟩)
   (fun x'=>[.var (tabC x),.vec 1 (bts x'.1)]) (fun x'=>l.length-x'.2) (fun x'=>x'.2≤l.length∧x'.1++nenc (l.drop x'.2)=tenc x l) (cenc x.cp++uenc l.length,0) ⟨by simp,by simp[tenc]⟩ ?_ ?_
 · simp only[List.length_append,cenc,← List.append_assoc]
   refine GC.mk' [] [0,3] (by simp) rfl (by simp) (by simp) (by(try simp only[go_sem,hm,hmf]);try exact evd) (by(try simp only[go_sem,hm,hmf]);try exact evd)
 rintro⟨acc,i⟩ ⟨h1,h2⟩
 dsimp only at h1 h2 ⊢
 have hal:=congrArg List.length h2
 simp only[tenc,List.length_append]at hal
 repeat(first | refine aa_ ?_ | simp only[go_sem,hg,hv])
 refine al_ evd (fun h=>?_) (fun h=>?_)
 · have hi:i<l.length:=by simpa using h
   have hgd:=bK_ (k:=.u64) hi
   have hu:=hx.getD hi
   rw[zU_ hi]at h2 hal
   rw[List.length_append]at hal
   have ha:=(bc_ (l.getD i 0) hu.lo hu.hi).own acc (by omega)
   have hwi:=af_ hi (by omega)
   repeat(first | refine aa_ ?_ | simp only[go_sem,hgd,hg,hv])
   refine ocall [1] (ha) evd (Picks.mk' (by simp) evd) ?_;refine evg ?_
   repeat(first | refine aa_ ?_ | simp only[go_sem,hwi])
   refine⟨(acc++uenc (l.getD i 0).toNat,i+1),⟨hi,by simpa using h2⟩,by dsimp only;omega,?_⟩
   simp only[List.length_append]
   refine GC.mk' [] [0,2] (by simp) rfl (by simp) (by simp) (by(try simp only[go_sem,hm,hmf]);try exact evd) (by(try simp only[go_sem,hm,hmf]);try exact evd)
 · have hi:i=l.length:=by simp at h;omega
   subst hi
   rw[List.drop_length,nenc,List.append_nil]at h2
   rw[← h2]
   try refine aa_ ?_
   exact fin0
end Go.Proofs.YtipiipgpnkpejaaGreat
