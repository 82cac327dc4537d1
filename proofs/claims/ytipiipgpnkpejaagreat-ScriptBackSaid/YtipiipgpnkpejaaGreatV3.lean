/-
 My texts Ia, Ib, Ir, La, Lb, Lc, joined.
-/
import Derived.Test.YtipiipgpnkpejaaGreatV1
import Derived.Test.YtipiipgpnkpejaaGreatW3
import Derived.Test.YtipiipgpnkpejaaGreatW4
import Derived.Test.YtipiipgpnkpejaaGreatW5
namespace Go.Proofs.YtipiipgpnkpejaaGreat
open Go Go.FH Go.RowKit
set_option linter.unusedVariables false
set_option linter.unusedSimpArgs false
theorem vU_(l:List Int)(cl:Bool)(v:Int)(hb:l.length≤140737488355328):PC Tryz.prog 181 [.sl 1 cl (aq_ .i64 l),.int .i64 v] (.bool (decide (v∈l))):=by
 refine PC.fact 6 GD_ (by simp) ⟨aL_ _ _,trivial,trivial⟩ trivial ?_;unfold vh_;refine bd ?_;try refine aa_ ?_
 refine dn_ (fun i:Nat=>⟨6,[.sl 1 cl (aq_ .i64 l),.int .i64 v,.dead,.dead,.bool false,.int .i64 i],[]⟩) (fun _=>[]) (fun i=>l.length-i) (fun i=>i≤l.length∧v∉l.take i) [] 0 ⟨by omega,by simp⟩ evd rfl ?_;rintro i ⟨hi,hv⟩;try dsimp only
 try refine aa_ ?_
 refine au_ evd (fun h=>?_) (fun h=>?_)
 ·have h1:i<l.length:=by simp at h;omega
  have hg:=di_ (k:=.i64) h1;have hw:=ag_ h1 (by omega);have e0:l[i]=l.getD i 0:=by rw[List.getD_eq_getElem?_getD,List.getElem?_eq_getElem h1];rfl
  repeat(first|refine aa_ ?_|simp only[go_sem,hg,Nat.mul_one])
  refine au_ evd (fun h=>?_) (fun h=>?_)
  ·have e1:l.getD i 0=v:=by simpa using h
   have hm:v∈l:=by rw[←e1,←e0];exact List.getElem_mem h1
   rw[decide_eq_true hm];try refine aa_ ?_
   exact ah_
  ·have e1:l.getD i 0≠v:=by simpa using h
   repeat(first|refine aa_ ?_|simp only[go_sem,hw])
   refine⟨i+1,⟨h1,?_⟩,by omega,rfl⟩;rw[List.take_add_one,List.getElem?_eq_getElem h1];simp only[Option.toList_some,List.mem_append,List.mem_singleton,not_or];exact⟨hv,by rw[e0];exact fun e=>e1 e.symm⟩
 ·have h1:i=l.length:=by simp at h;omega
  subst h1;rw[List.take_length]at hv;rw[decide_eq_false hv];try refine aa_ ?_
  exact ah_
theorem Ao_(k:IntKind)(l:List Int)(i:Nat):(aq_ k l).take i=aq_ k (l.take i):=by simp[aq_]
theorem An_(k:IntKind)(l:List Int)(i:Nat):(aq_ k l).drop i=aq_ k (l.drop i):=by simp[aq_]
theorem fU_(k:IntKind)(l m:List Int):aq_ k l++aq_ k m=aq_ k (l++m):=by simp[aq_]
theorem EL_(k:IntKind)(v:Int):[[AV.int k v]]=aq_ k [v]:=rfl
def qY_:List Int→Int→List Int
 | [],v=>[v]
 |a::r,v=>if a<v then a::qY_ r v else if a=v then a::r else v::a::r
theorem Ck_:∀ (l:List Int) (v:Int) (i:Nat),i≤l.length→(∀j,j<i→l.getD j 0<v)→(∀_:i<l.length,¬l.getD i 0<v)→qY_ l v=if i<l.length∧l.getD i 0=v then l else l.take i++[v]++l.drop i
 | [], v, i, hi, h1, h2 => by
   have:i=0:=by simpa using hi
   subst this;simp[qY_]
 | a :: r, v, 0, hi, h1, h2 => by
   have h3:¬a<v:=by simpa using h2 (by simp)
   simp only[qY_,if_neg h3];by_cases h4:a=v
   ·simp[h4]
   ·simp[h4]
 | a :: r, v, i + 1, hi, h1, h2 => by
   have h3:a<v:=by simpa using h1 0 (by omega)
   have ih:=Ck_ r v i (by simpa using hi) (fun j hj=>by simpa using h1 (j+1) (by omega)) (fun hlt=>by simpa using h2 (by simpa using hlt));simp only[qY_,if_pos h3,ih];by_cases h4:i<r.length∧r.getD i 0=v
   ·rw[if_pos h4,if_pos (by simpa using h4)]
   ·rw[if_neg h4,if_neg (by simpa using h4)];simp
theorem Ez_(l:List Int)(v:Int):(qY_ l v).length≤l.length+1:=by
 induction l with
 |nil=>simp[qY_]
 | cons a r ih =>
   unfold qY_;split
   ·simp;omega
   ·split<;>simp
theorem EA_(l:List Int)(v:Int)(hb:l.length≤1000000):PC Tryz.prog 180 [.sl 1 false (aq_ .i64 l),.int .i64 v] (.sl 1 false (aq_ .i64 (qY_ l v))):=by
 refine PC.fact 6 yx_ (by simp) ⟨aL_ _ _,trivial,trivial⟩ (aL_ _ _) ?_;unfold oP_;refine bd ?_;try refine aa_ ?_
 refine dn_ (fun i:Nat=>⟨6,[.sl 1 false (aq_ .i64 l),.int .i64 v,.dead,.dead,.sl 0 true [],.int .i64 i],[]⟩) (fun _=>[]) (fun i=>l.length-i) (fun i=>i≤l.length∧∀j,j<i→l.getD j 0<v) [] 0 ⟨by omega,fun j hj=>by omega⟩ evd rfl ?_;rintro i ⟨hi,hv⟩;try dsimp only
 have fin:(∀_:i<l.length,¬l.getD i 0<v)→True:=fun _=>trivial
 by_cases h1:i<l.length
 ·have hg:=di_ (k:=.i64) h1
  have hw:=ag_ h1 (by omega);have e1:decide ((i:Int)<(l.length:Int))=true:=decide_eq_true (by omega);by_cases h2:l.getD i 0<v
  ·have e2:decide (l.getD i 0<v)=true:=decide_eq_true h2;repeat(first|refine aa_ ?_|simp only[go_sem,e1,hg,Nat.mul_one,e2])
   refine ac_ ?_;repeat(first|refine aa_ ?_|simp only[go_sem,hw])
   refine⟨i+1,⟨h1,fun j hj=>?_⟩,by omega,rfl⟩;by_cases e:j=i
   ·subst e;exact h2
   ·exact hv j (by omega)
  ·have e2:decide (l.getD i 0<v)=false:=decide_eq_false h2
   rw[Ck_ l v i hi hv (fun _=>h2)];repeat(first|refine aa_ ?_|simp only[go_sem,e1,hg,Nat.mul_one,e2])
   refine ab_ ?_;by_cases h3:l.getD i 0=v
   ·have e3:(l.getD i 0==v)=true:=by rw[beq_iff_eq];exact h3
    rw[if_pos ⟨h1,h3⟩];repeat(first|refine aa_ ?_|simp only[go_sem,e1,hg,Nat.mul_one,e3])
    refine Rf_ ?_
    exact ah_
   ·have e3:(l.getD i 0==v)=false:=by rw[←Bool.not_eq_true,beq_iff_eq];exact h3
    rw[if_neg (fun h=>h3 h.2)];repeat(first|refine aa_ ?_|simp only[go_sem,e1,hg,Nat.mul_one,e3])
    refine ab_ ?_;have d1:(l.drop i).take (l.length-i)=l.drop i:=List.take_of_length_le (by simp);repeat(first|refine aa_ ?_|simp only[go_sem,Ao_,An_,d1,EL_,fU_])
    exact ah_
 ·have hl:i=l.length:=by omega
  subst hl;have e1:decide ((l.length:Int)<(l.length:Int))=false:=decide_eq_false (by omega);rw[Ck_ l v l.length hi hv (fun h=>by omega),if_neg (fun h=>by omega),List.take_length,List.drop_length,List.append_nil];repeat(first|refine aa_ ?_|simp only[go_sem,e1])
  refine ab_ ?_;repeat(first|refine aa_ ?_|simp only[go_sem,e1])
  refine ab_ ?_;repeat(first|refine aa_ ?_|simp only[go_sem,Ao_,An_,EL_,fU_])
  exact ah_
def gt_(l m:List Int)(i:Nat):List Int:=(l.take i).foldl (fun a v=>if v∈m then qY_ a v else a) []
theorem Gt_{l m:List Int}{i:Nat}(h:i<l.length):gt_ l m (i+1)=if l.getD i 0∈m then qY_ (gt_ l m i) (l.getD i 0)else gt_ l m i:=by
 have e0:l[i]=l.getD i 0:=by rw[List.getD_eq_getElem?_getD,List.getElem?_eq_getElem h];rfl
 unfold gt_;rw[List.take_add_one,List.getElem?_eq_getElem h,Option.toList_some,List.foldl_append,List.foldl_cons,List.foldl_nil,e0]
theorem qx_(l m:List Int):∀i,(gt_ l m i).length≤i
 |0=>by simp[gt_]
 | i + 1 => by
   have ih:=qx_ l m i;by_cases h:i<l.length
   ·rw[Gt_ h];split
    ·have:=Ez_ (gt_ l m i) (l.getD i 0);omega
    ·omega
   ·have:gt_ l m (i+1)=gt_ l m i:=by unfold gt_;rw[List.take_of_length_le (by omega),List.take_of_length_le (by omega)]
    rw[this];omega
theorem wF_(x:Slg)(l m:List Int)(c d:Bool)(hx:x.fst.vals=.sl 1 c (aq_ .i64 l))(hy:x.snd.vals=.sl 1 d (aq_ .i64 m))(hl:l.length≤100)(hm:m.length≤100):
 PC Tryz.prog 159 [.agg (bI_ x)] (.sl 1 false (aq_ .i64 (gt_ l m l.length))):=by
 obtain⟨⟨a1,a2,r1,v1⟩,⟨b1,b2,r2,v2⟩⟩:=x;dsimp only at hx hy;subst hx hy;have hp:PuL (bI_ ⟨⟨a1,a2,r1,.sl 1 c (aq_ .i64 l)⟩,⟨b1,b2,r2,.sl 1 d (aq_ .i64 m)⟩⟩):=(cU_ _).2 ⟨aL_ _ _,aL_ _ _⟩;refine PC.fact 5 tV_ (by simp) ⟨hp,trivial⟩ (aL_ _ _) ?_;unfold lM_;refine bd ?_;try refine aa_ ?_
 refine bF_ (fun i:Nat×Bool=>⟨5,[.agg (bI_ ⟨⟨a1,a2,r1,.sl 1 c (aq_ .i64 l)⟩,⟨b1,b2,r2,.sl 1 d (aq_ .i64 m)⟩⟩),.ptr 0 0,.sl 0 true [],if i.2 then .sl 1 false (aq_ .i64 (gt_ l m i.1))else .sl 0 true [],.int .i64 i.1],[]⟩) (fun _=>[.var (bI_ ⟨⟨a1,a2,r1,.sl 1 c (aq_ .i64 l)⟩,⟨b1,b2,r2,.sl 1 d (aq_ .i64 m)⟩⟩)]) (fun i=>l.length-i.1) (fun i=>i.1≤l.length∧(i.2=false→gt_ l m i.1=[])) (0,false) ⟨by dsimp only;omega,fun _=>rfl⟩ ?_ ?_
 ·simp only[Bool.false_eq_true,if_false];exact Sn_ [] [0]
 rintro⟨i,b⟩ ⟨hi,hb⟩;dsimp only at hi hb ⊢;by_cases h1:i<l.length
 case neg=>
  have e1:decide ((i:Int)<(l.length:Int))=false:=decide_eq_false (by omega);obtain rfl:i=l.length:=by omega
  repeat(first|refine aa_ ?_|simp only[go_sem,e1])
  refine ab_ ?_;cases b with
  | true =>
    simp only[if_true];try refine aa_ ?_
    exact ah_
  | false =>
    rw[hb rfl];simp only[Bool.false_eq_true,if_false];try refine aa_ ?_
    refine⟨_,by first|rfl|exact evd,.inr ⟨.sl 0 true [],evd,trivial,Wk.empty _ _ _⟩⟩
 have e1:decide ((i:Int)<(l.length:Int))=true:=decide_eq_true (by omega);have hgd:=di_ (k:=.i64) h1;have hw:=ag_ h1 (by omega);have hr:=vU_ m d (l.getD i 0) (by omega);have hcl:=qx_ l m i;repeat(first|refine aa_ ?_|simp only[go_sem,e1,hgd,Nat.mul_one])
 refine ac_ ?_;repeat(first|refine aa_ ?_|simp only[go_sem,hgd,Nat.mul_one])
 refine ay_ (hr) ?_;try refine aa_ ?_
 by_cases h2:l.getD i 0∈m
 ·rw[decide_eq_true h2]
  refine ac_ ?_;have hs:gt_ l m (i+1)=qY_ (gt_ l m i) (l.getD i 0):=by rw[Gt_ h1,if_pos h2]
  have hc:=EA_ (gt_ l m i) (l.getD i 0) (by omega);rw[←hs]at hc;cases b with
  | true =>
    simp only[if_true];repeat(first|refine aa_ ?_|simp only[go_sem,hgd,Nat.mul_one])
    refine ae_ hc ?_;repeat(first|refine aa_ ?_|simp only[go_sem,hw])
    refine⟨(i+1,true),⟨by dsimp only;omega,fun h=>(by cases h)⟩,by dsimp only;omega,?_⟩;simp only[if_true];exact Sn_ [] [0]
  | false =>
    rw[hb rfl]at hc;simp only[Bool.false_eq_true,if_false];repeat(first|refine aa_ ?_|simp only[go_sem,hgd,Nat.mul_one])
    refine jY_ (hc) (by repeat(first|exact trivial|(refine⟨Wk.refl _,?_⟩)|(refine⟨Wk.empty 0 1 _,?_⟩))) (by simp[PuL,Pu,dx_,bO_,aL_]) ?_;repeat(first|refine aa_ ?_|simp only[go_sem,hw])
    refine⟨(i+1,true),⟨by dsimp only;omega,fun h=>(by cases h)⟩,by dsimp only;omega,?_⟩;simp only[if_true];exact Sn_ [] [0]
 ·rw[decide_eq_false h2]
  refine ab_ ?_;have hs:gt_ l m (i+1)=gt_ l m i:=by rw[Gt_ h1,if_neg h2]
  repeat(first|refine aa_ ?_|simp only[go_sem,hw])
  refine⟨(i+1,b),⟨by dsimp only;omega,fun h=>(by dsimp only;rw[hs];exact hb h)⟩,by dsimp only;omega,?_⟩;dsimp only;rw[hs];cases b
  ·simp only[Bool.false_eq_true,if_false];exact Sn_ [] [0]
  ·simp only[if_true];exact Sn_ [] [0]
def sur(a b:Clm):Bool:=decide (a.src<b.src)&&decide (b.tgt<a.tgt)
def dbl(a b:Clm):Bool:=(a.tgt==b.tgt)&&((a.src != b.src) || !decide (a.root=b.root))
def slb(a b:Clm):Bool:=dbl a b || sur a b || sur b a
theorem uo_(a b:Clm)(ha:a.good=true)(hb:b.good=true)(pa:a.Pure)(pb:b.Pure):PC Tryz.prog 179 [.agg (bC_ a),.agg (bC_ b)] (.bool (slb a b)):=by
 refine PC.fact 8 sl_ (by simp) ⟨(ib_ a).2 pa,(ib_ b).2 pb,trivial⟩ trivial ?_;have hc:az_=.seq az_.hd (.seq (az_.tl 1).hd (.seq (az_.tl 2).hd (.seq (az_.tl 3).hd (az_.tl 4)))):=rfl
 -- the last part: three results joined
 have t4:∀ (D s1 s2:Bool) (ts:List (Nat×AV)),Tri Tryz.prog 58 0 (az_.tl 4) (PQ [.tmp 4] (.bool (D || s1 || s2))) ⟨8,[.agg (bC_ a),.agg (bC_ b),.ptr 0 0,.ptr 1 0,.bool false,.bool D,.bool s1,.bool s2],ts⟩ [.var (bC_ a),.var (bC_ b)]:=by
  intro D s1 s2 ts;unfold az_;refine bd ?_;simp only[ad_.tl];cases D
  ·cases s1
   ·try refine aa_ ?_
    exact ah_
   ·try refine aa_ ?_
    exact ah_
  ·try refine aa_ ?_
   exact ah_
 have t3:∀ (D s1:Bool) (ts:List (Nat×AV)),Tri Tryz.prog 58 0 (.seq (az_.tl 3).hd (az_.tl 4)) (PQ [.tmp 4] (.bool (D || s1 || sur b a))) ⟨8,[.agg (bC_ a),.agg (bC_ b),.ptr 0 0,.ptr 1 0,.bool false,.bool D,.bool s1,.dead],ts⟩ [.var (bC_ a),.var (bC_ b)]:=by
  intro D s1 ts;generalize az_.tl 4=cT at *;unfold az_ sur;refine bd ?_;simp only[ad_.tl,ad_.hd];cases e1:decide (b.src<a.src)with
  | false =>
    repeat(first|refine aa_ ?_|simp only[go_sem,e1])
    exact t4 _ _ _ _
  | true =>
    repeat(first|refine aa_ ?_|simp only[go_sem,e1])
    exact t4 _ _ _ _
 have t2:∀ (D:Bool) (ts:List (Nat×AV)),Tri Tryz.prog 58 0 (.seq (az_.tl 2).hd (.seq (az_.tl 3).hd (az_.tl 4))) (PQ [.tmp 4] (.bool (D || sur a b || sur b a))) ⟨8,[.agg (bC_ a),.agg (bC_ b),.ptr 0 0,.ptr 1 0,.bool false,.bool D,.dead,.dead],ts⟩ [.var (bC_ a),.var (bC_ b)]:=by
  intro D ts;clear t4;generalize ad_.seq (az_.tl 3).hd (az_.tl 4)=cT at *;have t3':=fun s1=>t3 D s1
  clear t3;generalize sur b a=s2 at *;unfold az_ sur;refine bd ?_;simp only[ad_.tl,ad_.hd];cases e1:decide (a.src<b.src)with
  | false =>
    repeat(first|refine aa_ ?_|simp only[go_sem,e1])
    exact t3' _ _
  | true =>
    repeat(first|refine aa_ ?_|simp only[go_sem,e1])
    exact t3' _ _
 clear t3 t4;rw[hc];clear hc;generalize ad_.seq (az_.tl 2).hd (.seq (az_.tl 3).hd (az_.tl 4))=cT at *;unfold az_ slb;refine bd ?_;generalize sur a b=s1 at *;generalize sur b a=s2 at *;unfold dbl;simp only[ad_.tl,ad_.hd];cases e1:(a.tgt==b.tgt)with
 | false =>
   repeat(first|refine aa_ ?_|simp only[go_sem,ha,hb,e1])
   exact t2 _ _
 | true =>
   cases e2:(a.src != b.src)with
   | true =>
     repeat(first|refine aa_ ?_|simp only[go_sem,ha,hb,e1,e2])
     exact t2 _ _
   | false =>
     repeat(first|refine aa_ ?_|simp only[go_sem,ha,hb,e1,e2])
     exact t2 _ _
def evE(x:Slg)(l m:List Int)(n:Int):Int:=
 if bt_ l n≠0 then bt_ l n else if bt_ m n≠0 then bt_ m n else if x.fst.tgt<x.fst.src∨x.snd.tgt<x.snd.src then 2
 else if slb x.fst x.snd=false∨gt_ l m l.length=[]then 20 else 0
theorem Fn_(x:Slg)(l m:List Int)(c d:Bool)(n:Int)(hx:x.fst.vals=.sl 1 c (aq_ .i64 l))(hy:x.snd.vals=.sl 1 d (aq_ .i64 m))(hl:l.length≤100)(hm:m.length≤100):
 PC Tryz.prog 156 [.agg (bI_ x),.int .i64 n] (.int .i64 (evE x l m n)):=by
 obtain⟨⟨a1,a2,r1,v1⟩,⟨b1,b2,r2,v2⟩⟩:=x;dsimp only at hx hy;subst hx hy;have cu:=wF_ ⟨⟨a1,a2,r1,.sl 1 c (aq_ .i64 l)⟩,⟨b1,b2,r2,.sl 1 d (aq_ .i64 m)⟩⟩ l m c d rfl rfl hl hm;have sl:=uo_ ⟨a1,a2,r1,.sl 1 c (aq_ .i64 l)⟩ ⟨b1,b2,r2,.sl 1 d (aq_ .i64 m)⟩ rfl rfl (aL_ _ _) (aL_ _ _);have w1:=eC_ l c n (by omega);have w2:=eC_ m d n (by omega);refine PC.fact 7 kJ_ (by simp) ⟨(cU_ _).2 ⟨aL_ _ _,aL_ _ _⟩,trivial,trivial⟩ trivial ?_;unfold fw_ evE;refine bd ?_;(try dsimp only)
 generalize slb ⟨a1,a2,r1,.sl 1 c (aq_ .i64 l)⟩ ⟨b1,b2,r2,.sl 1 d (aq_ .i64 m)⟩=S at *;generalize gt_ l m l.length=R at *;by_cases q1:bt_ l n=0
 case neg=>
  have e1:(bt_ l n != 0)=true:=by rw[bne_iff_ne];exact q1
  rw[if_pos q1];try refine aa_ ?_
  refine ae_ w1 ?_;repeat(first|refine aa_ ?_|simp only[go_sem,e1])
  refine Rf_ ?_
  exact ah_
 rw[if_neg (fun h=>h q1)];rw[q1]at w1;by_cases q2:bt_ m n=0
 case neg=>
  have e1:(bt_ m n != 0)=true:=by rw[bne_iff_ne];exact q2
  rw[if_pos q2];try refine aa_ ?_
  refine RV_ w1 ?_
  refine Re_ ?_
  refine ae_ w2 ?_;repeat(first|refine aa_ ?_|simp only[go_sem,e1])
  refine Rf_ ?_
  exact ah_
 rw[if_neg (fun h=>h q2)];rw[q2]at w2;try refine aa_ ?_
 refine RV_ w1 ?_
 refine Re_ ?_
 refine RV_ w2 ?_
 refine ab_ ?_;by_cases q3:a2<a1
 ·have e3:decide (a2<a1)=true:=decide_eq_true q3;rw[if_pos (.inl q3)];repeat(first|refine aa_ ?_|simp only[go_sem,e3])
  refine Rf_ ?_
  exact ah_
 have e3:decide (a2<a1)=false:=decide_eq_false q3;by_cases q4:b2<b1
 ·have e4:decide (b2<b1)=true:=decide_eq_true q4;rw[if_pos (.inr q4)];repeat(first|refine aa_ ?_|simp only[go_sem,e3,e4])
  refine Rf_ ?_
  exact ah_
 have e4:decide (b2<b1)=false:=decide_eq_false q4;rw[if_neg (fun h=>h.elim q3 q4)];repeat(first|refine aa_ ?_|simp only[go_sem,e3,e4])
 refine Re_ ?_
 refine ae_ sl ?_;cases S with
 | false =>
   rw[if_pos (.inl rfl)];try refine aa_ ?_
   refine Rf_ ?_
   exact ah_
 | true =>
   try refine aa_ ?_
   refine ae_ cu ?_;by_cases q5:R=[]
   ·subst q5;rw[if_pos rfl];try refine aa_ ?_
    refine Rf_ ?_
    exact ah_
   ·have e5:((R.length:Int)==0)=false:=by
     rw[←Bool.not_eq_true,beq_iff_eq];have:=List.length_pos_iff.2 q5;omega
    rw[if_neg (by simp[q5])];repeat(first|refine aa_ ?_|simp only[go_sem,e5])
    refine Re_ ?_
    exact ah_
def FI_(z:Int):UInt8:=UInt8.ofNat (IntKind.u8.wrap z).toNat
theorem rG_(z:Int):IntKind.u8.wrap z=((FI_ z).toNat:Int):=by
 have h:0≤IntKind.u8.wrap z∧IntKind.u8.wrap z<256:=by rw[IntKind.wrap_u8];omega
 unfold FI_;rw[UInt8.toNat_ofNat',Nat.mod_eq_of_lt (by omega)];omega
theorem iK_(x m:Int)(h0:0≤m)(hm:m<9223372036854775808):∃r:Nat,jc_ .i64 x m=r∧(r:Int)≤m:=by
 unfold jc_
 have h:(BitVec.ofInt IntKind.i64.bits x &&& BitVec.ofInt IntKind.i64.bits m).toNat≤m.toNat:=by
  rw[BitVec.toNat_and];refine Nat.le_trans Nat.and_le_right ?_;rw[BitVec.toNat_ofInt];show (m % ((2 ^ 64:Nat):Int)).toNat≤m.toNat
  omega
 generalize (BitVec.ofInt IntKind.i64.bits x &&& BitVec.ofInt IntKind.i64.bits m).toNat=r at *;exact⟨r,ai_ (by omega) (by omega),by omega⟩
def AR_(n:Int):Rt:=((rt0.set 0 (FI_ n)).set 1 (FI_ (dW_ .i64 n 8))).set 31 (FI_ (IntKind.i64.wrap (n*7)))
theorem ew_(n:Int):PC Tryz.prog 36 [.int .i64 n] (.agg (rtc (AR_ n))):=by
 refine PC.fact 3 DZ_ (by simp) ⟨trivial,trivial⟩ ((ci_ _)) ?_;unfold sU_ AR_;refine bd ?_;have h0:=rG_ n;have h1:=rG_ (dW_ .i64 n 8);have h2:=rG_ (IntKind.i64.wrap (n*7));generalize FI_ n=b0 at *;generalize FI_ (dW_ .i64 n 8)=b1 at *;generalize FI_ (IntKind.i64.wrap (n*7))=b2 at *;have s0:∀ (r:Rt) (b:UInt8),spl (rtc r) 0 [.int .u8 (b.toNat:Int)]=rtc (r.set 0 b):=fun r b=>nQ_ r (by decide) b
 have s1:∀ (r:Rt) (b:UInt8),spl (rtc r) 1 [.int .u8 (b.toNat:Int)]=rtc (r.set 1 b):=fun r b=>nQ_ r (by decide) b
 have s2:∀ (r:Rt) (b:UInt8),spl (rtc r) 31 [.int .u8 (b.toNat:Int)]=rtc (r.set 31 b):=fun r b=>nQ_ r (by decide) b
 repeat(first|refine aa_ ?_|simp only[go_sem,h0,h1,h2,s0,s1,s2])
 exact ah_
def eR_(bits:Int)(i:Nat):List Int:=((List.range i).filter fun j=>jc_ .i64 (dW_ .i64 bits j) 1==1).map Int.ofNat
theorem IG_(bits:Int)(i:Nat):eR_ bits (i+1)=if (jc_ .i64 (dW_ .i64 bits i) 1==1)=true then eR_ bits i++[(i:Int)]else eR_ bits i:=by
 unfold eR_;rw[List.range_succ,List.filter_append,List.map_append];by_cases h:(jc_ .i64 (dW_ .i64 bits i) 1==1)=true
 ·rw[if_pos h];simp[h]
 ·rw[if_neg h];simp[h]
theorem nO_(bits:Int)(i:Nat):(eR_ bits i).length≤i:=by
 unfold eR_;rw[List.length_map];exact Nat.le_trans (List.length_filter_le _ _) (by simp)
def AX_(n:Nat)(bits:Int):List Int:=if eR_ bits n=[]∧0<n then [0]else eR_ bits n
theorem AY_(n:Nat)(bits:Int):(AX_ n bits).length≤n:=by
 unfold AX_;split
 ·rename_i h;simp;omega
 ·exact nO_ bits n
theorem AZ_(n:Nat)(bits:Int)(hn:n≤1000000):PC Tryz.prog 41 [.int .i64 n,.int .i64 bits] (.sl 1 false (aq_ .i64 (AX_ n bits))):=by
 refine PC.fact 7 mI_ (by simp) ⟨trivial,trivial,trivial⟩ (aL_ _ _) ?_;unfold cn_;refine bd ?_;try refine aa_ ?_
 refine bF_ (fun x:Nat×Bool=>⟨7,[.int .i64 n,.int .i64 bits,.dead,.dead,.sl 0 true [],if x.2 then .hs 1 0 0 (eR_ bits x.1).length else .sl 0 true [],.int .i64 x.1],[]⟩) (fun x=>if x.2 then [.vec 1 (aq_ .i64 (eR_ bits x.1))]else []) (fun x=>n-x.1) (fun x=>x.1≤n∧(x.2=false→eR_ bits x.1=[])) (0,false) ⟨Nat.zero_le _,fun _=>rfl⟩ ?_ ?_
 ·simp only[Bool.false_eq_true,if_false];exact Sn_ [] []
 rintro⟨i,b⟩ ⟨hi,hb⟩;dsimp only at hi hb ⊢;have hlen:=nO_ bits i;by_cases h1:i<n
 ·have e1:decide ((i:Int)<(n:Int))=true:=decide_eq_true (by omega)
  have hw:=ag_ h1 (by omega);have hu:IntKind.u64.wrap (i:Int)=(i:Int):=aH_ (by omega) (by omega);have hs:=IG_ bits i;cases hq:(jc_ .i64 (dW_ .i64 bits i) 1==1)with
  | true =>
    rw[hq,if_pos rfl]at hs;have hnum:∀l:List Int,aq_ .i64 l++[[.int .i64 (i:Int)]]=aq_ .i64 (l++[(i:Int)]):=fun l=>fU_ .i64 l [(i:Int)]
    cases b with
    | true =>
      simp only[if_true];repeat(first|refine aa_ ?_|simp only[go_sem,e1])
      refine ac_ ?_;repeat(first|refine aa_ ?_|simp only[go_sem,hu,hq])
      refine ac_ ?_;repeat(first|refine aa_ ?_|simp only[go_sem,hw,hnum])
      refine⟨(i+1,true),⟨h1,fun h=>(by cases h)⟩,by dsimp only;omega,?_⟩;simp only[if_true,hs,List.length_append,List.length_cons,List.length_nil,Nat.zero_add];exact Sn_ [] [1]
    | false =>
      have h0:=hb rfl;rw[h0]at hs;simp only[Bool.false_eq_true,if_false];repeat(first|refine aa_ ?_|simp only[go_sem,e1])
      refine ac_ ?_;repeat(first|refine aa_ ?_|simp only[go_sem,hu,hq])
      refine ac_ ?_;repeat(first|refine aa_ ?_|simp only[go_sem,hw])
      refine⟨(i+1,true),⟨h1,fun h=>(by cases h)⟩,by dsimp only;omega,?_⟩;simp only[if_true,hs];exact Sn_ [] [0]
  | false =>
    rw[hq,if_neg (by simp)]at hs;cases b with
    | true =>
      simp only[if_true];repeat(first|refine aa_ ?_|simp only[go_sem,e1])
      refine ac_ ?_;repeat(first|refine aa_ ?_|simp only[go_sem,hu,hq])
      refine ab_ ?_;repeat(first|refine aa_ ?_|simp only[go_sem,hw])
      refine⟨(i+1,true),⟨h1,fun h=>(by cases h)⟩,by dsimp only;omega,?_⟩;simp only[if_true,hs];exact Sn_ [] [0]
    | false =>
      simp only[Bool.false_eq_true,if_false];repeat(first|refine aa_ ?_|simp only[go_sem,e1])
      refine ac_ ?_;repeat(first|refine aa_ ?_|simp only[go_sem,hu,hq])
      refine ab_ ?_;repeat(first|refine aa_ ?_|simp only[go_sem,hw])
      refine⟨(i+1,false),⟨h1,fun h=>(by dsimp only;rw[hs];exact hb rfl)⟩,by dsimp only;omega,?_⟩;simp only[Bool.false_eq_true,if_false];exact Sn_ [] []
 have e1:decide ((i:Int)<(n:Int))=false:=decide_eq_false (by omega);obtain rfl:i=n:=by omega
 have e2:decide ((i:Int) > 0)=decide (0<i):=by rw[decide_eq_decide];omega
 unfold AX_;by_cases h0:eR_ bits i=[]
 ·by_cases hz:0<i
  ·have e3:decide ((i:Int) > 0)=true:=decide_eq_true (by omega)
   rw[if_pos ⟨h0,hz⟩];cases b with
   | true =>
     simp only[if_true,h0];repeat(first|refine aa_ ?_|simp only[go_sem,e1])
     refine ab_ ?_;repeat(first|refine aa_ ?_|simp only[go_sem,e3])
     refine Rf_ ?_
     refine⟨_,by first|rfl|exact evd,.inr ⟨.sl 1 true (aq_ .i64 [0]),evd,aL_ _ _,Wk.open_ _ _ _⟩⟩
   | false =>
     simp only[Bool.false_eq_true,if_false];repeat(first|refine aa_ ?_|simp only[go_sem,e1])
     refine ab_ ?_;repeat(first|refine aa_ ?_|simp only[go_sem,e3])
     refine Rf_ ?_
     refine⟨_,by first|rfl|exact evd,.inr ⟨.sl 1 true (aq_ .i64 [0]),evd,aL_ _ _,Wk.open_ _ _ _⟩⟩
  ·have e3:decide ((i:Int) > 0)=false:=decide_eq_false (by omega)
   rw[if_neg (fun h=>hz h.2),h0];cases b with
   | true =>
     simp only[if_true];repeat(first|refine aa_ ?_|simp only[go_sem,e1])
     refine ab_ ?_;repeat(first|refine aa_ ?_|simp only[go_sem,e3])
     refine Re_ ?_
     exact ah_
   | false =>
     simp only[Bool.false_eq_true,if_false];repeat(first|refine aa_ ?_|simp only[go_sem,e1])
     refine ab_ ?_;repeat(first|refine aa_ ?_|simp only[go_sem,e3])
     refine Re_ ?_
     refine⟨_,by first|rfl|exact evd,.inr ⟨.sl 0 true [],evd,trivial,Wk.empty _ _ _⟩⟩
 ·rw [if_neg (fun h => h0 h.1)]
  cases b with
  |false=>exact absurd (hb rfl) h0
  | true =>
    have e3:(((eR_ bits i).length:Int)==0)=false:=by
     rw[←Bool.not_eq_true,beq_iff_eq];have:=List.length_pos_iff.2 h0;omega
    simp only[if_true];repeat(first|refine aa_ ?_|simp only[go_sem,e1])
    refine ab_ ?_;repeat(first|refine aa_ ?_|simp only[go_sem,e3])
    refine Re_ ?_
    exact ah_
theorem LB_(a b:Int):PC Tryz.prog 164 [.int .u64 a,.int .u64 b] (.tup [.int .u64 (uT_ a b).1,.int .i64 (uT_ a b).2]):=by
 refine PC.fact 6 GA_ (by simp) puA puA ?_;unfold ve_;refine bd ?_;unfold uT_;try refine aa_ ?_
 refine aZ_ (fun h=>?_) (fun h=>?_)
 ·try refine aa_ ?_
  rw[if_pos (by simpa using h)];exact ah_
 ·try refine aa_ ?_
  rw[if_neg (by simpa using h)];exact ah_
theorem Mh_(n:Int):PC Tryz.prog 208 [.int .u64 n] (.bool (OJ_ n)):=by
 refine PC.fact 3 yo_ (by simp) puA puA ?_;unfold oH_;refine bd ?_;unfold OJ_;cases h:decide (1≤n)with
 | true =>
   repeat(first|refine aa_ ?_|simp only[go_sem,h])
   exact ah_
 | false =>
   repeat(first|refine aa_ ?_|simp only[go_sem,h])
   exact ah_
theorem MP_(a b:Int):PC Tryz.prog 209 [.int .u64 a,.int .u64 b] (.tup [.int .u64 (OX_ a b).1,.int .i64 (OX_ a b).2]):=by
 refine PC.fact 6 GB_ (by simp) puA puA ?_;unfold vf_;refine bd ?_;unfold OX_;by_cases h0:b=0
 ·subst h0;try refine aa_ ?_
  refine Re_ ?_
  rw[if_neg (by simp)];exact ah_
 ·have e0:(b != 0)=true:=by simp[h0]
  repeat(first|refine aa_ ?_|simp only[go_sem,e0,h0])
  refine aZ_ (fun h=>?_) (fun h=>?_)
  ·try refine aa_ ?_
   rw[if_pos (by simpa[h0]using h)];exact ah_
  ·try refine aa_ ?_
   rw[if_neg (by simpa[h0]using h)];exact ah_
theorem HB_(e p:Int):PC Tryz.prog 198 [.int .u64 e,.int .u64 p] (.tup [.int .u64 (sN_ e p).1,.int .i64 (sN_ e p).2]):=by
 refine PC.fact 6 vE_ (by simp) puA puA ?_;unfold mv_;refine bd ?_;unfold sN_;have c1:=Mh_ p;have c2:=MP_ e p;try refine aa_ ?_
 refine ae_ c1 ?_;cases h:OJ_ p with
 | true =>
   rw[if_pos rfl];try refine aa_ ?_
   refine Re_ ?_
   refine RV_ c2 ?_
   exact ah_
 | false =>
   rw[if_neg (by simp)];try refine aa_ ?_
   refine Rf_ ?_
   exact ah_
theorem FD_(l:List Int){i:Nat}(h:(gc_ l i).2≠0):∀n,i≤n→gc_ l n=gc_ l i
 |0,hn=>by rw[show i=0 by omega]
 | n + 1, hn => by
   by_cases he:i=n+1
   ·rw[he]
   ·have:=FD_ l h n (by omega);show (if (gc_ l n).2≠0 then gc_ l n else _)=_
    rw[this,if_pos h]
theorem LA_{a b:Int}(h:(uT_ a b).2≠0):uT_ a b=(0,(uT_ a b).2):=by
 unfold uT_ at *;split at h
 ·rw[if_pos (by assumption)]
 ·exact absurd rfl h
theorem Ba_(l:List Int)(c:Bool)(hb:l.length≤1000000):PC Tryz.prog 143 [.sl 1 c (aq_ .u64 l)] (.tup [.int .u64 (zm_ l).1,.int .i64 (zm_ l).2]):=by
 refine PC.fact 8 GC_ (by simp) puA puA ?_;unfold vg_;refine bd ?_;try refine aa_ ?_
 refine aG_ (fun i:Nat=>[(5,.int .i64 i),(4,.int .u64 (gc_ l i).1)]) (fun _=>[]) (fun i=>l.length-i) (fun i=>i≤l.length∧(gc_ l i).2=0) 0 ⟨Nat.zero_le _,rfl⟩ ?_ ?_
 ·exact Sn_ [] []
 rintro i ⟨hi,he⟩;by_cases h1:i<l.length
 ·have e1:decide ((i:Int)<(l.length:Int))=true:=decide_eq_true (by omega)
  have hgd:=gdn (k:=.u64) h1;have hw:=ag_ h1 (by omega);have c1:=LB_ (gc_ l i).1 (l.getD i 0);have hs:gc_ l (i+1)=uT_ (gc_ l i).1 (l.getD i 0):=by show (if (gc_ l i).2≠0 then gc_ l i else _)=_;rw[if_neg (by simp[he])]
  rw[←hs]at c1;repeat(first|refine aa_ ?_|simp only[go_sem,e1])
  refine ac_ ?_;repeat(first|refine aa_ ?_|simp only[go_sem,hgd,Nat.mul_one])
  refine RV_ c1 ?_
  refine aZ_ (fun h=>?_) (fun h=>?_)
  ·have h':(gc_ l (i+1)).2≠0:=by simpa using h
   have hE:zm_ l=gc_ l (i+1):=FD_ l h' _ h1;rw[hE];have h2:=LA_ (by rw[←hs];exact h');rw[←hs]at h2;try refine aa_ ?_
   generalize gc_ l (i+1)=q at *;obtain⟨q1,q2⟩:=q;cases h2;exact ah_
  ·have h':(gc_ l (i+1)).2=0:=by simpa using h
   repeat(first|refine aa_ ?_|simp only[go_sem,hw])
   refine⟨i+1,⟨h1,h'⟩,by omega,?_⟩;exact Sn_ [] []
 ·obtain rfl:i=l.length:=by omega
  have e1:decide ((l.length:Int)<(l.length:Int))=false:=decide_eq_false (by omega);repeat(first|refine aa_ ?_|simp only[go_sem,e1])
  refine Re_ ?_
  rw[show zm_ l=gc_ l l.length from rfl,he];exact ah_
theorem xZ_(l:List Rt)(c:Bool)(r:Rt)(hb:l.length≤1000000):PC Tryz.prog 210 [.sl 32 c (rows rtc l),.agg (rtc r)] (.bool (decide (r∈l))):=by
 refine PC.fact 6 tO_ (by simp) ⟨(bw_ fun x _=>ci_ x),ci_ _,trivial⟩ trivial ?_;unfold lG_;refine bd ?_;try refine aa_ ?_
 refine aG_ (fun i:Nat=>[(5,.int .i64 i)]) (fun _=>[.var (rtc r)]) (fun i=>l.length-i) (fun i=>i≤l.length∧∀j,j<i→l.getD j rt0≠r) 0 ⟨Nat.zero_le _,fun j hj=>by omega⟩ ?_ ?_
 ·exact Sn_ [] [0]
 rintro i ⟨hi,hn⟩;by_cases h1:i<l.length
 ·have e1:decide ((i:Int)<(l.length:Int))=true:=decide_eq_true (by omega)
  have hgd:=cw_ (f:=rtc) rt0 h1;have hw:=ag_ h1 (by omega);have hm:l.getD i rt0∈l:=by rw[List.getD_eq_getElem?_getD,List.getElem?_eq_getElem h1];exact List.getElem_mem h1
  repeat(first|refine aa_ ?_|simp only[go_sem,e1])
  refine ac_ ?_;repeat(first|refine aa_ ?_|simp only[go_sem,hgd])
  refine aZ_ (fun h=>?_) (fun h=>?_)
  ·have hr:l.getD i rt0=r:=by simpa using h
   subst hr;try refine aa_ ?_
   rw[decide_eq_true hm];exact ah_
  ·have hr:l.getD i rt0≠r:=by simpa using h
   repeat(first|refine aa_ ?_|simp only[go_sem,hw])
   refine⟨i+1,⟨h1,fun j hj=>?_⟩,by omega,?_⟩
   ·by_cases hji:j=i
    ·rw[hji];exact hr
    ·exact hn j (by omega)
   ·exact Sn_ [] [0]
 ·obtain rfl:i=l.length:=by omega
  have e1:decide ((l.length:Int)<(l.length:Int))=false:=decide_eq_false (by omega)
  have e2:decide (r∈l)=false:=by
   refine decide_eq_false fun hr=>?_
   obtain⟨j,hj,rfl⟩:=List.getElem_of_mem hr;exact hn j hj (by simp[List.getD_eq_getElem?_getD,hj])
  rw[e2];repeat(first|refine aa_ ?_|simp only[go_sem,e1])
  refine Re_ ?_
  exact ah_
theorem zL_(a b:Rt):PC Tryz.prog 196 [.agg (rtc a),.agg (rtc b)] (.int .i64 (JA_ a b)):=by
 refine PC.fact 6 nY_ (by simp) puA puA ?_;unfold hx_;refine bd ?_;try refine aa_ ?_
 refine aG_ (fun i:Nat=>[(5,.int .i64 i)]) (fun _=>[.var (rtc a),.var (rtc b)]) (fun i=>32-i) (fun i=>i≤32∧JA_ a b=DO_ a b (32-i) i) 0 ⟨by omega,rfl⟩ ?_ ?_
 ·exact Sn_ [] [0,1]
 rintro i ⟨hi,hn⟩;rw[hn];by_cases h1:i<32
 ·have e1:decide ((i:Int)<32)=true:=decide_eq_true (by omega)
  have hw:=ag_ h1 (by omega);have g1:=BM_ a h1;have g2:=BM_ b h1;have ga:a.1.getD i 0=a.1[i]'(by rw[a.2];exact h1):=by simp[List.getD_eq_getElem?_getD,a.2,h1]
  have gb:b.1.getD i 0=b.1[i]'(by rw[b.2];exact h1):=by simp[List.getD_eq_getElem?_getD,b.2,h1]
  rw[←ga]at g1;rw[←gb]at g2;obtain⟨f,hf⟩:∃f,32-i=f+1:=⟨31-i,by omega⟩
  have hs:DO_ a b (32-i) i=if a.1.getD i 0<b.1.getD i 0 then -1 else if b.1.getD i 0<a.1.getD i 0 then 1 else DO_ a b (32-(i+1)) (i+1):=by
   rw[hf,show 32-(i+1)=f by omega];rfl
  rw[hs];generalize a.1.getD i 0=x at *;generalize b.1.getD i 0=y at *;have h0:(0:Int)≤i:=by omega
  have hn1:(i:Int)<32:=by omega
  repeat(first|refine aa_ ?_|simp only[go_sem,e1])
  refine ac_ ?_;repeat(first|refine aa_ ?_|simp only[go_sem,g1,g2,Nat.mul_one,Nat.zero_add])
  refine aZ_ (fun h=>?_) (fun h=>?_)
  ·rw[if_pos (UInt8.lt_iff_toNat_lt.2 (by simpa using h))];try refine aa_ ?_
   exact ah_
  ·rw[if_neg (fun h'=>by have:=UInt8.lt_iff_toNat_lt.1 h';simp at h;omega)]
   repeat(first|refine aa_ ?_|simp only[go_sem,g1,g2,Nat.mul_one,Nat.zero_add])
   refine aZ_ (fun h=>?_) (fun h=>?_)
   ·rename_i h';rw[if_pos (UInt8.lt_iff_toNat_lt.2 (by simpa using h))];try refine aa_ ?_
    exact ah_
   ·rename_i h';rw[if_neg (fun h'=>by have:=UInt8.lt_iff_toNat_lt.1 h';simp at h;omega)];repeat(first|refine aa_ ?_|simp only[go_sem,hw])
    refine⟨i+1,⟨h1,rfl⟩,by omega,?_⟩;exact Sn_ [] [0,1]
 ·obtain rfl:i=32:=by omega
  rw[Nat.sub_self];try refine aa_ ?_
  refine Re_ ?_
  exact ah_
theorem zM_(a b:Wd):PC Tryz.prog 201 [.agg (wdc a),.agg (wdc b)] (.int .i64 (JB_ a b)):=by
 refine PC.fact 6 vD_ (by simp) puA puA ?_;unfold mu_;refine bd ?_;try refine aa_ ?_
 refine aG_ (fun i:Nat=>[(5,.int .i64 ((i:Int)-1))]) (fun _=>[.var (wdc a),.var (wdc b)]) (fun i=>i) (fun i=>i≤4∧JB_ a b=DP_ a b i) 4 ⟨by omega,rfl⟩ ?_ ?_
 ·exact Sn_ [] [0,1]
 rintro i ⟨hi,hn⟩;rw[hn];cases i with
 | zero =>
   try refine aa_ ?_
   refine Re_ ?_
   exact ah_
 | succ i =>
   have h1:i<4:=by omega
   have e1:((i+1:Nat):Int)-1=(i:Int):=by omega
   have e2:decide ((i:Int) ≥ 0)=true:=decide_eq_true (by omega);have e3:decide ((0:Int)≤i)=true:=decide_eq_true (by omega);have hw:IntKind.i64.wrap ((i:Int)-1)=(i:Int)-1:=ai_ (by omega) (by omega);have g1:=BN_ a h1;have g2:=BN_ b h1;have ga:a.1.getD i 0=a.1[i]'(by rw[a.2];exact h1):=by simp[List.getD_eq_getElem?_getD,a.2,h1]
   have gb:b.1.getD i 0=b.1[i]'(by rw[b.2];exact h1):=by simp[List.getD_eq_getElem?_getD,b.2,h1]
   rw[←ga]at g1;rw[←gb]at g2;have hs:DP_ a b (i+1)=if a.1.getD i 0<b.1.getD i 0 then -1 else if b.1.getD i 0<a.1.getD i 0 then 1 else DP_ a b i:=rfl
   rw[hs];generalize a.1.getD i 0=x at *;generalize b.1.getD i 0=y at *;have h0:(0:Int)≤i:=by omega
   have hn1:(i:Int)<4:=by omega
   rw[e1];repeat(first|refine aa_ ?_|simp only[go_sem,e1,e2,e3])
   refine ac_ ?_;repeat(first|refine aa_ ?_|simp only[go_sem,g1,g2,Nat.mul_one,Nat.zero_add])
   refine aZ_ (fun h=>?_) (fun h=>?_)
   ·rw[if_pos (by simpa using h)];try refine aa_ ?_
    exact ah_
   ·rw[if_neg (by simpa using h)]
    repeat(first|refine aa_ ?_|simp only[go_sem,g1,g2,Nat.mul_one,Nat.zero_add])
    refine aZ_ (fun h=>?_) (fun h=>?_)
    ·rename_i h';rw[if_pos (by simpa using h)];try refine aa_ ?_
     exact ah_
    ·rename_i h';rw[if_neg (by simpa using h)];repeat(first|refine aa_ ?_|simp only[go_sem,hw])
     refine⟨i,⟨by omega,rfl⟩,by omega,?_⟩;exact Sn_ [] [0,1]
theorem sR_(t:aR_)(n:Int)(hb:t.bals.length≤1000000):PC Tryz.prog 128 [.agg (aS_ t.a),.int .i64 n] (.int .i64 (hA_ t n)):=by
 refine PC.fact 7 mQ_ (by simp) puA puA ?_;unfold gP_;refine bd ?_;have c1:=Ba_ t.bals false hb;unfold hA_;generalize zm_ t.bals=q at *;obtain⟨q1,q2⟩:=q;dsimp only at c1 ⊢;try refine aa_ ?_
 refine aZ_ (fun h=>?_) (fun h=>?_)
 ·rw[if_pos (by simpa using h)];try refine aa_ ?_
  exact ah_
 ·rw [if_neg (by simpa using h)]
  try refine aa_ ?_
  refine ae_ c1 ?_;by_cases h2:q2=0
  ·subst h2
   by_cases h3:4611686018427387904<q1
   ·have e3:decide (4611686018427387904<q1)=true:=decide_eq_true h3;rw[if_pos (.inr h3)];repeat(first|refine aa_ ?_|simp only[go_sem,e3])
    refine Rf_ ?_
    exact ah_
   ·have e3:decide (4611686018427387904<q1)=false:=decide_eq_false h3;rw[if_neg (by simpa using h3)];repeat(first|refine aa_ ?_|simp only[go_sem,e3])
    refine Re_ ?_
    exact ah_
  ·have e2:(q2 != 0)=true:=by simpa using h2
   rw[if_pos (.inl h2)];repeat(first|refine aa_ ?_|simp only[go_sem,e2])
   refine Rf_ ?_
   exact ah_
theorem vk_(t:aR_)(hb:t.bals.length≤1000000):PC Tryz.prog 130 [.agg (aS_ t.a)] (.agg (aS_ t.a)):=by
 refine PC.fact 3 sj_ (by simp) puA puA ?_;unfold ky_;refine bd ?_;obtain⟨cp,bals⟩:=t;dsimp only at hb;have b1:(bals.length:Int)*8≤140737488355328:=by omega
 have b2:bals.length≤9223372036854775807:=by omega
 unfold aR_.a;repeat(first|refine aa_ ?_|simp only[go_sem,b1,b2])
 exact ah_
theorem JC_(a b:Cp):PC Tryz.prog 203 [.agg (cpC a),.agg (cpC b)] (.int .i64 (OH_ a b)):=by
 refine PC.fact 5 jb_ (by simp) puA puA ?_;unfold eQ_;refine bd ?_;have c1:=zL_ a.rt b.rt;unfold OH_;try refine aa_ ?_
 refine aZ_ (fun h=>?_) (fun h=>?_)
 ·rw[if_pos (by simpa using h)]
  try refine aa_ ?_
  refine aZ_ (fun h=>?_) (fun h=>?_)
  ·rename_i h';rw[if_pos (by simpa using h)];try refine aa_ ?_
   exact ah_
  ·rename_i h';rw[if_neg (by simpa using h)];try refine aa_ ?_
   exact ah_
 ·rw[if_neg (by simpa using h)];try refine aa_ ?_
  refine RV_ c1 ?_
  exact ah_
theorem li_(l:List aR_)(c:Cp)(hb:l.length≤1000000):PC Tryz.prog 182 [.sl 34 false (rows aR_.c l),.agg (cpC c)] (.int .i64 (dp_ l c)):=by
 refine PC.fact 6 sk_ (by simp) puA puA ?_;unfold kz_;refine bd ?_;try refine aa_ ?_
 refine aG_ (fun i:Nat=>[(5,.int .i64 i)]) (fun _=>[.var (cpC c)]) (fun i=>l.length-i) (fun i=>i≤l.length∧dp_ l c=yD_ (hL_ (fun i=>decide ((tab l i).cp=c)) (l.length-i) i)) 0 ⟨Nat.zero_le _,rfl⟩ ?_ ?_
 ·exact Sn_ [] [0]
 rintro i ⟨hi,hn⟩;rw[hn];by_cases h1:i<l.length
 ·have e1:decide ((i:Int)<(l.length:Int))=true:=decide_eq_true (by omega)
  have hgd:(rows aR_.c l).getD i []=aS_ (tab l i).a:=cw_ (f:=aR_.c) default h1;have hw:=ag_ h1 (by omega);repeat(first|refine aa_ ?_|simp only[go_sem,e1])
  refine ac_ ?_;repeat(first|refine aa_ ?_|simp only[go_sem,hgd])
  refine aZ_ (fun h=>?_) (fun h=>?_)
  ·rw[mT_ h1 h];try refine aa_ ?_
   exact ah_
  ·rw[mS_ h1 h];repeat(first|refine aa_ ?_|simp only[go_sem,hw])
   refine⟨i+1,⟨h1,rfl⟩,by omega,?_⟩;exact Sn_ [] [0]
 ·obtain rfl:i=l.length:=by omega
  have e1:decide ((l.length:Int)<(l.length:Int))=false:=decide_eq_false (by omega);rw[mR_];repeat(first|refine aa_ ?_|simp only[go_sem,e1])
  refine Re_ ?_
  exact ah_
theorem yb_(l:List aR_)(e:Int)(hb:l.length≤1000000):PC Tryz.prog 169 [.sl 34 false (rows aR_.c l),.int .u64 e] (.sl 34 false (rows aR_.c (fS_ l e))):=by
 refine PC.fact 7 qR_ (by simp) puA puA ?_;unfold js_;refine bd ?_;try refine aa_ ?_
 refine fh_ 5 34 ?_;simp only[go_sem];have hl:∀n,(aK_ (fun i o=>if e≤(tab l i).cp.ep then o++[tab l i]else o) [] n).length≤0+n:=hg_ (fun i l=>by split<;>simp)
 refine aG_ (fun i:Nat=>[(6,.int .i64 i),(5,.hs 34 0 0 (aK_ (fun i o=>if e≤(tab l i).cp.ep then o++[tab l i]else o) [] i).length)]) (fun i=>[.vec 34 (rows aR_.c (aK_ (fun i o=>if e≤(tab l i).cp.ep then o++[tab l i]else o) [] i))]) (fun i=>l.length-i) (fun i=>i≤l.length) 0 (Nat.zero_le _) ?_ ?_
 ·exact Sn_ [] [0]
 intro i hi;by_cases h1:i<l.length
 ·have e1:decide ((i:Int)<(l.length:Int))=true:=decide_eq_true (by omega)
  have hgd:(rows aR_.c l).getD i []=aS_ (tab l i).a:=cw_ (f:=aR_.c) default h1;have hw:=ag_ h1 (by omega);have hs:=bT_ (fun i o=>if e≤(tab l i).cp.ep then o++[tab l i]else o) [] i;have hli:=hl i;generalize aK_ (fun i o=>if e≤(tab l i).cp.ep then o++[tab l i]else o) [] i=acc at *;have hr:rows aR_.c acc++[aS_ (tab l i).a]=rows aR_.c (acc++[tab l i]):=cx_ aR_.c acc (tab l i);repeat(first|refine aa_ ?_|simp only[go_sem,e1])
  refine ac_ ?_;repeat(first|refine aa_ ?_|simp only[go_sem,hgd])
  refine aZ_ (fun h=>?_) (fun h=>?_)
  ·rw[if_pos (by simpa using h)]at hs;repeat(first|refine aa_ ?_|simp only[go_sem,hgd,hr,hw])
   refine⟨i+1,h1,by omega,?_⟩;rw[hs];exact Sn_ [] [1]
  ·rw[if_neg (by simpa using h)]at hs;repeat(first|refine aa_ ?_|simp only[go_sem,hw])
   refine⟨i+1,h1,by omega,?_⟩;rw[hs];exact Sn_ [] [0]
 ·obtain rfl:i=l.length:=by omega
  have e1:decide ((l.length:Int)<(l.length:Int))=false:=decide_eq_false (by omega);repeat(first|refine aa_ ?_|simp only[go_sem,e1])
  refine Re_ ?_
  exact ah_
theorem As_(l:List aR_)(c:Cp):∀f i,ln_ l c f i≤i+f
 |0,i=>Nat.le_refl _
 |f+1,i=>by unfold ln_;have:=As_ l c f (i+1);split<;>omega
theorem Ga_(l:List aR_)(t:aR_)(i:Nat)(hi:i≤l.length)(hb:l.length≤1000000)(ht:t.bals.length≤1000000):Tri Tryz.prog 35 0 (bU_.tl 3) (PQ [.tmp 4] (.sl 34 false (rows aR_.c (l.take i++[t]++l.drop i)))) ⟨6,[.sl 34 false (rows aR_.c l),.agg (aS_ t.a),.dead,.ptr 0 0,.sl 0 true [],.int .i64 i],[]⟩ [.var (aS_ t.a)]:=by
 unfold bU_;refine bd ?_;simp only[ad_.tl];have cp:=vk_ t ht;have r1:rows aR_.c (l.take i)++[aS_ t.a]=rows aR_.c (l.take i++[t]):=cx_ aR_.c _ t;have r2:=wS_ aR_.c (l.take i++[t]) (l.drop i);have hm:min i l.length=i:=by omega
 repeat(first|refine aa_ ?_|simp only[go_sem,nM_,nL_,List.length_take,List.length_drop,hm])
 refine ay_ (cp) ?_;have ht2:(l.drop i).take (l.length-i)=l.drop i:=List.take_of_length_le (by simp);repeat(first|refine aa_ ?_|simp only[go_sem,r1,r2,nM_,nL_,List.length_take,List.length_drop,hm,ht2])
 refine⟨_,(by first|rfl|exact evd),.inl ?_⟩;refine evg ?_;rw[if_pos (by simp;omega),List.take_of_length_le (by simp;omega)]
theorem Dy_(l:List aR_)(t:aR_)(hb:l.length≤1000000)(ht:t.bals.length≤1000000):PC Tryz.prog 183 [.sl 34 false (rows aR_.c l),.agg (aS_ t.a)] (.sl 34 false (rows aR_.c (mj_ l t))):=by
 have hK:ln_ l t.cp l.length 0≤l.length:=by have:=As_ l t.cp l.length 0;omega
 have tl:=fun i hi=>Ga_ l t i hi hb ht
 unfold mj_;dsimp only;refine PC.fact 6 tU_ (by simp) puA puA ?_;have hc:bU_=.seq bU_.hd (.seq (bU_.tl 1).hd (.seq (bU_.tl 2).hd (bU_.tl 3))):=rfl;rw[hc];clear hc;generalize bU_.tl 3=cT at *;unfold bU_;refine bd ?_;simp only[ad_.tl,ad_.hd];try refine aa_ ?_
 refine aG_ (fun i:Nat=>[(5,.int .i64 i)]) (fun _=>[.var (aS_ t.a)]) (fun i=>l.length-i) (fun i=>i≤l.length∧ln_ l t.cp l.length 0=ln_ l t.cp (l.length-i) i) 0 ⟨Nat.zero_le _,rfl⟩ ?_ ?_
 ·exact Sn_ [] [0]
 rintro i ⟨hi,hn⟩;rw[hn]at hK ⊢;(try simp only[aF_,aA_,List.set_cons_zero,List.set_cons_succ])
 by_cases h1:i<l.length
 ·have e1:decide ((i:Int)<((l.length:Nat):Int))=true:=decide_eq_true (by omega)
  have hw:=ag_ h1 (by omega);have hgd:(rows aR_.c l).getD i []=aS_ (tab l i).a:=cw_ (f:=aR_.c) default h1;have c1:=JC_ (tab l i).cp t.cp;obtain⟨f,hf⟩:∃f,l.length-i=f+1:=⟨l.length-i-1,by omega⟩
  have hs:ln_ l t.cp (l.length-i) i=if OH_ (tab l i).cp t.cp<0 then ln_ l t.cp (l.length-(i+1)) (i+1)else i:=by rw[hf,show l.length-(i+1)=f by omega];rfl
  repeat(first|refine aa_ ?_|simp only[go_sem,e1,hgd])
  refine ay_ (c1) ?_;try refine aa_ ?_
  refine aZ_ (fun h=>?_) (fun h=>?_)
  ·rw[if_pos (by simpa using h)]at hs;rw[hs];repeat(first|refine aa_ ?_|simp only[go_sem,hw])
   refine⟨i+1,⟨h1,rfl⟩,by omega,?_⟩;exact Sn_ [] [0]
  ·rw[if_neg (by simpa using h)]at hs;rw[hs];try refine aa_ ?_
   refine eD_ ?_ (tl i hi);exact Sn_ [] [0]
 ·obtain rfl:i=l.length:=by omega
  have e1:decide (((l.length:Nat):Int)<((l.length:Nat):Int))=false:=decide_eq_false (by omega);rw[Nat.sub_self]at *;repeat(first|refine aa_ ?_|simp only[go_sem,e1])
  refine Re_ ?_
  refine eD_ ?_ (tl l.length hi);exact Sn_ [] [0]
theorem Fb_(l:List aR_)(t:aR_)(n limit:Int)(hb:l.length≤1000000)(ht:t.bals.length≤1000000):PC Tryz.prog 160 [.sl 34 false (rows aR_.c l),.agg (aS_ t.a),.int .i64 n,.int .i64 limit] (.tup [.sl 34 false (rows aR_.c (iU_ l t n limit).1),.int .i64 (iU_ l t n limit).2]):=by
 refine PC.fact 11 tW_ (by simp) puA puA ?_;unfold lN_;refine bd ?_;have c1:=sR_ t n ht;have c2:=li_ l t.cp hb;have c3:=Dy_ l t hb ht;unfold iU_;generalize hA_ t n=E at *;generalize dp_ l t.cp=F at *;generalize mj_ l t=A at *;try refine aa_ ?_
 refine RV_ c1 ?_
 refine aZ_ (fun h=>?_) (fun h=>?_)
 ·rw[if_pos (by simpa using h)];try refine aa_ ?_
  exact ah_
 ·rw [if_neg (by simpa using h)]
  try refine aa_ ?_
  refine RV_ c2 ?_
  refine aZ_ (fun h=>?_) (fun h=>?_)
  ·rename_i h';rw[if_pos (by simpa using h)];try refine aa_ ?_
   exact ah_
  ·rename_i h'
   rw[if_neg (by simpa using h)];try refine aa_ ?_
   refine aZ_ (fun h=>?_) (fun h=>?_)
   ·rw[if_pos (by simpa using h)];try refine aa_ ?_
    exact ah_
   ·rw[if_neg (by simpa using h)];try refine aa_ ?_
    refine RV_ c3 ?_
    exact ah_
theorem Jm_(ep:Int)(root:Rt)(l:List Int)(i:Nat)(p:List Vot×Int):(qq_ ep root l i p).1.length=p.1.length:=by unfold qq_;split<;>simp
theorem qr_(ep:Int)(root:Rt)(l:List Int)(v:List Vot):∀i,(aK_ (qq_ ep root l) (v,0) i).1.length=v.length
 |0=>rfl
 |i+1=>by rw[bT_,Jm_,qr_ ep root l v i]
theorem zJ_(v:List Vot)(ep:Int)(root:Rt)(l:List Int)(hv:v.length≤1000000)(hl:l.length≤1000000)(hj:∀j∈l,0≤j∧j<v.length):PC Tryz.prog 173 [.sl 34 false (rows cc_ v),.int .u64 ep,.agg (rtc root),.sl 1 false (aq_ .i64 l)] (.tup [.sl 34 false (rows cc_ (zI_ v ep root l).1),.int .i64 (zI_ v ep root l).2]):=by
 refine PC.fact 14 Eh_ (by simp) puA puA ?_;unfold tc_;refine bd ?_;try refine aa_ ?_
 unfold zI_;refine aG_ (fun i:Nat=>[(12,.int .i64 i),(11,.int .i64 (aK_ (qq_ ep root l) (v,0) i).2)]) (fun i=>[.var (rtc root),.vec 34 (rows cc_ (aK_ (qq_ ep root l) (v,0) i).1)]) (fun i=>l.length-i) (fun i=>i≤l.length) 0 (Nat.zero_le _) ?_ ?_
 ·exact Sn_ [] [0,1]
 intro i hi;(try simp only[aF_,aA_,List.set_cons_zero,List.set_cons_succ])
 by_cases h1:i<l.length
 ·have e1:decide ((i:Int)<((l.length:Nat):Int))=true:=decide_eq_true (by omega)
  have hw:=ag_ h1 (by omega);have hgd:=gdn (k:=.i64) h1;have hm:l.getD i 0∈l:=by rw[List.getD_eq_getElem?_getD,List.getElem?_eq_getElem h1];exact List.getElem_mem h1
  obtain⟨j0,j1⟩:=hj _ hm;have hs:=bT_ (qq_ ep root l) (v,0) i;have hlen:=qr_ ep root l v i;generalize aK_ (qq_ ep root l) (v,0) i=p at *;obtain⟨u,n⟩:=p;dsimp only at hlen;have h3:(l.getD i 0).toNat<u.length:=by omega
  have hgu:(rows cc_ u).getD (l.getD i 0).toNat []=cc_ (vot u (l.getD i 0).toNat):=cw_ (f:=cc_) uu_ h3;have hc:qq_ ep root l i (u,n)=if (vot u (l.getD i 0).toNat).has=false∨(vot u (l.getD i 0).toNat).ep<ep then (u.set (l.getD i 0).toNat ⟨true,ep,root⟩,IntKind.i64.wrap (n+1))else (u,n):=rfl
  generalize hx:vot u (l.getD i 0).toNat=x at *;generalize l.getD i 0=j at *;have hset:=wT_ cc_ u j.toNat ⟨true,ep,root⟩;dsimp only;repeat(first|refine aa_ ?_|simp only[go_sem,e1,hgd,Nat.mul_one])
  refine ac_ ?_;obtain⟨xh,xe,xr⟩:=x;dsimp only at hc;cases xh with
  | false =>
    rw[if_pos (.inl rfl)]at hc;repeat(first|refine aa_ ?_|simp only[go_sem,hgd,Nat.mul_one,hgu])
    refine ac_ ?_;repeat(first|refine aa_ ?_|simp only[go_sem,hgd,Nat.mul_one,hgu,hset,hw])
    refine⟨i+1,h1,by omega,?_⟩;rw[hs,hc];exact Sn_ [] [0,1]
  | true =>
    by_cases hx2:xe<ep
    ·have e2:decide (xe<ep)=true:=decide_eq_true hx2;rw[if_pos (.inr hx2)]at hc;repeat(first|refine aa_ ?_|simp only[go_sem,hgd,Nat.mul_one,hgu,e2])
     refine ac_ ?_;repeat(first|refine aa_ ?_|simp only[go_sem,hgd,Nat.mul_one,hgu,hset,hw])
     refine⟨i+1,h1,by omega,?_⟩;rw[hs,hc];exact Sn_ [] [0,1]
    ·have e2:decide (xe<ep)=false:=decide_eq_false hx2;rw[if_neg (by simp[hx2])]at hc;repeat(first|refine aa_ ?_|simp only[go_sem,hgd,Nat.mul_one,hgu,e2])
     refine ab_ ?_;repeat(first|refine aa_ ?_|simp only[go_sem,hw])
     refine⟨i+1,h1,by omega,?_⟩;rw[hs,hc];exact Sn_ [] [0,1]
 ·obtain rfl:i=l.length:=by omega
  have e1:decide (((l.length:Nat):Int)<((l.length:Nat):Int))=false:=decide_eq_false (by omega);have hlen:=qr_ ep root l v l.length;repeat(first|refine aa_ ?_|simp only[go_sem,e1])
  refine Re_ ?_
  refine⟨_,(by first|rfl|exact evd),.inl ?_⟩;refine evg ?_;rw[hlen,if_pos (Nat.le_refl _),List.take_of_length_le (by simp[hlen])]
def yK_(l:List Int)(i:Nat)(o:List Int):List Int:=qY_ o (l.getD i 0)
def EQ_(set l:List Int):List Int:=aK_ (yK_ l) set l.length
theorem Cu_(set l:List Int):∀i,(aK_ (yK_ l) set i).length≤set.length+i
 |0=>Nat.le_refl _
 |i+1=>by rw[bT_];have:=Ez_ (aK_ (yK_ l) set i) (l.getD i 0);have:=Cu_ set l i;unfold yK_ at *;omega
theorem ER_(set l:List Int)(hb:set.length+l.length≤1000000):PC Tryz.prog 158 [.sl 1 false (aq_ .i64 set),.sl 1 false (aq_ .i64 l)] (.tup [.sl 1 false (aq_ .i64 (EQ_ set l)),.int .i64 (IntKind.i64.wrap ((EQ_ set l).length-set.length))]):=by
 refine PC.fact 8 yy_ (by simp) puA puA ?_;unfold oQ_;refine bd ?_;unfold EQ_;try refine aa_ ?_
 refine aG_ (fun i:Nat=>[(7,.int .i64 i),(6,.sl 1 false (aq_ .i64 (aK_ (yK_ l) set i)))]) (fun i=>[]) (fun i=>l.length-i) (fun i=>i≤l.length) 0 (Nat.zero_le _) ?_ ?_
 ·exact Sn_ [0] []
 intro i hi;(try simp only[aF_,aA_,List.set_cons_zero,List.set_cons_succ])
 by_cases h1:i<l.length
 ·have e1:decide ((i:Int)<((l.length:Nat):Int))=true:=decide_eq_true (by omega);have hw:=ag_ h1 (by omega);have hgd:=gdn (k:=.i64) h1;have hs:=bT_ (yK_ l) set i;have hlen:=Cu_ set l i;have c1:=EA_ (aK_ (yK_ l) set i) (l.getD i 0) (by omega);unfold yK_ at hs;rw[show qY_ (aK_ (yK_ l) set i) (l.getD i 0)=aK_ (yK_ l) set (i+1)from rfl]at c1;repeat(first|refine aa_ ?_|simp only[go_sem,e1])
  refine ac_ ?_;repeat(first|refine aa_ ?_|simp only[go_sem,hgd,Nat.mul_one])
  refine ae_ c1 ?_;repeat(first|refine aa_ ?_|simp only[go_sem,hw])
  refine⟨i+1,h1,by omega,?_⟩;exact Sn_ [] []
 ·obtain rfl:i=l.length:=by omega
  have e1:decide (((l.length:Nat):Int)<((l.length:Nat):Int))=false:=decide_eq_false (by omega);repeat(first|refine aa_ ?_|simp only[go_sem,e1])
  refine Re_ ?_
  exact ah_
def wS(latest:List Vot)(eqv bals:List Int)(roots:List Rt)(i:Nat)(n:Int):Int:=if (vot latest i).has=true∧(i:Int)∉eqv∧(vot latest i).root∈roots then IntKind.u64.wrap (n+bals.getD i 0)else n
theorem FU_(latest:List Vot)(eqv bals:List Int)(roots:List Rt)(h1:latest.length≤1000000)(h2:eqv.length≤1000000)(h3:bals.length≤1000000)(h4:roots.length≤1000000):PC Tryz.prog 206 [.agg [.sl 34 false (rows cc_ latest),.sl 1 false (aq_ .i64 eqv)],.sl 1 false (aq_ .u64 bals),.sl 32 true (rows rtc roots)] (.int .u64 (uK_ latest eqv bals roots)):=by
 refine PC.fact 9 yz_ (by simp) puA puA ?_;unfold oR_;refine bd ?_;show Tri _ _ _ _ (PQ _ (.int .u64 (aK_ (wS latest eqv bals roots) 0 (min bals.length latest.length)))) _ _
 try refine aa_ ?_
 refine aG_ (fun i:Nat=>[(8,.int .i64 i),(7,.int .u64 (aK_ (wS latest eqv bals roots) 0 i))]) (fun i=>[.var [.sl 34 false (rows cc_ latest),.sl 1 false (aq_ .i64 eqv)]]) (fun i=>bals.length-i) (fun i=>i≤min bals.length latest.length) 0 (Nat.zero_le _) ?_ ?_
 ·exact Sn_ [] [0]
 intro i hi;(try simp only[aF_,aA_,List.set_cons_zero,List.set_cons_succ])
 by_cases q1:i<bals.length
 ·have e1 : decide ((i : Int) < ((bals.length : Nat) : Int)) = true := decide_eq_true (by omega)
  by_cases q2:i<latest.length
  ·have e2:decide ((i:Int)<((latest.length:Nat):Int))=true:=decide_eq_true (by omega)
   have hw:=ag_ q1 (by omega);have hs:=bT_ (wS latest eqv bals roots) 0 i;have hgl:=cw_ (f:=cc_) uu_ q2;have hgb:=gdn (k:=.u64) q1;have c1:=vU_ eqv false (i:Int) (by omega);have c2:=xZ_ roots true (vot latest i).root h4;generalize aK_ (wS latest eqv bals roots) 0 i=n at *;have hc:wS latest eqv bals roots i n=if (vot latest i).has=true∧(i:Int)∉eqv∧(vot latest i).root∈roots then IntKind.u64.wrap (n+bals.getD i 0)else n:=rfl
   generalize bals.getD i 0=b at *;change (rows cc_ latest).getD i []=cc_ (vot latest i)at hgl
   generalize vot latest i=x at *;obtain⟨xh,xe,xr⟩:=x;dsimp only at hc c2;repeat(first|refine aa_ ?_|simp only[go_sem,e1,e2])
   refine ac_ ?_;cases xh with
   | false =>
     rw[if_neg (by simp)]at hc;repeat(first|refine aa_ ?_|simp only[go_sem,hgl])
     refine ab_ ?_;repeat(first|refine aa_ ?_|simp only[go_sem,hw])
     refine⟨i+1,by omega,by omega,?_⟩;rw[hs,hc];exact Sn_ [] [0]
   | true =>
     repeat(first|refine aa_ ?_|simp only[go_sem,hgl])
     refine ae_ c1 ?_;by_cases q3:(i:Int)∈eqv
     ·rw[if_neg (by simp[q3])]at hc;rw[decide_eq_true q3];repeat(first|refine aa_ ?_|simp only[go_sem,hgl])
      refine ab_ ?_;repeat(first|refine aa_ ?_|simp only[go_sem,hw])
      refine⟨i+1,by omega,by omega,?_⟩;rw[hs,hc];exact Sn_ [] [0]
     ·rw[decide_eq_false q3]
      repeat(first|refine aa_ ?_|simp only[go_sem,hgl])
      refine ae_ c2 ?_;by_cases q4:xr∈roots
      ·rw[if_pos ⟨rfl,q3,q4⟩]at hc;rw[decide_eq_true q4];repeat(first|refine aa_ ?_|simp only[go_sem,hgb,Nat.mul_one])
       refine ac_ ?_;repeat(first|refine aa_ ?_|simp only[go_sem,hw,hgb,Nat.mul_one])
       refine⟨i+1,by omega,by omega,?_⟩;rw[hs,hc];exact Sn_ [] [0]
      ·rw[if_neg (by simp[q4])]at hc;rw[decide_eq_false q4];repeat(first|refine aa_ ?_|simp only[go_sem,hgb,Nat.mul_one])
       refine ab_ ?_;repeat(first|refine aa_ ?_|simp only[go_sem,hw])
       refine⟨i+1,by omega,by omega,?_⟩;rw[hs,hc];exact Sn_ [] [0]
  ·have e2:decide ((i:Int)<((latest.length:Nat):Int))=false:=decide_eq_false (by omega);obtain rfl:i=min bals.length latest.length:=by omega
   repeat(first|refine aa_ ?_|simp only[go_sem,e1,e2])
   refine Re_ ?_
   exact ah_
 ·have e1:decide ((i:Int)<((bals.length:Nat):Int))=false:=decide_eq_false (by omega);obtain rfl:i=min bals.length latest.length:=by omega
  repeat(first|refine aa_ ?_|simp only[go_sem,e1])
  refine Re_ ?_
  exact ah_
end Go.Proofs.YtipiipgpnkpejaaGreat
