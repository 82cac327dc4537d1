/-
 My texts Ia, Ib, Ir, La, Lb, Lc, joined.
-/
import Derived.Test.YtkgimpdgncakjaaGreatV1
import Derived.Test.YtkgimpdgncakjaaGreatW3
import Derived.Test.YtkgimpdgncakjaaGreatW4
import Derived.Test.YtkgimpdgncakjaaGreatW5
namespace Go.Proofs.YtkgimpdgncakjaaGreat
open Go Go.FH Go.RowKit
set_option linter.unusedVariables false
set_option linter.unusedSimpArgs false
theorem ul_(l:List Int)(cl:Bool)(v:Int)(hb:l.length≤140737488355328):PC Tryz.prog 27 [.sl 1 cl (aq_ .i64 l),.int .i64 v] (.bool (decide (v∈l))):=by
 refine PC.fact 6 ED_ (by simp) ⟨aM_ _ _,trivial,trivial⟩ trivial ?_;unfold tu_;refine bd ?_;try refine aa_ ?_
 refine gr_ (fun i:Nat=>⟨6,[.sl 1 cl (aq_ .i64 l),.int .i64 v,.dead,.dead,.bool false,.int .i64 i],[]⟩) (fun _=>[]) (fun i=>l.length-i) (fun i=>i≤l.length∧v∉l.take i) [] 0 ⟨by omega,by simp⟩ evd rfl ?_;rintro i ⟨hi,hv⟩;try dsimp only
 try refine aa_ ?_
 refine bA_ evd (fun h=>?_) (fun h=>?_)
 ·have h1:i<l.length:=by simp at h;omega
  have hg:=ed_ (k:=.i64) h1;have hw:=ae_ h1 (by omega);have e0:l[i]=l.getD i 0:=by rw[List.getD_eq_getElem?_getD,List.getElem?_eq_getElem h1];rfl
  repeat(first|refine aa_ ?_|simp only[go_sem,hg,Nat.mul_one])
  refine bA_ evd (fun h=>?_) (fun h=>?_)
  ·have e1:l.getD i 0=v:=by simpa using h
   have hm:v∈l:=by rw[←e1,←e0];exact List.getElem_mem h1
   rw[decide_eq_true hm];try refine aa_ ?_
   exact af_
  ·have e1:l.getD i 0≠v:=by simpa using h
   repeat(first|refine aa_ ?_|simp only[go_sem,hw])
   refine⟨i+1,⟨h1,?_⟩,by omega,rfl⟩;rw[List.take_add_one,List.getElem?_eq_getElem h1];simp only[Option.toList_some,List.mem_append,List.mem_singleton,not_or];exact⟨hv,by rw[e0];exact fun e=>e1 e.symm⟩
 ·have h1:i=l.length:=by simp at h;omega
  subst h1;rw[List.take_length]at hv;rw[decide_eq_false hv];try refine aa_ ?_
  exact af_
theorem yo_(k:IntKind)(l:List Int)(i:Nat):(aq_ k l).take i=aq_ k (l.take i):=by simp[aq_]
theorem yn_(k:IntKind)(l:List Int)(i:Nat):(aq_ k l).drop i=aq_ k (l.drop i):=by simp[aq_]
theorem eZ_(k:IntKind)(l m:List Int):aq_ k l++aq_ k m=aq_ k (l++m):=by simp[aq_]
theorem CD_(k:IntKind)(v:Int):[[AV.int k v]]=aq_ k [v]:=rfl
def pQ_:List Int→Int→List Int
 | [],v=>[v]
 |a::r,v=>if a<v then a::pQ_ r v else if a=v then a::r else v::a::r
theorem zZ_:∀ (l:List Int) (v:Int) (i:Nat),i≤l.length→(∀j,j<i→l.getD j 0<v)→(∀_:i<l.length,¬l.getD i 0<v)→pQ_ l v=if i<l.length∧l.getD i 0=v then l else l.take i++[v]++l.drop i
 | [], v, i, hi, h1, h2 => by
   have:i=0:=by simpa using hi
   subst this;simp[pQ_]
 | a :: r, v, 0, hi, h1, h2 => by
   have h3:¬a<v:=by simpa using h2 (by simp)
   simp only[pQ_,if_neg h3];by_cases h4:a=v
   ·simp[h4]
   ·simp[h4]
 | a :: r, v, i + 1, hi, h1, h2 => by
   have h3:a<v:=by simpa using h1 0 (by omega)
   have ih:=zZ_ r v i (by simpa using hi) (fun j hj=>by simpa using h1 (j+1) (by omega)) (fun hlt=>by simpa using h2 (by simpa using hlt));simp only[pQ_,if_pos h3,ih];by_cases h4:i<r.length∧r.getD i 0=v
   ·rw[if_pos h4,if_pos (by simpa using h4)]
   ·rw[if_neg h4,if_neg (by simpa using h4)];simp
theorem Cp_(l:List Int)(v:Int):(pQ_ l v).length≤l.length+1:=by
 induction l with
 |nil=>simp[pQ_]
 | cons a r ih =>
   unfold pQ_;split
   ·simp;omega
   ·split<;>simp
theorem Cq_(l:List Int)(v:Int)(hb:l.length≤1000000):PC Tryz.prog 91 [.sl 1 false (aq_ .i64 l),.int .i64 v] (.sl 1 false (aq_ .i64 (pQ_ l v))):=by
 refine PC.fact 6 wI_ (by simp) ⟨aM_ _ _,trivial,trivial⟩ (aM_ _ _) ?_;unfold nO_;refine bd ?_;try refine aa_ ?_
 refine gr_ (fun i:Nat=>⟨6,[.sl 1 false (aq_ .i64 l),.int .i64 v,.dead,.dead,.sl 0 true [],.int .i64 i],[]⟩) (fun _=>[]) (fun i=>l.length-i) (fun i=>i≤l.length∧∀j,j<i→l.getD j 0<v) [] 0 ⟨by omega,fun j hj=>by omega⟩ evd rfl ?_;rintro i ⟨hi,hv⟩;try dsimp only
 have fin:(∀_:i<l.length,¬l.getD i 0<v)→True:=fun _=>trivial
 by_cases h1:i<l.length
 ·have hg:=ed_ (k:=.i64) h1
  have hw:=ae_ h1 (by omega);have e1:decide ((i:Int)<(l.length:Int))=true:=decide_eq_true (by omega);by_cases h2:l.getD i 0<v
  ·have e2:decide (l.getD i 0<v)=true:=decide_eq_true h2;repeat(first|refine aa_ ?_|simp only[go_sem,e1,hg,Nat.mul_one,e2])
   refine ac_ ?_;repeat(first|refine aa_ ?_|simp only[go_sem,hw])
   refine⟨i+1,⟨h1,fun j hj=>?_⟩,by omega,rfl⟩;by_cases e:j=i
   ·subst e;exact h2
   ·exact hv j (by omega)
  ·have e2:decide (l.getD i 0<v)=false:=decide_eq_false h2
   rw[zZ_ l v i hi hv (fun _=>h2)];repeat(first|refine aa_ ?_|simp only[go_sem,e1,hg,Nat.mul_one,e2])
   refine ab_ ?_;by_cases h3:l.getD i 0=v
   ·have e3:(l.getD i 0==v)=true:=by rw[beq_iff_eq];exact h3
    rw[if_pos ⟨h1,h3⟩];repeat(first|refine aa_ ?_|simp only[go_sem,e1,hg,Nat.mul_one,e3])
    refine PH_ ?_
    exact af_
   ·have e3:(l.getD i 0==v)=false:=by rw[←Bool.not_eq_true,beq_iff_eq];exact h3
    rw[if_neg (fun h=>h3 h.2)];repeat(first|refine aa_ ?_|simp only[go_sem,e1,hg,Nat.mul_one,e3])
    refine ab_ ?_;have d1:(l.drop i).take (l.length-i)=l.drop i:=List.take_of_length_le (by simp);repeat(first|refine aa_ ?_|simp only[go_sem,yo_,yn_,d1,CD_,eZ_])
    exact af_
 ·have hl:i=l.length:=by omega
  subst hl;have e1:decide ((l.length:Int)<(l.length:Int))=false:=decide_eq_false (by omega);rw[zZ_ l v l.length hi hv (fun h=>by omega),if_neg (fun h=>by omega),List.take_length,List.drop_length,List.append_nil];repeat(first|refine aa_ ?_|simp only[go_sem,e1])
  refine ab_ ?_;repeat(first|refine aa_ ?_|simp only[go_sem,e1])
  refine ab_ ?_;repeat(first|refine aa_ ?_|simp only[go_sem,yo_,yn_,CD_,eZ_])
  exact af_
def gj_(l m:List Int)(i:Nat):List Int:=(l.take i).foldl (fun a v=>if v∈m then pQ_ a v else a) []
theorem Ep_{l m:List Int}{i:Nat}(h:i<l.length):gj_ l m (i+1)=if l.getD i 0∈m then pQ_ (gj_ l m i) (l.getD i 0)else gj_ l m i:=by
 have e0:l[i]=l.getD i 0:=by rw[List.getD_eq_getElem?_getD,List.getElem?_eq_getElem h];rfl
 unfold gj_;rw[List.take_add_one,List.getElem?_eq_getElem h,Option.toList_some,List.foldl_append,List.foldl_cons,List.foldl_nil,e0]
theorem py_(l m:List Int):∀i,(gj_ l m i).length≤i
 |0=>by simp[gj_]
 | i + 1 => by
   have ih:=py_ l m i;by_cases h:i<l.length
   ·rw[Ep_ h];split
    ·have:=Cp_ (gj_ l m i) (l.getD i 0);omega
    ·omega
   ·have:gj_ l m (i+1)=gj_ l m i:=by unfold gj_;rw[List.take_of_length_le (by omega),List.take_of_length_le (by omega)]
    rw[this];omega
theorem uT_(x:Slg)(l m:List Int)(c d:Bool)(hx:x.fst.vals=.sl 1 c (aq_ .i64 l))(hy:x.snd.vals=.sl 1 d (aq_ .i64 m))(hl:l.length≤100)(hm:m.length≤100):
 PC Tryz.prog 26 [.agg (bZ_ x)] (.sl 1 false (aq_ .i64 (gj_ l m l.length))):=by
 obtain⟨⟨a1,a2,r1,v1⟩,⟨b1,b2,r2,v2⟩⟩:=x;dsimp only at hx hy;subst hx hy;have hp:PuL (bZ_ ⟨⟨a1,a2,r1,.sl 1 c (aq_ .i64 l)⟩,⟨b1,b2,r2,.sl 1 d (aq_ .i64 m)⟩⟩):=(fz_ _).2 ⟨aM_ _ _,aM_ _ _⟩;refine PC.fact 5 sn_ (by simp) ⟨hp,trivial⟩ (aM_ _ _) ?_;unfold kQ_;refine bd ?_;try refine aa_ ?_
 refine gs_ (fun i:Nat×Bool=>⟨5,[.agg (bZ_ ⟨⟨a1,a2,r1,.sl 1 c (aq_ .i64 l)⟩,⟨b1,b2,r2,.sl 1 d (aq_ .i64 m)⟩⟩),.ptr 0 0,.sl 0 true [],if i.2 then .sl 1 false (aq_ .i64 (gj_ l m i.1))else .sl 0 true [],.int .i64 i.1],[]⟩) (fun _=>[.var (bZ_ ⟨⟨a1,a2,r1,.sl 1 c (aq_ .i64 l)⟩,⟨b1,b2,r2,.sl 1 d (aq_ .i64 m)⟩⟩)]) (fun i=>l.length-i.1) (fun i=>i.1≤l.length∧(i.2=false→gj_ l m i.1=[])) (0,false) ⟨by dsimp only;omega,fun _=>rfl⟩ ?_ ?_
 ·simp only[Bool.false_eq_true,if_false];exact QV_ [] [0]
 rintro⟨i,b⟩ ⟨hi,hb⟩;dsimp only at hi hb ⊢;by_cases h1:i<l.length
 case neg=>
  have e1:decide ((i:Int)<(l.length:Int))=false:=decide_eq_false (by omega);obtain rfl:i=l.length:=by omega
  repeat(first|refine aa_ ?_|simp only[go_sem,e1])
  refine ab_ ?_;cases b with
  | true =>
    simp only[if_true];try refine aa_ ?_
    exact af_
  | false =>
    rw[hb rfl];simp only[Bool.false_eq_true,if_false];try refine aa_ ?_
    refine⟨_,by first|rfl|exact evd,.inr ⟨.sl 0 true [],evd,trivial,Wk.empty _ _ _⟩⟩
 have e1:decide ((i:Int)<(l.length:Int))=true:=decide_eq_true (by omega);have hgd:=ed_ (k:=.i64) h1;have hw:=ae_ h1 (by omega);have hr:=ul_ m d (l.getD i 0) (by omega);have hcl:=py_ l m i;repeat(first|refine aa_ ?_|simp only[go_sem,e1,hgd,Nat.mul_one])
 refine ac_ ?_;repeat(first|refine aa_ ?_|simp only[go_sem,hgd,Nat.mul_one])
 refine au_ (hr) ?_;try refine aa_ ?_
 by_cases h2:l.getD i 0∈m
 ·rw[decide_eq_true h2]
  refine ac_ ?_;have hs:gj_ l m (i+1)=pQ_ (gj_ l m i) (l.getD i 0):=by rw[Ep_ h1,if_pos h2]
  have hc:=Cq_ (gj_ l m i) (l.getD i 0) (by omega);rw[←hs]at hc;cases b with
  | true =>
    simp only[if_true];repeat(first|refine aa_ ?_|simp only[go_sem,hgd,Nat.mul_one])
    refine ah_ hc ?_;repeat(first|refine aa_ ?_|simp only[go_sem,hw])
    refine⟨(i+1,true),⟨by dsimp only;omega,fun h=>(by cases h)⟩,by dsimp only;omega,?_⟩;simp only[if_true];exact QV_ [] [0]
  | false =>
    rw[hb rfl]at hc;simp only[Bool.false_eq_true,if_false];repeat(first|refine aa_ ?_|simp only[go_sem,hgd,Nat.mul_one])
    refine ir_ (hc) (by repeat(first|exact trivial|(refine⟨Wk.refl _,?_⟩)|(refine⟨Wk.empty 0 1 _,?_⟩))) (by simp[PuL,Pu,dh_,je_,aM_]) ?_;repeat(first|refine aa_ ?_|simp only[go_sem,hw])
    refine⟨(i+1,true),⟨by dsimp only;omega,fun h=>(by cases h)⟩,by dsimp only;omega,?_⟩;simp only[if_true];exact QV_ [] [0]
 ·rw[decide_eq_false h2]
  refine ab_ ?_;have hs:gj_ l m (i+1)=gj_ l m i:=by rw[Ep_ h1,if_neg h2]
  repeat(first|refine aa_ ?_|simp only[go_sem,hw])
  refine⟨(i+1,b),⟨by dsimp only;omega,fun h=>(by dsimp only;rw[hs];exact hb h)⟩,by dsimp only;omega,?_⟩;dsimp only;rw[hs];cases b
  ·simp only[Bool.false_eq_true,if_false];exact QV_ [] [0]
  ·simp only[if_true];exact QV_ [] [0]
def sur(a b:Clm):Bool:=decide (a.src<b.src)&&decide (b.tgt<a.tgt)
def dbl(a b:Clm):Bool:=(a.tgt==b.tgt)&&((a.src != b.src) || !decide (a.root=b.root))
def slb(a b:Clm):Bool:=dbl a b || sur a b || sur b a
theorem sD_(a b:Clm)(ha:a.good=true)(hb:b.good=true)(pa:a.Pure)(pb:b.Pure):PC Tryz.prog 166 [.agg (bz_ a),.agg (bz_ b)] (.bool (slb a b)):=by
 refine PC.fact 8 qH_ (by simp) ⟨(jr_ a).2 pa,(jr_ b).2 pb,trivial⟩ trivial ?_;have hc:az_=.seq az_.hd (.seq (az_.tl 1).hd (.seq (az_.tl 2).hd (.seq (az_.tl 3).hd (az_.tl 4)))):=rfl
 -- the last part: three results joined
 have t4:∀ (D s1 s2:Bool) (ts:List (Nat×AV)),Tri Tryz.prog 58 0 (az_.tl 4) (PQ [.tmp 4] (.bool (D || s1 || s2))) ⟨8,[.agg (bz_ a),.agg (bz_ b),.ptr 0 0,.ptr 1 0,.bool false,.bool D,.bool s1,.bool s2],ts⟩ [.var (bz_ a),.var (bz_ b)]:=by
  intro D s1 s2 ts;unfold az_;refine bd ?_;simp only[ad_.tl];cases D
  ·cases s1
   ·try refine aa_ ?_
    exact af_
   ·try refine aa_ ?_
    exact af_
  ·try refine aa_ ?_
   exact af_
 have t3:∀ (D s1:Bool) (ts:List (Nat×AV)),Tri Tryz.prog 58 0 (.seq (az_.tl 3).hd (az_.tl 4)) (PQ [.tmp 4] (.bool (D || s1 || sur b a))) ⟨8,[.agg (bz_ a),.agg (bz_ b),.ptr 0 0,.ptr 1 0,.bool false,.bool D,.bool s1,.dead],ts⟩ [.var (bz_ a),.var (bz_ b)]:=by
  intro D s1 ts;generalize az_.tl 4=cT at *;unfold az_ sur;refine bd ?_;simp only[ad_.tl,ad_.hd];cases e1:decide (b.src<a.src)with
  | false =>
    repeat(first|refine aa_ ?_|simp only[go_sem,e1])
    exact t4 _ _ _ _
  | true =>
    repeat(first|refine aa_ ?_|simp only[go_sem,e1])
    exact t4 _ _ _ _
 have t2:∀ (D:Bool) (ts:List (Nat×AV)),Tri Tryz.prog 58 0 (.seq (az_.tl 2).hd (.seq (az_.tl 3).hd (az_.tl 4))) (PQ [.tmp 4] (.bool (D || sur a b || sur b a))) ⟨8,[.agg (bz_ a),.agg (bz_ b),.ptr 0 0,.ptr 1 0,.bool false,.bool D,.dead,.dead],ts⟩ [.var (bz_ a),.var (bz_ b)]:=by
  intro D ts;clear t4;generalize ad_.seq (az_.tl 3).hd (az_.tl 4)=cT at *;have t3':=fun s1=>t3 D s1
  clear t3;generalize sur b a=s2 at *;unfold az_ sur;refine bd ?_;simp only[ad_.tl,ad_.hd];cases e1:decide (a.src<b.src)with
  | false =>
    repeat(first|refine aa_ ?_|simp only[go_sem,e1])
    exact t3' _ _
  | true =>
    repeat(first|refine aa_ ?_|simp only[go_sem,e1])
    exact t3' _ _
 clear t3 t4;rw[hc];clear hc;generalize ad_.seq (az_.tl 2).hd (.seq (az_.tl 3).hd (az_.tl 4))=cT at *;unfold az_ slb;refine bd ?_;generalize sur a b=s1 at *;generalize sur b a=s2 at *;unfold dbl;simp only[ad_.tl,ad_.hd];cases e1:(a.tgt==b.tgt)with
 | false =>
   repeat(first|refine aa_ ?_|simp only[go_sem,ha,hb,e1])
   exact t2 _ _
 | true =>
   cases e2:(a.src != b.src)with
   | true =>
     repeat(first|refine aa_ ?_|simp only[go_sem,ha,hb,e1,e2])
     exact t2 _ _
   | false =>
     repeat(first|refine aa_ ?_|simp only[go_sem,ha,hb,e1,e2])
     exact t2 _ _
def evE(x:Slg)(l m:List Int)(n:Int):Int:=
 if cM_ l n≠0 then cM_ l n else if cM_ m n≠0 then cM_ m n else if x.fst.tgt<x.fst.src∨x.snd.tgt<x.snd.src then 2
 else if slb x.fst x.snd=false∨gj_ l m l.length=[]then 20 else 0
theorem Db_(x:Slg)(l m:List Int)(c d:Bool)(n:Int)(hx:x.fst.vals=.sl 1 c (aq_ .i64 l))(hy:x.snd.vals=.sl 1 d (aq_ .i64 m))(hl:l.length≤100)(hm:m.length≤100):
 PC Tryz.prog 94 [.agg (bZ_ x),.int .i64 n] (.int .i64 (evE x l m n)):=by
 obtain⟨⟨a1,a2,r1,v1⟩,⟨b1,b2,r2,v2⟩⟩:=x;dsimp only at hx hy;subst hx hy;have cu:=uT_ ⟨⟨a1,a2,r1,.sl 1 c (aq_ .i64 l)⟩,⟨b1,b2,r2,.sl 1 d (aq_ .i64 m)⟩⟩ l m c d rfl rfl hl hm;have sl:=sD_ ⟨a1,a2,r1,.sl 1 c (aq_ .i64 l)⟩ ⟨b1,b2,r2,.sl 1 d (aq_ .i64 m)⟩ rfl rfl (aM_ _ _) (aM_ _ _);have w1:=ft_ l c n (by omega);have w2:=ft_ m d n (by omega);refine PC.fact 7 jO_ (by simp) ⟨(fz_ _).2 ⟨aM_ _ _,aM_ _ _⟩,trivial,trivial⟩ trivial ?_;unfold fq_ evE;refine bd ?_;(try dsimp only)
 generalize slb ⟨a1,a2,r1,.sl 1 c (aq_ .i64 l)⟩ ⟨b1,b2,r2,.sl 1 d (aq_ .i64 m)⟩=S at *;generalize gj_ l m l.length=R at *;by_cases q1:cM_ l n=0
 case neg=>
  have e1:(cM_ l n != 0)=true:=by rw[bne_iff_ne];exact q1
  rw[if_pos q1];try refine aa_ ?_
  refine ah_ w1 ?_;repeat(first|refine aa_ ?_|simp only[go_sem,e1])
  refine PH_ ?_
  exact af_
 rw[if_neg (fun h=>h q1)];rw[q1]at w1;by_cases q2:cM_ m n=0
 case neg=>
  have e1:(cM_ m n != 0)=true:=by rw[bne_iff_ne];exact q2
  rw[if_pos q2];try refine aa_ ?_
  refine Qy_ w1 ?_
  refine PG_ ?_
  refine ah_ w2 ?_;repeat(first|refine aa_ ?_|simp only[go_sem,e1])
  refine PH_ ?_
  exact af_
 rw[if_neg (fun h=>h q2)];rw[q2]at w2;try refine aa_ ?_
 refine Qy_ w1 ?_
 refine PG_ ?_
 refine Qy_ w2 ?_
 refine ab_ ?_;by_cases q3:a2<a1
 ·have e3:decide (a2<a1)=true:=decide_eq_true q3;rw[if_pos (.inl q3)];repeat(first|refine aa_ ?_|simp only[go_sem,e3])
  refine PH_ ?_
  exact af_
 have e3:decide (a2<a1)=false:=decide_eq_false q3;by_cases q4:b2<b1
 ·have e4:decide (b2<b1)=true:=decide_eq_true q4;rw[if_pos (.inr q4)];repeat(first|refine aa_ ?_|simp only[go_sem,e3,e4])
  refine PH_ ?_
  exact af_
 have e4:decide (b2<b1)=false:=decide_eq_false q4;rw[if_neg (fun h=>h.elim q3 q4)];repeat(first|refine aa_ ?_|simp only[go_sem,e3,e4])
 refine PG_ ?_
 refine ah_ sl ?_;cases S with
 | false =>
   rw[if_pos (.inl rfl)];try refine aa_ ?_
   refine PH_ ?_
   exact af_
 | true =>
   try refine aa_ ?_
   refine ah_ cu ?_;by_cases q5:R=[]
   ·subst q5;rw[if_pos rfl];try refine aa_ ?_
    refine PH_ ?_
    exact af_
   ·have e5:((R.length:Int)==0)=false:=by
     rw[←Bool.not_eq_true,beq_iff_eq];have:=List.length_pos_iff.2 q5;omega
    rw[if_neg (by simp[q5])];repeat(first|refine aa_ ?_|simp only[go_sem,e5])
    refine PG_ ?_
    exact af_
def DC_(z:Int):UInt8:=UInt8.ofNat (IntKind.u8.wrap z).toNat
theorem vx_(z:Int):IntKind.u8.wrap z=((DC_ z).toNat:Int):=by
 have h:0≤IntKind.u8.wrap z∧IntKind.u8.wrap z<256:=by rw[IntKind.wrap_u8];omega
 unfold DC_;rw[UInt8.toNat_ofNat',Nat.mod_eq_of_lt (by omega)];omega
theorem pP_(x m:Int)(h0:0≤m)(hm:m<9223372036854775808):∃r:Nat,fP_ .i64 x m=r∧(r:Int)≤m:=by
 unfold fP_
 have h:(BitVec.ofInt IntKind.i64.bits x &&& BitVec.ofInt IntKind.i64.bits m).toNat≤m.toNat:=by
  rw[BitVec.toNat_and];refine Nat.le_trans Nat.and_le_right ?_;rw[BitVec.toNat_ofInt];show (m % ((2 ^ 64:Nat):Int)).toNat≤m.toNat
  omega
 generalize (BitVec.ofInt IntKind.i64.bits x &&& BitVec.ofInt IntKind.i64.bits m).toNat=r at *;exact⟨r,aF_ (by omega) (by omega),by omega⟩
def yH_(n:Int):Rt:=((rt0.set 0 (DC_ n)).set 1 (DC_ (dq_ .i64 n 8))).set 31 (DC_ (IntKind.i64.wrap (n*7)))
theorem el_(n:Int):PC Tryz.prog 16 [.int .i64 n] (.agg (rtc (yH_ n))):=by
 refine PC.fact 3 BJ_ (by simp) ⟨trivial,trivial⟩ ((cc_ _)) ?_;unfold rl_ yH_;refine bd ?_;have h0:=vx_ n;have h1:=vx_ (dq_ .i64 n 8);have h2:=vx_ (IntKind.i64.wrap (n*7));generalize DC_ n=b0 at *;generalize DC_ (dq_ .i64 n 8)=b1 at *;generalize DC_ (IntKind.i64.wrap (n*7))=b2 at *;have s0:∀ (r:Rt) (b:UInt8),spl (rtc r) 0 [.int .u8 (b.toNat:Int)]=rtc (r.set 0 b):=fun r b=>sV_ r (by decide) b
 have s1:∀ (r:Rt) (b:UInt8),spl (rtc r) 1 [.int .u8 (b.toNat:Int)]=rtc (r.set 1 b):=fun r b=>sV_ r (by decide) b
 have s2:∀ (r:Rt) (b:UInt8),spl (rtc r) 31 [.int .u8 (b.toNat:Int)]=rtc (r.set 31 b):=fun r b=>sV_ r (by decide) b
 repeat(first|refine aa_ ?_|simp only[go_sem,h0,h1,h2,s0,s1,s2])
 exact af_
def eL_(bits:Int)(i:Nat):List Int:=((List.range i).filter fun j=>fP_ .i64 (dq_ .i64 bits j) 1==1).map Int.ofNat
theorem GQ_(bits:Int)(i:Nat):eL_ bits (i+1)=if (fP_ .i64 (dq_ .i64 bits i) 1==1)=true then eL_ bits i++[(i:Int)]else eL_ bits i:=by
 unfold eL_;rw[List.range_succ,List.filter_append,List.map_append];by_cases h:(fP_ .i64 (dq_ .i64 bits i) 1==1)=true
 ·rw[if_pos h];simp[h]
 ·rw[if_neg h];simp[h]
theorem mP_(bits:Int)(i:Nat):(eL_ bits i).length≤i:=by
 unfold eL_;rw[List.length_map];exact Nat.le_trans (List.length_filter_le _ _) (by simp)
def yL_(n:Nat)(bits:Int):List Int:=if eL_ bits n=[]∧0<n then [0]else eL_ bits n
theorem yM_(n:Nat)(bits:Int):(yL_ n bits).length≤n:=by
 unfold yL_;split
 ·rename_i h;simp;omega
 ·exact mP_ bits n
theorem yN_(n:Nat)(bits:Int)(hn:n≤1000000):PC Tryz.prog 65 [.int .i64 n,.int .i64 bits] (.sl 1 false (aq_ .i64 (yL_ n bits))):=by
 refine PC.fact 7 lR_ (by simp) ⟨trivial,trivial,trivial⟩ (aM_ _ _) ?_;unfold bW_;refine bd ?_;try refine aa_ ?_
 refine gs_ (fun x:Nat×Bool=>⟨7,[.int .i64 n,.int .i64 bits,.dead,.dead,.sl 0 true [],if x.2 then .hs 1 0 0 (eL_ bits x.1).length else .sl 0 true [],.int .i64 x.1],[]⟩) (fun x=>if x.2 then [.vec 1 (aq_ .i64 (eL_ bits x.1))]else []) (fun x=>n-x.1) (fun x=>x.1≤n∧(x.2=false→eL_ bits x.1=[])) (0,false) ⟨Nat.zero_le _,fun _=>rfl⟩ ?_ ?_
 ·simp only[Bool.false_eq_true,if_false];exact QV_ [] []
 rintro⟨i,b⟩ ⟨hi,hb⟩;dsimp only at hi hb ⊢;have hlen:=mP_ bits i;by_cases h1:i<n
 ·have e1:decide ((i:Int)<(n:Int))=true:=decide_eq_true (by omega)
  have hw:=ae_ h1 (by omega);have hu:IntKind.u64.wrap (i:Int)=(i:Int):=aL_ (by omega) (by omega);have hs:=GQ_ bits i;cases hq:(fP_ .i64 (dq_ .i64 bits i) 1==1)with
  | true =>
    rw[hq,if_pos rfl]at hs;have hnum:∀l:List Int,aq_ .i64 l++[[.int .i64 (i:Int)]]=aq_ .i64 (l++[(i:Int)]):=fun l=>eZ_ .i64 l [(i:Int)]
    cases b with
    | true =>
      simp only[if_true];repeat(first|refine aa_ ?_|simp only[go_sem,e1])
      refine ac_ ?_;repeat(first|refine aa_ ?_|simp only[go_sem,hu,hq])
      refine ac_ ?_;repeat(first|refine aa_ ?_|simp only[go_sem,hw,hnum])
      refine⟨(i+1,true),⟨h1,fun h=>(by cases h)⟩,by dsimp only;omega,?_⟩;simp only[if_true,hs,List.length_append,List.length_cons,List.length_nil,Nat.zero_add];exact QV_ [] [1]
    | false =>
      have h0:=hb rfl;rw[h0]at hs;simp only[Bool.false_eq_true,if_false];repeat(first|refine aa_ ?_|simp only[go_sem,e1])
      refine ac_ ?_;repeat(first|refine aa_ ?_|simp only[go_sem,hu,hq])
      refine ac_ ?_;repeat(first|refine aa_ ?_|simp only[go_sem,hw])
      refine⟨(i+1,true),⟨h1,fun h=>(by cases h)⟩,by dsimp only;omega,?_⟩;simp only[if_true,hs];exact QV_ [] [0]
  | false =>
    rw[hq,if_neg (by simp)]at hs;cases b with
    | true =>
      simp only[if_true];repeat(first|refine aa_ ?_|simp only[go_sem,e1])
      refine ac_ ?_;repeat(first|refine aa_ ?_|simp only[go_sem,hu,hq])
      refine ab_ ?_;repeat(first|refine aa_ ?_|simp only[go_sem,hw])
      refine⟨(i+1,true),⟨h1,fun h=>(by cases h)⟩,by dsimp only;omega,?_⟩;simp only[if_true,hs];exact QV_ [] [0]
    | false =>
      simp only[Bool.false_eq_true,if_false];repeat(first|refine aa_ ?_|simp only[go_sem,e1])
      refine ac_ ?_;repeat(first|refine aa_ ?_|simp only[go_sem,hu,hq])
      refine ab_ ?_;repeat(first|refine aa_ ?_|simp only[go_sem,hw])
      refine⟨(i+1,false),⟨h1,fun h=>(by dsimp only;rw[hs];exact hb rfl)⟩,by dsimp only;omega,?_⟩;simp only[Bool.false_eq_true,if_false];exact QV_ [] []
 have e1:decide ((i:Int)<(n:Int))=false:=decide_eq_false (by omega);obtain rfl:i=n:=by omega
 have e2:decide ((i:Int) > 0)=decide (0<i):=by rw[decide_eq_decide];omega
 unfold yL_;by_cases h0:eL_ bits i=[]
 ·by_cases hz:0<i
  ·have e3:decide ((i:Int) > 0)=true:=decide_eq_true (by omega)
   rw[if_pos ⟨h0,hz⟩];cases b with
   | true =>
     simp only[if_true,h0];repeat(first|refine aa_ ?_|simp only[go_sem,e1])
     refine ab_ ?_;repeat(first|refine aa_ ?_|simp only[go_sem,e3])
     refine PH_ ?_
     refine⟨_,by first|rfl|exact evd,.inr ⟨.sl 1 true (aq_ .i64 [0]),evd,aM_ _ _,Wk.open_ _ _ _⟩⟩
   | false =>
     simp only[Bool.false_eq_true,if_false];repeat(first|refine aa_ ?_|simp only[go_sem,e1])
     refine ab_ ?_;repeat(first|refine aa_ ?_|simp only[go_sem,e3])
     refine PH_ ?_
     refine⟨_,by first|rfl|exact evd,.inr ⟨.sl 1 true (aq_ .i64 [0]),evd,aM_ _ _,Wk.open_ _ _ _⟩⟩
  ·have e3:decide ((i:Int) > 0)=false:=decide_eq_false (by omega)
   rw[if_neg (fun h=>hz h.2),h0];cases b with
   | true =>
     simp only[if_true];repeat(first|refine aa_ ?_|simp only[go_sem,e1])
     refine ab_ ?_;repeat(first|refine aa_ ?_|simp only[go_sem,e3])
     refine PG_ ?_
     exact af_
   | false =>
     simp only[Bool.false_eq_true,if_false];repeat(first|refine aa_ ?_|simp only[go_sem,e1])
     refine ab_ ?_;repeat(first|refine aa_ ?_|simp only[go_sem,e3])
     refine PG_ ?_
     refine⟨_,by first|rfl|exact evd,.inr ⟨.sl 0 true [],evd,trivial,Wk.empty _ _ _⟩⟩
 ·rw [if_neg (fun h => h0 h.1)]
  cases b with
  |false=>exact absurd (hb rfl) h0
  | true =>
    have e3:(((eL_ bits i).length:Int)==0)=false:=by
     rw[←Bool.not_eq_true,beq_iff_eq];have:=List.length_pos_iff.2 h0;omega
    simp only[if_true];repeat(first|refine aa_ ?_|simp only[go_sem,e1])
    refine ab_ ?_;repeat(first|refine aa_ ?_|simp only[go_sem,e3])
    refine PG_ ?_
    exact af_
theorem Kf_(a b:Int):PC Tryz.prog 193 [.int .u64 a,.int .u64 b] (.tup [.int .u64 (rM_ a b).1,.int .i64 (rM_ a b).2]):=by
 refine PC.fact 6 EA_ (by simp) puA puA ?_;unfold tr_;refine bd ?_;unfold rM_;try refine aa_ ?_
 refine aW_ (fun h=>?_) (fun h=>?_)
 ·try refine aa_ ?_
  rw[if_pos (by simpa using h)];exact af_
 ·try refine aa_ ?_
  rw[if_neg (by simpa using h)];exact af_
theorem KP_(n:Int):PC Tryz.prog 220 [.int .u64 n] (.bool (iC_ n)):=by
 refine PC.fact 3 wB_ (by simp) puA puA ?_;unfold nI_;refine bd ?_;unfold iC_;cases h:decide (1≤n)with
 | true =>
   repeat(first|refine aa_ ?_|simp only[go_sem,h])
   exact af_
 | false =>
   repeat(first|refine aa_ ?_|simp only[go_sem,h])
   exact af_
theorem Lw_(a b:Int):PC Tryz.prog 221 [.int .u64 a,.int .u64 b] (.tup [.int .u64 (wV_ a b).1,.int .i64 (wV_ a b).2]):=by
 refine PC.fact 6 EB_ (by simp) puA puA ?_;unfold ts_;refine bd ?_;unfold wV_;by_cases h0:b=0
 ·subst h0;try refine aa_ ?_
  refine PG_ ?_
  rw[if_neg (by simp)];exact af_
 ·have e0:(b != 0)=true:=by simp[h0]
  repeat(first|refine aa_ ?_|simp only[go_sem,e0,h0])
  refine aW_ (fun h=>?_) (fun h=>?_)
  ·try refine aa_ ?_
   rw[if_pos (by simpa[h0]using h)];exact af_
  ·try refine aa_ ?_
   rw[if_neg (by simpa[h0]using h)];exact af_
theorem FL_(e p:Int):PC Tryz.prog 188 [.int .u64 e,.int .u64 p] (.tup [.int .u64 (cf_ e p).1,.int .i64 (cf_ e p).2]):=by
 refine PC.fact 6 tY_ (by simp) puA puA ?_;unfold lE_;refine bd ?_;unfold cf_;have c1:=KP_ p;have c2:=Lw_ e p;try refine aa_ ?_
 refine ah_ c1 ?_;cases h:iC_ p with
 | true =>
   rw[if_pos rfl];try refine aa_ ?_
   refine PG_ ?_
   refine Qy_ c2 ?_
   exact af_
 | false =>
   rw[if_neg (by simp)];try refine aa_ ?_
   refine PH_ ?_
   exact af_
theorem Ds_(l:List Int){i:Nat}(h:(fc_ l i).2≠0):∀n,i≤n→fc_ l n=fc_ l i
 |0,hn=>by rw[show i=0 by omega]
 | n + 1, hn => by
   by_cases he:i=n+1
   ·rw[he]
   ·have:=Ds_ l h n (by omega);show (if (fc_ l n).2≠0 then fc_ l n else _)=_
    rw[this,if_pos h]
theorem Ke_{a b:Int}(h:(rM_ a b).2≠0):rM_ a b=(0,(rM_ a b).2):=by
 unfold rM_ at *;split at h
 ·rw[if_pos (by assumption)]
 ·exact absurd rfl h
theorem yO_(l:List Int)(c:Bool)(hb:l.length≤1000000):PC Tryz.prog 143 [.sl 1 c (aq_ .u64 l)] (.tup [.int .u64 (re_ l).1,.int .i64 (re_ l).2]):=by
 refine PC.fact 8 EC_ (by simp) puA puA ?_;unfold tt_;refine bd ?_;try refine aa_ ?_
 refine am_ (fun i:Nat=>[(5,.int .i64 i),(4,.int .u64 (fc_ l i).1)]) (fun _=>[]) (fun i=>l.length-i) (fun i=>i≤l.length∧(fc_ l i).2=0) 0 ⟨Nat.zero_le _,rfl⟩ ?_ ?_
 ·exact QV_ [] []
 rintro i ⟨hi,he⟩;by_cases h1:i<l.length
 ·have e1:decide ((i:Int)<(l.length:Int))=true:=decide_eq_true (by omega)
  have hgd:=gdn (k:=.u64) h1;have hw:=ae_ h1 (by omega);have c1:=Kf_ (fc_ l i).1 (l.getD i 0);have hs:fc_ l (i+1)=rM_ (fc_ l i).1 (l.getD i 0):=by show (if (fc_ l i).2≠0 then fc_ l i else _)=_;rw[if_neg (by simp[he])]
  rw[←hs]at c1;repeat(first|refine aa_ ?_|simp only[go_sem,e1])
  refine ac_ ?_;repeat(first|refine aa_ ?_|simp only[go_sem,hgd,Nat.mul_one])
  refine Qy_ c1 ?_
  refine aW_ (fun h=>?_) (fun h=>?_)
  ·have h':(fc_ l (i+1)).2≠0:=by simpa using h
   have hE:re_ l=fc_ l (i+1):=Ds_ l h' _ h1;rw[hE];have h2:=Ke_ (by rw[←hs];exact h');rw[←hs]at h2;try refine aa_ ?_
   generalize fc_ l (i+1)=q at *;obtain⟨q1,q2⟩:=q;cases h2;exact af_
  ·have h':(fc_ l (i+1)).2=0:=by simpa using h
   repeat(first|refine aa_ ?_|simp only[go_sem,hw])
   refine⟨i+1,⟨h1,h'⟩,by omega,?_⟩;exact QV_ [] []
 ·obtain rfl:i=l.length:=by omega
  have e1:decide ((l.length:Int)<(l.length:Int))=false:=decide_eq_false (by omega);repeat(first|refine aa_ ?_|simp only[go_sem,e1])
  refine PG_ ?_
  rw[show re_ l=fc_ l l.length from rfl,he];exact af_
theorem wj_(l:List Rt)(c:Bool)(r:Rt)(hb:l.length≤1000000):PC Tryz.prog 164 [.sl 32 c (rows rtc l),.agg (rtc r)] (.bool (decide (r∈l))):=by
 refine PC.fact 6 sh_ (by simp) ⟨(bp_ fun x _=>cc_ x),cc_ _,trivial⟩ trivial ?_;unfold kL_;refine bd ?_;try refine aa_ ?_
 refine am_ (fun i:Nat=>[(5,.int .i64 i)]) (fun _=>[.var (rtc r)]) (fun i=>l.length-i) (fun i=>i≤l.length∧∀j,j<i→l.getD j rt0≠r) 0 ⟨Nat.zero_le _,fun j hj=>by omega⟩ ?_ ?_
 ·exact QV_ [] [0]
 rintro i ⟨hi,hn⟩;by_cases h1:i<l.length
 ·have e1:decide ((i:Int)<(l.length:Int))=true:=decide_eq_true (by omega)
  have hgd:=aK_ (f:=rtc) rt0 h1;have hw:=ae_ h1 (by omega);have hm:l.getD i rt0∈l:=by rw[List.getD_eq_getElem?_getD,List.getElem?_eq_getElem h1];exact List.getElem_mem h1
  repeat(first|refine aa_ ?_|simp only[go_sem,e1])
  refine ac_ ?_;repeat(first|refine aa_ ?_|simp only[go_sem,hgd])
  refine aW_ (fun h=>?_) (fun h=>?_)
  ·have hr:l.getD i rt0=r:=by simpa using h
   subst hr;try refine aa_ ?_
   rw[decide_eq_true hm];exact af_
  ·have hr:l.getD i rt0≠r:=by simpa using h
   repeat(first|refine aa_ ?_|simp only[go_sem,hw])
   refine⟨i+1,⟨h1,fun j hj=>?_⟩,by omega,?_⟩
   ·by_cases hji:j=i
    ·rw[hji];exact hr
    ·exact hn j (by omega)
   ·exact QV_ [] [0]
 ·obtain rfl:i=l.length:=by omega
  have e1:decide ((l.length:Int)<(l.length:Int))=false:=decide_eq_false (by omega)
  have e2:decide (r∈l)=false:=by
   refine decide_eq_false fun hr=>?_
   obtain⟨j,hj,rfl⟩:=List.getElem_of_mem hr;exact hn j hj (by simp[List.getD_eq_getElem?_getD,hj])
  rw[e2];repeat(first|refine aa_ ?_|simp only[go_sem,e1])
  refine PG_ ?_
  exact af_
theorem xP_(a b:Rt):PC Tryz.prog 144 [.agg (rtc a),.agg (rtc b)] (.int .i64 (rT_ a b)):=by
 refine PC.fact 6 mV_ (by simp) puA puA ?_;unfold ho_;refine bd ?_;try refine aa_ ?_
 refine am_ (fun i:Nat=>[(5,.int .i64 i)]) (fun _=>[.var (rtc a),.var (rtc b)]) (fun i=>32-i) (fun i=>i≤32∧rT_ a b=tA_ a b (32-i) i) 0 ⟨by omega,rfl⟩ ?_ ?_
 ·exact QV_ [] [0,1]
 rintro i ⟨hi,hn⟩;rw[hn];by_cases h1:i<32
 ·have e1:decide ((i:Int)<32)=true:=decide_eq_true (by omega)
  have hw:=ae_ h1 (by omega);have g1:=Gi_ a h1;have g2:=Gi_ b h1;have ga:a.1.getD i 0=a.1[i]'(by rw[a.2];exact h1):=by simp[List.getD_eq_getElem?_getD,a.2,h1]
  have gb:b.1.getD i 0=b.1[i]'(by rw[b.2];exact h1):=by simp[List.getD_eq_getElem?_getD,b.2,h1]
  rw[←ga]at g1;rw[←gb]at g2;obtain⟨f,hf⟩:∃f,32-i=f+1:=⟨31-i,by omega⟩
  have hs:tA_ a b (32-i) i=if a.1.getD i 0<b.1.getD i 0 then -1 else if b.1.getD i 0<a.1.getD i 0 then 1 else tA_ a b (32-(i+1)) (i+1):=by
   rw[hf,show 32-(i+1)=f by omega];rfl
  rw[hs];generalize a.1.getD i 0=x at *;generalize b.1.getD i 0=y at *;have h0:(0:Int)≤i:=by omega
  have hn1:(i:Int)<32:=by omega
  repeat(first|refine aa_ ?_|simp only[go_sem,e1])
  refine ac_ ?_;repeat(first|refine aa_ ?_|simp only[go_sem,g1,g2,Nat.mul_one,Nat.zero_add])
  refine aW_ (fun h=>?_) (fun h=>?_)
  ·rw[if_pos (UInt8.lt_iff_toNat_lt.2 (by simpa using h))];try refine aa_ ?_
   exact af_
  ·rw[if_neg (fun h'=>by have:=UInt8.lt_iff_toNat_lt.1 h';simp at h;omega)]
   repeat(first|refine aa_ ?_|simp only[go_sem,g1,g2,Nat.mul_one,Nat.zero_add])
   refine aW_ (fun h=>?_) (fun h=>?_)
   ·rename_i h';rw[if_pos (UInt8.lt_iff_toNat_lt.2 (by simpa using h))];try refine aa_ ?_
    exact af_
   ·rename_i h';rw[if_neg (fun h'=>by have:=UInt8.lt_iff_toNat_lt.1 h';simp at h;omega)];repeat(first|refine aa_ ?_|simp only[go_sem,hw])
    refine⟨i+1,⟨h1,rfl⟩,by omega,?_⟩;exact QV_ [] [0,1]
 ·obtain rfl:i=32:=by omega
  rw[Nat.sub_self];try refine aa_ ?_
  refine PG_ ?_
  exact af_
theorem xQ_(a b:Wd):PC Tryz.prog 202 [.agg (wdc a),.agg (wdc b)] (.int .i64 (HP_ a b)):=by
 refine PC.fact 6 tX_ (by simp) puA puA ?_;unfold lD_;refine bd ?_;try refine aa_ ?_
 refine am_ (fun i:Nat=>[(5,.int .i64 ((i:Int)-1))]) (fun _=>[.var (wdc a),.var (wdc b)]) (fun i=>i) (fun i=>i≤4∧HP_ a b=BC_ a b i) 4 ⟨by omega,rfl⟩ ?_ ?_
 ·exact QV_ [] [0,1]
 rintro i ⟨hi,hn⟩;rw[hn];cases i with
 | zero =>
   try refine aa_ ?_
   refine PG_ ?_
   exact af_
 | succ i =>
   have h1:i<4:=by omega
   have e1:((i+1:Nat):Int)-1=(i:Int):=by omega
   have e2:decide ((i:Int) ≥ 0)=true:=decide_eq_true (by omega);have e3:decide ((0:Int)≤i)=true:=decide_eq_true (by omega);have hw:IntKind.i64.wrap ((i:Int)-1)=(i:Int)-1:=aF_ (by omega) (by omega);have g1:=zA_ a h1;have g2:=zA_ b h1;have ga:a.1.getD i 0=a.1[i]'(by rw[a.2];exact h1):=by simp[List.getD_eq_getElem?_getD,a.2,h1]
   have gb:b.1.getD i 0=b.1[i]'(by rw[b.2];exact h1):=by simp[List.getD_eq_getElem?_getD,b.2,h1]
   rw[←ga]at g1;rw[←gb]at g2;have hs:BC_ a b (i+1)=if a.1.getD i 0<b.1.getD i 0 then -1 else if b.1.getD i 0<a.1.getD i 0 then 1 else BC_ a b i:=rfl
   rw[hs];generalize a.1.getD i 0=x at *;generalize b.1.getD i 0=y at *;have h0:(0:Int)≤i:=by omega
   have hn1:(i:Int)<4:=by omega
   rw[e1];repeat(first|refine aa_ ?_|simp only[go_sem,e1,e2,e3])
   refine ac_ ?_;repeat(first|refine aa_ ?_|simp only[go_sem,g1,g2,Nat.mul_one,Nat.zero_add])
   refine aW_ (fun h=>?_) (fun h=>?_)
   ·rw[if_pos (by simpa using h)];try refine aa_ ?_
    exact af_
   ·rw[if_neg (by simpa using h)]
    repeat(first|refine aa_ ?_|simp only[go_sem,g1,g2,Nat.mul_one,Nat.zero_add])
    refine aW_ (fun h=>?_) (fun h=>?_)
    ·rename_i h';rw[if_pos (by simpa using h)];try refine aa_ ?_
     exact af_
    ·rename_i h';rw[if_neg (by simpa using h)];repeat(first|refine aa_ ?_|simp only[go_sem,hw])
     refine⟨i,⟨by omega,rfl⟩,by omega,?_⟩;exact QV_ [] [0,1]
theorem rj_(t:aw_)(n:Int)(hb:t.bals.length≤1000000):PC Tryz.prog 69 [.agg (aT_ t.a),.int .i64 n] (.int .i64 (eu_ t n)):=by
 refine PC.fact 7 lZ_ (by simp) puA puA ?_;unfold gL_;refine bd ?_;have c1:=yO_ t.bals false hb;unfold eu_;generalize re_ t.bals=q at *;obtain⟨q1,q2⟩:=q;dsimp only at c1 ⊢;try refine aa_ ?_
 refine aW_ (fun h=>?_) (fun h=>?_)
 ·rw[if_pos (by simpa using h)];try refine aa_ ?_
  exact af_
 ·rw [if_neg (by simpa using h)]
  try refine aa_ ?_
  refine ah_ c1 ?_;by_cases h2:q2=0
  ·subst h2
   by_cases h3:4611686018427387904<q1
   ·have e3:decide (4611686018427387904<q1)=true:=decide_eq_true h3;rw[if_pos (.inr h3)];repeat(first|refine aa_ ?_|simp only[go_sem,e3])
    refine PH_ ?_
    exact af_
   ·have e3:decide (4611686018427387904<q1)=false:=decide_eq_false h3;rw[if_neg (by simpa using h3)];repeat(first|refine aa_ ?_|simp only[go_sem,e3])
    refine PG_ ?_
    exact af_
  ·have e2:(q2 != 0)=true:=by simpa using h2
   rw[if_pos (.inl h2)];repeat(first|refine aa_ ?_|simp only[go_sem,e2])
   refine PH_ ?_
   exact af_
theorem tB_(t:aw_)(hb:t.bals.length≤1000000):PC Tryz.prog 141 [.agg (aT_ t.a)] (.agg (aT_ t.a)):=by
 refine PC.fact 3 qE_ (by simp) puA puA ?_;unfold jG_;refine bd ?_;obtain⟨cp,bals⟩:=t;dsimp only at hb;have b1:(bals.length:Int)*8≤140737488355328:=by omega
 have b2:bals.length≤9223372036854775807:=by omega
 unfold aw_.a;repeat(first|refine aa_ ?_|simp only[go_sem,b1,b2])
 exact af_
theorem HR_(a b:Cp):PC Tryz.prog 71 [.agg (cpC a),.agg (cpC b)] (.int .i64 (wi_ a b)):=by
 refine PC.fact 5 iE_ (by simp) puA puA ?_;unfold eK_;refine bd ?_;have c1:=xP_ a.rt b.rt;unfold wi_;try refine aa_ ?_
 refine aW_ (fun h=>?_) (fun h=>?_)
 ·rw[if_pos (by simpa using h)]
  try refine aa_ ?_
  refine aW_ (fun h=>?_) (fun h=>?_)
  ·rename_i h';rw[if_pos (by simpa using h)];try refine aa_ ?_
   exact af_
  ·rename_i h';rw[if_neg (by simpa using h)];try refine aa_ ?_
   exact af_
 ·rw[if_neg (by simpa using h)];try refine aa_ ?_
  refine Qy_ c1 ?_
  exact af_
theorem km_(l:List aw_)(c:Cp)(hb:l.length≤1000000):PC Tryz.prog 68 [.sl 34 false (rows aw_.c l),.agg (cpC c)] (.int .i64 (dg_ l c)):=by
 refine PC.fact 6 qF_ (by simp) puA puA ?_;unfold jH_;refine bd ?_;try refine aa_ ?_
 refine am_ (fun i:Nat=>[(5,.int .i64 i)]) (fun _=>[.var (cpC c)]) (fun i=>l.length-i) (fun i=>i≤l.length∧dg_ l c=me_ (eF_ (fun i=>decide ((tab l i).cp=c)) (l.length-i) i)) 0 ⟨Nat.zero_le _,rfl⟩ ?_ ?_
 ·exact QV_ [] [0]
 rintro i ⟨hi,hn⟩;rw[hn];by_cases h1:i<l.length
 ·have e1:decide ((i:Int)<(l.length:Int))=true:=decide_eq_true (by omega)
  have hgd:(rows aw_.c l).getD i []=aT_ (tab l i).a:=aK_ (f:=aw_.c) default h1;have hw:=ae_ h1 (by omega);repeat(first|refine aa_ ?_|simp only[go_sem,e1])
  refine ac_ ?_;repeat(first|refine aa_ ?_|simp only[go_sem,hgd])
  refine aW_ (fun h=>?_) (fun h=>?_)
  ·rw[gm_ h1 h];try refine aa_ ?_
   exact af_
  ·rw[gl_ h1 h];repeat(first|refine aa_ ?_|simp only[go_sem,hw])
   refine⟨i+1,⟨h1,rfl⟩,by omega,?_⟩;exact QV_ [] [0]
 ·obtain rfl:i=l.length:=by omega
  have e1:decide ((l.length:Int)<(l.length:Int))=false:=decide_eq_false (by omega);rw[gk_];repeat(first|refine aa_ ?_|simp only[go_sem,e1])
  refine PG_ ?_
  exact af_
theorem wm_(l:List aw_)(e:Int)(hb:l.length≤1000000):PC Tryz.prog 124 [.sl 34 false (rows aw_.c l),.int .u64 e] (.sl 34 false (rows aw_.c (dx_ l e))):=by
 refine PC.fact 7 pG_ (by simp) puA puA ?_;unfold iK_;refine bd ?_;try refine aa_ ?_
 refine cP_ 5 34 ?_;simp only[go_sem];have hl:∀n,(ay_ (fun i o=>if e≤(tab l i).cp.ep then o++[tab l i]else o) [] n).length≤0+n:=hb_ (fun i l=>by split<;>simp)
 refine am_ (fun i:Nat=>[(6,.int .i64 i),(5,.hs 34 0 0 (ay_ (fun i o=>if e≤(tab l i).cp.ep then o++[tab l i]else o) [] i).length)]) (fun i=>[.vec 34 (rows aw_.c (ay_ (fun i o=>if e≤(tab l i).cp.ep then o++[tab l i]else o) [] i))]) (fun i=>l.length-i) (fun i=>i≤l.length) 0 (Nat.zero_le _) ?_ ?_
 ·exact QV_ [] [0]
 intro i hi;by_cases h1:i<l.length
 ·have e1:decide ((i:Int)<(l.length:Int))=true:=decide_eq_true (by omega)
  have hgd:(rows aw_.c l).getD i []=aT_ (tab l i).a:=aK_ (f:=aw_.c) default h1;have hw:=ae_ h1 (by omega);have hs:=br_ (fun i o=>if e≤(tab l i).cp.ep then o++[tab l i]else o) [] i;have hli:=hl i;generalize ay_ (fun i o=>if e≤(tab l i).cp.ep then o++[tab l i]else o) [] i=acc at *;have hr:rows aw_.c acc++[aT_ (tab l i).a]=rows aw_.c (acc++[tab l i]):=bP_ aw_.c acc (tab l i);repeat(first|refine aa_ ?_|simp only[go_sem,e1])
  refine ac_ ?_;repeat(first|refine aa_ ?_|simp only[go_sem,hgd])
  refine aW_ (fun h=>?_) (fun h=>?_)
  ·rw[if_pos (by simpa using h)]at hs;repeat(first|refine aa_ ?_|simp only[go_sem,hgd,hr,hw])
   refine⟨i+1,h1,by omega,?_⟩;rw[hs];exact QV_ [] [1]
  ·rw[if_neg (by simpa using h)]at hs;repeat(first|refine aa_ ?_|simp only[go_sem,hw])
   refine⟨i+1,h1,by omega,?_⟩;rw[hs];exact QV_ [] [0]
 ·obtain rfl:i=l.length:=by omega
  have e1:decide ((l.length:Int)<(l.length:Int))=false:=decide_eq_false (by omega);repeat(first|refine aa_ ?_|simp only[go_sem,e1])
  refine PG_ ?_
  exact af_
theorem yt_(l:List aw_)(c:Cp):∀f i,kr_ l c f i≤i+f
 |0,i=>Nat.le_refl _
 |f+1,i=>by unfold kr_;have:=yt_ l c f (i+1);split<;>omega
theorem DS_(l:List aw_)(t:aw_)(i:Nat)(hi:i≤l.length)(hb:l.length≤1000000)(ht:t.bals.length≤1000000):Tri Tryz.prog 35 0 (bO_.tl 3) (PQ [.tmp 4] (.sl 34 false (rows aw_.c (l.take i++[t]++l.drop i)))) ⟨6,[.sl 34 false (rows aw_.c l),.agg (aT_ t.a),.dead,.ptr 0 0,.sl 0 true [],.int .i64 i],[]⟩ [.var (aT_ t.a)]:=by
 unfold bO_;refine bd ?_;simp only[ad_.tl];have cp:=tB_ t ht;have r1:rows aw_.c (l.take i)++[aT_ t.a]=rows aw_.c (l.take i++[t]):=bP_ aw_.c _ t;have r2:=vd_ aw_.c (l.take i++[t]) (l.drop i);have hm:min i l.length=i:=by omega
 repeat(first|refine aa_ ?_|simp only[go_sem,mN_,mM_,List.length_take,List.length_drop,hm])
 refine au_ (cp) ?_;have ht2:(l.drop i).take (l.length-i)=l.drop i:=List.take_of_length_le (by simp);repeat(first|refine aa_ ?_|simp only[go_sem,r1,r2,mN_,mM_,List.length_take,List.length_drop,hm,ht2])
 refine⟨_,(by first|rfl|exact evd),.inl ?_⟩;refine evg ?_;rw[if_pos (by simp;omega),List.take_of_length_le (by simp;omega)]
theorem Bm_(l:List aw_)(t:aw_)(hb:l.length≤1000000)(ht:t.bals.length≤1000000):PC Tryz.prog 171 [.sl 34 false (rows aw_.c l),.agg (aT_ t.a)] (.sl 34 false (rows aw_.c (lj_ l t))):=by
 have hK:kr_ l t.cp l.length 0≤l.length:=by have:=yt_ l t.cp l.length 0;omega
 have tl:=fun i hi=>DS_ l t i hi hb ht
 unfold lj_;dsimp only;refine PC.fact 6 sm_ (by simp) puA puA ?_;have hc:bO_=.seq bO_.hd (.seq (bO_.tl 1).hd (.seq (bO_.tl 2).hd (bO_.tl 3))):=rfl;rw[hc];clear hc;generalize bO_.tl 3=cT at *;unfold bO_;refine bd ?_;simp only[ad_.tl,ad_.hd];try refine aa_ ?_
 refine am_ (fun i:Nat=>[(5,.int .i64 i)]) (fun _=>[.var (aT_ t.a)]) (fun i=>l.length-i) (fun i=>i≤l.length∧kr_ l t.cp l.length 0=kr_ l t.cp (l.length-i) i) 0 ⟨Nat.zero_le _,rfl⟩ ?_ ?_
 ·exact QV_ [] [0]
 rintro i ⟨hi,hn⟩;rw[hn]at hK ⊢;(try simp only[ao_,ar_,List.set_cons_zero,List.set_cons_succ])
 by_cases h1:i<l.length
 ·have e1:decide ((i:Int)<((l.length:Nat):Int))=true:=decide_eq_true (by omega)
  have hw:=ae_ h1 (by omega);have hgd:(rows aw_.c l).getD i []=aT_ (tab l i).a:=aK_ (f:=aw_.c) default h1;have c1:=HR_ (tab l i).cp t.cp;obtain⟨f,hf⟩:∃f,l.length-i=f+1:=⟨l.length-i-1,by omega⟩
  have hs:kr_ l t.cp (l.length-i) i=if wi_ (tab l i).cp t.cp<0 then kr_ l t.cp (l.length-(i+1)) (i+1)else i:=by rw[hf,show l.length-(i+1)=f by omega];rfl
  repeat(first|refine aa_ ?_|simp only[go_sem,e1,hgd])
  refine au_ (c1) ?_;try refine aa_ ?_
  refine aW_ (fun h=>?_) (fun h=>?_)
  ·rw[if_pos (by simpa using h)]at hs;rw[hs];repeat(first|refine aa_ ?_|simp only[go_sem,hw])
   refine⟨i+1,⟨h1,rfl⟩,by omega,?_⟩;exact QV_ [] [0]
  ·rw[if_neg (by simpa using h)]at hs;rw[hs];try refine aa_ ?_
   refine du_ ?_ (tl i hi);exact QV_ [] [0]
 ·obtain rfl:i=l.length:=by omega
  have e1:decide (((l.length:Nat):Int)<((l.length:Nat):Int))=false:=decide_eq_false (by omega);rw[Nat.sub_self]at *;repeat(first|refine aa_ ?_|simp only[go_sem,e1])
  refine PG_ ?_
  refine du_ ?_ (tl l.length hi);exact QV_ [] [0]
theorem CU_(l:List aw_)(t:aw_)(n limit:Int)(hb:l.length≤1000000)(ht:t.bals.length≤1000000):PC Tryz.prog 101 [.sl 34 false (rows aw_.c l),.agg (aT_ t.a),.int .i64 n,.int .i64 limit] (.tup [.sl 34 false (rows aw_.c (iu_ l t n limit).1),.int .i64 (iu_ l t n limit).2]):=by
 refine PC.fact 11 so_ (by simp) puA puA ?_;unfold kR_;refine bd ?_;have c1:=rj_ t n ht;have c2:=km_ l t.cp hb;have c3:=Bm_ l t hb ht;unfold iu_;generalize eu_ t n=E at *;generalize dg_ l t.cp=F at *;generalize lj_ l t=A at *;try refine aa_ ?_
 refine Qy_ c1 ?_
 refine aW_ (fun h=>?_) (fun h=>?_)
 ·rw[if_pos (by simpa using h)];try refine aa_ ?_
  exact af_
 ·rw [if_neg (by simpa using h)]
  try refine aa_ ?_
  refine Qy_ c2 ?_
  refine aW_ (fun h=>?_) (fun h=>?_)
  ·rename_i h';rw[if_pos (by simpa using h)];try refine aa_ ?_
   exact af_
  ·rename_i h'
   rw[if_neg (by simpa using h)];try refine aa_ ?_
   refine aW_ (fun h=>?_) (fun h=>?_)
   ·rw[if_pos (by simpa using h)];try refine aa_ ?_
    exact af_
   ·rw[if_neg (by simpa using h)];try refine aa_ ?_
    refine Qy_ c3 ?_
    exact af_
theorem HA_(ep:Int)(root:Rt)(l:List Int)(i:Nat)(p:List Vot×Int):(iN_ ep root l i p).1.length=p.1.length:=by unfold iN_;split<;>simp
theorem jL_(ep:Int)(root:Rt)(l:List Int)(v:List Vot):∀i,(ay_ (iN_ ep root l) (v,0) i).1.length=v.length
 |0=>rfl
 |i+1=>by rw[br_,HA_,jL_ ep root l v i]
theorem xN_(v:List Vot)(ep:Int)(root:Rt)(l:List Int)(hv:v.length≤1000000)(hl:l.length≤1000000)(hj:∀j∈l,0≤j∧j<v.length):PC Tryz.prog 129 [.sl 34 false (rows aZ_ v),.int .u64 ep,.agg (rtc root),.sl 1 false (aq_ .i64 l)] (.tup [.sl 34 false (rows aZ_ (tv_ v ep root l).1),.int .i64 (tv_ v ep root l).2]):=by
 refine PC.fact 14 BQ_ (by simp) puA puA ?_;unfold rs_;refine bd ?_;try refine aa_ ?_
 unfold tv_;refine am_ (fun i:Nat=>[(12,.int .i64 i),(11,.int .i64 (ay_ (iN_ ep root l) (v,0) i).2)]) (fun i=>[.var (rtc root),.vec 34 (rows aZ_ (ay_ (iN_ ep root l) (v,0) i).1)]) (fun i=>l.length-i) (fun i=>i≤l.length) 0 (Nat.zero_le _) ?_ ?_
 ·exact QV_ [] [0,1]
 intro i hi;(try simp only[ao_,ar_,List.set_cons_zero,List.set_cons_succ])
 by_cases h1:i<l.length
 ·have e1:decide ((i:Int)<((l.length:Nat):Int))=true:=decide_eq_true (by omega)
  have hw:=ae_ h1 (by omega);have hgd:=gdn (k:=.i64) h1;have hm:l.getD i 0∈l:=by rw[List.getD_eq_getElem?_getD,List.getElem?_eq_getElem h1];exact List.getElem_mem h1
  obtain⟨j0,j1⟩:=hj _ hm;have hs:=br_ (iN_ ep root l) (v,0) i;have hlen:=jL_ ep root l v i;generalize ay_ (iN_ ep root l) (v,0) i=p at *;obtain⟨u,n⟩:=p;dsimp only at hlen;have h3:(l.getD i 0).toNat<u.length:=by omega
  have hgu:(rows aZ_ u).getD (l.getD i 0).toNat []=aZ_ (vot u (l.getD i 0).toNat):=aK_ (f:=aZ_) eh_ h3;have hc:iN_ ep root l i (u,n)=if (vot u (l.getD i 0).toNat).has=false∨(vot u (l.getD i 0).toNat).ep<ep then (u.set (l.getD i 0).toNat ⟨true,ep,root⟩,IntKind.i64.wrap (n+1))else (u,n):=rfl
  generalize hx:vot u (l.getD i 0).toNat=x at *;generalize l.getD i 0=j at *;have hset:=pY_ aZ_ u j.toNat ⟨true,ep,root⟩;dsimp only;repeat(first|refine aa_ ?_|simp only[go_sem,e1,hgd,Nat.mul_one])
  refine ac_ ?_;obtain⟨xh,xe,xr⟩:=x;dsimp only at hc;cases xh with
  | false =>
    rw[if_pos (.inl rfl)]at hc;repeat(first|refine aa_ ?_|simp only[go_sem,hgd,Nat.mul_one,hgu])
    refine ac_ ?_;repeat(first|refine aa_ ?_|simp only[go_sem,hgd,Nat.mul_one,hgu,hset,hw])
    refine⟨i+1,h1,by omega,?_⟩;rw[hs,hc];exact QV_ [] [0,1]
  | true =>
    by_cases hx2:xe<ep
    ·have e2:decide (xe<ep)=true:=decide_eq_true hx2;rw[if_pos (.inr hx2)]at hc;repeat(first|refine aa_ ?_|simp only[go_sem,hgd,Nat.mul_one,hgu,e2])
     refine ac_ ?_;repeat(first|refine aa_ ?_|simp only[go_sem,hgd,Nat.mul_one,hgu,hset,hw])
     refine⟨i+1,h1,by omega,?_⟩;rw[hs,hc];exact QV_ [] [0,1]
    ·have e2:decide (xe<ep)=false:=decide_eq_false hx2;rw[if_neg (by simp[hx2])]at hc;repeat(first|refine aa_ ?_|simp only[go_sem,hgd,Nat.mul_one,hgu,e2])
     refine ab_ ?_;repeat(first|refine aa_ ?_|simp only[go_sem,hw])
     refine⟨i+1,h1,by omega,?_⟩;rw[hs,hc];exact QV_ [] [0,1]
 ·obtain rfl:i=l.length:=by omega
  have e1:decide (((l.length:Nat):Int)<((l.length:Nat):Int))=false:=decide_eq_false (by omega);have hlen:=jL_ ep root l v l.length;repeat(first|refine aa_ ?_|simp only[go_sem,e1])
  refine PG_ ?_
  refine⟨_,(by first|rfl|exact evd),.inl ?_⟩;refine evg ?_;rw[hlen,if_pos (Nat.le_refl _),List.take_of_length_le (by simp[hlen])]
def wX_(l:List Int)(i:Nat)(o:List Int):List Int:=pQ_ o (l.getD i 0)
def CQ_(set l:List Int):List Int:=ay_ (wX_ l) set l.length
theorem Ai_(set l:List Int):∀i,(ay_ (wX_ l) set i).length≤set.length+i
 |0=>Nat.le_refl _
 |i+1=>by rw[br_];have:=Cp_ (ay_ (wX_ l) set i) (l.getD i 0);have:=Ai_ set l i;unfold wX_ at *;omega
theorem CR_(set l:List Int)(hb:set.length+l.length≤1000000):PC Tryz.prog 95 [.sl 1 false (aq_ .i64 set),.sl 1 false (aq_ .i64 l)] (.tup [.sl 1 false (aq_ .i64 (CQ_ set l)),.int .i64 (IntKind.i64.wrap ((CQ_ set l).length-set.length))]):=by
 refine PC.fact 8 wJ_ (by simp) puA puA ?_;unfold nP_;refine bd ?_;unfold CQ_;try refine aa_ ?_
 refine am_ (fun i:Nat=>[(7,.int .i64 i),(6,.sl 1 false (aq_ .i64 (ay_ (wX_ l) set i)))]) (fun i=>[]) (fun i=>l.length-i) (fun i=>i≤l.length) 0 (Nat.zero_le _) ?_ ?_
 ·exact QV_ [0] []
 intro i hi;(try simp only[ao_,ar_,List.set_cons_zero,List.set_cons_succ])
 by_cases h1:i<l.length
 ·have e1:decide ((i:Int)<((l.length:Nat):Int))=true:=decide_eq_true (by omega);have hw:=ae_ h1 (by omega);have hgd:=gdn (k:=.i64) h1;have hs:=br_ (wX_ l) set i;have hlen:=Ai_ set l i;have c1:=Cq_ (ay_ (wX_ l) set i) (l.getD i 0) (by omega);unfold wX_ at hs;rw[show pQ_ (ay_ (wX_ l) set i) (l.getD i 0)=ay_ (wX_ l) set (i+1)from rfl]at c1;repeat(first|refine aa_ ?_|simp only[go_sem,e1])
  refine ac_ ?_;repeat(first|refine aa_ ?_|simp only[go_sem,hgd,Nat.mul_one])
  refine ah_ c1 ?_;repeat(first|refine aa_ ?_|simp only[go_sem,hw])
  refine⟨i+1,h1,by omega,?_⟩;exact QV_ [] []
 ·obtain rfl:i=l.length:=by omega
  have e1:decide (((l.length:Nat):Int)<((l.length:Nat):Int))=false:=decide_eq_false (by omega);repeat(first|refine aa_ ?_|simp only[go_sem,e1])
  refine PG_ ?_
  exact af_
def wS(latest:List Vot)(eqv bals:List Int)(roots:List Rt)(i:Nat)(n:Int):Int:=if (vot latest i).has=true∧(i:Int)∉eqv∧(vot latest i).root∈roots then IntKind.u64.wrap (n+bals.getD i 0)else n
theorem DL_(latest:List Vot)(eqv bals:List Int)(roots:List Rt)(h1:latest.length≤1000000)(h2:eqv.length≤1000000)(h3:bals.length≤1000000)(h4:roots.length≤1000000):PC Tryz.prog 92 [.agg [.sl 34 false (rows aZ_ latest),.sl 1 false (aq_ .i64 eqv)],.sl 1 false (aq_ .u64 bals),.sl 32 true (rows rtc roots)] (.int .u64 (sY_ latest eqv bals roots)):=by
 refine PC.fact 9 wK_ (by simp) puA puA ?_;unfold nQ_;refine bd ?_;show Tri _ _ _ _ (PQ _ (.int .u64 (ay_ (wS latest eqv bals roots) 0 (min bals.length latest.length)))) _ _
 try refine aa_ ?_
 refine am_ (fun i:Nat=>[(8,.int .i64 i),(7,.int .u64 (ay_ (wS latest eqv bals roots) 0 i))]) (fun i=>[.var [.sl 34 false (rows aZ_ latest),.sl 1 false (aq_ .i64 eqv)]]) (fun i=>bals.length-i) (fun i=>i≤min bals.length latest.length) 0 (Nat.zero_le _) ?_ ?_
 ·exact QV_ [] [0]
 intro i hi;(try simp only[ao_,ar_,List.set_cons_zero,List.set_cons_succ])
 by_cases q1:i<bals.length
 ·have e1 : decide ((i : Int) < ((bals.length : Nat) : Int)) = true := decide_eq_true (by omega)
  by_cases q2:i<latest.length
  ·have e2:decide ((i:Int)<((latest.length:Nat):Int))=true:=decide_eq_true (by omega)
   have hw:=ae_ q1 (by omega);have hs:=br_ (wS latest eqv bals roots) 0 i;have hgl:=aK_ (f:=aZ_) eh_ q2;have hgb:=gdn (k:=.u64) q1;have c1:=ul_ eqv false (i:Int) (by omega);have c2:=wj_ roots true (vot latest i).root h4;generalize ay_ (wS latest eqv bals roots) 0 i=n at *;have hc:wS latest eqv bals roots i n=if (vot latest i).has=true∧(i:Int)∉eqv∧(vot latest i).root∈roots then IntKind.u64.wrap (n+bals.getD i 0)else n:=rfl
   generalize bals.getD i 0=b at *;change (rows aZ_ latest).getD i []=aZ_ (vot latest i)at hgl
   generalize vot latest i=x at *;obtain⟨xh,xe,xr⟩:=x;dsimp only at hc c2;repeat(first|refine aa_ ?_|simp only[go_sem,e1,e2])
   refine ac_ ?_;cases xh with
   | false =>
     rw[if_neg (by simp)]at hc;repeat(first|refine aa_ ?_|simp only[go_sem,hgl])
     refine ab_ ?_;repeat(first|refine aa_ ?_|simp only[go_sem,hw])
     refine⟨i+1,by omega,by omega,?_⟩;rw[hs,hc];exact QV_ [] [0]
   | true =>
     repeat(first|refine aa_ ?_|simp only[go_sem,hgl])
     refine ah_ c1 ?_;by_cases q3:(i:Int)∈eqv
     ·rw[if_neg (by simp[q3])]at hc;rw[decide_eq_true q3];repeat(first|refine aa_ ?_|simp only[go_sem,hgl])
      refine ab_ ?_;repeat(first|refine aa_ ?_|simp only[go_sem,hw])
      refine⟨i+1,by omega,by omega,?_⟩;rw[hs,hc];exact QV_ [] [0]
     ·rw[decide_eq_false q3]
      repeat(first|refine aa_ ?_|simp only[go_sem,hgl])
      refine ah_ c2 ?_;by_cases q4:xr∈roots
      ·rw[if_pos ⟨rfl,q3,q4⟩]at hc;rw[decide_eq_true q4];repeat(first|refine aa_ ?_|simp only[go_sem,hgb,Nat.mul_one])
       refine ac_ ?_;repeat(first|refine aa_ ?_|simp only[go_sem,hw,hgb,Nat.mul_one])
       refine⟨i+1,by omega,by omega,?_⟩;rw[hs,hc];exact QV_ [] [0]
      ·rw[if_neg (by simp[q4])]at hc;rw[decide_eq_false q4];repeat(first|refine aa_ ?_|simp only[go_sem,hgb,Nat.mul_one])
       refine ab_ ?_;repeat(first|refine aa_ ?_|simp only[go_sem,hw])
       refine⟨i+1,by omega,by omega,?_⟩;rw[hs,hc];exact QV_ [] [0]
  ·have e2:decide ((i:Int)<((latest.length:Nat):Int))=false:=decide_eq_false (by omega);obtain rfl:i=min bals.length latest.length:=by omega
   repeat(first|refine aa_ ?_|simp only[go_sem,e1,e2])
   refine PG_ ?_
   exact af_
 ·have e1:decide ((i:Int)<((bals.length:Nat):Int))=false:=decide_eq_false (by omega);obtain rfl:i=min bals.length latest.length:=by omega
  repeat(first|refine aa_ ?_|simp only[go_sem,e1])
  refine PG_ ?_
  exact af_
end Go.Proofs.YtkgimpdgncakjaaGreat
