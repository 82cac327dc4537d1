/-
 My texts Ia, Ib, Ir, La, Lb, Lc, joined.
-/
import Derived.Test.YtkgimpdgncakjaaGreatV1
import Derived.Test.YtkgimpdgncakjaaGreatW3
import Derived.Test.YtkgimpdgncakjaaGreatW4
import Derived.Test.YtkgimpdgncakjaaGreatW5
namespace Go.Proofs.YtkgimpdgncakjaaGreat
open Go Go.FH Go.RowKit
set_option linter.unusedVariables false
set_option linter.unusedSimpArgs false
theorem vs_(l:List Int)(cl:Bool)(v:Int)(hb:l.length≤140737488355328):PC Tryz.prog 27 [.sl 1 cl (aq_ .i64 l),.int .i64 v] (.bool (decide (v∈l))):=by
 refine PC.fact 6 Ge_ (by simp) ⟨aM_ _ _,trivial,trivial⟩ trivial ?_;unfold uA_;refine bd ?_;try refine aa_ ?_
 refine gO_ (fun i:Nat=>⟨6,[.sl 1 cl (aq_ .i64 l),.int .i64 v,.dead,.dead,.bool false,.int .i64 i],[]⟩) (fun _=>[]) (fun i=>l.length-i) (fun i=>i≤l.length∧v∉l.take i) [] 0 ⟨by omega,by simp⟩ evd rfl ?_;rintro i ⟨hi,hv⟩;try dsimp only
 try refine aa_ ?_
 refine bM_ evd (fun h=>?_) (fun h=>?_)
 ·have h1:i<l.length:=by simp at h;omega
  have hg:=er_ (k:=.i64) h1;have hw:=ag_ h1 (by omega);have e0:l[i]=l.getD i 0:=by rw[List.getD_eq_getElem?_getD,List.getElem?_eq_getElem h1];rfl
  repeat(first|refine aa_ ?_|simp only[go_sem,hg,Nat.mul_one])
  refine bM_ evd (fun h=>?_) (fun h=>?_)
  ·have e1:l.getD i 0=v:=by simpa using h
   have hm:v∈l:=by rw[←e1,←e0];exact List.getElem_mem h1
   rw[decide_eq_true hm];try refine aa_ ?_
   exact ae_
  ·have e1:l.getD i 0≠v:=by simpa using h
   repeat(first|refine aa_ ?_|simp only[go_sem,hw])
   refine⟨i+1,⟨h1,?_⟩,by omega,rfl⟩;rw[List.take_add_one,List.getElem?_eq_getElem h1];simp only[Option.toList_some,List.mem_append,List.mem_singleton,not_or];exact⟨hv,by rw[e0];exact fun e=>e1 e.symm⟩
 ·have h1:i=l.length:=by simp at h;omega
  subst h1;rw[List.take_length]at hv;rw[decide_eq_false hv];try refine aa_ ?_
  exact ae_
theorem zE_(k:IntKind)(l:List Int)(i:Nat):(aq_ k l).take i=aq_ k (l.take i):=by simp[aq_]
theorem zD_(k:IntKind)(l:List Int)(i:Nat):(aq_ k l).drop i=aq_ k (l.drop i):=by simp[aq_]
theorem fr_(k:IntKind)(l m:List Int):aq_ k l++aq_ k m=aq_ k (l++m):=by simp[aq_]
theorem Eh_(k:IntKind)(v:Int):[[AV.int k v]]=aq_ k [v]:=rfl
def ji_:List Int→Int→List Int
 | [],v=>[v]
 |a::r,v=>if a<v then a::ji_ r v else if a=v then a::r else v::a::r
theorem Bv_:∀ (l:List Int) (v:Int) (i:Nat),i≤l.length→(∀j,j<i→l.getD j 0<v)→(∀_:i<l.length,¬l.getD i 0<v)→ji_ l v=if i<l.length∧l.getD i 0=v then l else l.take i++[v]++l.drop i
 | [], v, i, hi, h1, h2 => by
   have:i=0:=by simpa using hi
   subst this;simp[ji_]
 | a :: r, v, 0, hi, h1, h2 => by
   have h3:¬a<v:=by simpa using h2 (by simp)
   simp only[ji_,if_neg h3];by_cases h4:a=v
   ·simp[h4]
   ·simp[h4]
 | a :: r, v, i + 1, hi, h1, h2 => by
   have h3:a<v:=by simpa using h1 0 (by omega)
   have ih:=Bv_ r v i (by simpa using hi) (fun j hj=>by simpa using h1 (j+1) (by omega)) (fun hlt=>by simpa using h2 (by simpa using hlt));simp only[ji_,if_pos h3,ih];by_cases h4:i<r.length∧r.getD i 0=v
   ·rw[if_pos h4,if_pos (by simpa using h4)]
   ·rw[if_neg h4,if_neg (by simpa using h4)];simp
theorem DS_(l:List Int)(v:Int):(ji_ l v).length≤l.length+1:=by
 induction l with
 |nil=>simp[ji_]
 | cons a r ih =>
   unfold ji_;split
   ·simp;omega
   ·split<;>simp
theorem DU_(l:List Int)(v:Int)(hb:l.length≤1000000):PC Tryz.prog 91 [.sl 1 false (aq_ .i64 l),.int .i64 v] (.sl 1 false (aq_ .i64 (ji_ l v))):=by
 refine PC.fact 6 xN_ (by simp) ⟨aM_ _ _,trivial,trivial⟩ (aM_ _ _) ?_;unfold oI_;refine bd ?_;try refine aa_ ?_
 refine gO_ (fun i:Nat=>⟨6,[.sl 1 false (aq_ .i64 l),.int .i64 v,.dead,.dead,.sl 0 true [],.int .i64 i],[]⟩) (fun _=>[]) (fun i=>l.length-i) (fun i=>i≤l.length∧∀j,j<i→l.getD j 0<v) [] 0 ⟨by omega,fun j hj=>by omega⟩ evd rfl ?_;rintro i ⟨hi,hv⟩;try dsimp only
 have fin:(∀_:i<l.length,¬l.getD i 0<v)→True:=fun _=>trivial
 by_cases h1:i<l.length
 ·have hg:=er_ (k:=.i64) h1
  have hw:=ag_ h1 (by omega);have e1:decide ((i:Int)<(l.length:Int))=true:=decide_eq_true (by omega);by_cases h2:l.getD i 0<v
  ·have e2:decide (l.getD i 0<v)=true:=decide_eq_true h2;repeat(first|refine aa_ ?_|simp only[go_sem,e1,hg,Nat.mul_one,e2])
   refine ac_ ?_;repeat(first|refine aa_ ?_|simp only[go_sem,hw])
   refine⟨i+1,⟨h1,fun j hj=>?_⟩,by omega,rfl⟩;by_cases e:j=i
   ·subst e;exact h2
   ·exact hv j (by omega)
  ·have e2:decide (l.getD i 0<v)=false:=decide_eq_false h2
   rw[Bv_ l v i hi hv (fun _=>h2)];repeat(first|refine aa_ ?_|simp only[go_sem,e1,hg,Nat.mul_one,e2])
   refine ab_ ?_;by_cases h3:l.getD i 0=v
   ·have e3:(l.getD i 0==v)=true:=by rw[beq_iff_eq];exact h3
    rw[if_pos ⟨h1,h3⟩];repeat(first|refine aa_ ?_|simp only[go_sem,e1,hg,Nat.mul_one,e3])
    refine Ri_ ?_
    exact ae_
   ·have e3:(l.getD i 0==v)=false:=by rw[←Bool.not_eq_true,beq_iff_eq];exact h3
    rw[if_neg (fun h=>h3 h.2)];repeat(first|refine aa_ ?_|simp only[go_sem,e1,hg,Nat.mul_one,e3])
    refine ab_ ?_;have d1:(l.drop i).take (l.length-i)=l.drop i:=List.take_of_length_le (by simp);repeat(first|refine aa_ ?_|simp only[go_sem,zE_,zD_,d1,Eh_,fr_])
    exact ae_
 ·have hl:i=l.length:=by omega
  subst hl;have e1:decide ((l.length:Int)<(l.length:Int))=false:=decide_eq_false (by omega);rw[Bv_ l v l.length hi hv (fun h=>by omega),if_neg (fun h=>by omega),List.take_length,List.drop_length,List.append_nil];repeat(first|refine aa_ ?_|simp only[go_sem,e1])
  refine ab_ ?_;repeat(first|refine aa_ ?_|simp only[go_sem,e1])
  refine ab_ ?_;repeat(first|refine aa_ ?_|simp only[go_sem,zE_,zD_,Eh_,fr_])
  exact ae_
def fp_(l m:List Int)(i:Nat):List Int:=(l.take i).foldl (fun a v=>if v∈m then ji_ a v else a) []
theorem FP_{l m:List Int}{i:Nat}(h:i<l.length):fp_ l m (i+1)=if l.getD i 0∈m then ji_ (fp_ l m i) (l.getD i 0)else fp_ l m i:=by
 have e0:l[i]=l.getD i 0:=by rw[List.getD_eq_getElem?_getD,List.getElem?_eq_getElem h];rfl
 unfold fp_;rw[List.take_add_one,List.getElem?_eq_getElem h,Option.toList_some,List.foldl_append,List.foldl_cons,List.foldl_nil,e0]
theorem qr_(l m:List Int):∀i,(fp_ l m i).length≤i
 |0=>by simp[fp_]
 | i + 1 => by
   have ih:=qr_ l m i;by_cases h:i<l.length
   ·rw[FP_ h];split
    ·have:=DS_ (fp_ l m i) (l.getD i 0);omega
    ·omega
   ·have:fp_ l m (i+1)=fp_ l m i:=by unfold fp_;rw[List.take_of_length_le (by omega),List.take_of_length_le (by omega)]
    rw[this];omega
theorem wa_(x:Slg)(l m:List Int)(c d:Bool)(hx:x.fst.vals=.sl 1 c (aq_ .i64 l))(hy:x.snd.vals=.sl 1 d (aq_ .i64 m))(hl:l.length≤100)(hm:m.length≤100):
 PC Tryz.prog 26 [.agg (cy_ x)] (.sl 1 false (aq_ .i64 (fp_ l m l.length))):=by
 obtain⟨⟨a1,a2,r1,v1⟩,⟨b1,b2,r2,v2⟩⟩:=x;dsimp only at hx hy;subst hx hy;have hp:PuL (cy_ ⟨⟨a1,a2,r1,.sl 1 c (aq_ .i64 l)⟩,⟨b1,b2,r2,.sl 1 d (aq_ .i64 m)⟩⟩):=(fY_ _).2 ⟨aM_ _ _,aM_ _ _⟩;refine PC.fact 5 to_ (by simp) ⟨hp,trivial⟩ (aM_ _ _) ?_;unfold lv_;refine bd ?_;try refine aa_ ?_
 refine gP_ (fun i:Nat×Bool=>⟨5,[.agg (cy_ ⟨⟨a1,a2,r1,.sl 1 c (aq_ .i64 l)⟩,⟨b1,b2,r2,.sl 1 d (aq_ .i64 m)⟩⟩),.ptr 0 0,.sl 0 true [],if i.2 then .sl 1 false (aq_ .i64 (fp_ l m i.1))else .sl 0 true [],.int .i64 i.1],[]⟩) (fun _=>[.var (cy_ ⟨⟨a1,a2,r1,.sl 1 c (aq_ .i64 l)⟩,⟨b1,b2,r2,.sl 1 d (aq_ .i64 m)⟩⟩)]) (fun i=>l.length-i.1) (fun i=>i.1≤l.length∧(i.2=false→fp_ l m i.1=[])) (0,false) ⟨by dsimp only;omega,fun _=>rfl⟩ ?_ ?_
 ·simp only[Bool.false_eq_true,if_false];exact SN_ [] [0]
 rintro⟨i,b⟩ ⟨hi,hb⟩;dsimp only at hi hb ⊢;by_cases h1:i<l.length
 case neg=>
  have e1:decide ((i:Int)<(l.length:Int))=false:=decide_eq_false (by omega);obtain rfl:i=l.length:=by omega
  repeat(first|refine aa_ ?_|simp only[go_sem,e1])
  refine ab_ ?_;cases b with
  | true =>
    simp only[if_true];try refine aa_ ?_
    exact ae_
  | false =>
    rw[hb rfl];simp only[Bool.false_eq_true,if_false];try refine aa_ ?_
    refine⟨_,by first|rfl|exact evd,.inr ⟨.sl 0 true [],evd,trivial,Wk.empty _ _ _⟩⟩
 have e1:decide ((i:Int)<(l.length:Int))=true:=decide_eq_true (by omega);have hgd:=er_ (k:=.i64) h1;have hw:=ag_ h1 (by omega);have hr:=vs_ m d (l.getD i 0) (by omega);have hcl:=qr_ l m i;repeat(first|refine aa_ ?_|simp only[go_sem,e1,hgd,Nat.mul_one])
 refine ac_ ?_;repeat(first|refine aa_ ?_|simp only[go_sem,hgd,Nat.mul_one])
 refine ao_ (hr) ?_;try refine aa_ ?_
 by_cases h2:l.getD i 0∈m
 ·rw[decide_eq_true h2]
  refine ac_ ?_;have hs:fp_ l m (i+1)=ji_ (fp_ l m i) (l.getD i 0):=by rw[FP_ h1,if_pos h2]
  have hc:=DU_ (fp_ l m i) (l.getD i 0) (by omega);rw[←hs]at hc;cases b with
  | true =>
    simp only[if_true];repeat(first|refine aa_ ?_|simp only[go_sem,hgd,Nat.mul_one])
    refine aj_ hc ?_;repeat(first|refine aa_ ?_|simp only[go_sem,hw])
    refine⟨(i+1,true),⟨by dsimp only;omega,fun h=>(by cases h)⟩,by dsimp only;omega,?_⟩;simp only[if_true];exact SN_ [] [0]
  | false =>
    rw[hb rfl]at hc;simp only[Bool.false_eq_true,if_false];repeat(first|refine aa_ ?_|simp only[go_sem,hgd,Nat.mul_one])
    refine iW_ (hc) (by repeat(first|exact trivial|(refine⟨Wk.refl _,?_⟩)|(refine⟨Wk.empty 0 1 _,?_⟩))) (by simp[PuL,Pu,dH_,jI_,aM_]) ?_;repeat(first|refine aa_ ?_|simp only[go_sem,hw])
    refine⟨(i+1,true),⟨by dsimp only;omega,fun h=>(by cases h)⟩,by dsimp only;omega,?_⟩;simp only[if_true];exact SN_ [] [0]
 ·rw[decide_eq_false h2]
  refine ab_ ?_;have hs:fp_ l m (i+1)=fp_ l m i:=by rw[FP_ h1,if_neg h2]
  repeat(first|refine aa_ ?_|simp only[go_sem,hw])
  refine⟨(i+1,b),⟨by dsimp only;omega,fun h=>(by dsimp only;rw[hs];exact hb h)⟩,by dsimp only;omega,?_⟩;dsimp only;rw[hs];cases b
  ·simp only[Bool.false_eq_true,if_false];exact SN_ [] [0]
  ·simp only[if_true];exact SN_ [] [0]
def sur(a b:Clm):Bool:=decide (a.src<b.src)&&decide (b.tgt<a.tgt)
def dbl(a b:Clm):Bool:=(a.tgt==b.tgt)&&((a.src != b.src) || !decide (a.root=b.root))
def slb(a b:Clm):Bool:=dbl a b || sur a b || sur b a
theorem tI_(a b:Clm)(ha:a.good=true)(hb:b.good=true)(pa:a.Pure)(pb:b.Pure):PC Tryz.prog 166 [.agg (bQ_ a),.agg (bQ_ b)] (.bool (slb a b)):=by
 refine PC.fact 8 rJ_ (by simp) ⟨(jV_ a).2 pa,(jV_ b).2 pb,trivial⟩ trivial ?_;have hc:ay_=.seq ay_.hd (.seq (ay_.tl 1).hd (.seq (ay_.tl 2).hd (.seq (ay_.tl 3).hd (ay_.tl 4)))):=rfl
 -- the last part: three results joined
 have t4:∀ (D s1 s2:Bool) (ts:List (Nat×AV)),Tri Tryz.prog 58 0 (ay_.tl 4) (PQ [.tmp 4] (.bool (D || s1 || s2))) ⟨8,[.agg (bQ_ a),.agg (bQ_ b),.ptr 0 0,.ptr 1 0,.bool false,.bool D,.bool s1,.bool s2],ts⟩ [.var (bQ_ a),.var (bQ_ b)]:=by
  intro D s1 s2 ts;unfold ay_;refine bd ?_;simp only[ad_.tl];cases D
  ·cases s1
   ·try refine aa_ ?_
    exact ae_
   ·try refine aa_ ?_
    exact ae_
  ·try refine aa_ ?_
   exact ae_
 have t3:∀ (D s1:Bool) (ts:List (Nat×AV)),Tri Tryz.prog 58 0 (.seq (ay_.tl 3).hd (ay_.tl 4)) (PQ [.tmp 4] (.bool (D || s1 || sur b a))) ⟨8,[.agg (bQ_ a),.agg (bQ_ b),.ptr 0 0,.ptr 1 0,.bool false,.bool D,.bool s1,.dead],ts⟩ [.var (bQ_ a),.var (bQ_ b)]:=by
  intro D s1 ts;generalize ay_.tl 4=cT at *;unfold ay_ sur;refine bd ?_;simp only[ad_.tl,ad_.hd];cases e1:decide (b.src<a.src)with
  | false =>
    repeat(first|refine aa_ ?_|simp only[go_sem,e1])
    exact t4 _ _ _ _
  | true =>
    repeat(first|refine aa_ ?_|simp only[go_sem,e1])
    exact t4 _ _ _ _
 have t2:∀ (D:Bool) (ts:List (Nat×AV)),Tri Tryz.prog 58 0 (.seq (ay_.tl 2).hd (.seq (ay_.tl 3).hd (ay_.tl 4))) (PQ [.tmp 4] (.bool (D || sur a b || sur b a))) ⟨8,[.agg (bQ_ a),.agg (bQ_ b),.ptr 0 0,.ptr 1 0,.bool false,.bool D,.dead,.dead],ts⟩ [.var (bQ_ a),.var (bQ_ b)]:=by
  intro D ts;clear t4;generalize ad_.seq (ay_.tl 3).hd (ay_.tl 4)=cT at *;have t3':=fun s1=>t3 D s1
  clear t3;generalize sur b a=s2 at *;unfold ay_ sur;refine bd ?_;simp only[ad_.tl,ad_.hd];cases e1:decide (a.src<b.src)with
  | false =>
    repeat(first|refine aa_ ?_|simp only[go_sem,e1])
    exact t3' _ _
  | true =>
    repeat(first|refine aa_ ?_|simp only[go_sem,e1])
    exact t3' _ _
 clear t3 t4;rw[hc];clear hc;generalize ad_.seq (ay_.tl 2).hd (.seq (ay_.tl 3).hd (ay_.tl 4))=cT at *;unfold ay_ slb;refine bd ?_;generalize sur a b=s1 at *;generalize sur b a=s2 at *;unfold dbl;simp only[ad_.tl,ad_.hd];cases e1:(a.tgt==b.tgt)with
 | false =>
   repeat(first|refine aa_ ?_|simp only[go_sem,ha,hb,e1])
   exact t2 _ _
 | true =>
   cases e2:(a.src != b.src)with
   | true =>
     repeat(first|refine aa_ ?_|simp only[go_sem,ha,hb,e1,e2])
     exact t2 _ _
   | false =>
     repeat(first|refine aa_ ?_|simp only[go_sem,ha,hb,e1,e2])
     exact t2 _ _
def evE(x:Slg)(l m:List Int)(n:Int):Int:=
 if cd_ l n≠0 then cd_ l n else if cd_ m n≠0 then cd_ m n else if x.fst.tgt<x.fst.src∨x.snd.tgt<x.snd.src then 2
 else if slb x.fst x.snd=false∨fp_ l m l.length=[]then 20 else 0
theorem EC_(x:Slg)(l m:List Int)(c d:Bool)(n:Int)(hx:x.fst.vals=.sl 1 c (aq_ .i64 l))(hy:x.snd.vals=.sl 1 d (aq_ .i64 m))(hl:l.length≤100)(hm:m.length≤100):
 PC Tryz.prog 94 [.agg (cy_ x),.int .i64 n] (.int .i64 (evE x l m n)):=by
 obtain⟨⟨a1,a2,r1,v1⟩,⟨b1,b2,r2,v2⟩⟩:=x;dsimp only at hx hy;subst hx hy;have cu:=wa_ ⟨⟨a1,a2,r1,.sl 1 c (aq_ .i64 l)⟩,⟨b1,b2,r2,.sl 1 d (aq_ .i64 m)⟩⟩ l m c d rfl rfl hl hm;have sl:=tI_ ⟨a1,a2,r1,.sl 1 c (aq_ .i64 l)⟩ ⟨b1,b2,r2,.sl 1 d (aq_ .i64 m)⟩ rfl rfl (aM_ _ _) (aM_ _ _);have w1:=dX_ l c n (by omega);have w2:=dX_ m d n (by omega);refine PC.fact 7 kr_ (by simp) ⟨(fY_ _).2 ⟨aM_ _ _,aM_ _ _⟩,trivial,trivial⟩ trivial ?_;unfold fN_ evE;refine bd ?_;(try dsimp only)
 generalize slb ⟨a1,a2,r1,.sl 1 c (aq_ .i64 l)⟩ ⟨b1,b2,r2,.sl 1 d (aq_ .i64 m)⟩=S at *;generalize fp_ l m l.length=R at *;by_cases q1:cd_ l n=0
 case neg=>
  have e1:(cd_ l n != 0)=true:=by rw[bne_iff_ne];exact q1
  rw[if_pos q1];try refine aa_ ?_
  refine aj_ w1 ?_;repeat(first|refine aa_ ?_|simp only[go_sem,e1])
  refine Ri_ ?_
  exact ae_
 rw[if_neg (fun h=>h q1)];rw[q1]at w1;by_cases q2:cd_ m n=0
 case neg=>
  have e1:(cd_ m n != 0)=true:=by rw[bne_iff_ne];exact q2
  rw[if_pos q2];try refine aa_ ?_
  refine So_ w1 ?_
  refine Rh_ ?_
  refine aj_ w2 ?_;repeat(first|refine aa_ ?_|simp only[go_sem,e1])
  refine Ri_ ?_
  exact ae_
 rw[if_neg (fun h=>h q2)];rw[q2]at w2;try refine aa_ ?_
 refine So_ w1 ?_
 refine Rh_ ?_
 refine So_ w2 ?_
 refine ab_ ?_;by_cases q3:a2<a1
 ·have e3:decide (a2<a1)=true:=decide_eq_true q3;rw[if_pos (.inl q3)];repeat(first|refine aa_ ?_|simp only[go_sem,e3])
  refine Ri_ ?_
  exact ae_
 have e3:decide (a2<a1)=false:=decide_eq_false q3;by_cases q4:b2<b1
 ·have e4:decide (b2<b1)=true:=decide_eq_true q4;rw[if_pos (.inr q4)];repeat(first|refine aa_ ?_|simp only[go_sem,e3,e4])
  refine Ri_ ?_
  exact ae_
 have e4:decide (b2<b1)=false:=decide_eq_false q4;rw[if_neg (fun h=>h.elim q3 q4)];repeat(first|refine aa_ ?_|simp only[go_sem,e3,e4])
 refine Rh_ ?_
 refine aj_ sl ?_;cases S with
 | false =>
   rw[if_pos (.inl rfl)];try refine aa_ ?_
   refine Ri_ ?_
   exact ae_
 | true =>
   try refine aa_ ?_
   refine aj_ cu ?_;by_cases q5:R=[]
   ·subst q5;rw[if_pos rfl];try refine aa_ ?_
    refine Ri_ ?_
    exact ae_
   ·have e5:((R.length:Int)==0)=false:=by
     rw[←Bool.not_eq_true,beq_iff_eq];have:=List.length_pos_iff.2 q5;omega
    rw[if_neg (by simp[q5])];repeat(first|refine aa_ ?_|simp only[go_sem,e5])
    refine Rh_ ?_
    exact ae_
def yC_(z:Int):UInt8:=UInt8.ofNat (IntKind.u8.wrap z).toNat
theorem nn_(z:Int):IntKind.u8.wrap z=((yC_ z).toNat:Int):=by
 have h:0≤IntKind.u8.wrap z∧IntKind.u8.wrap z<256:=by rw[IntKind.wrap_u8];omega
 unfold yC_;rw[UInt8.toNat_ofNat',Nat.mod_eq_of_lt (by omega)];omega
theorem qI_(x m:Int)(h0:0≤m)(hm:m<9223372036854775808):∃r:Nat,du_ .i64 x m=r∧(r:Int)≤m:=by
 unfold du_
 have h:(BitVec.ofInt IntKind.i64.bits x &&& BitVec.ofInt IntKind.i64.bits m).toNat≤m.toNat:=by
  rw[BitVec.toNat_and];refine Nat.le_trans Nat.and_le_right ?_;rw[BitVec.toNat_ofInt];show (m % ((2 ^ 64:Nat):Int)).toNat≤m.toNat
  omega
 generalize (BitVec.ofInt IntKind.i64.bits x &&& BitVec.ofInt IntKind.i64.bits m).toNat=r at *;exact⟨r,aC_ (by omega) (by omega),by omega⟩
def lD_(n:Int):Rt:=((rt0.set 0 (yC_ n)).set 1 (yC_ (dg_ .i64 n 8))).set 31 (yC_ (IntKind.i64.wrap (n*7)))
theorem dN_(n:Int):PC Tryz.prog 16 [.int .i64 n] (.agg (rtc (lD_ n))):=by
 refine PC.fact 3 Dq_ (by simp) ⟨trivial,trivial⟩ ((cw_ _)) ?_;unfold sk_ lD_;refine bd ?_;have h0:=nn_ n;have h1:=nn_ (dg_ .i64 n 8);have h2:=nn_ (IntKind.i64.wrap (n*7));generalize yC_ n=b0 at *;generalize yC_ (dg_ .i64 n 8)=b1 at *;generalize yC_ (IntKind.i64.wrap (n*7))=b2 at *;have s0:∀ (r:Rt) (b:UInt8),spl (rtc r) 0 [.int .u8 (b.toNat:Int)]=rtc (r.set 0 b):=fun r b=>ua_ r (by decide) b
 have s1:∀ (r:Rt) (b:UInt8),spl (rtc r) 1 [.int .u8 (b.toNat:Int)]=rtc (r.set 1 b):=fun r b=>ua_ r (by decide) b
 have s2:∀ (r:Rt) (b:UInt8),spl (rtc r) 31 [.int .u8 (b.toNat:Int)]=rtc (r.set 31 b):=fun r b=>ua_ r (by decide) b
 repeat(first|refine aa_ ?_|simp only[go_sem,h0,h1,h2,s0,s1,s2])
 exact ae_
def fa_(bits:Int)(i:Nat):List Int:=((List.range i).filter fun j=>du_ .i64 (dg_ .i64 bits j) 1==1).map Int.ofNat
theorem It_(bits:Int)(i:Nat):fa_ bits (i+1)=if (du_ .i64 (dg_ .i64 bits i) 1==1)=true then fa_ bits i++[(i:Int)]else fa_ bits i:=by
 unfold fa_;rw[List.range_succ,List.filter_append,List.map_append];by_cases h:(du_ .i64 (dg_ .i64 bits i) 1==1)=true
 ·rw[if_pos h];simp[h]
 ·rw[if_neg h];simp[h]
theorem nE_(bits:Int)(i:Nat):(fa_ bits i).length≤i:=by
 unfold fa_;rw[List.length_map];exact Nat.le_trans (List.length_filter_le _ _) (by simp)
def Ae_(n:Nat)(bits:Int):List Int:=if fa_ bits n=[]∧0<n then [0]else fa_ bits n
theorem Af_(n:Nat)(bits:Int):(Ae_ n bits).length≤n:=by
 unfold Ae_;split
 ·rename_i h;simp;omega
 ·exact nE_ bits n
theorem Ag_(n:Nat)(bits:Int)(hn:n≤1000000):PC Tryz.prog 65 [.int .i64 n,.int .i64 bits] (.sl 1 false (aq_ .i64 (Ae_ n bits))):=by
 refine PC.fact 7 mA_ (by simp) ⟨trivial,trivial,trivial⟩ (aM_ _ _) ?_;unfold cr_;refine bd ?_;try refine aa_ ?_
 refine gP_ (fun x:Nat×Bool=>⟨7,[.int .i64 n,.int .i64 bits,.dead,.dead,.sl 0 true [],if x.2 then .hs 1 0 0 (fa_ bits x.1).length else .sl 0 true [],.int .i64 x.1],[]⟩) (fun x=>if x.2 then [.vec 1 (aq_ .i64 (fa_ bits x.1))]else []) (fun x=>n-x.1) (fun x=>x.1≤n∧(x.2=false→fa_ bits x.1=[])) (0,false) ⟨Nat.zero_le _,fun _=>rfl⟩ ?_ ?_
 ·simp only[Bool.false_eq_true,if_false];exact SN_ [] []
 rintro⟨i,b⟩ ⟨hi,hb⟩;dsimp only at hi hb ⊢;have hlen:=nE_ bits i;by_cases h1:i<n
 ·have e1:decide ((i:Int)<(n:Int))=true:=decide_eq_true (by omega)
  have hw:=ag_ h1 (by omega);have hu:IntKind.u64.wrap (i:Int)=(i:Int):=aH_ (by omega) (by omega);have hs:=It_ bits i;cases hq:(du_ .i64 (dg_ .i64 bits i) 1==1)with
  | true =>
    rw[hq,if_pos rfl]at hs;have hnum:∀l:List Int,aq_ .i64 l++[[.int .i64 (i:Int)]]=aq_ .i64 (l++[(i:Int)]):=fun l=>fr_ .i64 l [(i:Int)]
    cases b with
    | true =>
      simp only[if_true];repeat(first|refine aa_ ?_|simp only[go_sem,e1])
      refine ac_ ?_;repeat(first|refine aa_ ?_|simp only[go_sem,hu,hq])
      refine ac_ ?_;repeat(first|refine aa_ ?_|simp only[go_sem,hw,hnum])
      refine⟨(i+1,true),⟨h1,fun h=>(by cases h)⟩,by dsimp only;omega,?_⟩;simp only[if_true,hs,List.length_append,List.length_cons,List.length_nil,Nat.zero_add];exact SN_ [] [1]
    | false =>
      have h0:=hb rfl;rw[h0]at hs;simp only[Bool.false_eq_true,if_false];repeat(first|refine aa_ ?_|simp only[go_sem,e1])
      refine ac_ ?_;repeat(first|refine aa_ ?_|simp only[go_sem,hu,hq])
      refine ac_ ?_;repeat(first|refine aa_ ?_|simp only[go_sem,hw])
      refine⟨(i+1,true),⟨h1,fun h=>(by cases h)⟩,by dsimp only;omega,?_⟩;simp only[if_true,hs];exact SN_ [] [0]
  | false =>
    rw[hq,if_neg (by simp)]at hs;cases b with
    | true =>
      simp only[if_true];repeat(first|refine aa_ ?_|simp only[go_sem,e1])
      refine ac_ ?_;repeat(first|refine aa_ ?_|simp only[go_sem,hu,hq])
      refine ab_ ?_;repeat(first|refine aa_ ?_|simp only[go_sem,hw])
      refine⟨(i+1,true),⟨h1,fun h=>(by cases h)⟩,by dsimp only;omega,?_⟩;simp only[if_true,hs];exact SN_ [] [0]
    | false =>
      simp only[Bool.false_eq_true,if_false];repeat(first|refine aa_ ?_|simp only[go_sem,e1])
      refine ac_ ?_;repeat(first|refine aa_ ?_|simp only[go_sem,hu,hq])
      refine ab_ ?_;repeat(first|refine aa_ ?_|simp only[go_sem,hw])
      refine⟨(i+1,false),⟨h1,fun h=>(by dsimp only;rw[hs];exact hb rfl)⟩,by dsimp only;omega,?_⟩;simp only[Bool.false_eq_true,if_false];exact SN_ [] []
 have e1:decide ((i:Int)<(n:Int))=false:=decide_eq_false (by omega);obtain rfl:i=n:=by omega
 have e2:decide ((i:Int) > 0)=decide (0<i):=by rw[decide_eq_decide];omega
 unfold Ae_;by_cases h0:fa_ bits i=[]
 ·by_cases hz:0<i
  ·have e3:decide ((i:Int) > 0)=true:=decide_eq_true (by omega)
   rw[if_pos ⟨h0,hz⟩];cases b with
   | true =>
     simp only[if_true,h0];repeat(first|refine aa_ ?_|simp only[go_sem,e1])
     refine ab_ ?_;repeat(first|refine aa_ ?_|simp only[go_sem,e3])
     refine Ri_ ?_
     refine⟨_,by first|rfl|exact evd,.inr ⟨.sl 1 true (aq_ .i64 [0]),evd,aM_ _ _,Wk.open_ _ _ _⟩⟩
   | false =>
     simp only[Bool.false_eq_true,if_false];repeat(first|refine aa_ ?_|simp only[go_sem,e1])
     refine ab_ ?_;repeat(first|refine aa_ ?_|simp only[go_sem,e3])
     refine Ri_ ?_
     refine⟨_,by first|rfl|exact evd,.inr ⟨.sl 1 true (aq_ .i64 [0]),evd,aM_ _ _,Wk.open_ _ _ _⟩⟩
  ·have e3:decide ((i:Int) > 0)=false:=decide_eq_false (by omega)
   rw[if_neg (fun h=>hz h.2),h0];cases b with
   | true =>
     simp only[if_true];repeat(first|refine aa_ ?_|simp only[go_sem,e1])
     refine ab_ ?_;repeat(first|refine aa_ ?_|simp only[go_sem,e3])
     refine Rh_ ?_
     exact ae_
   | false =>
     simp only[Bool.false_eq_true,if_false];repeat(first|refine aa_ ?_|simp only[go_sem,e1])
     refine ab_ ?_;repeat(first|refine aa_ ?_|simp only[go_sem,e3])
     refine Rh_ ?_
     refine⟨_,by first|rfl|exact evd,.inr ⟨.sl 0 true [],evd,trivial,Wk.empty _ _ _⟩⟩
 ·rw [if_neg (fun h => h0 h.1)]
  cases b with
  |false=>exact absurd (hb rfl) h0
  | true =>
    have e3:(((fa_ bits i).length:Int)==0)=false:=by
     rw[←Bool.not_eq_true,beq_iff_eq];have:=List.length_pos_iff.2 h0;omega
    simp only[if_true];repeat(first|refine aa_ ?_|simp only[go_sem,e1])
    refine ab_ ?_;repeat(first|refine aa_ ?_|simp only[go_sem,e3])
    refine Rh_ ?_
    exact ae_
theorem LE_(a b:Int):PC Tryz.prog 193 [.int .u64 a,.int .u64 b] (.tup [.int .u64 (sO_ a b).1,.int .i64 (sO_ a b).2]):=by
 refine PC.fact 6 Gb_ (by simp) puA puA ?_;unfold ux_;refine bd ?_;unfold sO_;try refine aa_ ?_
 refine aW_ (fun h=>?_) (fun h=>?_)
 ·try refine aa_ ?_
  rw[if_pos (by simpa using h)];exact ae_
 ·try refine aa_ ?_
  rw[if_neg (by simpa using h)];exact ae_
theorem Mn_(n:Int):PC Tryz.prog 220 [.int .u64 n] (.bool (if_ n)):=by
 refine PC.fact 3 xG_ (by simp) puA puA ?_;unfold oC_;refine bd ?_;unfold if_;cases h:decide (1≤n)with
 | true =>
   repeat(first|refine aa_ ?_|simp only[go_sem,h])
   exact ae_
 | false =>
   repeat(first|refine aa_ ?_|simp only[go_sem,h])
   exact ae_
theorem MR_(a b:Int):PC Tryz.prog 221 [.int .u64 a,.int .u64 b] (.tup [.int .u64 (tw_ a b).1,.int .i64 (tw_ a b).2]):=by
 refine PC.fact 6 Gc_ (by simp) puA puA ?_;unfold uy_;refine bd ?_;unfold tw_;by_cases h0:b=0
 ·subst h0;try refine aa_ ?_
  refine Rh_ ?_
  rw[if_neg (by simp)];exact ae_
 ·have e0:(b != 0)=true:=by simp[h0]
  repeat(first|refine aa_ ?_|simp only[go_sem,e0,h0])
  refine aW_ (fun h=>?_) (fun h=>?_)
  ·try refine aa_ ?_
   rw[if_pos (by simpa[h0]using h)];exact ae_
  ·try refine aa_ ?_
   rw[if_neg (by simpa[h0]using h)];exact ae_
theorem Hk_(e p:Int):PC Tryz.prog 188 [.int .u64 e,.int .u64 p] (.tup [.int .u64 (bh_ e p).1,.int .i64 (bh_ e p).2]):=by
 refine PC.fact 6 vd_ (by simp) puA puA ?_;unfold mo_;refine bd ?_;unfold bh_;have c1:=Mn_ p;have c2:=MR_ e p;try refine aa_ ?_
 refine aj_ c1 ?_;cases h:if_ p with
 | true =>
   rw[if_pos rfl];try refine aa_ ?_
   refine Rh_ ?_
   refine So_ c2 ?_
   exact ae_
 | false =>
   rw[if_neg (by simp)];try refine aa_ ?_
   refine Ri_ ?_
   exact ae_
theorem ET_(l:List Int){i:Nat}(h:(fv_ l i).2≠0):∀n,i≤n→fv_ l n=fv_ l i
 |0,hn=>by rw[show i=0 by omega]
 | n + 1, hn => by
   by_cases he:i=n+1
   ·rw[he]
   ·have:=ET_ l h n (by omega);show (if (fv_ l n).2≠0 then fv_ l n else _)=_
    rw[this,if_pos h]
theorem LD_{a b:Int}(h:(sO_ a b).2≠0):sO_ a b=(0,(sO_ a b).2):=by
 unfold sO_ at *;split at h
 ·rw[if_pos (by assumption)]
 ·exact absurd rfl h
theorem Ai_(l:List Int)(c:Bool)(hb:l.length≤1000000):PC Tryz.prog 143 [.sl 1 c (aq_ .u64 l)] (.tup [.int .u64 (sh_ l).1,.int .i64 (sh_ l).2]):=by
 refine PC.fact 8 Gd_ (by simp) puA puA ?_;unfold uz_;refine bd ?_;try refine aa_ ?_
 refine an_ (fun i:Nat=>[(5,.int .i64 i),(4,.int .u64 (fv_ l i).1)]) (fun _=>[]) (fun i=>l.length-i) (fun i=>i≤l.length∧(fv_ l i).2=0) 0 ⟨Nat.zero_le _,rfl⟩ ?_ ?_
 ·exact SN_ [] []
 rintro i ⟨hi,he⟩;by_cases h1:i<l.length
 ·have e1:decide ((i:Int)<(l.length:Int))=true:=decide_eq_true (by omega)
  have hgd:=gdn (k:=.u64) h1;have hw:=ag_ h1 (by omega);have c1:=LE_ (fv_ l i).1 (l.getD i 0);have hs:fv_ l (i+1)=sO_ (fv_ l i).1 (l.getD i 0):=by show (if (fv_ l i).2≠0 then fv_ l i else _)=_;rw[if_neg (by simp[he])]
  rw[←hs]at c1;repeat(first|refine aa_ ?_|simp only[go_sem,e1])
  refine ac_ ?_;repeat(first|refine aa_ ?_|simp only[go_sem,hgd,Nat.mul_one])
  refine So_ c1 ?_
  refine aW_ (fun h=>?_) (fun h=>?_)
  ·have h':(fv_ l (i+1)).2≠0:=by simpa using h
   have hE:sh_ l=fv_ l (i+1):=ET_ l h' _ h1;rw[hE];have h2:=LD_ (by rw[←hs];exact h');rw[←hs]at h2;try refine aa_ ?_
   generalize fv_ l (i+1)=q at *;obtain⟨q1,q2⟩:=q;cases h2;exact ae_
  ·have h':(fv_ l (i+1)).2=0:=by simpa using h
   repeat(first|refine aa_ ?_|simp only[go_sem,hw])
   refine⟨i+1,⟨h1,h'⟩,by omega,?_⟩;exact SN_ [] []
 ·obtain rfl:i=l.length:=by omega
  have e1:decide ((l.length:Int)<(l.length:Int))=false:=decide_eq_false (by omega);repeat(first|refine aa_ ?_|simp only[go_sem,e1])
  refine Rh_ ?_
  rw[show sh_ l=fv_ l l.length from rfl,he];exact ae_
theorem xm_(l:List Rt)(c:Bool)(r:Rt)(hb:l.length≤1000000):PC Tryz.prog 164 [.sl 32 c (rows rtc l),.agg (rtc r)] (.bool (decide (r∈l))):=by
 refine PC.fact 6 ti_ (by simp) ⟨(bt_ fun x _=>cw_ x),cw_ _,trivial⟩ trivial ?_;unfold lq_;refine bd ?_;try refine aa_ ?_
 refine an_ (fun i:Nat=>[(5,.int .i64 i)]) (fun _=>[.var (rtc r)]) (fun i=>l.length-i) (fun i=>i≤l.length∧∀j,j<i→l.getD j rt0≠r) 0 ⟨Nat.zero_le _,fun j hj=>by omega⟩ ?_ ?_
 ·exact SN_ [] [0]
 rintro i ⟨hi,hn⟩;by_cases h1:i<l.length
 ·have e1:decide ((i:Int)<(l.length:Int))=true:=decide_eq_true (by omega)
  have hgd:=aA_ (f:=rtc) rt0 h1;have hw:=ag_ h1 (by omega);have hm:l.getD i rt0∈l:=by rw[List.getD_eq_getElem?_getD,List.getElem?_eq_getElem h1];exact List.getElem_mem h1
  repeat(first|refine aa_ ?_|simp only[go_sem,e1])
  refine ac_ ?_;repeat(first|refine aa_ ?_|simp only[go_sem,hgd])
  refine aW_ (fun h=>?_) (fun h=>?_)
  ·have hr:l.getD i rt0=r:=by simpa using h
   subst hr;try refine aa_ ?_
   rw[decide_eq_true hm];exact ae_
  ·have hr:l.getD i rt0≠r:=by simpa using h
   repeat(first|refine aa_ ?_|simp only[go_sem,hw])
   refine⟨i+1,⟨h1,fun j hj=>?_⟩,by omega,?_⟩
   ·by_cases hji:j=i
    ·rw[hji];exact hr
    ·exact hn j (by omega)
   ·exact SN_ [] [0]
 ·obtain rfl:i=l.length:=by omega
  have e1:decide ((l.length:Int)<(l.length:Int))=false:=decide_eq_false (by omega)
  have e2:decide (r∈l)=false:=by
   refine decide_eq_false fun hr=>?_
   obtain⟨j,hj,rfl⟩:=List.getElem_of_mem hr;exact hn j hj (by simp[List.getD_eq_getElem?_getD,hj])
  rw[e2];repeat(first|refine aa_ ?_|simp only[go_sem,e1])
  refine Rh_ ?_
  exact ae_
theorem zb_(a b:Rt):PC Tryz.prog 144 [.agg (rtc a),.agg (rtc b)] (.int .i64 (lG_ a b)):=by
 refine PC.fact 6 nN_ (by simp) puA puA ?_;unfold hO_;refine bd ?_;try refine aa_ ?_
 refine an_ (fun i:Nat=>[(5,.int .i64 i)]) (fun _=>[.var (rtc a),.var (rtc b)]) (fun i=>32-i) (fun i=>i≤32∧lG_ a b=js_ a b (32-i) i) 0 ⟨by omega,rfl⟩ ?_ ?_
 ·exact SN_ [] [0,1]
 rintro i ⟨hi,hn⟩;rw[hn];by_cases h1:i<32
 ·have e1:decide ((i:Int)<32)=true:=decide_eq_true (by omega)
  have hw:=ag_ h1 (by omega);have g1:=HH_ a h1;have g2:=HH_ b h1;have ga:a.1.getD i 0=a.1[i]'(by rw[a.2];exact h1):=by simp[List.getD_eq_getElem?_getD,a.2,h1]
  have gb:b.1.getD i 0=b.1[i]'(by rw[b.2];exact h1):=by simp[List.getD_eq_getElem?_getD,b.2,h1]
  rw[←ga]at g1;rw[←gb]at g2;obtain⟨f,hf⟩:∃f,32-i=f+1:=⟨31-i,by omega⟩
  have hs:js_ a b (32-i) i=if a.1.getD i 0<b.1.getD i 0 then -1 else if b.1.getD i 0<a.1.getD i 0 then 1 else js_ a b (32-(i+1)) (i+1):=by
   rw[hf,show 32-(i+1)=f by omega];rfl
  rw[hs];generalize a.1.getD i 0=x at *;generalize b.1.getD i 0=y at *;have h0:(0:Int)≤i:=by omega
  have hn1:(i:Int)<32:=by omega
  repeat(first|refine aa_ ?_|simp only[go_sem,e1])
  refine ac_ ?_;repeat(first|refine aa_ ?_|simp only[go_sem,g1,g2,Nat.mul_one,Nat.zero_add])
  refine aW_ (fun h=>?_) (fun h=>?_)
  ·rw[if_pos (UInt8.lt_iff_toNat_lt.2 (by simpa using h))];try refine aa_ ?_
   exact ae_
  ·rw[if_neg (fun h'=>by have:=UInt8.lt_iff_toNat_lt.1 h';simp at h;omega)]
   repeat(first|refine aa_ ?_|simp only[go_sem,g1,g2,Nat.mul_one,Nat.zero_add])
   refine aW_ (fun h=>?_) (fun h=>?_)
   ·rename_i h';rw[if_pos (UInt8.lt_iff_toNat_lt.2 (by simpa using h))];try refine aa_ ?_
    exact ae_
   ·rename_i h';rw[if_neg (fun h'=>by have:=UInt8.lt_iff_toNat_lt.1 h';simp at h;omega)];repeat(first|refine aa_ ?_|simp only[go_sem,hw])
    refine⟨i+1,⟨h1,rfl⟩,by omega,?_⟩;exact SN_ [] [0,1]
 ·obtain rfl:i=32:=by omega
  rw[Nat.sub_self];try refine aa_ ?_
  refine Rh_ ?_
  exact ae_
theorem zc_(a b:Wd):PC Tryz.prog 202 [.agg (wdc a),.agg (wdc b)] (.int .i64 (Ju_ a b)):=by
 refine PC.fact 6 vc_ (by simp) puA puA ?_;unfold mn_;refine bd ?_;try refine aa_ ?_
 refine an_ (fun i:Nat=>[(5,.int .i64 ((i:Int)-1))]) (fun _=>[.var (wdc a),.var (wdc b)]) (fun i=>i) (fun i=>i≤4∧Ju_ a b=Dh_ a b i) 4 ⟨by omega,rfl⟩ ?_ ?_
 ·exact SN_ [] [0,1]
 rintro i ⟨hi,hn⟩;rw[hn];cases i with
 | zero =>
   try refine aa_ ?_
   refine Rh_ ?_
   exact ae_
 | succ i =>
   have h1:i<4:=by omega
   have e1:((i+1:Nat):Int)-1=(i:Int):=by omega
   have e2:decide ((i:Int) ≥ 0)=true:=decide_eq_true (by omega);have e3:decide ((0:Int)≤i)=true:=decide_eq_true (by omega);have hw:IntKind.i64.wrap ((i:Int)-1)=(i:Int)-1:=aC_ (by omega) (by omega);have g1:=AY_ a h1;have g2:=AY_ b h1;have ga:a.1.getD i 0=a.1[i]'(by rw[a.2];exact h1):=by simp[List.getD_eq_getElem?_getD,a.2,h1]
   have gb:b.1.getD i 0=b.1[i]'(by rw[b.2];exact h1):=by simp[List.getD_eq_getElem?_getD,b.2,h1]
   rw[←ga]at g1;rw[←gb]at g2;have hs:Dh_ a b (i+1)=if a.1.getD i 0<b.1.getD i 0 then -1 else if b.1.getD i 0<a.1.getD i 0 then 1 else Dh_ a b i:=rfl
   rw[hs];generalize a.1.getD i 0=x at *;generalize b.1.getD i 0=y at *;have h0:(0:Int)≤i:=by omega
   have hn1:(i:Int)<4:=by omega
   rw[e1];repeat(first|refine aa_ ?_|simp only[go_sem,e1,e2,e3])
   refine ac_ ?_;repeat(first|refine aa_ ?_|simp only[go_sem,g1,g2,Nat.mul_one,Nat.zero_add])
   refine aW_ (fun h=>?_) (fun h=>?_)
   ·rw[if_pos (by simpa using h)];try refine aa_ ?_
    exact ae_
   ·rw[if_neg (by simpa using h)]
    repeat(first|refine aa_ ?_|simp only[go_sem,g1,g2,Nat.mul_one,Nat.zero_add])
    refine aW_ (fun h=>?_) (fun h=>?_)
    ·rename_i h';rw[if_pos (by simpa using h)];try refine aa_ ?_
     exact ae_
    ·rename_i h';rw[if_neg (by simpa using h)];repeat(first|refine aa_ ?_|simp only[go_sem,hw])
     refine⟨i,⟨by omega,rfl⟩,by omega,?_⟩;exact SN_ [] [0,1]
theorem nI_(t:au_)(n:Int)(hb:t.bals.length≤1000000):PC Tryz.prog 69 [.agg (aY_ t.a),.int .i64 n] (.int .i64 (dJ_ t n)):=by
 refine PC.fact 7 mI_ (by simp) puA puA ?_;unfold hm_;refine bd ?_;have c1:=Ai_ t.bals false hb;unfold dJ_;generalize sh_ t.bals=q at *;obtain⟨q1,q2⟩:=q;dsimp only at c1 ⊢;try refine aa_ ?_
 refine aW_ (fun h=>?_) (fun h=>?_)
 ·rw[if_pos (by simpa using h)];try refine aa_ ?_
  exact ae_
 ·rw [if_neg (by simpa using h)]
  try refine aa_ ?_
  refine aj_ c1 ?_;by_cases h2:q2=0
  ·subst h2
   by_cases h3:4611686018427387904<q1
   ·have e3:decide (4611686018427387904<q1)=true:=decide_eq_true h3;rw[if_pos (.inr h3)];repeat(first|refine aa_ ?_|simp only[go_sem,e3])
    refine Ri_ ?_
    exact ae_
   ·have e3:decide (4611686018427387904<q1)=false:=decide_eq_false h3;rw[if_neg (by simpa using h3)];repeat(first|refine aa_ ?_|simp only[go_sem,e3])
    refine Rh_ ?_
    exact ae_
  ·have e2:(q2 != 0)=true:=by simpa using h2
   rw[if_pos (.inl h2)];repeat(first|refine aa_ ?_|simp only[go_sem,e2])
   refine Ri_ ?_
   exact ae_
theorem uG_(t:au_)(hb:t.bals.length≤1000000):PC Tryz.prog 141 [.agg (aY_ t.a)] (.agg (aY_ t.a)):=by
 refine PC.fact 3 rH_ (by simp) puA puA ?_;unfold kl_;refine bd ?_;obtain⟨cp,bals⟩:=t;dsimp only at hb;have b1:(bals.length:Int)*8≤140737488355328:=by omega
 have b2:bals.length≤9223372036854775807:=by omega
 unfold au_.a;repeat(first|refine aa_ ?_|simp only[go_sem,b1,b2])
 exact ae_
theorem za_(a b:Cp):PC Tryz.prog 71 [.agg (cpC a),.agg (cpC b)] (.int .i64 (gy_ a b)):=by
 refine PC.fact 5 jh_ (by simp) puA puA ?_;unfold eZ_;refine bd ?_;have c1:=zb_ a.rt b.rt;unfold gy_;try refine aa_ ?_
 refine aW_ (fun h=>?_) (fun h=>?_)
 ·rw[if_pos (by simpa using h)]
  try refine aa_ ?_
  refine aW_ (fun h=>?_) (fun h=>?_)
  ·rename_i h';rw[if_pos (by simpa using h)];try refine aa_ ?_
   exact ae_
  ·rename_i h';rw[if_neg (by simpa using h)];try refine aa_ ?_
   exact ae_
 ·rw[if_neg (by simpa using h)];try refine aa_ ?_
  refine So_ c1 ?_
  exact ae_
theorem ih_(l:List au_)(c:Cp)(hb:l.length≤1000000):PC Tryz.prog 68 [.sl 34 false (rows au_.c l),.agg (cpC c)] (.int .i64 (bU_ l c)):=by
 refine PC.fact 6 rI_ (by simp) puA puA ?_;unfold km_;refine bd ?_;try refine aa_ ?_
 refine an_ (fun i:Nat=>[(5,.int .i64 i)]) (fun _=>[.var (cpC c)]) (fun i=>l.length-i) (fun i=>i≤l.length∧bU_ l c=mO_ (dV_ (fun i=>decide ((tab l i).cp=c)) (l.length-i) i)) 0 ⟨Nat.zero_le _,rfl⟩ ?_ ?_
 ·exact SN_ [] [0]
 rintro i ⟨hi,hn⟩;rw[hn];by_cases h1:i<l.length
 ·have e1:decide ((i:Int)<(l.length:Int))=true:=decide_eq_true (by omega)
  have hgd:(rows au_.c l).getD i []=aY_ (tab l i).a:=aA_ (f:=au_.c) default h1;have hw:=ag_ h1 (by omega);repeat(first|refine aa_ ?_|simp only[go_sem,e1])
  refine ac_ ?_;repeat(first|refine aa_ ?_|simp only[go_sem,hgd])
  refine aW_ (fun h=>?_) (fun h=>?_)
  ·rw[fD_ h1 h];try refine aa_ ?_
   exact ae_
  ·rw[fC_ h1 h];repeat(first|refine aa_ ?_|simp only[go_sem,hw])
   refine⟨i+1,⟨h1,rfl⟩,by omega,?_⟩;exact SN_ [] [0]
 ·obtain rfl:i=l.length:=by omega
  have e1:decide ((l.length:Int)<(l.length:Int))=false:=decide_eq_false (by omega);rw[fB_];repeat(first|refine aa_ ?_|simp only[go_sem,e1])
  refine Rh_ ?_
  exact ae_
theorem xp_(l:List au_)(e:Int)(hb:l.length≤1000000):PC Tryz.prog 124 [.sl 34 false (rows au_.c l),.int .u64 e] (.sl 34 false (rows au_.c (cY_ l e))):=by
 refine PC.fact 7 qz_ (by simp) puA puA ?_;unfold jp_;refine bd ?_;try refine aa_ ?_
 refine de_ 5 34 ?_;simp only[go_sem];have hl:∀n,(av_ (fun i o=>if e≤(tab l i).cp.ep then o++[tab l i]else o) [] n).length≤0+n:=hC_ (fun i l=>by split<;>simp)
 refine an_ (fun i:Nat=>[(6,.int .i64 i),(5,.hs 34 0 0 (av_ (fun i o=>if e≤(tab l i).cp.ep then o++[tab l i]else o) [] i).length)]) (fun i=>[.vec 34 (rows au_.c (av_ (fun i o=>if e≤(tab l i).cp.ep then o++[tab l i]else o) [] i))]) (fun i=>l.length-i) (fun i=>i≤l.length) 0 (Nat.zero_le _) ?_ ?_
 ·exact SN_ [] [0]
 intro i hi;by_cases h1:i<l.length
 ·have e1:decide ((i:Int)<(l.length:Int))=true:=decide_eq_true (by omega)
  have hgd:(rows au_.c l).getD i []=aY_ (tab l i).a:=aA_ (f:=au_.c) default h1;have hw:=ag_ h1 (by omega);have hs:=bi_ (fun i o=>if e≤(tab l i).cp.ep then o++[tab l i]else o) [] i;have hli:=hl i;generalize av_ (fun i o=>if e≤(tab l i).cp.ep then o++[tab l i]else o) [] i=acc at *;have hr:rows au_.c acc++[aY_ (tab l i).a]=rows au_.c (acc++[tab l i]):=bB_ au_.c acc (tab l i);repeat(first|refine aa_ ?_|simp only[go_sem,e1])
  refine ac_ ?_;repeat(first|refine aa_ ?_|simp only[go_sem,hgd])
  refine aW_ (fun h=>?_) (fun h=>?_)
  ·rw[if_pos (by simpa using h)]at hs;repeat(first|refine aa_ ?_|simp only[go_sem,hgd,hr,hw])
   refine⟨i+1,h1,by omega,?_⟩;rw[hs];exact SN_ [] [1]
  ·rw[if_neg (by simpa using h)]at hs;repeat(first|refine aa_ ?_|simp only[go_sem,hw])
   refine⟨i+1,h1,by omega,?_⟩;rw[hs];exact SN_ [] [0]
 ·obtain rfl:i=l.length:=by omega
  have e1:decide ((l.length:Int)<(l.length:Int))=false:=decide_eq_false (by omega);repeat(first|refine aa_ ?_|simp only[go_sem,e1])
  refine Rh_ ?_
  exact ae_
theorem zM_(l:List au_)(c:Cp):∀f i,fg_ l c f i≤i+f
 |0,i=>Nat.le_refl _
 |f+1,i=>by unfold fg_;have:=zM_ l c f (i+1);split<;>omega
theorem Fp_(l:List au_)(t:au_)(i:Nat)(hi:i≤l.length)(hb:l.length≤1000000)(ht:t.bals.length≤1000000):Tri Tryz.prog 35 0 (cc_.tl 3) (PQ [.tmp 4] (.sl 34 false (rows au_.c (l.take i++[t]++l.drop i)))) ⟨6,[.sl 34 false (rows au_.c l),.agg (aY_ t.a),.dead,.ptr 0 0,.sl 0 true [],.int .i64 i],[]⟩ [.var (aY_ t.a)]:=by
 unfold cc_;refine bd ?_;simp only[ad_.tl];have cp:=uG_ t ht;have r1:rows au_.c (l.take i)++[aY_ t.a]=rows au_.c (l.take i++[t]):=bB_ au_.c _ t;have r2:=wj_ au_.c (l.take i++[t]) (l.drop i);have hm:min i l.length=i:=by omega
 repeat(first|refine aa_ ?_|simp only[go_sem,ky_,nC_,List.length_take,List.length_drop,hm])
 refine ao_ (cp) ?_;have ht2:(l.drop i).take (l.length-i)=l.drop i:=List.take_of_length_le (by simp);repeat(first|refine aa_ ?_|simp only[go_sem,r1,r2,ky_,nC_,List.length_take,List.length_drop,hm,ht2])
 refine⟨_,(by first|rfl|exact evd),.inl ?_⟩;refine evg ?_;rw[if_pos (by simp;omega),List.take_of_length_le (by simp;omega)]
theorem CO_(l:List au_)(t:au_)(hb:l.length≤1000000)(ht:t.bals.length≤1000000):PC Tryz.prog 171 [.sl 34 false (rows au_.c l),.agg (aY_ t.a)] (.sl 34 false (rows au_.c (iy_ l t))):=by
 have hK:fg_ l t.cp l.length 0≤l.length:=by have:=zM_ l t.cp l.length 0;omega
 have tl:=fun i hi=>Fp_ l t i hi hb ht
 unfold iy_;dsimp only;refine PC.fact 6 tn_ (by simp) puA puA ?_;have hc:cc_=.seq cc_.hd (.seq (cc_.tl 1).hd (.seq (cc_.tl 2).hd (cc_.tl 3))):=rfl;rw[hc];clear hc;generalize cc_.tl 3=cT at *;unfold cc_;refine bd ?_;simp only[ad_.tl,ad_.hd];try refine aa_ ?_
 refine an_ (fun i:Nat=>[(5,.int .i64 i)]) (fun _=>[.var (aY_ t.a)]) (fun i=>l.length-i) (fun i=>i≤l.length∧fg_ l t.cp l.length 0=fg_ l t.cp (l.length-i) i) 0 ⟨Nat.zero_le _,rfl⟩ ?_ ?_
 ·exact SN_ [] [0]
 rintro i ⟨hi,hn⟩;rw[hn]at hK ⊢;refine cJ_ ?_;by_cases h1:i<l.length
 ·have e1:=inT h1
  have hw:=ag_ h1 (by omega);have hgd:(rows au_.c l).getD i []=aY_ (tab l i).a:=aA_ (f:=au_.c) default h1;have c1:=za_ (tab l i).cp t.cp;obtain⟨f,hf⟩:∃f,l.length-i=f+1:=⟨l.length-i-1,by omega⟩
  have hs:fg_ l t.cp (l.length-i) i=if gy_ (tab l i).cp t.cp<0 then fg_ l t.cp (l.length-(i+1)) (i+1)else i:=by rw[hf,show l.length-(i+1)=f by omega];rfl
  repeat(first|refine aa_ ?_|simp only[go_sem,e1,hgd])
  refine ao_ (c1) ?_;try refine aa_ ?_
  refine aW_ (fun h=>?_) (fun h=>?_)
  ·rw[if_pos (by simpa using h)]at hs;rw[hs];repeat(first|refine aa_ ?_|simp only[go_sem,hw])
   refine⟨i+1,⟨h1,rfl⟩,by omega,?_⟩;exact SN_ [] [0]
  ·rw[if_neg (by simpa using h)]at hs;rw[hs];try refine aa_ ?_
   refine bE_ ?_ (tl i hi);exact SN_ [] [0]
 ·obtain rfl:i=l.length:=by omega
  have e1:=inF (l.length);rw[Nat.sub_self]at *;repeat(first|refine aa_ ?_|simp only[go_sem,e1])
  refine Rh_ ?_
  refine bE_ ?_ (tl l.length hi);exact SN_ [] [0]
theorem Eu_(l:List au_)(t:au_)(n limit:Int)(hb:l.length≤1000000)(ht:t.bals.length≤1000000):PC Tryz.prog 101 [.sl 34 false (rows au_.c l),.agg (aY_ t.a),.int .i64 n,.int .i64 limit] (.tup [.sl 34 false (rows au_.c (ep_ l t n limit).1),.int .i64 (ep_ l t n limit).2]):=by
 refine PC.fact 11 tp_ (by simp) puA puA ?_;unfold lw_;refine bd ?_;have c1:=nI_ t n ht;have c2:=ih_ l t.cp hb;have c3:=CO_ l t hb ht;unfold ep_;generalize dJ_ t n=E at *;generalize bU_ l t.cp=F at *;generalize iy_ l t=A at *;try refine aa_ ?_
 refine So_ c1 ?_
 refine aW_ (fun h=>?_) (fun h=>?_)
 ·rw[if_pos (by simpa using h)];try refine aa_ ?_
  exact ae_
 ·rw [if_neg (by simpa using h)]
  try refine aa_ ?_
  refine So_ c2 ?_
  refine aW_ (fun h=>?_) (fun h=>?_)
  ·rename_i h';rw[if_pos (by simpa using h)];try refine aa_ ?_
   exact ae_
  ·rename_i h'
   rw[if_neg (by simpa using h)];try refine aa_ ?_
   refine aW_ (fun h=>?_) (fun h=>?_)
   ·rw[if_pos (by simpa using h)];try refine aa_ ?_
    exact ae_
   ·rw[if_neg (by simpa using h)];try refine aa_ ?_
    refine So_ c3 ?_
    exact ae_
theorem Jd_(ep:Int)(root:Rt)(l:List Int)(i:Nat)(p:List Vot×Int):(hU_ ep root l i p).1.length=p.1.length:=by unfold hU_;split<;>simp
theorem iM_(ep:Int)(root:Rt)(l:List Int)(v:List Vot):∀i,(av_ (hU_ ep root l) (v,0) i).1.length=v.length
 |0=>rfl
 |i+1=>by rw[bi_,Jd_,iM_ ep root l v i]
theorem yX_(v:List Vot)(ep:Int)(root:Rt)(l:List Int)(hv:v.length≤1000000)(hl:l.length≤1000000)(hj:∀j∈l,0≤j∧j<v.length):PC Tryz.prog 129 [.sl 34 false (rows aV_ v),.int .u64 ep,.agg (rtc root),.sl 1 false (aq_ .i64 l)] (.tup [.sl 34 false (rows aV_ (su_ v ep root l).1),.int .i64 (su_ v ep root l).2]):=by
 refine PC.fact 14 Dx_ (by simp) puA puA ?_;unfold sr_;refine bd ?_;try refine aa_ ?_
 unfold su_;refine an_ (fun i:Nat=>[(12,.int .i64 i),(11,.int .i64 (av_ (hU_ ep root l) (v,0) i).2)]) (fun i=>[.var (rtc root),.vec 34 (rows aV_ (av_ (hU_ ep root l) (v,0) i).1)]) (fun i=>l.length-i) (fun i=>i≤l.length) 0 (Nat.zero_le _) ?_ ?_
 ·exact SN_ [] [0,1]
 intro i hi;refine cJ_ ?_;by_cases h1:i<l.length
 ·have e1:=inT h1
  have hw:=ag_ h1 (by omega);have hgd:=gdn (k:=.i64) h1;have hm:l.getD i 0∈l:=by rw[List.getD_eq_getElem?_getD,List.getElem?_eq_getElem h1];exact List.getElem_mem h1
  obtain⟨j0,j1⟩:=hj _ hm;have hs:=bi_ (hU_ ep root l) (v,0) i;have hlen:=iM_ ep root l v i;generalize av_ (hU_ ep root l) (v,0) i=p at *;obtain⟨u,n⟩:=p;dsimp only at hlen;have h3:(l.getD i 0).toNat<u.length:=by omega
  have hgu:(rows aV_ u).getD (l.getD i 0).toNat []=aV_ (vot u (l.getD i 0).toNat):=aA_ (f:=aV_) do_ h3;have hc:hU_ ep root l i (u,n)=if (vot u (l.getD i 0).toNat).has=false∨(vot u (l.getD i 0).toNat).ep<ep then (u.set (l.getD i 0).toNat ⟨true,ep,root⟩,IntKind.i64.wrap (n+1))else (u,n):=rfl
  generalize hx:vot u (l.getD i 0).toNat=x at *;generalize l.getD i 0=j at *;have hset:=qX_ aV_ u j.toNat ⟨true,ep,root⟩;dsimp only;repeat(first|refine aa_ ?_|simp only[go_sem,e1,hgd,Nat.mul_one])
  refine ac_ ?_;obtain⟨xh,xe,xr⟩:=x;dsimp only at hc;cases xh with
  | false =>
    rw[if_pos (.inl rfl)]at hc;repeat(first|refine aa_ ?_|simp only[go_sem,hgd,Nat.mul_one,hgu])
    refine ac_ ?_;repeat(first|refine aa_ ?_|simp only[go_sem,hgd,Nat.mul_one,hgu,hset,hw])
    refine⟨i+1,h1,by omega,?_⟩;rw[hs,hc];exact SN_ [] [0,1]
  | true =>
    by_cases hx2:xe<ep
    ·have e2:decide (xe<ep)=true:=decide_eq_true hx2;rw[if_pos (.inr hx2)]at hc;repeat(first|refine aa_ ?_|simp only[go_sem,hgd,Nat.mul_one,hgu,e2])
     refine ac_ ?_;repeat(first|refine aa_ ?_|simp only[go_sem,hgd,Nat.mul_one,hgu,hset,hw])
     refine⟨i+1,h1,by omega,?_⟩;rw[hs,hc];exact SN_ [] [0,1]
    ·have e2:decide (xe<ep)=false:=decide_eq_false hx2;rw[if_neg (by simp[hx2])]at hc;repeat(first|refine aa_ ?_|simp only[go_sem,hgd,Nat.mul_one,hgu,e2])
     refine ab_ ?_;repeat(first|refine aa_ ?_|simp only[go_sem,hw])
     refine⟨i+1,h1,by omega,?_⟩;rw[hs,hc];exact SN_ [] [0,1]
 ·obtain rfl:i=l.length:=by omega
  have e1:=inF (l.length);have hlen:=iM_ ep root l v l.length;repeat(first|refine aa_ ?_|simp only[go_sem,e1])
  refine Rh_ ?_
  refine⟨_,(by first|rfl|exact evd),.inl ?_⟩;refine evg ?_;rw[hlen,if_pos (Nat.le_refl _),List.take_of_length_le (by simp[hlen])]
def vW_(l:List Int)(i:Nat)(o:List Int):List Int:=ji_ o (l.getD i 0)
def tz_(set l:List Int):List Int:=av_ (vW_ l) set l.length
theorem BF_(set l:List Int):∀i,(av_ (vW_ l) set i).length≤set.length+i
 |0=>Nat.le_refl _
 |i+1=>by rw[bi_];have:=DS_ (av_ (vW_ l) set i) (l.getD i 0);have:=BF_ set l i;unfold vW_ at *;omega
theorem Es_(set l:List Int)(hb:set.length+l.length≤1000000):PC Tryz.prog 95 [.sl 1 false (aq_ .i64 set),.sl 1 false (aq_ .i64 l)] (.tup [.sl 1 false (aq_ .i64 (tz_ set l)),.int .i64 (IntKind.i64.wrap ((tz_ set l).length-set.length))]):=by
 refine PC.fact 8 xO_ (by simp) puA puA ?_;unfold oJ_;refine bd ?_;unfold tz_;try refine aa_ ?_
 refine an_ (fun i:Nat=>[(7,.int .i64 i),(6,.sl 1 false (aq_ .i64 (av_ (vW_ l) set i)))]) (fun i=>[]) (fun i=>l.length-i) (fun i=>i≤l.length) 0 (Nat.zero_le _) ?_ ?_
 ·exact SN_ [0] []
 intro i hi;refine cJ_ ?_;by_cases h1:i<l.length
 ·have e1:=inT h1;have hw:=ag_ h1 (by omega);have hgd:=gdn (k:=.i64) h1;have hs:=bi_ (vW_ l) set i;have hlen:=BF_ set l i;have c1:=DU_ (av_ (vW_ l) set i) (l.getD i 0) (by omega);unfold vW_ at hs;rw[show ji_ (av_ (vW_ l) set i) (l.getD i 0)=av_ (vW_ l) set (i+1)from rfl]at c1;repeat(first|refine aa_ ?_|simp only[go_sem,e1])
  refine ac_ ?_;repeat(first|refine aa_ ?_|simp only[go_sem,hgd,Nat.mul_one])
  refine aj_ c1 ?_;repeat(first|refine aa_ ?_|simp only[go_sem,hw])
  refine⟨i+1,h1,by omega,?_⟩;exact SN_ [] []
 ·obtain rfl:i=l.length:=by omega
  have e1:=inF (l.length);repeat(first|refine aa_ ?_|simp only[go_sem,e1])
  refine Rh_ ?_
  exact ae_
def wtS(latest:List Vot)(eqv bals:List Int)(roots:List Rt)(i:Nat)(n:Int):Int:=if (vot latest i).has=true∧(i:Int)∉eqv∧(vot latest i).root∈roots then IntKind.u64.wrap (n+bals.getD i 0)else n
theorem Fm_(latest:List Vot)(eqv bals:List Int)(roots:List Rt)(h1:latest.length≤1000000)(h2:eqv.length≤1000000)(h3:bals.length≤1000000)(h4:roots.length≤1000000):PC Tryz.prog 92 [.agg [.sl 34 false (rows aV_ latest),.sl 1 false (aq_ .i64 eqv)],.sl 1 false (aq_ .u64 bals),.sl 32 true (rows rtc roots)] (.int .u64 (ue_ latest eqv bals roots)):=by
 refine PC.fact 9 xP_ (by simp) puA puA ?_;unfold oK_;refine bd ?_;show Tri _ _ _ _ (PQ _ (.int .u64 (av_ (wtS latest eqv bals roots) 0 (min bals.length latest.length)))) _ _
 try refine aa_ ?_
 refine an_ (fun i:Nat=>[(8,.int .i64 i),(7,.int .u64 (av_ (wtS latest eqv bals roots) 0 i))]) (fun i=>[.var [.sl 34 false (rows aV_ latest),.sl 1 false (aq_ .i64 eqv)]]) (fun i=>bals.length-i) (fun i=>i≤min bals.length latest.length) 0 (Nat.zero_le _) ?_ ?_
 ·exact SN_ [] [0]
 intro i hi;(try simp only[cl_,bZ_,List.set_cons_zero,List.set_cons_succ])
 by_cases q1:i<bals.length
 ·have e1 : decide ((i : Int) < ((bals.length : Nat) : Int)) = true := decide_eq_true (by omega)
  by_cases q2:i<latest.length
  ·have e2:decide ((i:Int)<((latest.length:Nat):Int))=true:=decide_eq_true (by omega)
   have hw:=ag_ q1 (by omega);have hs:=bi_ (wtS latest eqv bals roots) 0 i;have hgl:=aA_ (f:=aV_) do_ q2;have hgb:=gdn (k:=.u64) q1;have c1:=vs_ eqv false (i:Int) (by omega);have c2:=xm_ roots true (vot latest i).root h4;generalize av_ (wtS latest eqv bals roots) 0 i=n at *;have hc:wtS latest eqv bals roots i n=if (vot latest i).has=true∧(i:Int)∉eqv∧(vot latest i).root∈roots then IntKind.u64.wrap (n+bals.getD i 0)else n:=rfl
   generalize bals.getD i 0=b at *;change (rows aV_ latest).getD i []=aV_ (vot latest i)at hgl
   generalize vot latest i=x at *;obtain⟨xh,xe,xr⟩:=x;dsimp only at hc c2;repeat(first|refine aa_ ?_|simp only[go_sem,e1,e2])
   refine ac_ ?_;cases xh with
   | false =>
     rw[if_neg (by simp)]at hc;repeat(first|refine aa_ ?_|simp only[go_sem,hgl])
     refine ab_ ?_;repeat(first|refine aa_ ?_|simp only[go_sem,hw])
     refine⟨i+1,by omega,by omega,?_⟩;rw[hs,hc];exact SN_ [] [0]
   | true =>
     repeat(first|refine aa_ ?_|simp only[go_sem,hgl])
     refine aj_ c1 ?_;by_cases q3:(i:Int)∈eqv
     ·rw[if_neg (by simp[q3])]at hc;rw[decide_eq_true q3];repeat(first|refine aa_ ?_|simp only[go_sem,hgl])
      refine ab_ ?_;repeat(first|refine aa_ ?_|simp only[go_sem,hw])
      refine⟨i+1,by omega,by omega,?_⟩;rw[hs,hc];exact SN_ [] [0]
     ·rw[decide_eq_false q3]
      repeat(first|refine aa_ ?_|simp only[go_sem,hgl])
      refine aj_ c2 ?_;by_cases q4:xr∈roots
      ·rw[if_pos ⟨rfl,q3,q4⟩]at hc;rw[decide_eq_true q4];repeat(first|refine aa_ ?_|simp only[go_sem,hgb,Nat.mul_one])
       refine ac_ ?_;repeat(first|refine aa_ ?_|simp only[go_sem,hw,hgb,Nat.mul_one])
       refine⟨i+1,by omega,by omega,?_⟩;rw[hs,hc];exact SN_ [] [0]
      ·rw[if_neg (by simp[q4])]at hc;rw[decide_eq_false q4];repeat(first|refine aa_ ?_|simp only[go_sem,hgb,Nat.mul_one])
       refine ab_ ?_;repeat(first|refine aa_ ?_|simp only[go_sem,hw])
       refine⟨i+1,by omega,by omega,?_⟩;rw[hs,hc];exact SN_ [] [0]
  ·have e2:decide ((i:Int)<((latest.length:Nat):Int))=false:=decide_eq_false (by omega);obtain rfl:i=min bals.length latest.length:=by omega
   repeat(first|refine aa_ ?_|simp only[go_sem,e1,e2])
   refine Rh_ ?_
   exact ae_
 ·have e1:decide ((i:Int)<((bals.length:Nat):Int))=false:=decide_eq_false (by omega);obtain rfl:i=min bals.length latest.length:=by omega
  repeat(first|refine aa_ ?_|simp only[go_sem,e1])
  refine Rh_ ?_
  exact ae_
end Go.Proofs.YtkgimpdgncakjaaGreat
