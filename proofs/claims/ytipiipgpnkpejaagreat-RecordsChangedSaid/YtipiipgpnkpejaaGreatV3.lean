/-
 My texts Ia, Ib, Ir, La, Lb, Lc, joined.
-/
import Derived.Test.YtipiipgpnkpejaaGreatV1
import Derived.Test.YtipiipgpnkpejaaGreatW3
import Derived.Test.YtipiipgpnkpejaaGreatW4
import Derived.Test.YtipiipgpnkpejaaGreatW5
namespace Go.Proofs.YtipiipgpnkpejaaGreat
open Go Go.FH Go.RowKit
set_option linter.unusedVariables false
set_option linter.unusedSimpArgs false

theorem nM_ (l:List Int) (cl:Bool) (v:Int) (hb:l.length≤140737488355328):PC Tryz.prog 181 [.sl 1 cl (nums .i64 l),.int .i64 v] (.bool (decide (v ∈ l))):=by
 refine PC.fact 6 wQ_ (by simp) ⟨aw_ _ _,trivial,trivial⟩ trivial ?_
 unfold nY_;refine bd ?_
 try refine aa_ ?_
 refine bM_ (fun i:Nat=>⟨6,[.sl 1 cl (nums .i64 l),.int .i64 v,.dead,.dead,.bool false,.int .i64 i],[]⟩) (fun _=>[]) (fun i=>l.length-i) (fun i=>i≤l.length∧v ∉ l.take i) [] 0 ⟨by omega,by simp⟩ evd rfl ?_
 rintro i ⟨hi,hv⟩
 try dsimp only
 try refine aa_ ?_
 refine al_ evd (fun h=>?_) (fun h=>?_)
 · have h1:i<l.length:=by simp at h;omega
   have hg:=bK_ (k:=.i64) h1
   have hw:=af_ h1 (by omega)
   have e0:l[i]=l.getD i 0:=by rw[List.getD_eq_getElem?_getD,List.getElem?_eq_getElem h1];rfl
   repeat(first | refine aa_ ?_ | simp only[go_sem,hg,Nat.mul_one])
   refine al_ evd (fun h=>?_) (fun h=>?_)
   · have e1:l.getD i 0=v:=by simpa using h
     have hm:v ∈ l:=by rw[← e1,← e0];exact List.getElem_mem h1
     rw[decide_eq_true hm]
     try refine aa_ ?_
     exact fin0
   · have e1:l.getD i 0≠v:=by simpa using h
     repeat(first | refine aa_ ?_ | simp only[go_sem,hw])
     refine⟨i+1,⟨h1,?_⟩,by omega,rfl⟩
     rw[List.take_add_one,List.getElem?_eq_getElem h1]
     simp only[Option.toList_some,List.mem_append,List.mem_singleton,not_or]
     exact⟨hv,by rw[e0];exact fun e=>e1 e.symm⟩
 · have h1:i=l.length:=by simp at h;omega
   subst h1
   rw[List.take_length]at hv
   rw[decide_eq_false hv]
   try refine aa_ ?_
   exact fin0
theorem rn_ (k:IntKind) (l:List Int) (i:Nat):(nums k l).take i=nums k (l.take i):=by simp[nums]
theorem qT_ (k:IntKind) (l:List Int) (i:Nat):(nums k l).drop i=nums k (l.drop i):=by simp[nums]
theorem cX_ (k:IntKind) (l m:List Int):nums k l++nums k m=nums k (l++m):=by simp[nums]
theorem uM_ (k:IntKind) (v:Int):[[AV.int k v]]=nums k [v]:=rfl
def insL:List Int→Int→List Int
 | [],v=>[v]
 | a::r,v=>if a<v then a::insL r v else if a=v then a::r else v::a::r
theorem tP_:∀ (l:List Int) (v:Int) (i:Nat),i≤l.length→(∀ j,j<i→l.getD j 0<v)→(∀ _:i<l.length,¬ l.getD i 0<v)→insL l v=if i<l.length∧l.getD i 0=v then l else l.take i++[v]++l.drop i
 | [], v, i, hi, h1, h2 => by
   have:i=0:=by simpa using hi
   subst this
   simp[insL]
 | a :: r, v, 0, hi, h1, h2 => by
   have h3:¬ a<v:=by simpa using h2 (by simp)
   simp only[insL,if_neg h3]
   by_cases h4:a=v
   · simp[h4]
   · simp[h4]
 | a :: r, v, i + 1, hi, h1, h2 => by
   have h3:a<v:=by simpa using h1 0 (by omega)
   have ih:=tP_ r v i (by simpa using hi) (fun j hj=>by simpa using h1 (j+1) (by omega)) (fun hlt=>by simpa using h2 (by simpa using hlt))
   simp only[insL,if_pos h3,ih]
   by_cases h4:i<r.length∧r.getD i 0=v
   · rw[if_pos h4,if_pos (by simpa using h4)]
   · rw[if_neg h4,if_neg (by simpa using h4)]
     simp
theorem tZ_ (l:List Int) (v:Int):(insL l v).length≤l.length+1:=by
 induction l with
 | nil=>simp[insL]
 | cons a r ih =>
   unfold insL
   split
   · simp;omega
   · split<;>simp
theorem vI_ (l:List Int) (v:Int) (hb:l.length≤1000000):PC Tryz.prog 180 [.sl 1 false (nums .i64 l),.int .i64 v] (.sl 1 false (nums .i64 (insL l v))):=by
 refine PC.fact 6 pT_ (by simp) ⟨aw_ _ _,trivial,trivial⟩ (aw_ _ _) ?_
 unfold iI_;refine bd ?_
 try refine aa_ ?_
 refine bM_ (fun i:Nat=>⟨6,[.sl 1 false (nums .i64 l),.int .i64 v,.dead,.dead,.sl 0 true [],.int .i64 i],[]⟩) (fun _=>[]) (fun i=>l.length-i) (fun i=>i≤l.length∧∀ j,j<i→l.getD j 0<v) [] 0 ⟨by omega,fun j hj=>by omega⟩ evd rfl ?_
 rintro i ⟨hi,hv⟩
 try dsimp only
 have fin:(∀ _:i<l.length,¬ l.getD i 0<v)→True:=fun _=>trivial
 by_cases h1:i<l.length
 · have hg:=bK_ (k:=.i64) h1
   have hw:=af_ h1 (by omega)
   have e1:decide ((i:Int)<(l.length:Int))=true:=decide_eq_true (by omega)
   by_cases h2:l.getD i 0<v
   · have e2:decide (l.getD i 0<v)=true:=decide_eq_true h2
     repeat(first | refine aa_ ?_ | simp only[go_sem,e1,hg,Nat.mul_one,e2])
     refine ac_ ?_
     repeat(first | refine aa_ ?_ | simp only[go_sem,hw])
     refine⟨i+1,⟨h1,fun j hj=>?_⟩,by omega,rfl⟩
     by_cases e:j=i
     · subst e;exact h2
     · exact hv j (by omega)
   · have e2:decide (l.getD i 0<v)=false:=decide_eq_false h2
     rw[tP_ l v i hi hv (fun _=>h2)]
     repeat(first | refine aa_ ?_ | simp only[go_sem,e1,hg,Nat.mul_one,e2])
     refine ab_ ?_
     by_cases h3:l.getD i 0=v
     · have e3:(l.getD i 0==v)=true:=by rw[beq_iff_eq];exact h3
       rw[if_pos ⟨h1,h3⟩]
       repeat(first | refine aa_ ?_ | simp only[go_sem,e1,hg,Nat.mul_one,e3])
       refine ac_ ?_
       try refine aa_ ?_
       exact fin0
     · have e3:(l.getD i 0==v)=false:=by rw[← Bool.not_eq_true,beq_iff_eq];exact h3
       rw[if_neg (fun h=>h3 h.2)]
       repeat(first | refine aa_ ?_ | simp only[go_sem,e1,hg,Nat.mul_one,e3])
       refine ab_ ?_
       have d1:(l.drop i).take (l.length-i)=l.drop i:=List.take_of_length_le (by simp)
       repeat(first | refine aa_ ?_ | simp only[go_sem,rn_,qT_,d1,uM_,cX_])
       exact fin0
 · have hl:i=l.length:=by omega
   subst hl
   have e1:decide ((l.length:Int)<(l.length:Int))=false:=decide_eq_false (by omega)
   rw[tP_ l v l.length hi hv (fun h=>by omega),if_neg (fun h=>by omega),List.take_length,List.drop_length,List.append_nil]
   repeat(first | refine aa_ ?_ | simp only[go_sem,e1])
   refine ab_ ?_
   repeat(first | refine aa_ ?_ | simp only[go_sem,e1])
   refine ab_ ?_
   repeat(first | refine aa_ ?_ | simp only[go_sem,rn_,qT_,uM_,cX_])
   exact fin0

def culR (l m:List Int) (i:Nat):List Int:=(l.take i).foldl (fun a v=>if v ∈ m then insL a v else a) []
theorem xg_ {l m:List Int}{i:Nat}(h:i<l.length):culR l m (i+1)=if l.getD i 0 ∈ m then insL (culR l m i) (l.getD i 0)else culR l m i:=by
 have e0:l[i]=l.getD i 0:=by rw[List.getD_eq_getElem?_getD,List.getElem?_eq_getElem h];rfl
 unfold culR
 rw[List.take_add_one,List.getElem?_eq_getElem h,Option.toList_some,List.foldl_append,List.foldl_cons,List.foldl_nil,e0]
theorem kM_ (l m:List Int):∀ i,(culR l m i).length≤i
 | 0=>by simp[culR]
 | i + 1 => by
   have ih:=kM_ l m i
   by_cases h:i<l.length
   · rw[xg_ h]
     split
     · have:=tZ_ (culR l m i) (l.getD i 0);omega
     · omega
   · have:culR l m (i+1)=culR l m i:=by unfold culR;rw[List.take_of_length_le (by omega),List.take_of_length_le (by omega)]
     rw[this];omega
theorem oh_ (x:Slg) (l m:List Int) (c d:Bool) (hx:x.fst.vals=.sl 1 c (nums .i64 l)) (hy:x.snd.vals=.sl 1 d (nums .i64 m)) (hl:l.length≤100) (hm:m.length≤100):
   PC Tryz.prog 159 [.agg (slgC x)] (.sl 1 false (nums .i64 (culR l m l.length))):=by
 obtain⟨⟨a1,a2,r1,v1⟩,⟨b1,b2,r2,v2⟩⟩:=x
 dsimp only at hx hy
 subst hx hy
 have hp:PuL (slgC ⟨⟨a1,a2,r1,.sl 1 c (nums .i64 l)⟩,⟨b1,b2,r2,.sl 1 d (nums .i64 m)⟩⟩):=(bI_ _).2 ⟨aw_ _ _,aw_ _ _⟩
 refine PC.fact 5 me_ (by simp) ⟨hp,trivial⟩ (aw_ _ _) ?_
 unfold gI_;refine bd ?_
 try refine aa_ ?_
 refine bm_ (fun i:Nat × Bool=>⟨5,[.agg (slgC ⟨⟨a1,a2,r1,.sl 1 c (nums .i64 l)⟩,⟨b1,b2,r2,.sl 1 d (nums .i64 m)⟩⟩),.ptr 0 0,.sl 0 true [],if i.2 then .sl 1 false (nums .i64 (culR l m i.1))else .sl 0 true [],.int .i64 i.1],[]⟩) (fun _=>[.var (slgC ⟨⟨a1,a2,r1,.sl 1 c (nums .i64 l)⟩,⟨b1,b2,r2,.sl 1 d (nums .i64 m)⟩⟩)]) (fun i=>l.length-i.1) (fun i=>i.1≤l.length∧(i.2=false→culR l m i.1=[])) (0,false) ⟨by dsimp only;omega,fun _=>rfl⟩ ?_ ?_
 · simp only[Bool.false_eq_true,if_false]
   refine GC.mk' [] [0] (by simp) rfl (by simp) (by simp) evd evd
 rintro⟨i,b⟩ ⟨hi,hb⟩
 dsimp only at hi hb ⊢
 by_cases h1:i<l.length
 case neg=>
   have e1:decide ((i:Int)<(l.length:Int))=false:=decide_eq_false (by omega)
   obtain rfl:i=l.length:=by omega
   repeat(first | refine aa_ ?_ | simp only[go_sem,e1])
   refine ab_ ?_
   cases b with
   | true =>
     simp only[if_true]
     try refine aa_ ?_
     exact fin0
   | false =>
     rw[hb rfl]
     simp only[Bool.false_eq_true,if_false]
     try refine aa_ ?_
     refine⟨_,by first | rfl | exact evd,.inr ⟨.sl 0 true [],evd,trivial,Wk.empty _ _ _⟩⟩
 have e1:decide ((i:Int)<(l.length:Int))=true:=decide_eq_true (by omega)
 have hgd:=bK_ (k:=.i64) h1
 have hw:=af_ h1 (by omega)
 have hr:=nM_ m d (l.getD i 0) (by omega)
 have hcl:=kM_ l m i
 repeat(first | refine aa_ ?_ | simp only[go_sem,e1,hgd,Nat.mul_one])
 refine ac_ ?_
 repeat(first | refine aa_ ?_ | simp only[go_sem,hgd,Nat.mul_one])
 refine dpcall (hr) ?_
 try refine aa_ ?_
 by_cases h2:l.getD i 0 ∈ m
 · rw[decide_eq_true h2]
   refine ac_ ?_
   have hs:culR l m (i+1)=insL (culR l m i) (l.getD i 0):=by rw[xg_ h1,if_pos h2]
   have hc:=vI_ (culR l m i) (l.getD i 0) (by omega)
   rw[← hs]at hc
   cases b with
   | true =>
     simp only[if_true]
     repeat(first | refine aa_ ?_ | simp only[go_sem,hgd,Nat.mul_one])
     refine pcall hc ?_
     repeat(first | refine aa_ ?_ | simp only[go_sem,hw])
     refine⟨(i+1,true),⟨by dsimp only;omega,fun h=>(by cases h)⟩,by dsimp only;omega,?_⟩
     simp only[if_true]
     refine GC.mk' [] [0] (by simp) rfl (by simp) (by simp) evd evd
   | false =>
     rw[hb rfl]at hc
     simp only[Bool.false_eq_true,if_false]
     repeat(first | refine aa_ ?_ | simp only[go_sem,hgd,Nat.mul_one])
     refine pcallw (hc) (by repeat(first | exact trivial | (refine⟨Wk.refl _,?_⟩) | (refine⟨Wk.empty 0 1 _,?_⟩))) (by simp[PuL,Pu,PuLL,bG_,aw_]) ?_
     repeat(first | refine aa_ ?_ | simp only[go_sem,hw])
     refine⟨(i+1,true),⟨by dsimp only;omega,fun h=>(by cases h)⟩,by dsimp only;omega,?_⟩
     simp only[if_true]
     refine GC.mk' [] [0] (by simp) rfl (by simp) (by simp) evd evd
 · rw[decide_eq_false h2]
   refine ab_ ?_
   have hs:culR l m (i+1)=culR l m i:=by rw[xg_ h1,if_neg h2]
   repeat(first | refine aa_ ?_ | simp only[go_sem,hw])
   refine⟨(i+1,b),⟨by dsimp only;omega,fun h=>(by dsimp only;rw[hs];exact hb h)⟩,by dsimp only;omega,?_⟩
   dsimp only
   rw[hs]
   cases b
   · simp only[Bool.false_eq_true,if_false]
     refine GC.mk' [] [0] (by simp) rfl (by simp) (by simp) evd evd
   · simp only[if_true]
     refine GC.mk' [] [0] (by simp) rfl (by simp) (by simp) evd evd

def sur (a b:Clm):Bool:=decide (a.src<b.src)&&decide (b.tgt<a.tgt)
def dbl (a b:Clm):Bool:=(a.tgt==b.tgt)&&((a.src != b.src) || !decide (a.root=b.root))
def slb (a b:Clm):Bool:=dbl a b || sur a b || sur b a
theorem mh_ (a b:Clm) (ha:a.good=true) (hb:b.good=true) (pa:a.Pure) (pb:b.Pure):PC Tryz.prog 179 [.agg (clmC a),.agg (clmC b)] (.bool (slb a b)):=by
 refine PC.fact 8 kV_ (by simp) ⟨(fO_ a).2 pa,(fO_ b).2 pb,trivial⟩ trivial ?_
 have hc:aq_=.seq aq_.hd (.seq (aq_.tl 1).hd (.seq (aq_.tl 2).hd (.seq (aq_.tl 3).hd (aq_.tl 4)))):=rfl
 -- the last part: three results joined
 have t4:∀ (D s1 s2:Bool) (ts:List (Nat × AV)),Tri Tryz.prog 58 0 (aq_.tl 4) (PQ [.tmp 4] (.bool (D || s1 || s2))) ⟨8,[.agg (clmC a),.agg (clmC b),.ptr 0 0,.ptr 1 0,.bool false,.bool D,.bool s1,.bool s2],ts⟩ [.var (clmC a),.var (clmC b)]:=by
   intro D s1 s2 ts
   unfold aq_;refine bd ?_
   simp only[ACode.tl]
   cases D
   · cases s1
     · try refine aa_ ?_
       exact fin0
     · try refine aa_ ?_
       exact fin0
   · try refine aa_ ?_
     exact fin0
 have t3:∀ (D s1:Bool) (ts:List (Nat × AV)),Tri Tryz.prog 58 0 (.seq (aq_.tl 3).hd (aq_.tl 4)) (PQ [.tmp 4] (.bool (D || s1 || sur b a))) ⟨8,[.agg (clmC a),.agg (clmC b),.ptr 0 0,.ptr 1 0,.bool false,.bool D,.bool s1,.dead],ts⟩ [.var (clmC a),.var (clmC b)]:=by
   intro D s1 ts
   generalize aq_.tl 4=cT at *
   unfold aq_ sur;refine bd ?_
   simp only[ACode.tl,ACode.hd]
   cases e1:decide (b.src<a.src)with
   | false =>
     repeat(first | refine aa_ ?_ | simp only[go_sem,e1])
     exact t4 _ _ _ _
   | true =>
     repeat(first | refine aa_ ?_ | simp only[go_sem,e1])
     exact t4 _ _ _ _
 have t2:∀ (D:Bool) (ts:List (Nat × AV)),Tri Tryz.prog 58 0 (.seq (aq_.tl 2).hd (.seq (aq_.tl 3).hd (aq_.tl 4))) (PQ [.tmp 4] (.bool (D || sur a b || sur b a))) ⟨8,[.agg (clmC a),.agg (clmC b),.ptr 0 0,.ptr 1 0,.bool false,.bool D,.dead,.dead],ts⟩ [.var (clmC a),.var (clmC b)]:=by
   intro D ts
   clear t4
   generalize ACode.seq (aq_.tl 3).hd (aq_.tl 4)=cT at *
   have t3':=fun s1=>t3 D s1
   clear t3
   generalize sur b a=s2 at *
   unfold aq_ sur;refine bd ?_
   simp only[ACode.tl,ACode.hd]
   cases e1:decide (a.src<b.src)with
   | false =>
     repeat(first | refine aa_ ?_ | simp only[go_sem,e1])
     exact t3' _ _
   | true =>
     repeat(first | refine aa_ ?_ | simp only[go_sem,e1])
     exact t3' _ _
 clear t3 t4
 rw[hc]
 clear hc
 generalize ACode.seq (aq_.tl 2).hd (.seq (aq_.tl 3).hd (aq_.tl 4))=cT at *
 unfold aq_ slb;refine bd ?_
 generalize sur a b=s1 at *
 generalize sur b a=s2 at *
 unfold dbl
 simp only[ACode.tl,ACode.hd]
 cases e1:(a.tgt==b.tgt)with
 | false =>
   repeat(first | refine aa_ ?_ | simp only[go_sem,ha,hb,e1])
   exact t2 _ _
 | true =>
   cases e2:(a.src != b.src)with
   | true =>
     repeat(first | refine aa_ ?_ | simp only[go_sem,ha,hb,e1,e2])
     exact t2 _ _
   | false =>
     repeat(first | refine aa_ ?_ | simp only[go_sem,ha,hb,e1,e2])
     exact t2 _ _
def evE (x:Slg) (l m:List Int) (n:Int):Int:=
 if vErr l n≠0 then vErr l n else if vErr m n≠0 then vErr m n else if x.fst.tgt<x.fst.src∨x.snd.tgt<x.snd.src then 2
 else if slb x.fst x.snd=false∨culR l m l.length=[]then 20 else 0
theorem wf_ (x:Slg) (l m:List Int) (c d:Bool) (n:Int) (hx:x.fst.vals=.sl 1 c (nums .i64 l)) (hy:x.snd.vals=.sl 1 d (nums .i64 m)) (hl:l.length≤100) (hm:m.length≤100):
   PC Tryz.prog 156 [.agg (slgC x),.int .i64 n] (.int .i64 (evE x l m n)):=by
 obtain⟨⟨a1,a2,r1,v1⟩,⟨b1,b2,r2,v2⟩⟩:=x
 dsimp only at hx hy
 subst hx hy
 have cu:=oh_ ⟨⟨a1,a2,r1,.sl 1 c (nums .i64 l)⟩,⟨b1,b2,r2,.sl 1 d (nums .i64 m)⟩⟩ l m c d rfl rfl hl hm
 have sl:=mh_ ⟨a1,a2,r1,.sl 1 c (nums .i64 l)⟩ ⟨b1,b2,r2,.sl 1 d (nums .i64 m)⟩ rfl rfl (aw_ _ _) (aw_ _ _)
 have w1:=ch_ l c n (by omega)
 have w2:=ch_ m d n (by omega)
 refine PC.fact 7 fN_ (by simp) ⟨(bI_ _).2 ⟨aw_ _ _,aw_ _ _⟩,trivial,trivial⟩ trivial ?_
 unfold cT_ evE;refine bd ?_
 (try dsimp only)
 generalize slb ⟨a1,a2,r1,.sl 1 c (nums .i64 l)⟩ ⟨b1,b2,r2,.sl 1 d (nums .i64 m)⟩=S at *
 generalize culR l m l.length=R at *
 by_cases q1:vErr l n=0
 case neg=>
   have e1:(vErr l n != 0)=true:=by rw[bne_iff_ne];exact q1
   rw[if_pos q1]
   try refine aa_ ?_
   refine pcall w1 ?_
   repeat(first | refine aa_ ?_ | simp only[go_sem,e1])
   refine ac_ ?_
   try refine aa_ ?_
   exact fin0
 rw[if_neg (fun h=>h q1)]
 rw[q1]at w1
 by_cases q2:vErr m n=0
 case neg=>
   have e1:(vErr m n != 0)=true:=by rw[bne_iff_ne];exact q2
   rw[if_pos q2]
   try refine aa_ ?_
   refine pcall w1 ?_
   try refine aa_ ?_
   refine ab_ ?_
   try refine aa_ ?_
   refine pcall w2 ?_
   repeat(first | refine aa_ ?_ | simp only[go_sem,e1])
   refine ac_ ?_
   try refine aa_ ?_
   exact fin0
 rw[if_neg (fun h=>h q2)]
 rw[q2]at w2
 try refine aa_ ?_
 refine pcall w1 ?_
 try refine aa_ ?_
 refine ab_ ?_
 try refine aa_ ?_
 refine pcall w2 ?_
 try refine aa_ ?_
 refine ab_ ?_
 by_cases q3:a2<a1
 · have e3:decide (a2<a1)=true:=decide_eq_true q3
   rw[if_pos (.inl q3)]
   repeat(first | refine aa_ ?_ | simp only[go_sem,e3])
   refine ac_ ?_
   try refine aa_ ?_
   exact fin0
 have e3:decide (a2<a1)=false:=decide_eq_false q3
 by_cases q4:b2<b1
 · have e4:decide (b2<b1)=true:=decide_eq_true q4
   rw[if_pos (.inr q4)]
   repeat(first | refine aa_ ?_ | simp only[go_sem,e3,e4])
   refine ac_ ?_
   try refine aa_ ?_
   exact fin0
 have e4:decide (b2<b1)=false:=decide_eq_false q4
 rw[if_neg (fun h=>h.elim q3 q4)]
 repeat(first | refine aa_ ?_ | simp only[go_sem,e3,e4])
 refine ab_ ?_
 try refine aa_ ?_
 refine pcall sl ?_
 cases S with
 | false =>
   rw[if_pos (.inl rfl)]
   try refine aa_ ?_
   refine ac_ ?_
   try refine aa_ ?_
   exact fin0
 | true =>
   try refine aa_ ?_
   refine pcall cu ?_
   by_cases q5:R=[]
   · subst q5
     rw[if_pos rfl]
     try refine aa_ ?_
     refine ac_ ?_
     try refine aa_ ?_
     exact fin0
   · have e5:((R.length:Int)==0)=false:=by
       rw[← Bool.not_eq_true,beq_iff_eq]
       have:=List.length_pos_iff.2 q5
       omega
     rw[if_neg (by simp[q5])]
     repeat(first | refine aa_ ?_ | simp only[go_sem,e5])
     refine ab_ ?_
     try refine aa_ ?_
     exact fin0
def u8of (z:Int):UInt8:=UInt8.ofNat (IntKind.u8.wrap z).toNat
theorem kp_ (z:Int):IntKind.u8.wrap z=((u8of z).toNat:Int):=by
 have h:0≤IntKind.u8.wrap z∧IntKind.u8.wrap z<256:=by rw[IntKind.wrap_u8];omega
 unfold u8of
 rw[UInt8.toNat_ofNat',Nat.mod_eq_of_lt (by omega)]
 omega
theorem gb_ (x m:Int) (h0:0≤m) (hm:m<9223372036854775808):∃ r:Nat,iand .i64 x m=r∧(r:Int)≤m:=by
 unfold iand
 have h:(BitVec.ofInt IntKind.i64.bits x &&& BitVec.ofInt IntKind.i64.bits m).toNat≤m.toNat:=by
   rw[BitVec.toNat_and]
   refine Nat.le_trans Nat.and_le_right ?_
   rw[BitVec.toNat_ofInt]
   show (m % ((2 ^ 64:Nat):Int)).toNat≤m.toNat
   omega
 generalize (BitVec.ofInt IntKind.i64.bits x &&& BitVec.ofInt IntKind.i64.bits m).toNat=r at *
 exact⟨r,ah_ (by omega) (by omega),by omega⟩
def rootN (n:Int):Rt:=((rt0.set 0 (u8of n)).set 1 (u8of (ishr .i64 n 8))).set 31 (u8of (IntKind.i64.wrap (n*7)))
theorem cn_ (n:Int):PC Tryz.prog 36 [.int .i64 n] (.agg (rtc (rootN n))):=by
 refine PC.fact 3 vf_ (by simp) ⟨trivial,trivial⟩ ((bg_ _)) ?_
 unfold lW_ rootN;refine bd ?_
 have h0:=kp_ n
 have h1:=kp_ (ishr .i64 n 8)
 have h2:=kp_ (IntKind.i64.wrap (n*7))
 generalize u8of n=b0 at *
 generalize u8of (ishr .i64 n 8)=b1 at *
 generalize u8of (IntKind.i64.wrap (n*7))=b2 at *
 have s0:∀ (r:Rt) (b:UInt8),spl (rtc r) 0 [.int .u8 (b.toNat:Int)]=rtc (r.set 0 b):=fun r b=>ki_ r (by decide) b
 have s1:∀ (r:Rt) (b:UInt8),spl (rtc r) 1 [.int .u8 (b.toNat:Int)]=rtc (r.set 1 b):=fun r b=>ki_ r (by decide) b
 have s2:∀ (r:Rt) (b:UInt8),spl (rtc r) 31 [.int .u8 (b.toNat:Int)]=rtc (r.set 31 b):=fun r b=>ki_ r (by decide) b
 repeat(first | refine aa_ ?_ | simp only[go_sem,h0,h1,h2,s0,s1,s2])
 exact fin0
def someA (bits:Int) (i:Nat):List Int:=((List.range i).filter fun j=>iand .i64 (ishr .i64 bits j) 1==1).map Int.ofNat
theorem xW_ (bits:Int) (i:Nat):someA bits (i+1)=if (iand .i64 (ishr .i64 bits i) 1==1)=true then someA bits i++[(i:Int)]else someA bits i:=by
 unfold someA
 rw[List.range_succ,List.filter_append,List.map_append]
 by_cases h:(iand .i64 (ishr .i64 bits i) 1==1)=true
 · rw[if_pos h];simp[h]
 · rw[if_neg h];simp[h]
theorem ig_ (bits:Int) (i:Nat):(someA bits i).length≤i:=by
 unfold someA
 rw[List.length_map]
 exact Nat.le_trans (List.length_filter_le _ _) (by simp)
def someL (n:Nat) (bits:Int):List Int:=if someA bits n=[]∧0<n then [0]else someA bits n
theorem rF_ (n:Nat) (bits:Int):(someL n bits).length≤n:=by
 unfold someL
 split
 · rename_i h;simp;omega
 · exact ig_ bits n
theorem qL_ (n:Nat) (bits:Int) (hn:n≤1000000):PC Tryz.prog 41 [.int .i64 n,.int .i64 bits] (.sl 1 false (nums .i64 (someL n bits))):=by
 refine PC.fact 7 hn_ (by simp) ⟨trivial,trivial,trivial⟩ (aw_ _ _) ?_
 unfold ba_;refine bd ?_
 try refine aa_ ?_
 refine bm_ (fun x:Nat × Bool=>⟨7,[.int .i64 n,.int .i64 bits,.dead,.dead,.sl 0 true [],if x.2 then .hs 1 0 0 (someA bits x.1).length else .sl 0 true [],.int .i64 x.1],[]⟩) (fun x=>if x.2 then [.vec 1 (nums .i64 (someA bits x.1))]else []) (fun x=>n-x.1) (fun x=>x.1≤n∧(x.2=false→someA bits x.1=[])) (0,false) ⟨Nat.zero_le _,fun _=>rfl⟩ ?_ ?_
 · simp only[Bool.false_eq_true,if_false]
   refine GC.mk' [] [] (by simp) rfl (by simp) (by simp) evd evd
 rintro⟨i,b⟩ ⟨hi,hb⟩
 dsimp only at hi hb ⊢
 have hlen:=ig_ bits i
 by_cases h1:i<n
 · have e1:decide ((i:Int)<(n:Int))=true:=decide_eq_true (by omega)
   have hw:=af_ h1 (by omega)
   have hu:IntKind.u64.wrap (i:Int)=(i:Int):=aB_ (by omega) (by omega)
   have hs:=xW_ bits i
   cases hq:(iand .i64 (ishr .i64 bits i) 1==1)with
   | true =>
     rw[hq,if_pos rfl]at hs
     have hnum:∀ l:List Int,nums .i64 l++[[.int .i64 (i:Int)]]=nums .i64 (l++[(i:Int)]):=fun l=>cX_ .i64 l [(i:Int)]
     cases b with
     | true =>
       simp only[if_true]
       repeat(first | refine aa_ ?_ | simp only[go_sem,e1])
       refine ac_ ?_
       repeat(first | refine aa_ ?_ | simp only[go_sem,hu,hq])
       refine ac_ ?_
       repeat(first | refine aa_ ?_ | simp only[go_sem,hw,hnum])
       refine⟨(i+1,true),⟨h1,fun h=>(by cases h)⟩,by dsimp only;omega,?_⟩
       simp only[if_true,hs,List.length_append,List.length_cons,List.length_nil,Nat.zero_add]
       refine GC.mk' [] [1] (by simp) rfl (by simp) (by simp) evd evd
     | false =>
       have h0:=hb rfl
       rw[h0]at hs
       simp only[Bool.false_eq_true,if_false]
       repeat(first | refine aa_ ?_ | simp only[go_sem,e1])
       refine ac_ ?_
       repeat(first | refine aa_ ?_ | simp only[go_sem,hu,hq])
       refine ac_ ?_
       repeat(first | refine aa_ ?_ | simp only[go_sem,hw])
       refine⟨(i+1,true),⟨h1,fun h=>(by cases h)⟩,by dsimp only;omega,?_⟩
       simp only[if_true,hs]
       refine GC.mk' [] [0] (by simp) rfl (by simp) (by simp) evd evd
   | false =>
     rw[hq,if_neg (by simp)]at hs
     cases b with
     | true =>
       simp only[if_true]
       repeat(first | refine aa_ ?_ | simp only[go_sem,e1])
       refine ac_ ?_
       repeat(first | refine aa_ ?_ | simp only[go_sem,hu,hq])
       refine ab_ ?_
       repeat(first | refine aa_ ?_ | simp only[go_sem,hw])
       refine⟨(i+1,true),⟨h1,fun h=>(by cases h)⟩,by dsimp only;omega,?_⟩
       simp only[if_true,hs]
       refine GC.mk' [] [0] (by simp) rfl (by simp) (by simp) evd evd
     | false =>
       simp only[Bool.false_eq_true,if_false]
       repeat(first | refine aa_ ?_ | simp only[go_sem,e1])
       refine ac_ ?_
       repeat(first | refine aa_ ?_ | simp only[go_sem,hu,hq])
       refine ab_ ?_
       repeat(first | refine aa_ ?_ | simp only[go_sem,hw])
       refine⟨(i+1,false),⟨h1,fun h=>(by dsimp only;rw[hs];exact hb rfl)⟩,by dsimp only;omega,?_⟩
       simp only[Bool.false_eq_true,if_false]
       refine GC.mk' [] [] (by simp) rfl (by simp) (by simp) evd evd
 have e1:decide ((i:Int)<(n:Int))=false:=decide_eq_false (by omega)
 obtain rfl:i=n:=by omega
 have e2:decide ((i:Int) > 0)=decide (0<i):=by rw[decide_eq_decide];omega
 unfold someL
 by_cases h0:someA bits i=[]
 · by_cases hz:0<i
   · have e3:decide ((i:Int) > 0)=true:=decide_eq_true (by omega)
     rw[if_pos ⟨h0,hz⟩]
     cases b with
     | true =>
       simp only[if_true,h0]
       repeat(first | refine aa_ ?_ | simp only[go_sem,e1])
       refine ab_ ?_
       repeat(first | refine aa_ ?_ | simp only[go_sem,e3])
       refine ac_ ?_
       try refine aa_ ?_
       refine⟨_,by first | rfl | exact evd,.inr ⟨.sl 1 true (nums .i64 [0]),evd,aw_ _ _,Wk.open_ _ _ _⟩⟩
     | false =>
       simp only[Bool.false_eq_true,if_false]
       repeat(first | refine aa_ ?_ | simp only[go_sem,e1])
       refine ab_ ?_
       repeat(first | refine aa_ ?_ | simp only[go_sem,e3])
       refine ac_ ?_
       try refine aa_ ?_
       refine⟨_,by first | rfl | exact evd,.inr ⟨.sl 1 true (nums .i64 [0]),evd,aw_ _ _,Wk.open_ _ _ _⟩⟩
   · have e3:decide ((i:Int) > 0)=false:=decide_eq_false (by omega)
     rw[if_neg (fun h=>hz h.2),h0]
     cases b with
     | true =>
       simp only[if_true]
       repeat(first | refine aa_ ?_ | simp only[go_sem,e1])
       refine ab_ ?_
       repeat(first | refine aa_ ?_ | simp only[go_sem,e3])
       refine ab_ ?_
       try refine aa_ ?_
       exact fin0
     | false =>
       simp only[Bool.false_eq_true,if_false]
       repeat(first | refine aa_ ?_ | simp only[go_sem,e1])
       refine ab_ ?_
       repeat(first | refine aa_ ?_ | simp only[go_sem,e3])
       refine ab_ ?_
       try refine aa_ ?_
       refine⟨_,by first | rfl | exact evd,.inr ⟨.sl 0 true [],evd,trivial,Wk.empty _ _ _⟩⟩
 · rw [if_neg (fun h => h0 h.1)]
   cases b with
   | false=>exact absurd (hb rfl) h0
   | true =>
     have e3:(((someA bits i).length:Int)==0)=false:=by
       rw[← Bool.not_eq_true,beq_iff_eq]
       have:=List.length_pos_iff.2 h0
       omega
     simp only[if_true]
     repeat(first | refine aa_ ?_ | simp only[go_sem,e1])
     refine ab_ ?_
     repeat(first | refine aa_ ?_ | simp only[go_sem,e3])
     refine ab_ ?_
     try refine aa_ ?_
     exact fin0

theorem Dj_ (a b:Int):PC Tryz.prog 164 [.int .u64 a,.int .u64 b] (.tup [.int .u64 (addE a b).1,.int .i64 (addE a b).2]):=by
 refine PC.fact 6 wn_ (by simp) puA puA ?_
 unfold nt_;refine bd ?_
 unfold addE
 try refine aa_ ?_
 refine aD_ (fun h=>?_) (fun h=>?_)
 · try refine aa_ ?_
   rw[if_pos (by simpa using h)]
   exact fin0
 · try refine aa_ ?_
   rw[if_neg (by simpa using h)]
   exact fin0
theorem Da_ (n:Int):PC Tryz.prog 208 [.int .u64 n] (.bool (epsB n)):=by
 refine PC.fact 3 pc_ (by simp) puA puA ?_
 unfold iK_;refine bd ?_
 unfold epsB
 cases h:decide (1≤n)with
 | true =>
   repeat(first | refine aa_ ?_ | simp only[go_sem,h])
   exact fin0
 | false =>
   repeat(first | refine aa_ ?_ | simp only[go_sem,h])
   exact fin0
theorem Ct_ (a b:Int):PC Tryz.prog 209 [.int .u64 a,.int .u64 b] (.tup [.int .u64 (mulE a b).1,.int .i64 (mulE a b).2]):=by
 refine PC.fact 6 wz_ (by simp) puA puA ?_
 unfold nu_;refine bd ?_
 unfold mulE
 by_cases h0:b=0
 · subst h0
   try refine aa_ ?_
   refine ab_ ?_
   try refine aa_ ?_
   rw[if_neg (by simp)]
   exact fin0
 · have e0:(b != 0)=true:=by simp[h0]
   repeat(first | refine aa_ ?_ | simp only[go_sem,e0,h0])
   refine aD_ (fun h=>?_) (fun h=>?_)
   · try refine aa_ ?_
     rw[if_pos (by simpa[h0]using h)]
     exact fin0
   · try refine aa_ ?_
     rw[if_neg (by simpa[h0]using h)]
     exact fin0
theorem wW_ (e p:Int):PC Tryz.prog 198 [.int .u64 e,.int .u64 p] (.tup [.int .u64 (startE e p).1,.int .i64 (startE e p).2]):=by
 refine PC.fact 6 nV_ (by simp) puA puA ?_
 unfold ho_;refine bd ?_
 unfold startE
 have c1:=Da_ p
 have c2:=Ct_ e p
 try refine aa_ ?_
 refine pcall c1 ?_
 cases h:epsB p with
 | true =>
   rw[if_pos rfl]
   try refine aa_ ?_
   refine ab_ ?_
   try refine aa_ ?_
   refine pcall c2 ?_
   try refine aa_ ?_
   exact fin0
 | false =>
   rw[if_neg (by simp)]
   try refine aa_ ?_
   refine ac_ ?_
   try refine aa_ ?_
   exact fin0
theorem vE_ (l:List Int) {i:Nat}(h:(sumG l i).2≠0):∀ n,i≤n→sumG l n=sumG l i
 | 0,hn=>by rw[show i=0 by omega]
 | n + 1, hn => by
   by_cases he:i=n+1
   · rw[he]
   · have:=vE_ l h n (by omega)
     show (if (sumG l n).2≠0 then sumG l n else _)=_
     rw[this,if_pos h]
theorem BQ_ {a b:Int}(h:(addE a b).2≠0):addE a b=(0,(addE a b).2):=by
 unfold addE at *
 split at h
 · rw[if_pos (by assumption)]
 · exact absurd rfl h
theorem rE_ (l:List Int) (c:Bool) (hb:l.length≤1000000):PC Tryz.prog 143 [.sl 1 c (nums .u64 l)] (.tup [.int .u64 (sumE l).1,.int .i64 (sumE l).2]):=by
 refine PC.fact 8 wT_ (by simp) puA puA ?_
 unfold oM_;refine bd ?_
 try refine aa_ ?_
 refine au_ (fun i:Nat=>[(5,.int .i64 i),(4,.int .u64 (sumG l i).1)]) (fun _=>[]) (fun i=>l.length-i) (fun i=>i≤l.length∧(sumG l i).2=0) 0 ⟨Nat.zero_le _,rfl⟩ ?_ ?_
 · refine GC.mk' [] [] (by simp) rfl (by simp) (by simp) evd evd
 rintro i ⟨hi,he⟩
 by_cases h1:i<l.length
 · have e1:decide ((i:Int)<(l.length:Int))=true:=decide_eq_true (by omega)
   have hgd:=gdn (k:=.u64) h1
   have hw:=af_ h1 (by omega)
   have c1:=Dj_ (sumG l i).1 (l.getD i 0)
   have hs:sumG l (i+1)=addE (sumG l i).1 (l.getD i 0):=by show (if (sumG l i).2≠0 then sumG l i else _)=_;rw[if_neg (by simp[he])]
   rw[← hs]at c1
   repeat(first | refine aa_ ?_ | simp only[go_sem,e1])
   refine ac_ ?_
   repeat(first | refine aa_ ?_ | simp only[go_sem,hgd,Nat.mul_one])
   refine pcall c1 ?_
   try refine aa_ ?_
   refine aD_ (fun h=>?_) (fun h=>?_)
   · have h':(sumG l (i+1)).2≠0:=by simpa using h
     have hE:sumE l=sumG l (i+1):=vE_ l h' _ h1
     rw[hE]
     have h2:=BQ_ (by rw[← hs];exact h')
     rw[← hs]at h2
     try refine aa_ ?_
     generalize sumG l (i+1)=q at *
     obtain⟨q1,q2⟩:=q
     cases h2
     exact fin0
   · have h':(sumG l (i+1)).2=0:=by simpa using h
     repeat(first | refine aa_ ?_ | simp only[go_sem,hw])
     refine⟨i+1,⟨h1,h'⟩,by omega,?_⟩
     refine GC.mk' [] [] (by simp) rfl (by simp) (by simp) evd evd
 · obtain rfl:i=l.length:=by omega
   have e1:decide ((l.length:Int)<(l.length:Int))=false:=decide_eq_false (by omega)
   repeat(first | refine aa_ ?_ | simp only[go_sem,e1])
   refine ab_ ?_
   try refine aa_ ?_
   rw[show sumE l=sumG l l.length from rfl,he]
   exact fin0
theorem qe_ (l:List Rt) (c:Bool) (r:Rt) (hb:l.length≤1000000):PC Tryz.prog 210 [.sl 32 c (rows rtc l),.agg (rtc r)] (.bool (decide (r ∈ l))):=by
 refine PC.fact 6 mI_ (by simp) ⟨(aQ_ fun x _=>bg_ x),bg_ _,trivial⟩ trivial ?_
 unfold gH_;refine bd ?_
 try refine aa_ ?_
 refine au_ (fun i:Nat=>[(5,.int .i64 i)]) (fun _=>[.var (rtc r)]) (fun i=>l.length-i) (fun i=>i≤l.length∧∀ j,j<i→l.getD j rt0≠r) 0 ⟨Nat.zero_le _,fun j hj=>by omega⟩ ?_ ?_
 · refine GC.mk' [] [0] (by simp) rfl (by simp) (by simp) evd evd
 rintro i ⟨hi,hn⟩
 by_cases h1:i<l.length
 · have e1:decide ((i:Int)<(l.length:Int))=true:=decide_eq_true (by omega)
   have hgd:=bl_ (f:=rtc) rt0 h1
   have hw:=af_ h1 (by omega)
   have hm:l.getD i rt0 ∈ l:=by rw[List.getD_eq_getElem?_getD,List.getElem?_eq_getElem h1];exact List.getElem_mem h1
   repeat(first | refine aa_ ?_ | simp only[go_sem,e1])
   refine ac_ ?_
   repeat(first | refine aa_ ?_ | simp only[go_sem,hgd])
   refine aD_ (fun h=>?_) (fun h=>?_)
   · have hr:l.getD i rt0=r:=by simpa using h
     subst hr
     try refine aa_ ?_
     rw[decide_eq_true hm]
     exact fin0
   · have hr:l.getD i rt0≠r:=by simpa using h
     repeat(first | refine aa_ ?_ | simp only[go_sem,hw])
     refine⟨i+1,⟨h1,fun j hj=>?_⟩,by omega,?_⟩
     · by_cases hji:j=i
       · rw[hji];exact hr
       · exact hn j (by omega)
     · refine GC.mk' [] [0] (by simp) rfl (by simp) (by simp) evd evd
 · obtain rfl:i=l.length:=by omega
   have e1:decide ((l.length:Int)<(l.length:Int))=false:=decide_eq_false (by omega)
   have e2:decide (r ∈ l)=false:=by
     refine decide_eq_false fun hr=>?_
     obtain⟨j,hj,rfl⟩:=List.getElem_of_mem hr
     exact hn j hj (by simp[List.getD_eq_getElem?_getD,hj])
   rw[e2]
   repeat(first | refine aa_ ?_ | simp only[go_sem,e1])
   refine ab_ ?_
   try refine aa_ ?_
   exact fin0
theorem qK_ (a b:Rt):PC Tryz.prog 196 [.agg (rtc a),.agg (rtc b)] (.int .i64 (cmpR a b)):=by
 refine PC.fact 6 iz_ (by simp) puA puA ?_
 unfold dW_;refine bd ?_
 try refine aa_ ?_
 refine au_ (fun i:Nat=>[(5,.int .i64 i)]) (fun _=>[.var (rtc a),.var (rtc b)]) (fun i=>32-i) (fun i=>i≤32∧cmpR a b=cmpRG a b (32-i) i) 0 ⟨by omega,rfl⟩ ?_ ?_
 · refine GC.mk' [] [0,1] (by simp) rfl (by simp) (by simp) evd evd
 rintro i ⟨hi,hn⟩
 rw[hn]
 by_cases h1:i<32
 · have e1:decide ((i:Int)<32)=true:=decide_eq_true (by omega)
   have hw:=af_ h1 (by omega)
   have g1:=tG_ a h1
   have g2:=tG_ b h1
   have ga:a.1.getD i 0=a.1[i]'(by rw[a.2];exact h1):=by simp[List.getD_eq_getElem?_getD,a.2,h1]
   have gb:b.1.getD i 0=b.1[i]'(by rw[b.2];exact h1):=by simp[List.getD_eq_getElem?_getD,b.2,h1]
   rw[← ga]at g1
   rw[← gb]at g2
   obtain⟨f,hf⟩:∃ f,32-i=f+1:=⟨31-i,by omega⟩
   have hs:cmpRG a b (32-i) i=if a.1.getD i 0<b.1.getD i 0 then -1 else if b.1.getD i 0<a.1.getD i 0 then 1 else cmpRG a b (32-(i+1)) (i+1):=by
     rw[hf,show 32-(i+1)=f by omega];rfl
   rw[hs]
   generalize a.1.getD i 0=x at *
   generalize b.1.getD i 0=y at *
   have h0:(0:Int)≤i:=by omega
   have hn1:(i:Int)<32:=by omega
   repeat(first | refine aa_ ?_ | simp only[go_sem,e1])
   refine ac_ ?_
   repeat(first | refine aa_ ?_ | simp only[go_sem,g1,g2,Nat.mul_one,Nat.zero_add])
   refine aD_ (fun h=>?_) (fun h=>?_)
   · rw[if_pos (UInt8.lt_iff_toNat_lt.2 (by simpa using h))]
     try refine aa_ ?_
     exact fin0
   · rw[if_neg (fun h'=>by have:=UInt8.lt_iff_toNat_lt.1 h';simp at h;omega)]
     repeat(first | refine aa_ ?_ | simp only[go_sem,g1,g2,Nat.mul_one,Nat.zero_add])
     refine aD_ (fun h=>?_) (fun h=>?_)
     · rename_i h'
       rw[if_pos (UInt8.lt_iff_toNat_lt.2 (by simpa using h))]
       try refine aa_ ?_
       exact fin0
     · rename_i h'
       rw[if_neg (fun h'=>by have:=UInt8.lt_iff_toNat_lt.1 h';simp at h;omega)]
       repeat(first | refine aa_ ?_ | simp only[go_sem,hw])
       refine⟨i+1,⟨h1,rfl⟩,by omega,?_⟩
       refine GC.mk' [] [0,1] (by simp) rfl (by simp) (by simp) evd evd
 · obtain rfl:i=32:=by omega
   rw[Nat.sub_self]
   try refine aa_ ?_
   refine ab_ ?_
   try refine aa_ ?_
   exact fin0
theorem ro_ (a b:Wd):PC Tryz.prog 201 [.agg (wdc a),.agg (wdc b)] (.int .i64 (cmpW a b)):=by
 refine PC.fact 6 nR_ (by simp) puA puA ?_
 unfold hI_;refine bd ?_
 try refine aa_ ?_
 refine au_ (fun i:Nat=>[(5,.int .i64 ((i:Int)-1))]) (fun _=>[.var (wdc a),.var (wdc b)]) (fun i=>i) (fun i=>i≤4∧cmpW a b=cmpWG a b i) 4 ⟨by omega,rfl⟩ ?_ ?_
 · refine GC.mk' [] [0,1] (by simp) rfl (by simp) (by simp) evd evd
 rintro i ⟨hi,hn⟩
 rw[hn]
 cases i with
 | zero =>
   try refine aa_ ?_
   refine ab_ ?_
   try refine aa_ ?_
   exact fin0
 | succ i =>
   have h1:i<4:=by omega
   have e1:((i+1:Nat):Int)-1=(i:Int):=by omega
   have e2:decide ((i:Int) ≥ 0)=true:=decide_eq_true (by omega)
   have e3:decide ((0:Int)≤i)=true:=decide_eq_true (by omega)
   have hw:IntKind.i64.wrap ((i:Int)-1)=(i:Int)-1:=ah_ (by omega) (by omega)
   have g1:=sS_ a h1
   have g2:=sS_ b h1
   have ga:a.1.getD i 0=a.1[i]'(by rw[a.2];exact h1):=by simp[List.getD_eq_getElem?_getD,a.2,h1]
   have gb:b.1.getD i 0=b.1[i]'(by rw[b.2];exact h1):=by simp[List.getD_eq_getElem?_getD,b.2,h1]
   rw[← ga]at g1
   rw[← gb]at g2
   have hs:cmpWG a b (i+1)=if a.1.getD i 0<b.1.getD i 0 then -1 else if b.1.getD i 0<a.1.getD i 0 then 1 else cmpWG a b i:=rfl
   rw[hs]
   generalize a.1.getD i 0=x at *
   generalize b.1.getD i 0=y at *
   have h0:(0:Int)≤i:=by omega
   have hn1:(i:Int)<4:=by omega
   rw[e1]
   repeat(first | refine aa_ ?_ | simp only[go_sem,e1,e2,e3])
   refine ac_ ?_
   repeat(first | refine aa_ ?_ | simp only[go_sem,g1,g2,Nat.mul_one,Nat.zero_add])
   refine aD_ (fun h=>?_) (fun h=>?_)
   · rw[if_pos (by simpa using h)]
     try refine aa_ ?_
     exact fin0
   · rw[if_neg (by simpa using h)]
     repeat(first | refine aa_ ?_ | simp only[go_sem,g1,g2,Nat.mul_one,Nat.zero_add])
     refine aD_ (fun h=>?_) (fun h=>?_)
     · rename_i h'
       rw[if_pos (by simpa using h)]
       try refine aa_ ?_
       exact fin0
     · rename_i h'
       rw[if_neg (by simpa using h)]
       repeat(first | refine aa_ ?_ | simp only[go_sem,hw])
       refine⟨i,⟨by omega,rfl⟩,by omega,?_⟩
       refine GC.mk' [] [0,1] (by simp) rfl (by simp) (by simp) evd evd

theorem lf_ (t:VTab) (n:Int) (hb:t.bals.length≤1000000):PC Tryz.prog 128 [.agg (tabC t.a),.int .i64 n] (.int .i64 (vtabE t n)):=by
 refine PC.fact 7 gU_ (by simp) puA puA ?_
 unfold dG_;refine bd ?_
 have c1:=rE_ t.bals false hb
 unfold vtabE
 generalize sumE t.bals=q at *
 obtain⟨q1,q2⟩:=q
 dsimp only at c1 ⊢
 try refine aa_ ?_
 refine aD_ (fun h=>?_) (fun h=>?_)
 · rw[if_pos (by simpa using h)]
   try refine aa_ ?_
   exact fin0
 · rw [if_neg (by simpa using h)]
   try refine aa_ ?_
   refine pcall c1 ?_
   by_cases h2:q2=0
   · subst h2
     by_cases h3:4611686018427387904<q1
     · have e3:decide (4611686018427387904<q1)=true:=decide_eq_true h3
       rw[if_pos (.inr h3)]
       repeat(first | refine aa_ ?_ | simp only[go_sem,e3])
       refine ac_ ?_
       try refine aa_ ?_
       exact fin0
     · have e3:decide (4611686018427387904<q1)=false:=decide_eq_false h3
       rw[if_neg (by simpa using h3)]
       repeat(first | refine aa_ ?_ | simp only[go_sem,e3])
       refine ab_ ?_
       try refine aa_ ?_
       exact fin0
   · have e2:(q2 != 0)=true:=by simpa using h2
     rw[if_pos (.inl h2)]
     repeat(first | refine aa_ ?_ | simp only[go_sem,e2])
     refine ac_ ?_
     try refine aa_ ?_
     exact fin0
theorem nz_ (t:VTab) (hb:t.bals.length≤1000000):PC Tryz.prog 130 [.agg (tabC t.a)] (.agg (tabC t.a)):=by
 refine PC.fact 3 kR_ (by simp) puA puA ?_
 unfold fT_;refine bd ?_
 obtain⟨cp,bals⟩:=t
 dsimp only at hb
 have b1:(bals.length:Int)*8≤140737488355328:=by omega
 have b2:bals.length≤9223372036854775807:=by omega
 unfold VTab.a
 repeat(first | refine aa_ ?_ | simp only[go_sem,b1,b2])
 exact fin0
theorem Am_ (a b:Cp):PC Tryz.prog 203 [.agg (cpC a),.agg (cpC b)] (.int .i64 (cmpC a b)):=by
 refine PC.fact 5 eX_ (by simp) puA puA ?_
 unfold cv_;refine bd ?_
 have c1:=qK_ a.rt b.rt
 unfold cmpC
 try refine aa_ ?_
 refine aD_ (fun h=>?_) (fun h=>?_)
 · rw[if_pos (by simpa using h)]
   try refine aa_ ?_
   refine aD_ (fun h=>?_) (fun h=>?_)
   · rename_i h'
     rw[if_pos (by simpa using h)]
     try refine aa_ ?_
     exact fin0
   · rename_i h'
     rw[if_neg (by simpa using h)]
     try refine aa_ ?_
     exact fin0
 · rw[if_neg (by simpa using h)]
   try refine aa_ ?_
   refine pcall c1 ?_
   try refine aa_ ?_
   exact fin0
theorem gj_ (l:List VTab) (c:Cp) (hb:l.length≤1000000):PC Tryz.prog 182 [.sl 34 false (rows VTab.c l),.agg (cpC c)] (.int .i64 (findTab l c)):=by
 refine PC.fact 6 lg_ (by simp) puA puA ?_
 unfold fS_;refine bd ?_
 try refine aa_ ?_
 refine au_ (fun i:Nat=>[(5,.int .i64 i)]) (fun _=>[.var (cpC c)]) (fun i=>l.length-i) (fun i=>i≤l.length∧findTab l c=idx1 (fstG (fun i=>decide ((tab l i).cp=c)) (l.length-i) i)) 0 ⟨Nat.zero_le _,rfl⟩ ?_ ?_
 · refine GC.mk' [] [0] (by simp) rfl (by simp) (by simp) evd evd
 rintro i ⟨hi,hn⟩
 rw[hn]
 by_cases h1:i<l.length
 · have e1:decide ((i:Int)<(l.length:Int))=true:=decide_eq_true (by omega)
   have hgd:(rows VTab.c l).getD i []=tabC (tab l i).a:=bl_ (f:=VTab.c) default h1
   have hw:=af_ h1 (by omega)
   repeat(first | refine aa_ ?_ | simp only[go_sem,e1])
   refine ac_ ?_
   repeat(first | refine aa_ ?_ | simp only[go_sem,hgd])
   refine aD_ (fun h=>?_) (fun h=>?_)
   · rw[hw_ h1 h]
     try refine aa_ ?_
     exact fin0
   · rw[hm_ h1 h]
     repeat(first | refine aa_ ?_ | simp only[go_sem,hw])
     refine⟨i+1,⟨h1,rfl⟩,by omega,?_⟩
     refine GC.mk' [] [0] (by simp) rfl (by simp) (by simp) evd evd
 · obtain rfl:i=l.length:=by omega
   have e1:decide ((l.length:Int)<(l.length:Int))=false:=decide_eq_false (by omega)
   rw[hc_]
   repeat(first | refine aa_ ?_ | simp only[go_sem,e1])
   refine ab_ ?_
   try refine aa_ ?_
   exact fin0
theorem qw_ (l:List VTab) (e:Int) (hb:l.length≤1000000):PC Tryz.prog 169 [.sl 34 false (rows VTab.c l),.int .u64 e] (.sl 34 false (rows VTab.c (dropTabs l e))):=by
 refine PC.fact 7 kw_ (by simp) puA puA ?_
 unfold ft_;refine bd ?_
 try refine aa_ ?_
 refine cF_ 5 34 ?_;simp only[go_sem]
 have hl:∀ n,(upto (fun i o=>if e≤(tab l i).cp.ep then o++[tab l i]else o) [] n).length≤0+n:=dM_ (fun i l=>by split<;>simp)
 refine au_ (fun i:Nat=>[(6,.int .i64 i),(5,.hs 34 0 0 (upto (fun i o=>if e≤(tab l i).cp.ep then o++[tab l i]else o) [] i).length)]) (fun i=>[.vec 34 (rows VTab.c (upto (fun i o=>if e≤(tab l i).cp.ep then o++[tab l i]else o) [] i))]) (fun i=>l.length-i) (fun i=>i≤l.length) 0 (Nat.zero_le _) ?_ ?_
 · refine GC.mk' [] [0] (by simp) rfl (by simp) (by simp) evd evd
 intro i hi
 by_cases h1:i<l.length
 · have e1:decide ((i:Int)<(l.length:Int))=true:=decide_eq_true (by omega)
   have hgd:(rows VTab.c l).getD i []=tabC (tab l i).a:=bl_ (f:=VTab.c) default h1
   have hw:=af_ h1 (by omega)
   have hs:=aX_ (fun i o=>if e≤(tab l i).cp.ep then o++[tab l i]else o) [] i
   have hli:=hl i
   generalize upto (fun i o=>if e≤(tab l i).cp.ep then o++[tab l i]else o) [] i=acc at *
   have hr:rows VTab.c acc++[tabC (tab l i).a]=rows VTab.c (acc++[tab l i]):=bn_ VTab.c acc (tab l i)
   repeat(first | refine aa_ ?_ | simp only[go_sem,e1])
   refine ac_ ?_
   repeat(first | refine aa_ ?_ | simp only[go_sem,hgd])
   refine aD_ (fun h=>?_) (fun h=>?_)
   · rw[if_pos (by simpa using h)]at hs
     repeat(first | refine aa_ ?_ | simp only[go_sem,hgd,hr,hw])
     refine⟨i+1,h1,by omega,?_⟩
     rw[hs]
     refine GC.mk' [] [1] (by simp) rfl (by simp) (by simp) evd evd
   · rw[if_neg (by simpa using h)]at hs
     repeat(first | refine aa_ ?_ | simp only[go_sem,hw])
     refine⟨i+1,h1,by omega,?_⟩
     rw[hs]
     refine GC.mk' [] [0] (by simp) rfl (by simp) (by simp) evd evd
 · obtain rfl:i=l.length:=by omega
   have e1:decide ((l.length:Int)<(l.length:Int))=false:=decide_eq_false (by omega)
   repeat(first | refine aa_ ?_ | simp only[go_sem,e1])
   refine ab_ ?_
   try refine aa_ ?_
   exact fin0
theorem rb_ (l:List VTab) (c:Cp):∀ f i,placeG l c f i≤i+f
 | 0,i=>Nat.le_refl _
 | f+1,i=>by unfold placeG;have:=rb_ l c f (i+1);split<;>omega
theorem wm_ (l:List VTab) (t:VTab) (i:Nat) (hi:i≤l.length) (hb:l.length≤1000000) (ht:t.bals.length≤1000000):Tri Tryz.prog 35 0 (aY_.tl 3) (PQ [.tmp 4] (.sl 34 false (rows VTab.c (l.take i++[t]++l.drop i)))) ⟨6,[.sl 34 false (rows VTab.c l),.agg (tabC t.a),.dead,.ptr 0 0,.sl 0 true [],.int .i64 i],[]⟩ [.var (tabC t.a)]:=by
 unfold aY_;refine bd ?_
 simp only[ACode.tl]
 have cp:=nz_ t ht
 have r1:rows VTab.c (l.take i)++[tabC t.a]=rows VTab.c (l.take i++[t]):=bn_ VTab.c _ t
 have r2:=oz_ VTab.c (l.take i++[t]) (l.drop i)
 have hm:min i l.length=i:=by omega
 repeat(first | refine aa_ ?_ | simp only[go_sem,ie_,if_,List.length_take,List.length_drop,hm])
 refine dpcall (cp) ?_
 have ht2:(l.drop i).take (l.length-i)=l.drop i:=List.take_of_length_le (by simp)
 repeat(first | refine aa_ ?_ | simp only[go_sem,r1,r2,ie_,if_,List.length_take,List.length_drop,hm,ht2])
 refine⟨_,(by first | rfl | exact evd),.inl ?_⟩;(try simp only[go_sem,Nat.reduceAdd,Nat.reduceSub,Nat.reduceMul,Nat.reduceLT,Nat.reduceLeDiff,Nat.reduceEqDiff,reduceIte,Int.reduceToNat,Int.reduceLT,Int.reduceLE,Int.reduceEq,Int.reduceNeg,reduceCtorEq,Int.reduceBEq,Int.reduceBNe])
 rw[if_pos (by simp;omega),List.take_of_length_le (by simp;omega)]
theorem vG_ (l:List VTab) (t:VTab) (hb:l.length≤1000000) (ht:t.bals.length≤1000000):PC Tryz.prog 183 [.sl 34 false (rows VTab.c l),.agg (tabC t.a)] (.sl 34 false (rows VTab.c (addTab l t))):=by
 have hK:placeG l t.cp l.length 0≤l.length:=by have:=rb_ l t.cp l.length 0;omega
 have tl:=fun i hi=>wm_ l t i hi hb ht
 unfold addTab
 dsimp only
 refine PC.fact 6 mP_ (by simp) puA puA ?_
 have hc:aY_=.seq aY_.hd (.seq (aY_.tl 1).hd (.seq (aY_.tl 2).hd (aY_.tl 3))):=rfl
 rw[hc];clear hc
 generalize aY_.tl 3=cT at *
 unfold aY_;refine bd ?_
 simp only[ACode.tl,ACode.hd]
 try refine aa_ ?_
 refine au_ (fun i:Nat=>[(5,.int .i64 i)]) (fun _=>[.var (tabC t.a)]) (fun i=>l.length-i) (fun i=>i≤l.length∧placeG l t.cp l.length 0=placeG l t.cp (l.length-i) i) 0 ⟨Nat.zero_le _,rfl⟩ ?_ ?_
 · refine GC.mk' [] [0] (by simp) rfl (by simp) (by simp) evd evd
 rintro i ⟨hi,hn⟩
 rw[hn]at hK ⊢
 (try simp only[as_,av_,List.set_cons_zero,List.set_cons_succ])
 by_cases h1:i<l.length
 · have e1:decide ((i:Int)<((l.length:Nat):Int))=true:=decide_eq_true (by omega)
   have hw:=af_ h1 (by omega)
   have hgd:(rows VTab.c l).getD i []=tabC (tab l i).a:=bl_ (f:=VTab.c) default h1
   have c1:=Am_ (tab l i).cp t.cp
   obtain⟨f,hf⟩:∃ f,l.length-i=f+1:=⟨l.length-i-1,by omega⟩
   have hs:placeG l t.cp (l.length-i) i=if cmpC (tab l i).cp t.cp<0 then placeG l t.cp (l.length-(i+1)) (i+1)else i:=by rw[hf,show l.length-(i+1)=f by omega];rfl
   repeat(first | refine aa_ ?_ | simp only[go_sem,e1,hgd])
   refine dpcall (c1) ?_
   try refine aa_ ?_
   refine aD_ (fun h=>?_) (fun h=>?_)
   · rw[if_pos (by simpa using h)]at hs
     rw[hs]
     repeat(first | refine aa_ ?_ | simp only[go_sem,hw])
     refine⟨i+1,⟨h1,rfl⟩,by omega,?_⟩
     refine GC.mk' [] [0] (by simp) rfl (by simp) (by simp) evd evd
   · rw[if_neg (by simpa using h)]at hs
     rw[hs]
     try refine aa_ ?_
     refine ck_ ?_ (tl i hi)
     refine GC.mk' [] [0] (by simp) rfl (by simp) (by simp) evd evd
 · obtain rfl:i=l.length:=by omega
   have e1:decide (((l.length:Nat):Int)<((l.length:Nat):Int))=false:=decide_eq_false (by omega)
   rw[Nat.sub_self]at *
   repeat(first | refine aa_ ?_ | simp only[go_sem,e1])
   refine ab_ ?_
   try refine aa_ ?_
   refine ck_ ?_ (tl l.length hi)
   refine GC.mk' [] [0] (by simp) rfl (by simp) (by simp) evd evd
theorem ue_ (l:List VTab) (t:VTab) (n limit:Int) (hb:l.length≤1000000) (ht:t.bals.length≤1000000):PC Tryz.prog 160 [.sl 34 false (rows VTab.c l),.agg (tabC t.a),.int .i64 n,.int .i64 limit] (.tup [.sl 34 false (rows VTab.c (regTab l t n limit).1),.int .i64 (regTab l t n limit).2]):=by
 refine PC.fact 11 my_ (by simp) puA puA ?_
 unfold gF_;refine bd ?_
 have c1:=lf_ t n ht
 have c2:=gj_ l t.cp hb
 have c3:=vG_ l t hb ht
 unfold regTab
 generalize vtabE t n=E at *
 generalize findTab l t.cp=F at *
 generalize addTab l t=A at *
 try refine aa_ ?_
 refine pcall c1 ?_
 try refine aa_ ?_
 refine aD_ (fun h=>?_) (fun h=>?_)
 · rw[if_pos (by simpa using h)]
   try refine aa_ ?_
   exact fin0
 · rw [if_neg (by simpa using h)]
   try refine aa_ ?_
   refine pcall c2 ?_
   try refine aa_ ?_
   refine aD_ (fun h=>?_) (fun h=>?_)
   · rename_i h'
     rw[if_pos (by simpa using h)]
     try refine aa_ ?_
     exact fin0
   · rename_i h'
     rw[if_neg (by simpa using h)]
     try refine aa_ ?_
     refine aD_ (fun h=>?_) (fun h=>?_)
     · rw[if_pos (by simpa using h)]
       try refine aa_ ?_
       exact fin0
     · rw[if_neg (by simpa using h)]
       try refine aa_ ?_
       refine pcall c3 ?_
       try refine aa_ ?_
       exact fin0
theorem AE_ (ep:Int) (root:Rt) (l:List Int) (i:Nat) (p:List Vot × Int):(castS ep root l i p).1.length=p.1.length:=by unfold castS;split<;>simp
theorem kk_ (ep:Int) (root:Rt) (l:List Int) (v:List Vot):∀ i,(upto (castS ep root l) (v,0) i).1.length=v.length
 | 0=>rfl
 | i+1=>by rw[aX_,AE_,kk_ ep root l v i]
theorem rQ_ (v:List Vot) (ep:Int) (root:Rt) (l:List Int) (hv:v.length≤1000000) (hl:l.length≤1000000) (hj:∀ j ∈ l,0≤j∧j<v.length):PC Tryz.prog 173 [.sl 34 false (rows votC v),.int .u64 ep,.agg (rtc root),.sl 1 false (nums .i64 l)] (.tup [.sl 34 false (rows votC (castT v ep root l).1),.int .i64 (castT v ep root l).2]):=by
 refine PC.fact 14 uj_ (by simp) puA puA ?_
 unfold lI_;refine bd ?_
 try refine aa_ ?_
 unfold castT
 refine au_ (fun i:Nat=>[(12,.int .i64 i),(11,.int .i64 (upto (castS ep root l) (v,0) i).2)]) (fun i=>[.var (rtc root),.vec 34 (rows votC (upto (castS ep root l) (v,0) i).1)]) (fun i=>l.length-i) (fun i=>i≤l.length) 0 (Nat.zero_le _) ?_ ?_
 · refine GC.mk' [] [0,1] (by simp) rfl (by simp) (by simp) evd evd
 intro i hi
 (try simp only[as_,av_,List.set_cons_zero,List.set_cons_succ])
 by_cases h1:i<l.length
 · have e1:decide ((i:Int)<((l.length:Nat):Int))=true:=decide_eq_true (by omega)
   have hw:=af_ h1 (by omega)
   have hgd:=gdn (k:=.i64) h1
   have hm:l.getD i 0 ∈ l:=by rw[List.getD_eq_getElem?_getD,List.getElem?_eq_getElem h1];exact List.getElem_mem h1
   obtain⟨j0,j1⟩:=hj _ hm
   have hs:=aX_ (castS ep root l) (v,0) i
   have hlen:=kk_ ep root l v i
   generalize upto (castS ep root l) (v,0) i=p at *
   obtain⟨u,n⟩:=p
   dsimp only at hlen
   have h3:(l.getD i 0).toNat<u.length:=by omega
   have hgu:(rows votC u).getD (l.getD i 0).toNat []=votC (vot u (l.getD i 0).toNat):=bl_ (f:=votC) vot0 h3
   have hc:castS ep root l i (u,n)=if (vot u (l.getD i 0).toNat).has=false∨(vot u (l.getD i 0).toNat).ep<ep then (u.set (l.getD i 0).toNat ⟨true,ep,root⟩,IntKind.i64.wrap (n+1))else (u,n):=rfl
   generalize hx:vot u (l.getD i 0).toNat=x at *
   generalize l.getD i 0=j at *
   have hset:=nC_ votC u j.toNat ⟨true,ep,root⟩
   dsimp only
   repeat(first | refine aa_ ?_ | simp only[go_sem,e1,hgd,Nat.mul_one])
   refine ac_ ?_
   obtain⟨xh,xe,xr⟩:=x
   dsimp only at hc
   cases xh with
   | false =>
     rw[if_pos (.inl rfl)]at hc
     repeat(first | refine aa_ ?_ | simp only[go_sem,hgd,Nat.mul_one,hgu])
     refine ac_ ?_
     repeat(first | refine aa_ ?_ | simp only[go_sem,hgd,Nat.mul_one,hgu,hset,hw])
     refine⟨i+1,h1,by omega,?_⟩
     rw[hs,hc]
     refine GC.mk' [] [0,1] (by simp) rfl (by simp) (by simp) evd evd
   | true =>
     by_cases hx2:xe<ep
     · have e2:decide (xe<ep)=true:=decide_eq_true hx2
       rw[if_pos (.inr hx2)]at hc
       repeat(first | refine aa_ ?_ | simp only[go_sem,hgd,Nat.mul_one,hgu,e2])
       refine ac_ ?_
       repeat(first | refine aa_ ?_ | simp only[go_sem,hgd,Nat.mul_one,hgu,hset,hw])
       refine⟨i+1,h1,by omega,?_⟩
       rw[hs,hc]
       refine GC.mk' [] [0,1] (by simp) rfl (by simp) (by simp) evd evd
     · have e2:decide (xe<ep)=false:=decide_eq_false hx2
       rw[if_neg (by simp[hx2])]at hc
       repeat(first | refine aa_ ?_ | simp only[go_sem,hgd,Nat.mul_one,hgu,e2])
       refine ab_ ?_
       repeat(first | refine aa_ ?_ | simp only[go_sem,hw])
       refine⟨i+1,h1,by omega,?_⟩
       rw[hs,hc]
       refine GC.mk' [] [0,1] (by simp) rfl (by simp) (by simp) evd evd
 · obtain rfl:i=l.length:=by omega
   have e1:decide (((l.length:Nat):Int)<((l.length:Nat):Int))=false:=decide_eq_false (by omega)
   have hlen:=kk_ ep root l v l.length
   repeat(first | refine aa_ ?_ | simp only[go_sem,e1])
   refine ab_ ?_
   try refine aa_ ?_
   refine⟨_,(by first | rfl | exact evd),.inl ?_⟩;(try simp only[go_sem,Nat.reduceAdd,Nat.reduceSub,Nat.reduceMul,Nat.reduceLT,Nat.reduceLeDiff,Nat.reduceEqDiff,reduceIte,Int.reduceToNat,Int.reduceLT,Int.reduceLE,Int.reduceEq,Int.reduceNeg,reduceCtorEq,Int.reduceBEq,Int.reduceBNe])
   rw[hlen,if_pos (Nat.le_refl _),List.take_of_length_le (by simp[hlen])]

def punS (l:List Int) (i:Nat) (o:List Int):List Int:=insL o (l.getD i 0)
def punT (set l:List Int):List Int:=upto (punS l) set l.length
theorem sH_ (set l:List Int):∀ i,(upto (punS l) set i).length≤set.length+i
 | 0=>Nat.le_refl _
 | i+1=>by rw[aX_];have:=tZ_ (upto (punS l) set i) (l.getD i 0);have:=sH_ set l i;unfold punS at *;omega
theorem uQ_ (set l:List Int) (hb:set.length+l.length≤1000000):PC Tryz.prog 158 [.sl 1 false (nums .i64 set),.sl 1 false (nums .i64 l)] (.tup [.sl 1 false (nums .i64 (punT set l)),.int .i64 (IntKind.i64.wrap ((punT set l).length-set.length))]):=by
 refine PC.fact 8 pB_ (by simp) puA puA ?_
 unfold iU_;refine bd ?_
 unfold punT
 try refine aa_ ?_
 refine au_ (fun i:Nat=>[(7,.int .i64 i),(6,.sl 1 false (nums .i64 (upto (punS l) set i)))]) (fun i=>[]) (fun i=>l.length-i) (fun i=>i≤l.length) 0 (Nat.zero_le _) ?_ ?_
 · refine GC.mk' [0] [] (by simp) rfl (by simp) (by simp) evd evd
 intro i hi
 (try simp only[as_,av_,List.set_cons_zero,List.set_cons_succ])
 by_cases h1:i<l.length
 · have e1:decide ((i:Int)<((l.length:Nat):Int))=true:=decide_eq_true (by omega)
   have hw:=af_ h1 (by omega)
   have hgd:=gdn (k:=.i64) h1
   have hs:=aX_ (punS l) set i
   have hlen:=sH_ set l i
   have c1:=vI_ (upto (punS l) set i) (l.getD i 0) (by omega)
   unfold punS at hs
   rw[show insL (upto (punS l) set i) (l.getD i 0)=upto (punS l) set (i+1)from rfl]at c1
   repeat(first | refine aa_ ?_ | simp only[go_sem,e1])
   refine ac_ ?_
   repeat(first | refine aa_ ?_ | simp only[go_sem,hgd,Nat.mul_one])
   refine pcall c1 ?_
   repeat(first | refine aa_ ?_ | simp only[go_sem,hw])
   refine⟨i+1,h1,by omega,?_⟩
   refine GC.mk' [] [] (by simp) rfl (by simp) (by simp) evd evd
 · obtain rfl:i=l.length:=by omega
   have e1:decide (((l.length:Nat):Int)<((l.length:Nat):Int))=false:=decide_eq_false (by omega)
   repeat(first | refine aa_ ?_ | simp only[go_sem,e1])
   refine ab_ ?_
   try refine aa_ ?_
   exact fin0
def wS (latest:List Vot) (eqv bals:List Int) (roots:List Rt) (i:Nat) (n:Int):Int:=if (vot latest i).has=true∧(i:Int) ∉ eqv∧(vot latest i).root ∈ roots then IntKind.u64.wrap (n+bals.getD i 0)else n
theorem um_ (latest:List Vot) (eqv bals:List Int) (roots:List Rt) (h1:latest.length≤1000000) (h2:eqv.length≤1000000) (h3:bals.length≤1000000) (h4:roots.length≤1000000):PC Tryz.prog 206 [.agg [.sl 34 false (rows votC latest),.sl 1 false (nums .i64 eqv)],.sl 1 false (nums .u64 bals),.sl 32 true (rows rtc roots)] (.int .u64 (weightT latest eqv bals roots)):=by
 refine PC.fact 9 qE_ (by simp) puA puA ?_
 unfold iY_;refine bd ?_
 show Tri _ _ _ _ (PQ _ (.int .u64 (upto (wS latest eqv bals roots) 0 (min bals.length latest.length)))) _ _
 try refine aa_ ?_
 refine au_ (fun i:Nat=>[(8,.int .i64 i),(7,.int .u64 (upto (wS latest eqv bals roots) 0 i))]) (fun i=>[.var [.sl 34 false (rows votC latest),.sl 1 false (nums .i64 eqv)]]) (fun i=>bals.length-i) (fun i=>i≤min bals.length latest.length) 0 (Nat.zero_le _) ?_ ?_
 · refine GC.mk' [] [0] (by simp) rfl (by simp) (by simp) evd evd
 intro i hi
 (try simp only[as_,av_,List.set_cons_zero,List.set_cons_succ])
 by_cases q1:i<bals.length
 · have e1 : decide ((i : Int) < ((bals.length : Nat) : Int)) = true := decide_eq_true (by omega)
   by_cases q2:i<latest.length
   · have e2:decide ((i:Int)<((latest.length:Nat):Int))=true:=decide_eq_true (by omega)
     have hw:=af_ q1 (by omega)
     have hs:=aX_ (wS latest eqv bals roots) 0 i
     have hgl:=bl_ (f:=votC) vot0 q2
     have hgb:=gdn (k:=.u64) q1
     have c1:=nM_ eqv false (i:Int) (by omega)
     have c2:=qe_ roots true (vot latest i).root h4
     generalize upto (wS latest eqv bals roots) 0 i=n at *
     have hc:wS latest eqv bals roots i n=if (vot latest i).has=true∧(i:Int) ∉ eqv∧(vot latest i).root ∈ roots then IntKind.u64.wrap (n+bals.getD i 0)else n:=rfl
     generalize bals.getD i 0=b at *
     change (rows votC latest).getD i []=votC (vot latest i)at hgl
     generalize vot latest i=x at *
     obtain⟨xh,xe,xr⟩:=x
     dsimp only at hc c2
     repeat(first | refine aa_ ?_ | simp only[go_sem,e1,e2])
     refine ac_ ?_
     cases xh with
     | false =>
       rw[if_neg (by simp)]at hc
       repeat(first | refine aa_ ?_ | simp only[go_sem,hgl])
       refine ab_ ?_
       repeat(first | refine aa_ ?_ | simp only[go_sem,hw])
       refine⟨i+1,by omega,by omega,?_⟩
       rw[hs,hc]
       refine GC.mk' [] [0] (by simp) rfl (by simp) (by simp) evd evd
     | true =>
       repeat(first | refine aa_ ?_ | simp only[go_sem,hgl])
       refine pcall c1 ?_
       by_cases q3:(i:Int) ∈ eqv
       · rw[if_neg (by simp[q3])]at hc
         rw[decide_eq_true q3]
         repeat(first | refine aa_ ?_ | simp only[go_sem,hgl])
         refine ab_ ?_
         repeat(first | refine aa_ ?_ | simp only[go_sem,hw])
         refine⟨i+1,by omega,by omega,?_⟩
         rw[hs,hc]
         refine GC.mk' [] [0] (by simp) rfl (by simp) (by simp) evd evd
       · rw[decide_eq_false q3]
         repeat(first | refine aa_ ?_ | simp only[go_sem,hgl])
         refine pcall c2 ?_
         by_cases q4:xr ∈ roots
         · rw[if_pos ⟨rfl,q3,q4⟩]at hc
           rw[decide_eq_true q4]
           repeat(first | refine aa_ ?_ | simp only[go_sem,hgb,Nat.mul_one])
           refine ac_ ?_
           repeat(first | refine aa_ ?_ | simp only[go_sem,hw,hgb,Nat.mul_one])
           refine⟨i+1,by omega,by omega,?_⟩
           rw[hs,hc]
           refine GC.mk' [] [0] (by simp) rfl (by simp) (by simp) evd evd
         · rw[if_neg (by simp[q4])]at hc
           rw[decide_eq_false q4]
           repeat(first | refine aa_ ?_ | simp only[go_sem,hgb,Nat.mul_one])
           refine ab_ ?_
           repeat(first | refine aa_ ?_ | simp only[go_sem,hw])
           refine⟨i+1,by omega,by omega,?_⟩
           rw[hs,hc]
           refine GC.mk' [] [0] (by simp) rfl (by simp) (by simp) evd evd
   · have e2:decide ((i:Int)<((latest.length:Nat):Int))=false:=decide_eq_false (by omega)
     obtain rfl:i=min bals.length latest.length:=by omega
     repeat(first | refine aa_ ?_ | simp only[go_sem,e1,e2])
     refine ab_ ?_
     try refine aa_ ?_
     exact fin0
 · have e1:decide ((i:Int)<((bals.length:Nat):Int))=false:=decide_eq_false (by omega)
   obtain rfl:i=min bals.length latest.length:=by omega
   repeat(first | refine aa_ ?_ | simp only[go_sem,e1])
   refine ab_ ?_
   try refine aa_ ?_
   exact fin0
end Go.Proofs.YtipiipgpnkpejaaGreat
