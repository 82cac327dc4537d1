/-
 My texts Qd, Qe, joined.
-/
import Derived.Test.YtkgimpdgncakjaaT1
import Derived.Test.YtkgimpdgncakjaaW5
import Derived.Test.YtkgimpdgncakjaaV7
namespace Go.Proofs.Ytkgimpdgncakjaa
open Go Go.FH Go.RowKit
set_option linter.unusedVariables false
set_option linter.unusedSimpArgs false
set_option maxRecDepth 8000
set_option maxHeartbeats 4000000
theorem xY_(l z:List as_)(dd:as_)(fn:FuncId)(c:dF_)(p:Nat→Bool)(hl:l.length≤1000000)(hc:∀i,i<l.length→ao_ Try.prog fn [.agg (as_.c (l.getD i dd)),.ptr 0 0] [.var c.cs] (.bool (p i)) [.var c.cs]):ao_ Try.prog 80 [.hs 34 1 0 l.length,.fn (.func fn) [.ptr 0 0]] [.var c.cs,.vec 34 (rows as_.c (l++z))] (.int .i64 (mk_ (cb_ p l.length))) [.var c.cs,.vec 34 (rows as_.c (l++z))]:=by
 refine ao_.fact 9 bJ_ (by simp) ?_ (by simp);unfold ba_;refine bd ?_;have hN:cb_ p l.length=gI_ p (l.length-0) 0:=rfl;try refine aa_ ?_
 refine aE_ (fun i:Nat=>[(8,.int .i64 i)]) (fun _=>[.var c.cs,.vec 34 (rows as_.c (l++z))]) (fun i=>l.length-i) (fun i=>i≤l.length∧cb_ p l.length=gI_ p (l.length-i) i) 0 ⟨Nat.zero_le _,hN⟩ ?_ ?_
 ·exact GH_ [] [0,1]
 clear hN;rintro i ⟨hi,hn⟩;rw[hn];refine eP_ ?_;by_cases h1:i<l.length
 ·have e1:=inT h1
  have hw:=ai_ h1 (by omega);have hxi:i<(l++z).length:=by simp;omega
  have hgd:(rows as_.c (l++z)).getD i []=as_.c (l.getD i dd):=by rw[aR_ (f:=as_.c) dd hxi,List.getD_eq_getElem?_getD,List.getElem?_append_left h1,←List.getD_eq_getElem?_getD]
  generalize l++z=u at *;have c1:=hc i h1;repeat(first|refine aa_ ?_|simp only[go_sem,e1])
  refine ab_ ?_;repeat(first|refine aa_ ?_|simp only[go_sem,hgd,hxi])
  refine bC_ [0] (c1) evd (bf_.mk' (by simp) evd) ?_;refine evg ?_;cases h:p i with
  | true =>
    rw[nr_ h1 h];try refine aa_ ?_
    refine EB_ ?_
    exact Gt_ [] [0,1]
  | false =>
    rw[nq_ h1 h];try refine aa_ ?_
    refine ac_ ?_;repeat(first|refine aa_ ?_|simp only[go_sem,hw])
    refine⟨i+1,⟨h1,rfl⟩,by omega,?_⟩;exact GH_ [] [0,1]
 ·obtain rfl:i=l.length:=by omega
  have e1:=inF (l.length);rw[np_];repeat(first|refine aa_ ?_|simp only[go_sem,e1])
  refine EA_ ?_
  exact Gt_ [] [0,1]
theorem xW_(l z:List Blk)(dd:Blk)(fn:FuncId)(c:dF_)(p:Nat→Bool)(hl:l.length≤1000000)(hc:∀i,i<l.length→ao_ Try.prog fn [.agg (aw_ (l.getD i dd)),.ptr 0 0] [.var c.cs] (.bool (p i)) [.var c.cs]):ao_ Try.prog 84 [.hs 238 1 0 l.length,.fn (.func fn) [.ptr 0 0]] [.var c.cs,.vec 238 (rows aw_ (l++z))] (.int .i64 (mk_ (cb_ p l.length))) [.var c.cs,.vec 238 (rows aw_ (l++z))]:=by
 refine ao_.fact 9 cY_ (by simp) ?_ (by simp);unfold bG_;refine bd ?_;have hN:cb_ p l.length=gI_ p (l.length-0) 0:=rfl;try refine aa_ ?_
 refine aE_ (fun i:Nat=>[(8,.int .i64 i)]) (fun _=>[.var c.cs,.vec 238 (rows aw_ (l++z))]) (fun i=>l.length-i) (fun i=>i≤l.length∧cb_ p l.length=gI_ p (l.length-i) i) 0 ⟨Nat.zero_le _,hN⟩ ?_ ?_
 ·exact GH_ [] [0,1]
 clear hN;rintro i ⟨hi,hn⟩;rw[hn];refine eP_ ?_;by_cases h1:i<l.length
 ·have e1:=inT h1
  have hw:=ai_ h1 (by omega);have hxi:i<(l++z).length:=by simp;omega
  have hgd:(rows aw_ (l++z)).getD i []=aw_ (l.getD i dd):=by rw[aR_ (f:=aw_) dd hxi,List.getD_eq_getElem?_getD,List.getElem?_append_left h1,←List.getD_eq_getElem?_getD]
  generalize l++z=u at *;have c1:=hc i h1;repeat(first|refine aa_ ?_|simp only[go_sem,e1])
  refine ab_ ?_;repeat(first|refine aa_ ?_|simp only[go_sem,hgd,hxi])
  refine bC_ [0] (c1) evd (bf_.mk' (by simp) evd) ?_;refine evg ?_;cases h:p i with
  | true =>
    rw[nr_ h1 h];try refine aa_ ?_
    refine EB_ ?_
    exact Gt_ [] [0,1]
  | false =>
    rw[nq_ h1 h];try refine aa_ ?_
    refine ac_ ?_;repeat(first|refine aa_ ?_|simp only[go_sem,hw])
    refine⟨i+1,⟨h1,rfl⟩,by omega,?_⟩;exact GH_ [] [0,1]
 ·obtain rfl:i=l.length:=by omega
  have e1:=inF (l.length);rw[np_];repeat(first|refine aa_ ?_|simp only[go_sem,e1])
  refine EA_ ?_
  exact Gt_ [] [0,1]
theorem tR_(t:List Nod)(ht:cd_ t)(i0:Int)(hb:t.length≤1000000)(h0:isN t i0=true):
 PC Try.prog 54 [.agg [.sl 240 false (rows av_ t)],.int .i64 i0] (.tup [.agg [.sl 240 false (rows av_ (ef_ t i0).1)],.sl 1 false (au_ .i64 (ef_ t i0).2),.int .i64 0]):=by
 refine PC.fact 24 md_ (by simp) puA puA ?_;unfold hn_;refine bd ?_;unfold ef_;obtain⟨g0,g1⟩:=he_.1 h0;have q0:decide (i0<0)=false:=decide_eq_false (by omega);have q1:decide (i0 ≥ ((t.length:Nat):Int))=false:=decide_eq_false (by omega);repeat(first|refine aa_ ?_|simp only[go_sem,q0,q1])
 refine EA_ ?_
 refine oz_ 1 0 240 ?_;simp only[go_sem];refine gn_ 5 1 ?_;simp only[go_sem];refine aE_ (fun i:Nat=>[(23,.int .i64 i),(5,.hs 1 3 0 (bd_ (bt_ t i0) ([],[]) i).2.length)]) (fun i=>[.var [.sl 240 false (rows av_ t)],.var [.hs 240 2 0 (bd_ (bt_ t i0) ([],[]) i).1.length],.vec 240 (rows av_ (bd_ (bt_ t i0) ([],[]) i).1),.vec 1 (au_ .i64 (bd_ (bt_ t i0) ([],[]) i).2)]) (fun i=>t.length-i) (fun i=>i≤t.length) 0 (Nat.zero_le _) ?_ ?_
 ·exact GH_ [] [0,1,2,3]
 clear q0 q1;intro i hi;refine eP_ ?_;by_cases h1:i<t.length
 ·have e1:=inT h1
  have hw:=ai_ h1 (by omega);have hgd:(rows av_ t).getD i []=av_ (nod t i):=aR_ (f:=av_) fX_ h1;have hs:=dq_ (bt_ t i0) ([],[]) i;obtain⟨hl2,hl1⟩:=iL_ t i0 i;obtain⟨hu1,hu2⟩:=EC_ ht i0 h1
  have hup:(nod t i).up<i:=by
   rcases Nat.eq_zero_or_pos i with h|h
   ·subst h;have:=ht.root;omega
   ·exact(ht.ok i h h1).2
  generalize bd_ (bt_ t i0) ([],[]) i=p at *;obtain⟨kp,ix⟩:=p;dsimp only at hl1 hl2 hu1 hu2;have hc:bt_ t i0 i (kp,ix)=if dg_ t i0 i=true then (kp++[⟨(nod t i).blk,if (i:Int)=i0 then -1 else ix.getD (nod t i).up.toNat 0,(nod t i).status⟩],ix++[(kp.length:Int)])else (kp,ix++[-1]):=rfl
  have hr:∀w:Int,au_ .i64 ix++[[AV.int .i64 w]]=au_ .i64 (ix++[w]):=fun w=>tI_ .i64 ix [w]
  have hrn:=lw_ av_ kp;dsimp only;repeat(first|refine aa_ ?_|simp only[go_sem,e1])
  refine ab_ ?_;repeat(first|refine aa_ ?_|simp only[go_sem,hgd])
  by_cases hk:(i:Int)=i0
  ·have e2:((i:Int) != i0)=false:=by simpa using hk
   rw[decide_eq_true (Or.inl hk)]at hu1;rw[if_pos hu1,if_pos hk]at hc;repeat(first|refine aa_ ?_|simp only[go_sem,e2])
   refine ac_ ?_;repeat(first|refine aa_ ?_|simp only[go_sem,e2])
   refine ac_ ?_;repeat(first|refine aa_ ?_|simp only[go_sem,hr,hw,hrn])
   refine⟨i+1,h1,by omega,?_⟩;rw[hs,hc];exact GH_ [] [0,1,6,5]
  have e2:((i:Int) != i0)=true:=by simpa using hk
  rw[if_neg hk]at hc;by_cases hn:0≤(nod t i).up
  ·have e3:decide ((nod t i).up ≥ 0)=true:=decide_eq_true hn
   have hP:upP t i0 i ix=ix.getD (nod t i).up.toNat 0:=by unfold upP;rw[if_pos ⟨hk,hn⟩]
   rw[hP]at hu1;have hgi:=gdn (k:=.i64) (ns:=ix) (i:=(nod t i).up.toNat) (by omega);repeat(first|refine aa_ ?_|simp only[go_sem,e2,e3])
   refine ab_ ?_;repeat(first|refine aa_ ?_|simp only[go_sem,hgi,Nat.mul_one])
   generalize ix.getD (nod t i).up.toNat 0=q at *;by_cases hq:q<0
   ·have e4:decide (q<0)=true:=decide_eq_true hq;rw[if_neg (by rw[hu1];simp;omega)]at hc;repeat(first|refine aa_ ?_|simp only[go_sem,e2,e4])
    refine ab_ ?_;repeat(first|refine aa_ ?_|simp only[go_sem,hr,hw])
    refine⟨i+1,h1,by omega,?_⟩;rw[hs,hc];exact GH_ [] [0,1,2,5]
   ·have e4:decide (q<0)=false:=decide_eq_false hq;rw[if_pos (by rw[hu1];simp;omega)]at hc;repeat(first|refine aa_ ?_|simp only[go_sem,e2,e4])
    refine ac_ ?_;repeat(first|refine aa_ ?_|simp only[go_sem,hr,hw,hrn])
    refine⟨i+1,h1,by omega,?_⟩;rw[hs,hc];exact GH_ [] [0,1,6,5]
  ·have e3:decide ((nod t i).up ≥ 0)=false:=decide_eq_false hn;have hP:upP t i0 i ix=-1:=by unfold upP;rw[if_neg (fun h=>hn h.2)]
   rw[hP]at hu1;rw[if_neg (by rw[hu1];simp[hk])]at hc;repeat(first|refine aa_ ?_|simp only[go_sem,e2,e3])
   refine ac_ ?_;repeat(first|refine aa_ ?_|simp only[go_sem,e2])
   refine ab_ ?_;repeat(first|refine aa_ ?_|simp only[go_sem,hr,hw])
   refine⟨i+1,h1,by omega,?_⟩;rw[hs,hc];exact GH_ [] [0,1,2,5]
 ·obtain rfl:i=t.length:=by omega
  have e1:=inF (t.length);obtain⟨hl2,hl1⟩:=iL_ t i0 t.length;repeat(first|refine aa_ ?_|simp only[go_sem,e1])
  refine EA_ ?_
  exact am_
def pj_{α:Type}(p:Nat→Bool)(l:List α)(d:α)(i:Nat)(o:List α):List α:=if p i=true then o else o++[l.getD i d]
def cL_{α:Type}(p:Nat→Bool)(l:List α)(d:α)(k:Nat):List α:=bd_ (pj_ p l d) [] k
theorem kY_{α:Type}(p:Nat→Bool)(l:List α)(d:α)(k:Nat):cL_ p l d (k+1)=pj_ p l d k (cL_ p l d k):=rfl
theorem nd_{α:Type}(p:Nat→Bool)(l:List α)(d:α):∀k,(cL_ p l d k).length≤k
 |0=>Nat.le_refl _
 | k + 1 => by
   have:=nd_ p l d k;rw[kY_];unfold pj_;split<;>simp<;>omega
theorem hT_{α:Type}{p:Nat→Bool}{l:List α}(d:α):∀ {k},k≤l.length→(∀i,i<k→p i=false)→cL_ p l d k=l.take k
 |0,_,_=>by simp[cL_,bd_]
 | k + 1, hk, h => by
   rw[kY_,hT_ d (by omega) fun i hi=>h i (by omega)];unfold pj_;rw[if_neg (by simp[h k (by omega)]),List.take_add_one,List.getD_eq_getElem?_getD,List.getElem?_eq_getElem (show k<l.length by omega)];rfl
theorem qX_{x:List AV}(h:PuL x):∀n:Nat,cy_ (List.replicate n x)
 |0=>trivial
 |n+1=>⟨h,qX_ h n⟩
structure jc_ where
 xs:List (List AV)
 pu:cy_ xs
theorem jc_.ren(c:jc_)(ρ:Nat→Nat):bi_ ρ c.xs=c.xs:=cy_.ren ρ c.pu
theorem jc_.fz(c:jc_)(σ:St)(zs:List Nat):dx_ σ zs c.xs=c.xs:=cy_.fz σ zs c.pu
theorem qB_(ρ:Nat→Nat):∀ (a b:List (List AV)),bi_ ρ (a++b)=bi_ ρ a++bi_ ρ b
 | [],_=>rfl
 |x::a,b=>by simp only[List.cons_append,bi_,qB_ ρ a b]
theorem tl_(σ:St)(zs:List Nat):∀ (a b:List (List AV)),dx_ σ zs (a++b)=dx_ σ zs a++dx_ σ zs b
 | [],_=>rfl
 |x::a,b=>by simp only[List.cons_append,dx_,tl_ σ zs a b]
attribute [go_sem] jc_.ren jc_.fz qB_ tl_
theorem wh_{α:Type}(f:α→List AV)(l:List α)(z:List (List AV)):List.take l.length (rows f l++z)=rows f l:=by
 rw[List.take_append_of_le_length (by simp)];exact List.take_of_length_le (by simp)
attribute [go_sem] wh_
theorem wv_{α:Type}(o l:List α)(d:α){i:Nat}(h1:o.length≤i)(h2:i<l.length):(o++l.drop o.length).getD i d=l.getD i d:=by
 rw[List.getD_eq_getElem?_getD,List.getD_eq_getElem?_getD,List.getElem?_append_right h1,List.getElem?_drop];congr 2;omega
theorem ww_{α:Type}(f:α→List AV)(hf:∀a b,(f a).length=(f b).length)(o l:List α)(x d:α)(h2:o.length<l.length):(rows f (o++l.drop o.length)).set o.length (spl ((rows f (o++l.drop o.length)).getD o.length []) 0 (f x))=rows f (o++[x]++l.drop (o.length+1)):=by
 rw[aR_ (f:=f) d (by simp;omega),ug_ (hf _ _)]
 have:(o++l.drop o.length).set o.length x=o++[x]++l.drop (o.length+1):=by
  rw[List.set_append_right _ _ (Nat.le_refl _),Nat.sub_self,List.drop_eq_getElem_cons h2,List.set_cons_zero,List.append_assoc];rfl
 rw[←this];unfold rows;rw[List.map_set]
theorem wu_{α:Type}(f:α→List AV)(o l:List α)(z:List AV)(h2:o.length≤l.length):(rows f (o++l.drop o.length)).take o.length++List.replicate (l.length-o.length) z++(rows f (o++l.drop o.length)).drop (o.length+(l.length-o.length))=rows f o++List.replicate (l.length-o.length) z:=by
 have e:rows f (o++l.drop o.length)=rows f o++rows f (l.drop o.length):=by unfold rows;exact List.map_append
 rw[e,List.take_append_of_le_length (by simp),List.take_of_length_le (by simp),List.drop_of_length_le (by simp;try omega),List.append_nil]
theorem xI_(l:List as_)(dd:as_)(fn:FuncId)(c:dF_)(p:Nat→Bool)(hl:l.length≤1000000)(hc:∀i,i<l.length→ao_ Try.prog fn [.agg (as_.c (l.getD i dd)),.ptr 0 0] [.var c.cs] (.bool (p i)) [.var c.cs]):
 ∃ (z:jc_) (kz:Nat),z.xs=List.replicate kz (bj_ wg_:List AV)∧ao_ Try.prog 52 [.hs 34 1 0 l.length,.fn (.func fn) [.ptr 0 0]] [.var c.cs,.vec 34 (rows as_.c l)] (.hs 34 1 0 (cL_ p l dd l.length).length) [.var c.cs,.vec 34 (rows as_.c (cL_ p l dd l.length)++z.xs)]:=by
 have c1:=xY_ l [] dd fn c p hl hc;rw[List.append_nil]at c1;cases hf:cb_ p l.length with
 | none =>
   refine⟨⟨[],trivial⟩,0,rfl,?_⟩;have hd:cL_ p l dd l.length=l:=by rw[hT_ dd (Nat.le_refl _) (fun k hk=>lg_ hf k hk),List.take_length]
   rw[hd,List.append_nil];rw[hf]at c1;refine ao_.fact 8 bB_ (by simp) ?_ (by simp);unfold aZ_;refine bd ?_;try refine aa_ ?_
   refine bC_ [0,1] (c1) evd (bf_.mk' (by simp) evd) ?_;refine evg ?_;try refine aa_ ?_
   refine EB_ ?_
   exact Gt_ [] [0,1]
 | some j =>
   obtain⟨hj,_,hb⟩:=dj_ hf;have hp:=(dj_ hf).2.1;rw[hf]at c1;have hd:cL_ p l dd (j+1)=l.take j:=by rw[kY_,hT_ dd (by omega) hb];unfold pj_;rw[if_pos hp]
   have hln:=nd_ p l dd l.length;obtain⟨z,hz⟩:∃z:jc_,∀w,w=(bj_ wg_:List AV)→List.replicate (l.length-(cL_ p l dd l.length).length) w=z.xs:=⟨⟨List.replicate (l.length-(cL_ p l dd l.length).length) (bj_ wg_:List AV),qX_ (by first|exact cR_ _|exact(dR_ _).2 trivial|simp[PuL,Pu]) _⟩,fun w h=>by rw[h]⟩
   refine⟨z,_,(hz _ rfl).symm,?_⟩;refine ao_.fact 8 bB_ (by simp) ?_ (by simp);unfold aZ_;refine bd ?_;have e0:((j:Int)==-1)=false:=by simp;try omega
   have hw0:IntKind.i64.wrap ((j:Int)+1)=((j+1:Nat):Int):=ai_ hj (by omega);try refine aa_ ?_
   refine bC_ [0,1] (c1) evd (bf_.mk' (by simp) evd) ?_;refine evg ?_;repeat(first|refine aa_ ?_|simp only[go_sem,e0])
   refine ac_ ?_;repeat(first|refine aa_ ?_|simp only[go_sem,hw0])
   refine aE_ (fun i:Nat=>[(6,.int .i64 i),(5,.int .i64 (cL_ p l dd i).length)]) (fun i=>[.var c.cs,.vec 34 (rows as_.c (cL_ p l dd i++l.drop (cL_ p l dd i).length))]) (fun i=>l.length-i) (fun i=>i≤l.length∧(cL_ p l dd i).length<i) (j+1) ⟨hj,by rw[hd];simp;try omega⟩ ?_ ?_
   ·rw[hd];have q1:(l.take j).length=j:=by simp;try omega
    have q2:l.take j++l.drop j=l:=List.take_append_drop j l;rw[q1,q2];exact GH_ [] [0,1]
   clear hd hp hb e0 hw0;rintro i ⟨hi,hi2⟩;refine eP_ ?_;by_cases h1:i<l.length
   ·have e1:=inT h1
    have hw:=ai_ h1 (by omega);have hs:=kY_ p l dd i;unfold pj_ at hs;generalize cL_ p l dd i=o at *;have hxl:i<(o++l.drop o.length).length:=by simp;try omega
    have hxk:o.length<(o++l.drop o.length).length:=by simp;try omega
    have hgd:(rows as_.c (o++l.drop o.length)).getD i []=as_.c (l.getD i dd):=by rw[aR_ (f:=as_.c) dd hxl,wv_ o l dd (by omega) h1]
    have hset:(rows as_.c (o++l.drop o.length)).set o.length (spl ((rows as_.c (o++l.drop o.length)).getD o.length []) 0 (bj_ (l.getD i dd).a))=rows as_.c (o++[l.getD i dd]++l.drop (o.length+1)):=ww_ as_.c (by intro a b;simp[as_.c]) o l (l.getD i dd) dd (by omega);have hwk:IntKind.i64.wrap ((o.length:Int)+1)=((o.length+1:Nat):Int):=ai_ (show o.length<l.length by omega) (by omega);have hkd:decide ((o.length:Int)<((l.length:Nat):Int))=true:=decide_eq_true (by omega);have c2:=hc i h1;generalize hu:o++l.drop o.length=u at *;generalize l.getD i dd=x at *;repeat(first|refine aa_ ?_|simp only[go_sem,e1])
    refine ab_ ?_;repeat(first|refine aa_ ?_|simp only[go_sem,hgd,hxl])
    refine bC_ [0] (c2) evd (bf_.mk' (by simp) evd) ?_;refine evg ?_;cases h:p i with
    | true =>
      rw[if_pos h]at hs;try refine aa_ ?_
      refine ac_ ?_;repeat(first|refine aa_ ?_|simp only[go_sem,hw])
      refine⟨i+1,⟨h1,by rw[hs];omega⟩,by omega,?_⟩;rw[hs,hu];exact GH_ [] [0,1]
    | false =>
      rw[if_neg (by simp[h])]at hs;try refine aa_ ?_
      refine ab_ ?_;repeat(first|refine aa_ ?_|simp only[go_sem,hw,hwk,hset,hxk,hkd])
      refine⟨i+1,⟨h1,by rw[hs];simp;try omega⟩,by omega,?_⟩;rw[hs];exact GH_ [] [0,1]
   ·obtain rfl:i=l.length:=by omega
    have e1:=inF (l.length);generalize cL_ p l dd l.length=o at *;have hcl:∀z,_=_:=fun z=>wu_ as_.c o l z hln
    have hdl:(l.drop o.length).length=l.length-o.length:=List.length_drop;repeat(first|refine aa_ ?_|simp only[go_sem,e1])
    refine ac_ ?_;repeat(first|refine aa_ ?_|simp only[go_sem,hdl,Nat.le_refl])
    rw[hcl,hz];rotate_left
    ·rfl
    repeat(first|refine aa_ ?_|simp only[go_sem,hcl,hdl,Nat.le_refl])
    exact Gt_ [] [0,1]
theorem xH_(l:List Blk)(dd:Blk)(fn:FuncId)(c:dF_)(p:Nat→Bool)(hl:l.length≤1000000)(hc:∀i,i<l.length→ao_ Try.prog fn [.agg (aw_ (l.getD i dd)),.ptr 0 0] [.var c.cs] (.bool (p i)) [.var c.cs]):
 ∃ (z:jc_) (kz:Nat),z.xs=List.replicate kz (aw_ eW_:List AV)∧ao_ Try.prog 57 [.hs 238 1 0 l.length,.fn (.func fn) [.ptr 0 0]] [.var c.cs,.vec 238 (rows aw_ l)] (.hs 238 1 0 (cL_ p l dd l.length).length) [.var c.cs,.vec 238 (rows aw_ (cL_ p l dd l.length)++z.xs)]:=by
 have c1:=xW_ l [] dd fn c p hl hc;rw[List.append_nil]at c1;cases hf:cb_ p l.length with
 | none =>
   refine⟨⟨[],trivial⟩,0,rfl,?_⟩;have hd:cL_ p l dd l.length=l:=by rw[hT_ dd (Nat.le_refl _) (fun k hk=>lg_ hf k hk),List.take_length]
   rw[hd,List.append_nil];rw[hf]at c1;refine ao_.fact 8 bA_ (by simp) ?_ (by simp);unfold aY_;refine bd ?_;try refine aa_ ?_
   refine bC_ [0,1] (c1) evd (bf_.mk' (by simp) evd) ?_;refine evg ?_;try refine aa_ ?_
   refine EB_ ?_
   exact Gt_ [] [0,1]
 | some j =>
   obtain⟨hj,_,hb⟩:=dj_ hf;have hp:=(dj_ hf).2.1;rw[hf]at c1;have hd:cL_ p l dd (j+1)=l.take j:=by rw[kY_,hT_ dd (by omega) hb];unfold pj_;rw[if_pos hp]
   have hln:=nd_ p l dd l.length;obtain⟨z,hz⟩:∃z:jc_,∀w,w=(aw_ eW_:List AV)→List.replicate (l.length-(cL_ p l dd l.length).length) w=z.xs:=⟨⟨List.replicate (l.length-(cL_ p l dd l.length).length) (aw_ eW_:List AV),qX_ (by first|exact cR_ _|exact(dR_ _).2 trivial|simp[PuL,Pu]) _⟩,fun w h=>by rw[h]⟩
   refine⟨z,_,(hz _ rfl).symm,?_⟩;refine ao_.fact 8 bA_ (by simp) ?_ (by simp);unfold aY_;refine bd ?_;have e0:((j:Int)==-1)=false:=by simp;try omega
   have hw0:IntKind.i64.wrap ((j:Int)+1)=((j+1:Nat):Int):=ai_ hj (by omega);try refine aa_ ?_
   refine bC_ [0,1] (c1) evd (bf_.mk' (by simp) evd) ?_;refine evg ?_;repeat(first|refine aa_ ?_|simp only[go_sem,e0])
   refine ac_ ?_;repeat(first|refine aa_ ?_|simp only[go_sem,hw0])
   refine aE_ (fun i:Nat=>[(6,.int .i64 i),(5,.int .i64 (cL_ p l dd i).length)]) (fun i=>[.var c.cs,.vec 238 (rows aw_ (cL_ p l dd i++l.drop (cL_ p l dd i).length))]) (fun i=>l.length-i) (fun i=>i≤l.length∧(cL_ p l dd i).length<i) (j+1) ⟨hj,by rw[hd];simp;try omega⟩ ?_ ?_
   ·rw[hd];have q1:(l.take j).length=j:=by simp;try omega
    have q2:l.take j++l.drop j=l:=List.take_append_drop j l;rw[q1,q2];exact GH_ [] [0,1]
   clear hd hp hb e0 hw0;rintro i ⟨hi,hi2⟩;refine eP_ ?_;by_cases h1:i<l.length
   ·have e1:=inT h1
    have hw:=ai_ h1 (by omega);have hs:=kY_ p l dd i;unfold pj_ at hs;generalize cL_ p l dd i=o at *;have hxl:i<(o++l.drop o.length).length:=by simp;try omega
    have hxk:o.length<(o++l.drop o.length).length:=by simp;try omega
    have hgd:(rows aw_ (o++l.drop o.length)).getD i []=aw_ (l.getD i dd):=by rw[aR_ (f:=aw_) dd hxl,wv_ o l dd (by omega) h1]
    have hset:(rows aw_ (o++l.drop o.length)).set o.length (spl ((rows aw_ (o++l.drop o.length)).getD o.length []) 0 (aw_ (l.getD i dd)))=rows aw_ (o++[l.getD i dd]++l.drop (o.length+1)):=ww_ aw_ (by intro a b;simp[aw_]) o l (l.getD i dd) dd (by omega);have hwk:IntKind.i64.wrap ((o.length:Int)+1)=((o.length+1:Nat):Int):=ai_ (show o.length<l.length by omega) (by omega);have hkd:decide ((o.length:Int)<((l.length:Nat):Int))=true:=decide_eq_true (by omega);have c2:=hc i h1;generalize hu:o++l.drop o.length=u at *;generalize l.getD i dd=x at *;repeat(first|refine aa_ ?_|simp only[go_sem,e1])
    refine ab_ ?_;repeat(first|refine aa_ ?_|simp only[go_sem,hgd,hxl])
    refine bC_ [0] (c2) evd (bf_.mk' (by simp) evd) ?_;refine evg ?_;cases h:p i with
    | true =>
      rw[if_pos h]at hs;try refine aa_ ?_
      refine ac_ ?_;repeat(first|refine aa_ ?_|simp only[go_sem,hw])
      refine⟨i+1,⟨h1,by rw[hs];omega⟩,by omega,?_⟩;rw[hs,hu];exact GH_ [] [0,1]
    | false =>
      rw[if_neg (by simp[h])]at hs;try refine aa_ ?_
      refine ab_ ?_;repeat(first|refine aa_ ?_|simp only[go_sem,hw,hwk,hset,hxk,hkd])
      refine⟨i+1,⟨h1,by rw[hs];simp;try omega⟩,by omega,?_⟩;rw[hs];exact GH_ [] [0,1]
   ·obtain rfl:i=l.length:=by omega
    have e1:=inF (l.length);generalize cL_ p l dd l.length=o at *;have hcl:∀z,_=_:=fun z=>wu_ aw_ o l z hln
    have hdl:(l.drop o.length).length=l.length-o.length:=List.length_drop;repeat(first|refine aa_ ?_|simp only[go_sem,e1])
    refine ac_ ?_;repeat(first|refine aa_ ?_|simp only[go_sem,hdl,Nat.le_refl])
    rw[hcl,hz];rotate_left
    ·rfl
    repeat(first|refine aa_ ?_|simp only[go_sem,hcl,hdl,Nat.le_refl])
    exact Gt_ [] [0,1]
theorem vH_(s:ag_)(hb:s.nodes.length≤1000000):PC Try.prog 28 [.agg (ak_ s.a)] (.agg (cc_ (fd_ s))):=by
 refine PC.fact 12 hy_ (by simp) puA puA ?_;unfold ej_;refine bd ?_;show Tri _ _ _ _ (PQ _ (.agg (cc_ (nU_ s.nodes s.nodes.length).1))) _ _
 have hz:nU_ s.nodes 0=(tU_,false):=rfl;try refine aa_ ?_
 refine aE_ (fun i:Nat=>[(4,.bool (nU_ s.nodes i).2),(11,.int .i64 i)]) (fun i=>[.var (ak_ s.a),.var (cc_ tU_),.var (cc_ (nU_ s.nodes i).1)]) (fun i=>s.nodes.length-i) (fun i=>i≤s.nodes.length) 0 (Nat.zero_le _) ?_ ?_
 ·rw[hz];exact GH_ [] [0,1,2]
 intro i hi;refine eP_ ?_;by_cases h1:i<s.nodes.length
 ·have e1 := inT h1
  have hw:=ai_ h1 (by omega);have hgd:=Eh_ h1;have hs:=Cy_ s.nodes i;generalize nU_ s.nodes i=p at *;obtain⟨⟨pj,pf⟩,sm⟩:=p;have hc:qA_ s.nodes i (⟨pj,pf⟩,sm)=if (nod s.nodes i).status=2 then (⟨pj,pf⟩,sm)else (⟨if sm=false∨pj.ep<(nod s.nodes i).blk.pul.j.ep then (nod s.nodes i).blk.pul.j else pj,if sm=false∨pf.ep<(nod s.nodes i).blk.pul.f.ep then (nod s.nodes i).blk.pul.f else pf⟩,true):=rfl
  by_cases h2:(nod s.nodes i).status=2
  ·have e2:((nod s.nodes i).status==2)=true:=by simp[h2]
   rw[if_pos h2]at hc;repeat(first|refine aa_ ?_|simp only[go_sem,e1])
   refine ab_ ?_;repeat(first|refine aa_ ?_|simp only[go_sem,hgd,e2])
   refine ab_ ?_;repeat(first|refine aa_ ?_|simp only[go_sem,hw])
   refine⟨i+1,h1,by omega,?_⟩;rw[hs,hc];exact GH_ [] [0,1,2]
  ·have e2:((nod s.nodes i).status==2)=false:=by simp[h2]
   rw[if_neg h2]at hc;repeat(first|refine aa_ ?_|simp only[go_sem,e1])
   refine ab_ ?_;repeat(first|refine aa_ ?_|simp only[go_sem,hgd,e2])
   refine ac_ ?_;cases sm with
   | false =>
     rw[if_pos (.inl rfl),if_pos (.inl rfl)]at hc;try refine aa_ ?_
     refine EB_ ?_
     refine ab_ ?_;repeat(first|refine aa_ ?_|simp only[go_sem,hw])
     refine⟨i+1,h1,by omega,?_⟩;rw[hs,hc];exact GH_ [] [0,1,2]
   | true =>
     by_cases q1:pj.ep<(nod s.nodes i).blk.pul.j.ep
     ·have k1:decide ((nod s.nodes i).blk.pul.j.ep > pj.ep)=true:=decide_eq_true q1
      have k1':decide (pj.ep<(nod s.nodes i).blk.pul.j.ep)=true:=decide_eq_true q1;rw[if_pos (.inr q1)]at hc;by_cases q2:pf.ep<(nod s.nodes i).blk.pul.f.ep
      ·have k2:decide ((nod s.nodes i).blk.pul.f.ep > pf.ep)=true:=decide_eq_true q2;have k2':decide (pf.ep<(nod s.nodes i).blk.pul.f.ep)=true:=decide_eq_true q2;rw[if_pos (.inr q2)]at hc;repeat(first|refine aa_ ?_|simp only[go_sem,k1,k1'])
       refine ab_ ?_;repeat(first|refine aa_ ?_|simp only[go_sem,k2,k2'])
       refine ab_ ?_;repeat(first|refine aa_ ?_|simp only[go_sem,hw])
       refine⟨i+1,h1,by omega,?_⟩;rw[hs,hc];exact GH_ [] [0,1,2]
      ·have k2:decide ((nod s.nodes i).blk.pul.f.ep > pf.ep)=false:=decide_eq_false q2;have k2':decide (pf.ep<(nod s.nodes i).blk.pul.f.ep)=false:=decide_eq_false q2;rw[if_neg (by simp[q2])]at hc;repeat(first|refine aa_ ?_|simp only[go_sem,k1,k1'])
       refine ab_ ?_;repeat(first|refine aa_ ?_|simp only[go_sem,k2,k2'])
       refine ac_ ?_;repeat(first|refine aa_ ?_|simp only[go_sem,hw])
       refine⟨i+1,h1,by omega,?_⟩;rw[hs,hc];exact GH_ [] [0,1,2]
     ·have k1:decide ((nod s.nodes i).blk.pul.j.ep > pj.ep)=false:=decide_eq_false q1
      have k1':decide (pj.ep<(nod s.nodes i).blk.pul.j.ep)=false:=decide_eq_false q1;rw[if_neg (by simp[q1])]at hc;by_cases q2:pf.ep<(nod s.nodes i).blk.pul.f.ep
      ·have k2:decide ((nod s.nodes i).blk.pul.f.ep > pf.ep)=true:=decide_eq_true q2;have k2':decide (pf.ep<(nod s.nodes i).blk.pul.f.ep)=true:=decide_eq_true q2;rw[if_pos (.inr q2)]at hc;repeat(first|refine aa_ ?_|simp only[go_sem,k1,k1'])
       refine ac_ ?_;repeat(first|refine aa_ ?_|simp only[go_sem,k2,k2'])
       refine ab_ ?_;repeat(first|refine aa_ ?_|simp only[go_sem,hw])
       refine⟨i+1,h1,by omega,?_⟩;rw[hs,hc];exact GH_ [] [0,1,2]
      ·have k2:decide ((nod s.nodes i).blk.pul.f.ep > pf.ep)=false:=decide_eq_false q2;have k2':decide (pf.ep<(nod s.nodes i).blk.pul.f.ep)=false:=decide_eq_false q2;rw[if_neg (by simp[q2])]at hc;repeat(first|refine aa_ ?_|simp only[go_sem,k1,k1'])
       refine ac_ ?_;repeat(first|refine aa_ ?_|simp only[go_sem,k2,k2'])
       refine ac_ ?_;repeat(first|refine aa_ ?_|simp only[go_sem,hw])
       refine⟨i+1,h1,by omega,?_⟩;rw[hs,hc];exact GH_ [] [0,1,2]
 ·obtain rfl:i=s.nodes.length:=by omega
  have e1:=inF (s.nodes.length);repeat(first|refine aa_ ?_|simp only[go_sem,e1])
  refine EA_ ?_
  exact am_
def gh_(s:ag_)(c:Cp):Int×Bool:=if al_ s.nodes c.rt<0∨(nod s.nodes (al_ s.nodes c.rt).toNat).status=2 then (-1,false)
 else (al_ s.nodes c.rt,decide ((bL_ c.ep s.cfg.spe).2=0)&&decide ((nod s.nodes (al_ s.nodes c.rt).toNat).blk.slot≤(bL_ c.ep s.cfg.spe).1))
theorem nV_(s:ag_)(c:Cp)(hb:s.nodes.length≤1000000)(hc:U64 c.ep):PC Try.prog 76 [.agg (ak_ s.a),.agg (cpC c)] (.tup [.int .i64 (gh_ s c).1,.bool (gh_ s c).2]):=by
 refine PC.fact 9 jL_ (by simp) puA puA ?_;unfold fB_;refine bd ?_;have c1:=dJ_ s.nodes c.rt hb;have b1:=ic_ s.nodes c.rt;have c2:=eU_ (e:=c.ep) (p:=s.cfg.spe) hc.1 hc.2;unfold gh_;generalize al_ s.nodes c.rt=I at *;generalize bL_ c.ep s.cfg.spe=S at *;obtain⟨S1,S2⟩:=S;dsimp only at c2 ⊢;try refine aa_ ?_
 refine aA_ c1 ?_;by_cases q1:I<0
 ·have e1:decide (I<0)=true:=decide_eq_true q1;rw[if_pos (.inl q1)];repeat(first|refine aa_ ?_|simp only[go_sem,e1])
  refine EB_ ?_
  exact am_
 have e1:decide (I<0)=false:=decide_eq_false q1;have hg1:(rows av_ s.nodes).getD I.toNat []=av_ (nod s.nodes I.toNat):=aR_ (f:=av_) fX_ (by omega);by_cases q3:(nod s.nodes I.toNat).status=2
 ·have e3:((nod s.nodes I.toNat).status==2)=true:=by simp[q3]
  rw[if_pos (.inr q3)];repeat(first|refine aa_ ?_|simp only[go_sem,e1,hg1,e3])
  refine EB_ ?_
  exact am_
 have e3:((nod s.nodes I.toNat).status==2)=false:=by simp[q3]
 rw[if_neg (fun h=>h.elim q1 q3)];repeat(first|refine aa_ ?_|simp only[go_sem,e1,hg1,e3])
 refine EA_ ?_
 refine aA_ c2 ?_;by_cases q4:S2=0
 ·have e4:(S2==0)=true:=by simp[q4]
  have e5:decide (S2=0)=true:=decide_eq_true q4;rw[e5];repeat(first|refine aa_ ?_|simp only[go_sem,e4,hg1])
  exact am_
 ·have e4:(S2==0)=false:=by simp[q4]
  have e5:decide (S2=0)=false:=decide_eq_false q4;rw[e5];repeat(first|refine aa_ ?_|simp only[go_sem,e4,hg1])
  exact am_
theorem uL_(x:as_)(c:Cp):ao_ Try.prog 78 [.agg (as_.c x),.ptr 0 0] [.var (cpC c)] (.bool (decide (x.cp=c))) [.var (cpC c)]:=by
 refine ao_.fact 4 fW_ (by simp) ?_ (by simp);unfold dl_;refine bd ?_;try refine aa_ ?_
 exact Gt_ [] [0]
def tE_(s:ag_)(a b:Cp):Bool:=(gh_ s b).2&&((gh_ s a).2&&(dg_ s.nodes (gh_ s b).1 (gh_ s a).1&&(decide (b.ep≤a.ep)&&(decide (a.ep≤(cM_ s.now s.cfg.spe).1)&&(cb_ (fun i=>decide ((tab s.tabs i).cp=a)) s.tabs.length).isSome))))
theorem yl_(s:ag_)(h:StR s)(a b j0 f0:Cp)(ha:U64 a.ep)(hb:U64 b.ep)(R:Bool)(hR:R=tE_ s a b):Tri Try.prog 94 0 (az_.tl 4) (PQ [.cell 6 true 33,.cell 7 true 33,.tmp 8] (.tup [.agg (cpC (bif R then a else cp0)),.agg (cpC (bif R then b else cp0)),.bool R])) ⟨16,[.agg (ak_ s.a),.agg (cpC j0),.agg (cpC f0),.ptr 0 0,.ptr 1 0,.ptr 2 0,.ptr 3 0,.ptr 4 0,.bool false,.dead,.dead,.dead,.dead,.dead,.dead,.dead],[]⟩ [.var (ak_ s.a),.var (cpC j0),.var (cpC f0),.var (cpC a),.var (cpC b)]:=by
 unfold az_;refine bd ?_;simp only[ah_.tl];have c1:=nV_ s b h.bn hb;have c2:=nV_ s a h.bn ha;have c3:=zS_ s.tabs false 78 ⟨cpC a,cO_ a⟩ (fun i=>decide ((tab s.tabs i).cp=a)) h.bt (fun i _=>uL_ _ a);have c4:=iD_ s.now s.cfg.spe;have c5:=yk_ s.nodes h.tree h.bn (gh_ s b).1 (gh_ s a).1;unfold tE_ at hR;generalize dg_ s.nodes (gh_ s b).1 (gh_ s a).1=V5 at *;generalize gh_ s a=A at *;generalize gh_ s b=B at *;generalize (cb_ (fun i=>decide ((tab s.tabs i).cp=a)) s.tabs.length).isSome=F at *;generalize cM_ s.now s.cfg.spe=E at *;obtain⟨I,V2⟩:=A;obtain⟨K,V1⟩:=B;obtain⟨E1,E2⟩:=E;dsimp only at c1 c2 c3 c4 c5 hR;try refine aa_ ?_
 refine FZ_ c1 ?_
 refine FZ_ c2 ?_
 refine bC_ [3] (c3) evd (bf_.mk' (by simp) evd) ?_;refine evg ?_;try refine aa_ ?_
 refine aA_ c4 ?_;cases V1 with
 | false =>
   obtain rfl:R=false:=hR;try refine aa_ ?_
   refine EB_ ?_
   exact am_
 | true =>
   cases V2 with
   | false =>
     obtain rfl:R=false:=hR;try refine aa_ ?_
     refine EB_ ?_
     exact am_
   | true =>
     try refine aa_ ?_
     refine aA_ c5 ?_;cases V5 with
     | false =>
       obtain rfl:R=false:=hR;try refine aa_ ?_
       refine EB_ ?_
       exact am_
     | true =>
       by_cases q8:a.ep<b.ep
       ·have e8:decide (b.ep > a.ep)=true:=decide_eq_true q8;have e8':decide (a.ep<b.ep)=true:=decide_eq_true q8;rw[decide_eq_false (show ¬b.ep≤a.ep by omega)]at hR;obtain rfl:R=false:=hR;repeat(first|refine aa_ ?_|simp only[go_sem,e8,e8'])
        refine EB_ ?_
        exact am_
       have e8:decide (b.ep > a.ep)=false:=decide_eq_false q8;have e8':decide (a.ep<b.ep)=false:=decide_eq_false q8;rw[decide_eq_true (show b.ep≤a.ep by omega)]at hR;by_cases q9:E1<a.ep
       ·have e9:decide (a.ep > E1)=true:=decide_eq_true q9;have e9':decide (E1<a.ep)=true:=decide_eq_true q9;rw[decide_eq_false (show ¬a.ep≤E1 by omega)]at hR;obtain rfl:R=false:=hR;repeat(first|refine aa_ ?_|simp only[go_sem,e8,e8',e9,e9'])
        refine EB_ ?_
        exact am_
       have e9:decide (a.ep > E1)=false:=decide_eq_false q9;have e9':decide (E1<a.ep)=false:=decide_eq_false q9;rw[decide_eq_true (show a.ep≤E1 by omega)]at hR;cases F with
       | false =>
         obtain rfl:R=false:=hR;repeat(first|refine aa_ ?_|simp only[go_sem,e8,e8',e9,e9'])
         refine EB_ ?_
         exact am_
       | true =>
         obtain rfl:R=true:=hR;repeat(first|refine aa_ ?_|simp only[go_sem,e8,e8',e9,e9'])
         refine EA_ ?_
         exact am_
theorem vC_(s:ag_)(h:StR s)(j f:Cp)(uj:U64 s.j.ep)(uf:U64 s.f.ep)(hj:U64 j.ep)(hf:U64 f.ep):PC Try.prog 51 [.agg (ak_ s.a),.agg (cpC j),.agg (cpC f)] (.tup [.agg (cpC (bif tE_ s (cA_ s.j j) (cA_ s.f f)then cA_ s.j j else cp0)),.agg (cpC (bif tE_ s (cA_ s.j j) (cA_ s.f f)then cA_ s.f f else cp0)),.bool (tE_ s (cA_ s.j j) (cA_ s.f f))]):=by
 have tl:=yl_ s h (cA_ s.j j) (cA_ s.f f) j f (gr_ uj hj) (gr_ uf hf) _ rfl;refine PC.fact 16 gG_ (by simp) puA puA ?_;have hc:az_=.seq az_.hd (.seq (az_.tl 1).hd (.seq (az_.tl 2).hd (.seq (az_.tl 3).hd (az_.tl 4)))):=rfl;rw[hc];clear hc;generalize az_.tl 4=cT at *;unfold az_;refine bd ?_;simp only[ah_.tl,ah_.hd];have m1:cA_ s.j j=if s.j.ep<j.ep then j else s.j:=rfl
 have m2:cA_ s.f f=if s.f.ep<f.ep then f else s.f:=rfl
 by_cases q1:s.j.ep<j.ep
 ·have e1:decide (j.ep > s.j.ep)=true:=decide_eq_true q1
  have e1':decide (s.j.ep<j.ep)=true:=decide_eq_true q1;rw[if_pos q1]at m1;by_cases q2:s.f.ep<f.ep
  ·have e2:decide (f.ep > s.f.ep)=true:=decide_eq_true q2;have e2':decide (s.f.ep<f.ep)=true:=decide_eq_true q2;rw[if_pos q2]at m2;rw[m1,m2]at tl ⊢;repeat(first|refine aa_ ?_|simp only[go_sem,e1,e1'])
   refine ab_ ?_;repeat(first|refine aa_ ?_|simp only[go_sem,e2,e2'])
   refine EB_ ?_
   refine cC_ ?_ tl;exact GH_ [] [0,1,2,3,4]
  ·have e2:decide (f.ep > s.f.ep)=false:=decide_eq_false q2;have e2':decide (s.f.ep<f.ep)=false:=decide_eq_false q2;rw[if_neg q2]at m2;rw[m1,m2]at tl ⊢;repeat(first|refine aa_ ?_|simp only[go_sem,e1,e1'])
   refine ab_ ?_;repeat(first|refine aa_ ?_|simp only[go_sem,e2,e2'])
   refine EA_ ?_
   refine cC_ ?_ tl;exact GH_ [] [0,1,2,3,4]
 ·have e1:decide (j.ep > s.j.ep)=false:=decide_eq_false q1
  have e1':decide (s.j.ep<j.ep)=false:=decide_eq_false q1;rw[if_neg q1]at m1;by_cases q2:s.f.ep<f.ep
  ·have e2:decide (f.ep > s.f.ep)=true:=decide_eq_true q2;have e2':decide (s.f.ep<f.ep)=true:=decide_eq_true q2;rw[if_pos q2]at m2;rw[m1,m2]at tl ⊢;repeat(first|refine aa_ ?_|simp only[go_sem,e1,e1'])
   refine ac_ ?_;repeat(first|refine aa_ ?_|simp only[go_sem,e2,e2'])
   refine EB_ ?_
   refine cC_ ?_ tl;exact GH_ [] [0,1,2,3,4]
  ·have e2:decide (f.ep > s.f.ep)=false:=decide_eq_false q2;have e2':decide (s.f.ep<f.ep)=false:=decide_eq_false q2;rw[if_neg q2]at m2;rw[m1,m2]at tl ⊢;repeat(first|refine aa_ ?_|simp only[go_sem,e1,e1'])
   refine ac_ ?_;repeat(first|refine aa_ ?_|simp only[go_sem,e2,e2'])
   refine EA_ ?_
   refine cC_ ?_ tl;exact GH_ [] [0,1,2,3,4]
end Go.Proofs.Ytkgimpdgncakjaa
