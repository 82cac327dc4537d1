/-
 My texts Qd, Qe, joined.
-/
import Derived.Test.YtnjdpnfglgcjcaaGreatT1
import Derived.Test.YtnjdpnfglgcjcaaGreatW5
import Derived.Test.YtnjdpnfglgcjcaaGreatV7
set_option linter.unusedVariables false
set_option linter.unusedSimpArgs false
set_option maxRecDepth 8000
set_option maxHeartbeats 4000000
namespace Go.Proofs.YtnjdpnfglgcjcaaGreat
open Go Go.FH Go.RowKit
theorem U3(l z:List aH)(dd:aH)(fn:FuncId)(c:gZ)(p:Nat->Bool)(hl:l.length<=1000000)(hc:∀i,i<l.length->aI Tryz.prog fn [.agg (aH.c (l.getD i dd)),.ptr 0 0] [.var c.cs] (.bool (p i)) [.var c.cs]):aI Tryz.prog 336 [.hs 34 1 0 l.length,.fn (.func fn) [.ptr 0 0]] [.var c.cs,.vec 34 (rows aH.c (l++z))] (.int .i64 (rP (cE p l.length))) [.var c.cs,.vec 34 (rows aH.c (l++z))]:=by
 refine aI.fact 9 eN (by simp) ?_ (by simp);unfold dA;refine bd ?_;have hN:cE p l.length=fw p (l.length-0) 0:=rfl;refine gon ?_;refine ay (fun i:Nat=>[(8,.int .i64 i)]) (fun _=>[.var c.cs,.vec 34 (rows aH.c (l++z))]) (fun i=>l.length-i) (fun i=>i<=l.length/\cE p l.length=fw p (l.length-i) i) 0 ⟨Nat.zero_le _,hN⟩ ?_ ?_
 ·exact adk [] [0,1]
 clear hN;rintro i ⟨hi,hn⟩;rw[hn];refine dM ?_;by_cases h1:i<l.length
 ·have e1:=inT h1
  have hw:=ah h1 (by omega);have hxi:i<(l++z).length:=by simp;omega
  have hgd:(rows aH.c (l++z)).getD i []=aH.c (l.getD i dd):=by rw[aM (f:=aH.c) dd hxi,List.getD_eq_getElem?_getD,List.getElem?_append_left h1,<-List.getD_eq_getElem?_getD]
  generalize l++z=u at *;have c1:=hc i h1;refine bg e1 ?_;refine aO hgd hxi ?_;refine bP [0] (c1) evd (bx.mk' (by simp) evd) ?_;refine evg ?_;cases h:p i with
  | true =>
    rw[f9 h1 h];refine aV ?_;exact adb [] [0,1]
  | false =>
    rw[fW h1 h];refine dk ?_;refine ap hw ?_;refine⟨i+1,⟨h1,rfl⟩,by omega,?_⟩;exact adk [] [0,1]
 ·obtain rfl:i=l.length:=by omega
  have e1:=inF (l.length);rw[gQ];refine aD e1 ?_;exact adb [] [0,1]
theorem UZ(l z:List Blk)(dd:Blk)(fn:FuncId)(c:gZ)(p:Nat->Bool)(hl:l.length<=1000000)(hc:∀i,i<l.length->aI Tryz.prog fn [.agg (aA (l.getD i dd)),.ptr 0 0] [.var c.cs] (.bool (p i)) [.var c.cs]):aI Tryz.prog 148 [.hs 238 1 0 l.length,.fn (.func fn) [.ptr 0 0]] [.var c.cs,.vec 238 (rows aA (l++z))] (.int .i64 (rP (cE p l.length))) [.var c.cs,.vec 238 (rows aA (l++z))]:=by
 refine aI.fact 9 dC (by simp) ?_ (by simp);unfold cM;refine bd ?_;have hN:cE p l.length=fw p (l.length-0) 0:=rfl;refine gon ?_;refine ay (fun i:Nat=>[(8,.int .i64 i)]) (fun _=>[.var c.cs,.vec 238 (rows aA (l++z))]) (fun i=>l.length-i) (fun i=>i<=l.length/\cE p l.length=fw p (l.length-i) i) 0 ⟨Nat.zero_le _,hN⟩ ?_ ?_
 ·exact adk [] [0,1]
 clear hN;rintro i ⟨hi,hn⟩;rw[hn];refine dM ?_;by_cases h1:i<l.length
 ·have e1:=inT h1
  have hw:=ah h1 (by omega);have hxi:i<(l++z).length:=by simp;omega
  have hgd:(rows aA (l++z)).getD i []=aA (l.getD i dd):=by rw[aM (f:=aA) dd hxi,List.getD_eq_getElem?_getD,List.getElem?_append_left h1,<-List.getD_eq_getElem?_getD]
  generalize l++z=u at *;have c1:=hc i h1;refine bg e1 ?_;refine aO hgd hxi ?_;refine bP [0] (c1) evd (bx.mk' (by simp) evd) ?_;refine evg ?_;cases h:p i with
  | true =>
    rw[f9 h1 h];refine aV ?_;exact adb [] [0,1]
  | false =>
    rw[fW h1 h];refine dk ?_;refine ap hw ?_;refine⟨i+1,⟨h1,rfl⟩,by omega,?_⟩;exact adk [] [0,1]
 ·obtain rfl:i=l.length:=by omega
  have e1:=inF (l.length);rw[gQ];refine aD e1 ?_;exact adb [] [0,1]
theorem OY(t:List Nod)(ht:dc t)(i0:Int)(hb:t.length<=1000000)(h0:isN t i0=true):
 PC Tryz.prog 250 [.agg [.sl 240 false (rows aP t)],.int .i64 i0] (.tup [.agg [.sl 240 false (rows aP (dL t i0).1)],.sl 1 false (ax .i64 (dL t i0).2),.int .i64 0]):=by
 refine PC.fact 24 Cy (by simp) puA puA ?_;unfold rd;refine bd ?_;unfold dL;obtain⟨g0,g1⟩:=oR.1 h0;have q0:decide (i0<0)=false:=au (by omega);have q1:decide (i0 ≥ ((t.length:Nat):Int))=false:=au (by omega);refine eC q0 q1 ?_;refine oe 1 0 240 ?_;simp only[go_sem];refine eY 5 1 ?_;simp only[go_sem];refine ay (fun i:Nat=>[(23,.int .i64 i),(5,.hs 1 3 0 (aL (cX t i0) ([],[]) i).2.length)]) (fun i=>[.var [.sl 240 false (rows aP t)],.var [.hs 240 2 0 (aL (cX t i0) ([],[]) i).1.length],.vec 240 (rows aP (aL (cX t i0) ([],[]) i).1),.vec 1 (ax .i64 (aL (cX t i0) ([],[]) i).2)]) (fun i=>t.length-i) (fun i=>i<=t.length) 0 (Nat.zero_le _) ?_ ?_
 ·exact adk [] [0,1,2,3]
 clear q0 q1;intro i hi;refine dM ?_;by_cases h1:i<t.length
 ·have e1:=inT h1
  have hw:=ah h1 (by omega);have hgd:(rows aP t).getD i []=aP (nod t i):=aM (f:=aP) jm h1;have hs:=bH (cX t i0) ([],[]) i;obtain⟨hl2,hl1⟩:=m8 t i0 i;obtain⟨hu1,hu2⟩:=abY ht i0 h1
  have hup:(nod t i).up<i:=by
   rcases Nat.eq_zero_or_pos i with h|h
   ·subst h;have:=ht.root;omega
   ·exact(ht.ok i h h1).2
  generalize aL (cX t i0) ([],[]) i=p at *;obtain⟨kp,ix⟩:=p;dsimp only at hl1 hl2 hu1 hu2;have hc:cX t i0 i (kp,ix)=if dv t i0 i=true then (kp++[⟨(nod t i).blk,if (i:Int)=i0 then -1 else ix.getD (nod t i).up.toNat 0,(nod t i).status⟩],ix++[(kp.length:Int)])else (kp,ix++[-1]):=rfl
  have hr:∀w:Int,ax .i64 ix++[[AV.int .i64 w]]=ax .i64 (ix++[w]):=fun w=>jn .i64 ix [w]
  have hrn:=da aP kp;dsimp only;refine bg e1 ?_;refine ap hgd ?_;by_cases hk:(i:Int)=i0
  ·have e2:((i:Int) != i0)=false:=by simpa using hk
   rw[ak (Or.inl hk)]at hu1;rw[if_pos hu1,if_pos hk]at hc;refine aQ e2 ?_;refine aQ e2 ?_;refine cZ hr hw hrn ?_;refine⟨i+1,h1,by omega,?_⟩;rw[hs,hc];exact adk [] [0,1,6,5]
  have e2:((i:Int) != i0)=true:=by simpa using hk
  rw[if_neg hk]at hc;by_cases hn:0<=(nod t i).up
  ·have e3:decide ((nod t i).up ≥ 0)=true:=ak hn
   have hP:upP t i0 i ix=ix.getD (nod t i).up.toNat 0:=by unfold upP;rw[if_pos ⟨hk,hn⟩]
   rw[hP]at hu1;have hgi:=gdn (k:=.i64) (ns:=ix) (i:=(nod t i).up.toNat) (by omega);refine im e2 e3 ?_;refine aO hgi Nat.mul_one ?_;generalize ix.getD (nod t i).up.toNat 0=q at *;by_cases hq:q<0
   ·have e4:=ak hq;rw[if_neg (by rw[hu1];simp;omega)]at hc;refine im e2 e4 ?_;refine aO hr hw ?_;refine⟨i+1,h1,by omega,?_⟩;rw[hs,hc];exact adk [] [0,1,2,5]
   ·have e4:=au hq;rw[if_pos (by rw[hu1];simp;omega)]at hc;refine dD e2 e4 ?_;refine cZ hr hw hrn ?_;refine⟨i+1,h1,by omega,?_⟩;rw[hs,hc];exact adk [] [0,1,6,5]
  ·have e3:decide ((nod t i).up ≥ 0)=false:=au hn;have hP:upP t i0 i ix=-1:=by unfold upP;rw[if_neg (fun h=>hn h.2)]
   rw[hP]at hu1;rw[if_neg (by rw[hu1];simp[hk])]at hc;refine dD e2 e3 ?_;refine bg e2 ?_;refine aO hr hw ?_;refine⟨i+1,h1,by omega,?_⟩;rw[hs,hc];exact adk [] [0,1,2,5]
 ·obtain rfl:i=t.length:=by omega
  have e1:=inF (t.length);obtain⟨hl2,hl1⟩:=m8 t i0 t.length;refine aD e1 ?_;exact af
def G9{α:Type}(p:Nat->Bool)(l:List α)(d:α)(i:Nat)(o:List α):List α:=if p i=true then o else o++[l.getD i d]
def gP{α:Type}(p:Nat->Bool)(l:List α)(d:α)(k:Nat):List α:=aL (G9 p l d) [] k
theorem zO{α:Type}(p:Nat->Bool)(l:List α)(d:α)(k:Nat):gP p l d (k+1)=G9 p l d k (gP p l d k):=rfl
theorem D7{α:Type}(p:Nat->Bool)(l:List α)(d:α):∀k,(gP p l d k).length<=k
 |0=>Nat.le_refl _
 | k + 1 => by
   have:=D7 p l d k;rw[zO];unfold G9;split<;>simp<;>omega
theorem sP{α:Type}{p:Nat->Bool}{l:List α}(d:α):∀ {k},k<=l.length->(∀i,i<k->p i=false)->gP p l d k=l.take k
 |0,_,_=>by simp[gP,aL]
 | k + 1, hk, h => by
   rw[zO,sP d (by omega) fun i hi=>h i (by omega)];unfold G9;rw[if_neg (by simp[h k (by omega)]),List.take_add_one,List.getD_eq_getElem?_getD,List.getElem?_eq_getElem (show k<l.length by omega)];rfl
theorem Kh{x:List AV}(h:PuL x):∀n:Nat,fG (List.replicate n x)
 |0=>trivial
 |n+1=>⟨h,Kh h n⟩
structure uX where
 xs:List (List AV)
 pu:fG xs
theorem uX.ren(c:uX)(ρ:Nat->Nat):dF ρ c.xs=c.xs:=fG.ren ρ c.pu
theorem uX.fz(c:uX)(σ:St)(zs:List Nat):gX σ zs c.xs=c.xs:=fG.fz σ zs c.pu
theorem JG(ρ:Nat->Nat):∀ (a b:List (List AV)),dF ρ (a++b)=dF ρ a++dF ρ b
 | [],_=>rfl
 |x::a,b=>by simp only[List.cons_append,dF,JG ρ a b]
theorem N9(σ:St)(zs:List Nat):∀ (a b:List (List AV)),gX σ zs (a++b)=gX σ zs a++gX σ zs b
 | [],_=>rfl
 |x::a,b=>by simp only[List.cons_append,gX,N9 σ zs a b]
attribute [go_sem] uX.ren uX.fz JG N9
theorem So{α:Type}(f:α->List AV)(l:List α)(z:List (List AV)):List.take l.length (rows f l++z)=rows f l:=by
 rw[List.take_append_of_le_length (by simp)];exact List.take_of_length_le (by simp)
attribute [go_sem] So
theorem SK{α:Type}(o l:List α)(d:α){i:Nat}(h1:o.length<=i)(h2:i<l.length):(o++l.drop o.length).getD i d=l.getD i d:=by
 rw[List.getD_eq_getElem?_getD,List.getD_eq_getElem?_getD,List.getElem?_append_right h1,List.getElem?_drop];congr 2;omega
theorem SL{α:Type}(f:α->List AV)(hf:∀a b,(f a).length=(f b).length)(o l:List α)(x d:α)(h2:o.length<l.length):(rows f (o++l.drop o.length)).set o.length (spl ((rows f (o++l.drop o.length)).getD o.length []) 0 (f x))=rows f (o++[x]++l.drop (o.length+1)):=by
 rw[aM (f:=f) d (by simp;omega),Pt (hf _ _)]
 have:(o++l.drop o.length).set o.length x=o++[x]++l.drop (o.length+1):=by
  rw[List.set_append_right _ _ (Nat.le_refl _),Nat.sub_self,List.drop_eq_getElem_cons h2,List.set_cons_zero,List.append_assoc];rfl
 rw[<-this];unfold rows;rw[List.map_set]
theorem SJ{α:Type}(f:α->List AV)(o l:List α)(z:List AV)(h2:o.length<=l.length):(rows f (o++l.drop o.length)).take o.length++List.replicate (l.length-o.length) z++(rows f (o++l.drop o.length)).drop (o.length+(l.length-o.length))=rows f o++List.replicate (l.length-o.length) z:=by
 have e:rows f (o++l.drop o.length)=rows f o++rows f (l.drop o.length):=by unfold rows;exact List.map_append
 rw[e,List.take_append_of_le_length (by simp),List.take_of_length_le (by simp),List.drop_of_length_le (by simp;try omega),List.append_nil]
theorem UE(l:List aH)(dd:aH)(fn:FuncId)(c:gZ)(p:Nat->Bool)(hl:l.length<=1000000)(hc:∀i,i<l.length->aI Tryz.prog fn [.agg (aH.c (l.getD i dd)),.ptr 0 0] [.var c.cs] (.bool (p i)) [.var c.cs]):
 ∃ (z:uX) (kz:Nat),z.xs=List.replicate kz (bE zw:List AV)/\aI Tryz.prog 248 [.hs 34 1 0 l.length,.fn (.func fn) [.ptr 0 0]] [.var c.cs,.vec 34 (rows aH.c l)] (.hs 34 1 0 (gP p l dd l.length).length) [.var c.cs,.vec 34 (rows aH.c (gP p l dd l.length)++z.xs)]:=by
 have c1:=U3 l [] dd fn c p hl hc;rw[List.append_nil]at c1;cases hf:cE p l.length with
 | none =>
   refine⟨⟨[],trivial⟩,0,rfl,?_⟩;have hd:gP p l dd l.length=l:=by rw[sP dd (Nat.le_refl _) (fun k hk=>gI hf k hk),List.take_length]
   rw[hd,List.append_nil];rw[hf]at c1;refine aI.fact 8 eH (by simp) ?_ (by simp);unfold dx;refine bd ?_;refine gon ?_;refine bP [0,1] (c1) evd (bx.mk' (by simp) evd) ?_;refine evg ?_;refine aV ?_;exact adb [] [0,1]
 | some j =>
   obtain⟨hj,_,hb⟩:=dY hf;have hp:=(dY hf).2.1;rw[hf]at c1;have hd:gP p l dd (j+1)=l.take j:=by rw[zO,sP dd (by omega) hb];unfold G9;rw[if_pos hp]
   have hln:=D7 p l dd l.length;obtain⟨z,hz⟩:∃z:uX,∀w,w=(bE zw:List AV)->List.replicate (l.length-(gP p l dd l.length).length) w=z.xs:=⟨⟨List.replicate (l.length-(gP p l dd l.length).length) (bE zw:List AV),Kh (by first|exact gz _|exact(gB _).2 trivial|simp[PuL,Pu]) _⟩,fun w h=>by rw[h]⟩
   refine⟨z,_,(hz _ rfl).symm,?_⟩;refine aI.fact 8 eH (by simp) ?_ (by simp);unfold dx;refine bd ?_;have e0:((j:Int)==-1)=false:=by simp;try omega
   have hw0:IntKind.i64.wrap ((j:Int)+1)=((j+1:Nat):Int):=ah hj (by omega);refine gon ?_;refine bP [0,1] (c1) evd (bx.mk' (by simp) evd) ?_;refine evg ?_;refine aQ e0 ?_;refine ap hw0 ?_;refine ay (fun i:Nat=>[(6,.int .i64 i),(5,.int .i64 (gP p l dd i).length)]) (fun i=>[.var c.cs,.vec 34 (rows aH.c (gP p l dd i++l.drop (gP p l dd i).length))]) (fun i=>l.length-i) (fun i=>i<=l.length/\(gP p l dd i).length<i) (j+1) ⟨hj,by rw[hd];simp;try omega⟩ ?_ ?_
   ·rw[hd];have q1:(l.take j).length=j:=by simp;try omega
    have q2:l.take j++l.drop j=l:=List.take_append_drop j l;rw[q1,q2];exact adk [] [0,1]
   clear hd hp hb e0 hw0;rintro i ⟨hi,hi2⟩;refine dM ?_;by_cases h1:i<l.length
   ·have e1:=inT h1
    have hw:=ah h1 (by omega);have hs:=zO p l dd i;unfold G9 at hs;generalize gP p l dd i=o at *;have hxl:i<(o++l.drop o.length).length:=by simp;try omega
    have hxk:o.length<(o++l.drop o.length).length:=by simp;try omega
    have hgd:(rows aH.c (o++l.drop o.length)).getD i []=aH.c (l.getD i dd):=by rw[aM (f:=aH.c) dd hxl,SK o l dd (by omega) h1]
    have hset:(rows aH.c (o++l.drop o.length)).set o.length (spl ((rows aH.c (o++l.drop o.length)).getD o.length []) 0 (bE (l.getD i dd).a))=rows aH.c (o++[l.getD i dd]++l.drop (o.length+1)):=SL aH.c (by intro a b;simp[aH.c]) o l (l.getD i dd) dd (by omega);have hwk:IntKind.i64.wrap ((o.length:Int)+1)=((o.length+1:Nat):Int):=ah (show o.length<l.length by omega) (by omega);have hkd:decide ((o.length:Int)<((l.length:Nat):Int))=true:=ak (by omega);have c2:=hc i h1;generalize hu:o++l.drop o.length=u at *;generalize l.getD i dd=x at *;refine bg e1 ?_;refine aO hgd hxl ?_;refine bP [0] (c2) evd (bx.mk' (by simp) evd) ?_;refine evg ?_;cases h:p i with
    | true =>
      rw[if_pos h]at hs;refine dk ?_;refine ap hw ?_;refine⟨i+1,⟨h1,by rw[hs];omega⟩,by omega,?_⟩;rw[hs,hu];exact adk [] [0,1]
    | false =>
      rw[if_neg (by simp[h])]at hs;refine kO ?_;refine eO hw hwk hset hxk hkd ?_;refine⟨i+1,⟨h1,by rw[hs];simp;try omega⟩,by omega,?_⟩;rw[hs];exact adk [] [0,1]
   ·obtain rfl:i=l.length:=by omega
    have e1:=inF (l.length);generalize gP p l dd l.length=o at *;have hcl:∀z,_=_:=fun z=>SJ aH.c o l z hln
    have hdl:(l.drop o.length).length=l.length-o.length:=List.length_drop;refine aQ e1 ?_;refine aO hdl Nat.le_refl ?_;rw[hcl,hz];rotate_left
    ·rfl
    refine cZ hcl hdl Nat.le_refl ?_;exact adb [] [0,1]
theorem UD(l:List Blk)(dd:Blk)(fn:FuncId)(c:gZ)(p:Nat->Bool)(hl:l.length<=1000000)(hc:∀i,i<l.length->aI Tryz.prog fn [.agg (aA (l.getD i dd)),.ptr 0 0] [.var c.cs] (.bool (p i)) [.var c.cs]):
 ∃ (z:uX) (kz:Nat),z.xs=List.replicate kz (aA dO:List AV)/\aI Tryz.prog 252 [.hs 238 1 0 l.length,.fn (.func fn) [.ptr 0 0]] [.var c.cs,.vec 238 (rows aA l)] (.hs 238 1 0 (gP p l dd l.length).length) [.var c.cs,.vec 238 (rows aA (gP p l dd l.length)++z.xs)]:=by
 have c1:=UZ l [] dd fn c p hl hc;rw[List.append_nil]at c1;cases hf:cE p l.length with
 | none =>
   refine⟨⟨[],trivial⟩,0,rfl,?_⟩;have hd:gP p l dd l.length=l:=by rw[sP dd (Nat.le_refl _) (fun k hk=>gI hf k hk),List.take_length]
   rw[hd,List.append_nil];rw[hf]at c1;refine aI.fact 8 eG (by simp) ?_ (by simp);unfold dw;refine bd ?_;refine gon ?_;refine bP [0,1] (c1) evd (bx.mk' (by simp) evd) ?_;refine evg ?_;refine aV ?_;exact adb [] [0,1]
 | some j =>
   obtain⟨hj,_,hb⟩:=dY hf;have hp:=(dY hf).2.1;rw[hf]at c1;have hd:gP p l dd (j+1)=l.take j:=by rw[zO,sP dd (by omega) hb];unfold G9;rw[if_pos hp]
   have hln:=D7 p l dd l.length;obtain⟨z,hz⟩:∃z:uX,∀w,w=(aA dO:List AV)->List.replicate (l.length-(gP p l dd l.length).length) w=z.xs:=⟨⟨List.replicate (l.length-(gP p l dd l.length).length) (aA dO:List AV),Kh (by first|exact gz _|exact(gB _).2 trivial|simp[PuL,Pu]) _⟩,fun w h=>by rw[h]⟩
   refine⟨z,_,(hz _ rfl).symm,?_⟩;refine aI.fact 8 eG (by simp) ?_ (by simp);unfold dw;refine bd ?_;have e0:((j:Int)==-1)=false:=by simp;try omega
   have hw0:IntKind.i64.wrap ((j:Int)+1)=((j+1:Nat):Int):=ah hj (by omega);refine gon ?_;refine bP [0,1] (c1) evd (bx.mk' (by simp) evd) ?_;refine evg ?_;refine aQ e0 ?_;refine ap hw0 ?_;refine ay (fun i:Nat=>[(6,.int .i64 i),(5,.int .i64 (gP p l dd i).length)]) (fun i=>[.var c.cs,.vec 238 (rows aA (gP p l dd i++l.drop (gP p l dd i).length))]) (fun i=>l.length-i) (fun i=>i<=l.length/\(gP p l dd i).length<i) (j+1) ⟨hj,by rw[hd];simp;try omega⟩ ?_ ?_
   ·rw[hd];have q1:(l.take j).length=j:=by simp;try omega
    have q2:l.take j++l.drop j=l:=List.take_append_drop j l;rw[q1,q2];exact adk [] [0,1]
   clear hd hp hb e0 hw0;rintro i ⟨hi,hi2⟩;refine dM ?_;by_cases h1:i<l.length
   ·have e1:=inT h1
    have hw:=ah h1 (by omega);have hs:=zO p l dd i;unfold G9 at hs;generalize gP p l dd i=o at *;have hxl:i<(o++l.drop o.length).length:=by simp;try omega
    have hxk:o.length<(o++l.drop o.length).length:=by simp;try omega
    have hgd:(rows aA (o++l.drop o.length)).getD i []=aA (l.getD i dd):=by rw[aM (f:=aA) dd hxl,SK o l dd (by omega) h1]
    have hset:(rows aA (o++l.drop o.length)).set o.length (spl ((rows aA (o++l.drop o.length)).getD o.length []) 0 (aA (l.getD i dd)))=rows aA (o++[l.getD i dd]++l.drop (o.length+1)):=SL aA (by intro a b;simp[aA]) o l (l.getD i dd) dd (by omega);have hwk:IntKind.i64.wrap ((o.length:Int)+1)=((o.length+1:Nat):Int):=ah (show o.length<l.length by omega) (by omega);have hkd:decide ((o.length:Int)<((l.length:Nat):Int))=true:=ak (by omega);have c2:=hc i h1;generalize hu:o++l.drop o.length=u at *;generalize l.getD i dd=x at *;refine bg e1 ?_;refine aO hgd hxl ?_;refine bP [0] (c2) evd (bx.mk' (by simp) evd) ?_;refine evg ?_;cases h:p i with
    | true =>
      rw[if_pos h]at hs;refine dk ?_;refine ap hw ?_;refine⟨i+1,⟨h1,by rw[hs];omega⟩,by omega,?_⟩;rw[hs,hu];exact adk [] [0,1]
    | false =>
      rw[if_neg (by simp[h])]at hs;refine kO ?_;refine eO hw hwk hset hxk hkd ?_;refine⟨i+1,⟨h1,by rw[hs];simp;try omega⟩,by omega,?_⟩;rw[hs];exact adk [] [0,1]
   ·obtain rfl:i=l.length:=by omega
    have e1:=inF (l.length);generalize gP p l dd l.length=o at *;have hcl:∀z,_=_:=fun z=>SJ aA o l z hln
    have hdl:(l.drop o.length).length=l.length-o.length:=List.length_drop;refine aQ e1 ?_;refine aO hdl Nat.le_refl ?_;rw[hcl,hz];rotate_left
    ·rfl
    refine cZ hcl hdl Nat.le_refl ?_;exact adb [] [0,1]
theorem RI (s : am) (hb : s.nodes.length <= 1000000) : PC Tryz.prog 123 [.agg (aw s.a)] (.agg (fd (jp s))) := by
 refine PC.fact 12 rL (by simp) puA puA ?_;unfold kK;refine bd ?_;show Tri _ _ _ _ (PQ _ (.agg (fd (rF s.nodes s.nodes.length).1))) _ _
 have hz:rF s.nodes 0=(HP,false):=rfl;refine gon ?_;refine ay (fun i:Nat=>[(4,.bool (rF s.nodes i).2),(11,.int .i64 i)]) (fun i=>[.var (aw s.a),.var (fd HP),.var (fd (rF s.nodes i).1)]) (fun i=>s.nodes.length-i) (fun i=>i<=s.nodes.length) 0 (Nat.zero_le _) ?_ ?_
 ·rw[hz];exact adk [] [0,1,2]
 intro i hi;refine dM ?_;by_cases h1:i<s.nodes.length
 ·have e1 := inT h1
  have hw:=ah h1 (by omega);have hgd:=dy h1;have hs:=Tk s.nodes i;generalize rF s.nodes i=p at *;obtain⟨⟨pj,pf⟩,sm⟩:=p;have hc:FG s.nodes i (⟨pj,pf⟩,sm)=if (nod s.nodes i).status=2 then (⟨pj,pf⟩,sm)else (⟨if sm=false\/pj.ep<(nod s.nodes i).blk.pul.j.ep then (nod s.nodes i).blk.pul.j else pj,if sm=false\/pf.ep<(nod s.nodes i).blk.pul.f.ep then (nod s.nodes i).blk.pul.f else pf⟩,true):=rfl
  by_cases h2:(nod s.nodes i).status=2
  ·have e2:((nod s.nodes i).status==2)=true:=by simp[h2]
   rw[if_pos h2]at hc;refine bg e1 ?_;refine im hgd e2 ?_;refine ap hw ?_;refine⟨i+1,h1,by omega,?_⟩;rw[hs,hc];exact adk [] [0,1,2]
  ·have e2:((nod s.nodes i).status==2)=false:=by simp[h2]
   rw[if_neg h2]at hc;refine bg e1 ?_;refine dD hgd e2 ?_;cases sm with
   | false =>
     rw[if_pos (.inl rfl),if_pos (.inl rfl)]at hc;refine aV ?_;refine aF ?_;refine ap hw ?_;refine⟨i+1,h1,by omega,?_⟩;rw[hs,hc];exact adk [] [0,1,2]
   | true =>
     by_cases q1:pj.ep<(nod s.nodes i).blk.pul.j.ep
     ·have k1:decide ((nod s.nodes i).blk.pul.j.ep > pj.ep)=true:=ak q1
      have k1':decide (pj.ep<(nod s.nodes i).blk.pul.j.ep)=true:=ak q1;rw[if_pos (.inr q1)]at hc;by_cases q2:pf.ep<(nod s.nodes i).blk.pul.f.ep
      ·have k2:decide ((nod s.nodes i).blk.pul.f.ep > pf.ep)=true:=ak q2;have k2':decide (pf.ep<(nod s.nodes i).blk.pul.f.ep)=true:=ak q2;rw[if_pos (.inr q2)]at hc;refine im k1 k1' ?_;refine im k2 k2' ?_;refine ap hw ?_;refine⟨i+1,h1,by omega,?_⟩;rw[hs,hc];exact adk [] [0,1,2]
      ·have k2:decide ((nod s.nodes i).blk.pul.f.ep > pf.ep)=false:=au q2;have k2':decide (pf.ep<(nod s.nodes i).blk.pul.f.ep)=false:=au q2;rw[if_neg (by simp[q2])]at hc;refine im k1 k1' ?_;refine dD k2 k2' ?_;refine ap hw ?_;refine⟨i+1,h1,by omega,?_⟩;rw[hs,hc];exact adk [] [0,1,2]
     ·have k1:decide ((nod s.nodes i).blk.pul.j.ep > pj.ep)=false:=au q1
      have k1':decide (pj.ep<(nod s.nodes i).blk.pul.j.ep)=false:=au q1;rw[if_neg (by simp[q1])]at hc;by_cases q2:pf.ep<(nod s.nodes i).blk.pul.f.ep
      ·have k2:decide ((nod s.nodes i).blk.pul.f.ep > pf.ep)=true:=ak q2;have k2':decide (pf.ep<(nod s.nodes i).blk.pul.f.ep)=true:=ak q2;rw[if_pos (.inr q2)]at hc;refine dD k1 k1' ?_;refine im k2 k2' ?_;refine ap hw ?_;refine⟨i+1,h1,by omega,?_⟩;rw[hs,hc];exact adk [] [0,1,2]
      ·have k2:decide ((nod s.nodes i).blk.pul.f.ep > pf.ep)=false:=au q2;have k2':decide (pf.ep<(nod s.nodes i).blk.pul.f.ep)=false:=au q2;rw[if_neg (by simp[q2])]at hc;refine dD k1 k1' ?_;refine dD k2 k2' ?_;refine ap hw ?_;refine⟨i+1,h1,by omega,?_⟩;rw[hs,hc];exact adk [] [0,1,2]
 ·obtain rfl:i=s.nodes.length:=by omega
  have e1:=inF (s.nodes.length);refine aD e1 ?_;exact af
def oT(s:am)(c:Cp):Int×Bool:=if aj s.nodes c.rt<0\/(nod s.nodes (aj s.nodes c.rt).toNat).status=2 then (-1,false)
 else (aj s.nodes c.rt,decide ((bD c.ep s.cfg.spe).2=0)&&decide ((nod s.nodes (aj s.nodes c.rt).toNat).blk.slot<=(bD c.ep s.cfg.spe).1))
theorem FK(s:am)(c:Cp)(hb:s.nodes.length<=1000000)(hc:U64 c.ep):PC Tryz.prog 332 [.agg (aw s.a),.agg (cpC c)] (.tup [.int .i64 (oT s c).1,.bool (oT s c).2]):=by
 refine PC.fact 9 xb (by simp) puA puA ?_;unfold nr;refine bd ?_;have c1:=eD s.nodes c.rt hb;have b1:=dX s.nodes c.rt;have c2:=iw (e:=c.ep) (p:=s.cfg.spe) hc.1 hc.2;unfold oT;generalize aj s.nodes c.rt=I at *;generalize bD c.ep s.cfg.spe=S at *;obtain⟨S1,S2⟩:=S;dsimp only at c2 ⊢;refine gon ?_;refine ai c1 ?_;by_cases q1:I<0
 ·have e1:=ak q1;rw[if_pos (.inl q1)];refine aE e1 ?_;exact af
 have e1:=au q1;have hg1:(rows aP s.nodes).getD I.toNat []=aP (nod s.nodes I.toNat):=aM (f:=aP) jm (by omega);by_cases q3:(nod s.nodes I.toNat).status=2
 ·have e3:((nod s.nodes I.toNat).status==2)=true:=by simp[q3]
  rw[if_pos (.inr q3)];refine fK e1 hg1 e3 ?_;exact af
 have e3:((nod s.nodes I.toNat).status==2)=false:=by simp[q3]
 rw[if_neg (fun h=>h.elim q1 q3)];refine xt e1 hg1 e3 ?_;refine ai c2 ?_;by_cases q4:S2=0
 ·have e4:(S2==0)=true:=by simp[q4]
  have e5:=ak q4;rw[e5];refine aO e4 hg1 ?_;exact af
 ·have e4:(S2==0)=false:=by simp[q4]
  have e5:=au q4;rw[e5];refine aO e4 hg1 ?_;exact af
theorem P9(x:aH)(c:Cp):aI Tryz.prog 334 [.agg (aH.c x),.ptr 0 0] [.var (cpC c)] (.bool (decide (x.cp=c))) [.var (cpC c)]:=by
 refine aI.fact 4 ov (by simp) ?_ (by simp);unfold iP;refine bd ?_;refine gon ?_;exact adb [] [0]
def OG(s:am)(a b:Cp):Bool:=(oT s b).2&&((oT s a).2&&(dv s.nodes (oT s b).1 (oT s a).1&&(decide (b.ep<=a.ep)&&(decide (a.ep<=(fC s.now s.cfg.spe).1)&&(cE (fun i=>decide ((tab s.tabs i).cp=a)) s.tabs.length).isSome))))
theorem Vm(s:am)(h:StR s)(a b j0 f0:Cp)(ha:U64 a.ep)(hb:U64 b.ep)(R:Bool)(hR:R=OG s a b):Tri Tryz.prog 94 0 (bA.tl 4) (PQ [.cell 6 true 33,.cell 7 true 33,.tmp 8] (.tup [.agg (cpC (bif R then a else cp0)),.agg (cpC (bif R then b else cp0)),.bool R])) ⟨16,[.agg (aw s.a),.agg (cpC j0),.agg (cpC f0),.ptr 0 0,.ptr 1 0,.ptr 2 0,.ptr 3 0,.ptr 4 0,.bool false,.dead,.dead,.dead,.dead,.dead,.dead,.dead],[]⟩ [.var (aw s.a),.var (cpC j0),.var (cpC f0),.var (cpC a),.var (cpC b)]:=by
 unfold bA;refine bd ?_;simp only[ab.tl];have c1:=FK s b h.bn hb;have c2:=FK s a h.bn ha;have c3:=Xc s.tabs false 334 ⟨cpC a,fF a⟩ (fun i=>decide ((tab s.tabs i).cp=a)) h.bt (fun i _=>P9 _ a);have c4:=kX s.now s.cfg.spe;have c5:=Vk s.nodes h.tree h.bn (oT s b).1 (oT s a).1;unfold OG at hR;generalize dv s.nodes (oT s b).1 (oT s a).1=V5 at *;generalize oT s a=A at *;generalize oT s b=B at *;generalize (cE (fun i=>decide ((tab s.tabs i).cp=a)) s.tabs.length).isSome=F at *;generalize fC s.now s.cfg.spe=E at *;obtain⟨I,V2⟩:=A;obtain⟨K,V1⟩:=B;obtain⟨E1,E2⟩:=E;dsimp only at c1 c2 c3 c4 c5 hR;refine gon ?_;refine acT c1 ?_;refine acT c2 ?_;refine bP [3] (c3) evd (bx.mk' (by simp) evd) ?_;refine evg ?_;refine gon ?_;refine ai c4 ?_;cases V1 with
 | false =>
   obtain rfl:R=false:=hR;refine aV ?_;exact af
 | true =>
   cases V2 with
   | false =>
     obtain rfl:R=false:=hR;refine aV ?_;exact af
   | true =>
     refine gon ?_;refine ai c5 ?_;cases V5 with
     | false =>
       obtain rfl:R=false:=hR;refine aV ?_;exact af
     | true =>
       by_cases q8:a.ep<b.ep
       ·have e8:decide (b.ep > a.ep)=true:=ak q8;have e8':decide (a.ep<b.ep)=true:=ak q8;rw[au (show ¬b.ep<=a.ep by omega)]at hR;obtain rfl:R=false:=hR;refine cn e8 e8' ?_;exact af
       have e8:decide (b.ep > a.ep)=false:=au q8;have e8':decide (a.ep<b.ep)=false:=au q8;rw[ak (show b.ep<=a.ep by omega)]at hR;by_cases q9:E1<a.ep
       ·have e9:decide (a.ep > E1)=true:=ak q9;have e9':decide (E1<a.ep)=true:=ak q9;rw[au (show ¬a.ep<=E1 by omega)]at hR;obtain rfl:R=false:=hR;refine qM e8 e8' e9 e9' ?_;exact af
       have e9:decide (a.ep > E1)=false:=au q9;have e9':decide (E1<a.ep)=false:=au q9;rw[ak (show a.ep<=E1 by omega)]at hR;cases F with
       | false =>
         obtain rfl:R=false:=hR;refine qM e8 e8' e9 e9' ?_;exact af
       | true =>
         obtain rfl:R=true:=hR;refine LV e8 e8' e9 e9' ?_;exact af
theorem Rx(s:am)(h:StR s)(j f:Cp)(uj:U64 s.j.ep)(uf:U64 s.f.ep)(hj:U64 j.ep)(hf:U64 f.ep):PC Tryz.prog 247 [.agg (aw s.a),.agg (cpC j),.agg (cpC f)] (.tup [.agg (cpC (bif OG s (dK s.j j) (dK s.f f)then dK s.j j else cp0)),.agg (cpC (bif OG s (dK s.j j) (dK s.f f)then dK s.f f else cp0)),.bool (OG s (dK s.j j) (dK s.f f))]):=by
 have tl:=Vm s h (dK s.j j) (dK s.f f) j f (nV uj hj) (nV uf hf) _ rfl;refine PC.fact 16 qa (by simp) puA puA ?_;have hc:bA=.seq bA.hd (.seq (bA.tl 1).hd (.seq (bA.tl 2).hd (.seq (bA.tl 3).hd (bA.tl 4)))):=rfl;rw[hc];clear hc;generalize bA.tl 4=cT at *;unfold bA;refine bd ?_;simp only[ab.tl,ab.hd];have m1:dK s.j j=if s.j.ep<j.ep then j else s.j:=rfl
 have m2:dK s.f f=if s.f.ep<f.ep then f else s.f:=rfl
 by_cases q1:s.j.ep<j.ep
 ·have e1:decide (j.ep > s.j.ep)=true:=ak q1
  have e1':decide (s.j.ep<j.ep)=true:=ak q1;rw[if_pos q1]at m1;by_cases q2:s.f.ep<f.ep
  ·have e2:decide (f.ep > s.f.ep)=true:=ak q2;have e2':decide (s.f.ep<f.ep)=true:=ak q2;rw[if_pos q2]at m2;rw[m1,m2]at tl ⊢;refine im e1 e1' ?_;refine cn e2 e2' ?_;refine dR ?_ tl;exact adk [] [0,1,2,3,4]
  ·have e2:decide (f.ep > s.f.ep)=false:=au q2;have e2':decide (s.f.ep<f.ep)=false:=au q2;rw[if_neg q2]at m2;rw[m1,m2]at tl ⊢;refine im e1 e1' ?_;refine eC e2 e2' ?_;refine dR ?_ tl;exact adk [] [0,1,2,3,4]
 ·have e1:decide (j.ep > s.j.ep)=false:=au q1
  have e1':decide (s.j.ep<j.ep)=false:=au q1;rw[if_neg q1]at m1;by_cases q2:s.f.ep<f.ep
  ·have e2:decide (f.ep > s.f.ep)=true:=ak q2;have e2':decide (s.f.ep<f.ep)=true:=ak q2;rw[if_pos q2]at m2;rw[m1,m2]at tl ⊢;refine dD e1 e1' ?_;refine cn e2 e2' ?_;refine dR ?_ tl;exact adk [] [0,1,2,3,4]
  ·have e2:decide (f.ep > s.f.ep)=false:=au q2;have e2':decide (s.f.ep<f.ep)=false:=au q2;rw[if_neg q2]at m2;rw[m1,m2]at tl ⊢;refine dD e1 e1' ?_;refine eC e2 e2' ?_;refine dR ?_ tl;exact adk [] [0,1,2,3,4]
end Go.Proofs.YtnjdpnfglgcjcaaGreat
