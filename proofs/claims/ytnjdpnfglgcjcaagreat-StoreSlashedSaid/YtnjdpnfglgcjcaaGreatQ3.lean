/-
 My texts Va, Vb, joined.
-/
import Derived.Test.YtnjdpnfglgcjcaaGreatP5
import Derived.Test.YtnjdpnfglgcjcaaGreatP4
import Derived.Test.YtnjdpnfglgcjcaaGreatQ2
import Derived.Test.YtnjdpnfglgcjcaaGreatS2
import Derived.Test.YtnjdpnfglgcjcaaGreatR1
set_option linter.unusedVariables false
set_option linter.unusedSimpArgs false
set_option maxRecDepth 8000
set_option maxHeartbeats 4000000
namespace Go.Proofs.YtnjdpnfglgcjcaaGreat
open Go Go.FH Go.RowKit
def sm(f:Nat->Int):Nat->Int
 |0=>0
 |n+1=>sm f n+f n
theorem YJ(f g:Nat->Int):∀n,sm (fun k=>f k+g k) n=sm f n+sm g n
 |0=>rfl
 |n+1=>by show sm (fun k=>f k+g k) n+(f n+g n)=sm f n+f n+(sm g n+g n);rw[YJ f g n];omega
theorem uw{f:Nat->Int}(h:∀i,0<=f i){a:Nat}:∀ {b},a<=b->sm f a<=sm f b
 |0,hb=>by rw[Nat.le_zero.1 hb];exact Int.le_refl _
 | b + 1, hb => by
   by_cases he:a=b+1
   ·rw[he];exact Int.le_refl _
   ·have:=uw h (a:=a) (b:=b) (by omega);have:=h b;show sm f a<=sm f b+f b
    omega
theorem JW{f g:Nat->Int}:∀n,(∀i,i<n->f i<=g i)->sm f n<=sm g n
 |0,_=>Int.le_refl _
 | n + 1, h => by
   have:=JW (f:=f) (g:=g) n (fun i hi=>h i (by omega));have:=h n (by omega);show sm f n+f n<=sm g n+g n
   omega
theorem abQ{f:Nat->Int}:∀n,(∀i,i<n->f i=0)->sm f n=0
 |0,_=>rfl
 |n+1,h=>by show sm f n+f n=0;rw[abQ n fun i hi=>h i (by omega),h n (by omega)];rfl
theorem fX(p:Nat->Bool)(q:Bool){b:Int}(hb:0<=b):∀m,(∀k,k<m->p k=true->q=true)->(∀i k,i<k->k<m->p k=true->p i=false)->sm (fun k=>if p k=true then b else 0) m<=if q=true then b else 0
 |0,_,_=>by show (0:Int)<=_;split<;>omega
 | m + 1, h1, h2 => by
   show sm _ m+(if p m=true then b else 0)<=_
   by_cases hp:p m=true
   ·rw[abQ m fun i hi=>if_neg (by rw[h2 i m hi (by omega) hp];decide),if_pos hp,if_pos (h1 m (by omega) hp)];omega
   ·rw[if_neg hp];have:=fX p q hb m (fun k hk=>h1 k (by omega)) (fun i k hi hk=>h2 i k hi (by omega));omega
theorem Pr(b:Nat->Int)(hb:∀i,0<=b i)(p:Nat->Nat->Bool)(q:Nat->Bool)(m:Nat)(h1:∀k i,k<m->p k i=true->q i=true)(h2:∀j k i,j<k->k<m->p k i=true->p j i=false):
 ∀n,sm (fun k=>sm (fun i=>if p k i=true then b i else 0) n) m<=sm (fun i=>if q i=true then b i else 0) n
 | 0 => by
   show sm (fun _=>0) m<=0
   rw[abQ m fun _ _=>rfl];exact Int.le_refl _
 | n + 1 => by
   have h3:=Pr b hb p q m h1 h2 n;have h4:=fX (fun k=>p k n) (q n) (hb n) m (fun k hk=>h1 k n hk) (fun i k hi hk=>h2 i k n hi hk);show sm (fun k=>sm (fun i=>if p k i=true then b i else 0) n+(if p k n=true then b n else 0)) m<=sm _ n+(if q n=true then b n else 0)
   rw[YJ];have h4:sm (fun k=>if p k n=true then b n else 0) m<=(if q n=true then b n else 0):=h4;generalize (if q n=true then b n else 0)=z at *;omega
theorem zA(p:Nat->Prop)[DecidablePred p](b:Nat->Int)(hb:∀i,0<=b i){N:Nat}(hN:sm b N<18446744073709551616):∀n,n<=N->aL (fun i n=>if p i then IntKind.u64.wrap (n+b i)else n) 0 n=sm (fun i=>if decide (p i)=true then b i else 0) n
 |0,_=>rfl
 | n + 1, hn => by
   have ih:=zA p b hb hN n (by omega);have h1:=uw hb (a:=n+1) (b:=N) hn;have h2:sm (fun i=>if decide (p i)=true then b i else 0) n<=sm b n:=JW n fun i _=>by split;exact Int.le_refl _;exact hb i
   have h3:0<=sm (fun i=>if decide (p i)=true then b i else 0) n:=uw (a:=0) (fun i=>by split;exact hb i;exact Int.le_refl _) (Nat.zero_le n);have h4:sm b (n+1)=sm b n+b n:=rfl;have h5:=hb n;rw[bH,ih];show _=sm _ n+(if decide (p n)=true then b n else 0)
   by_cases hp:p n
   ·rw[if_pos hp,if_pos (ak hp),aU (by omega) (by omega)]
   ·rw[if_neg hp,if_neg (by simpa using hp)];omega
theorem aaM:∀l:List Int,kH l=sm (fun i=>l.getD i 0) l.length:=by
 intro l
 have h:∀n,n<=l.length->kH (l.take n)=sm (fun i=>l.getD i 0) n:=by
  intro n;induction n with
  |zero=>intro _;rfl
  | succ n ih =>
    intro hn;have hlt:n<l.length:=by omega
    rw[List.take_add_one,List.getElem?_eq_getElem hlt,Option.toList_some,Gm,ih (by omega)];show sm _ n+kH [l[n]]=sm _ n+l.getD n 0
    rw[List.getD_eq_getElem?_getD,List.getElem?_eq_getElem hlt];show sm _ n+(l[n]+0)=sm _ n+l[n]
    omega
 have:=h l.length (Nat.le_refl _);rwa [List.take_length]at this
def Y4(eqv bals:List Int):Int:=aL (fun i n=>if (i:Int)∉eqv then IntKind.u64.wrap (n+bals.getD i 0)else n) 0 bals.length
def Zn(d:List Int):Int:=aL (fun i n=>IntKind.u64.wrap (n+d.getD i 0)) 0 d.length
theorem wy(t:List Nod)(latest:List Vot)(eqv bals:List Int):∀n i,i<n->(aL (zP t latest eqv bals) [] n).getD i 0=if (nod t i).status≠2 then o8 latest eqv bals [(nod t i).blk.root]else 0
 |0,i,h=>absurd h (Nat.not_lt_zero i)
 | n + 1, i, h => by
   rw[bH];show (aL (zP t latest eqv bals) [] n++[_]).getD i 0=_
   have hl:=oO t latest eqv bals n;by_cases he:i=n
   ·subst he;rw[List.getD_eq_getElem?_getD,List.getElem?_append_right (by omega),hl,Nat.sub_self];rfl
   ·rw[List.getD_eq_getElem?_getD,List.getElem?_append_left (by omega),<-List.getD_eq_getElem?_getD];exact wy t latest eqv bals n i (by omega)
theorem abp{t:List Nod}(ht:TrV t)(latest:List Vot)(eqv bals:List Int)(hb:∀x∈bals,0<=x)(hs:kH bals<=4611686018427387904):Zn (eV t latest eqv bals)<=Y4 eqv bals:=by
 have hb':∀i,0<=bals.getD i 0:=fun i=>by
  by_cases h:i<bals.length
  ·exact hb _ (cG 0 h)
  ·rw[List.getD_eq_getElem?_getD,List.getElem?_eq_none (by omega)];exact Int.le_refl _
 have hN:sm (fun i=>bals.getD i 0) bals.length<=4611686018427387904:=by rw[<-aaM];exact hs
 have htot:Y4 eqv bals=sm (fun i=>if decide ((i:Int)∉eqv)=true then bals.getD i 0 else 0) bals.length:=zA (fun i:Nat=>(i:Int)∉eqv) (fun i=>bals.getD i 0) hb' (by omega) _ (Nat.le_refl _);let p:Nat->Nat->Bool:=fun k i=>decide ((nod t k).status≠2)&&decide (i<latest.length)&&decide ((vot latest i).has=true/\(i:Int)∉eqv/\(vot latest i).root∈[(nod t k).blk.root])
 have hw:∀k,(if (nod t k).status≠2 then o8 latest eqv bals [(nod t k).blk.root]else 0)<=sm (fun i=>if p k i=true then bals.getD i 0 else 0) bals.length:=fun k=>by
  split
  ·rename_i h
   unfold o8;rw[zA (fun i:Nat=>(vot latest i).has=true/\(i:Int)∉eqv/\(vot latest i).root∈[(nod t k).blk.root]) (fun i=>bals.getD i 0) hb' (N:=bals.length) (by omega) _ (Nat.min_le_left _ _)];refine Int.le_trans (JW _ fun i hi=>?_) (uw (fun i=>by split;exact hb' i;exact Int.le_refl _) (Nat.min_le_left _ _));show _<=if p k i=true then bals.getD i 0 else 0
   have hi2:i<latest.length:=Nat.lt_of_lt_of_le hi (Nat.min_le_right _ _)
   have:p k i=decide ((vot latest i).has=true/\(i:Int)∉eqv/\(vot latest i).root∈[(nod t k).blk.root]):=by
    show (decide _&&decide _&&_)=_
    rw[ak h,ak hi2];rfl
   rw[this];exact Int.le_refl _
  ·exact uw (a:=0) (fun i=>by split;exact hb' i;exact Int.le_refl _) (Nat.zero_le _)
 have hparts:=Pr (fun i=>bals.getD i 0) hb' p (fun i=>decide ((i:Int)∉eqv)) t.length (fun k i hk h=>by
  have h:(decide _&&decide _&&decide _)=true:=h;simp only[Bool.and_eq_true,decide_eq_true_eq]at h;exact ak h.2.2.1) (fun j k i hjk hk h=>by
  have h:(decide _&&decide _&&decide _)=true:=h;simp only[Bool.and_eq_true,decide_eq_true_eq,List.mem_singleton]at h;show (decide _&&decide _&&decide _)=false
  rw[<-Bool.not_eq_true];simp only[Bool.and_eq_true,decide_eq_true_eq,List.mem_singleton];rintro⟨_,_,_,h2⟩;exact ht.ds j k hjk hk (h2.symm.trans h.2.2.2)) bals.length
 have hd:∀k,k<t.length->(eV t latest eqv bals).getD k 0<=sm (fun i=>if p k i=true then bals.getD i 0 else 0) bals.length:=fun k hk=>by
  have:=wy t latest eqv bals t.length k hk;show (aL (zP t latest eqv bals) [] t.length).getD k 0<=_
  rw[this];exact hw k
 have hdn:∀k,0<=(eV t latest eqv bals).getD k 0:=fun k=>by
  by_cases hk:k<t.length
  ·show 0<=(aL (zP t latest eqv bals) [] t.length).getD k 0
   rw[wy t latest eqv bals t.length k hk];split
   ·unfold o8;rw[zA (fun i:Nat=>(vot latest i).has=true/\(i:Int)∉eqv/\(vot latest i).root∈[(nod t k).blk.root]) (fun i=>bals.getD i 0) hb' (N:=bals.length) (by omega) _ (Nat.min_le_left _ _)];exact uw (a:=0) (fun i=>by split;exact hb' i;exact Int.le_refl _) (Nat.zero_le _)
   ·exact Int.le_refl _
  ·rw[List.getD_eq_getElem?_getD,List.getElem?_eq_none (by show (aL (zP t latest eqv bals) [] t.length).length<=k;rw[oO];omega)];exact Int.le_refl _
 have hlen:(eV t latest eqv bals).length=t.length:=oO t latest eqv bals t.length;have h1:sm (fun k=>(eV t latest eqv bals).getD k 0) t.length<=sm (fun k=>sm (fun i=>if p k i=true then bals.getD i 0 else 0) bals.length) t.length:=JW _ hd;have h2:sm (fun i=>if decide ((i:Int)∉eqv)=true then bals.getD i 0 else 0) bals.length<=sm (fun i=>bals.getD i 0) bals.length:=JW _ fun i _=>by split;exact Int.le_refl _;exact hb' i
 have hall:Zn (eV t latest eqv bals)=sm (fun i=>if decide True=true then (eV t latest eqv bals).getD i 0 else 0) (eV t latest eqv bals).length:=by
  have:=zA (fun _:Nat=>True) (fun i=>(eV t latest eqv bals).getD i 0) hdn (N:=(eV t latest eqv bals).length) (by rw[hlen];omega) _ (Nat.le_refl _);simpa[Zn]using this
 have h3:sm (fun i=>if decide True=true then (eV t latest eqv bals).getD i 0 else 0) (eV t latest eqv bals).length<=sm (fun k=>(eV t latest eqv bals).getD k 0) (eV t latest eqv bals).length:=JW _ fun i _=>by simp
 rw[hlen]at h3;rw[hall,htot,hlen];omega
theorem WS{s:am}(h:StV s)(hb:md s):(∀x∈rY s,0<=x)/\kH (rY s)<=4611686018427387904:=by
 obtain⟨t,h1,h2⟩:=h.w.tj;have h3:0<=cS s.tabs s.j:=by rw[<-h2];exact Dz h1
 have h4:=xq s.tabs s.j;have h5:tab s.tabs (cS s.tabs s.j).toNat∈s.tabs:=cG _ (by omega);unfold rY;rw[if_neg (by omega)];have hu:=hb.tb _ h5;refine⟨fun x hx=>(hu x hx).1,?_⟩;have h6:=h.w.tv.1 _ h5;unfold fJ at h6;have h7:=Kb hu;have h8:=MX hu (n:=0) (by decide) (by decide)
 have:¬ ((xK (tab s.tabs (cS s.tabs s.j).toNat).bals).2≠0\/4611686018427387904<(xK (tab s.tabs (cS s.tabs s.j).toNat).bals).1):=by
  intro hc;split at h6
  ·cases h6
  ·cases h6
 rw[h7,h8]at this;simp only[Bool.not_eq_false,decide_eq_true_eq]at this;omega
theorem E8(v:Int):∀l:List Int,l.Pairwise (· < ·)->v∈l->jj l v=l
 | [],_,h=>by cases h
 | a :: l, hp, h => by
   rw[List.pairwise_cons]at hp;unfold jj;by_cases h1:a<v
   ·rw[if_pos h1,E8 v l hp.2 (by rcases List.mem_cons.1 h with h2|h2;omega;exact h2)]
   ·rw[if_neg h1]
    by_cases h2:a=v
    ·rw[if_pos h2]
    ·rcases List.mem_cons.1 h with h3|h3
     ·exact absurd h3.symm h2
     ·have:=hp.1 v h3;omega
theorem Tn(l set:List Int)(x:Int):∀i,i<=l.length->(x∈set\/x∈l.take i)->x∈aL (oz l) set i
 | 0, _, h => by
   show x∈set
   simpa using h
 | i + 1, hi, h => by
   have hlt:i<l.length:=by omega
   rw[bH];show x∈jj _ (l.getD i 0)
   rw[tp];rw[List.take_add_one,List.getElem?_eq_getElem hlt,Option.toList_some,List.mem_append,List.mem_singleton,<-or_assoc]at h;rcases h with h|h
   ·exact .inr (Tn l set x i (by omega) h)
   ·left;rw[h,List.getD_eq_getElem?_getD,List.getElem?_eq_getElem hlt];rfl
theorem JF(l set:List Int)(hp:set.Pairwise (· < ·))(h:∀x∈l,x∈set):∀i,i<=l.length->aL (oz l) set i=set
 |0,_=>rfl
 | i + 1, hi => by
   rw[bH,JF l set hp h i (by omega)];exact E8 _ _ hp (h _ (cG 0 (by omega)))
theorem Y3{s:am}(h:(dH s).2=0):(dH s).1.eqv=s.eqv:=by
 unfold dH at *;split at h
 ·cases h
 ·rename_i h3
  rw[if_neg h3]
  have h1:(tickB (tickA s)).eqv=s.eqv:=by
   unfold tickB;split
   ·exact TJ _ _ _
   ·rfl
  rw[<-h1];generalize tickB (tickA s)=t;show (tickC t t.early).eqv=t.eqv
  refine fE (f:=tickR t.early) (a:=withE t []) (fun _ u=>u.eqv=t.eqv) rfl t.early.length (fun k u hk hu=>?_) _ (Nat.le_refl _);unfold tickR;split
  ·exact hu
  ·split
   ·exact hu
   ·exact hu
end Go.Proofs.YtnjdpnfglgcjcaaGreat
namespace Go.Proofs.YtnjdpnfglgcjcaaGreat
open Go Go.FH Go.RowKit
theorem Sq(latest:List Vot)(eqv bals:List Int)(h2:eqv.length<=1000000)(h3:bals.length<=1000000):PC Tryz.prog 43 [.agg [.sl 34 false (rows bM latest),.sl 1 false (ax .i64 eqv)],.sl 1 false (ax .u64 bals)] (.int .u64 (Y4 eqv bals)):=by
 refine PC.fact 7 Hj (by simp) puA puA ?_;unfold vv;refine bd ?_;unfold Y4;refine gon ?_;refine ay (fun i:Nat=>[(6,.int .i64 i),(5,.int .u64 (aL (fun i n=>if (i:Int)∉eqv then IntKind.u64.wrap (n+bals.getD i 0)else n) 0 i))]) (fun i=>[.var [.sl 34 false (rows bM latest),.sl 1 false (ax .i64 eqv)]]) (fun i=>bals.length-i) (fun i=>i<=bals.length) 0 (Nat.zero_le _) ?_ ?_
 ·exact adk [] [0]
 intro i hi;refine dM ?_;by_cases h1:i<bals.length
 ·have e1:=inT h1
  have hw:=ah h1 (by omega);have hgd:=gdn (k:=.u64) h1;have c1:=tm eqv false i (by omega);have hs:=bH (fun(i:Nat) (n:Int)=>if (i:Int)∉eqv then IntKind.u64.wrap (n+bals.getD i 0)else n) 0 i;generalize aL (fun(i:Nat) (n:Int)=>if (i:Int)∉eqv then IntKind.u64.wrap (n+bals.getD i 0)else n) 0 i=X at *;refine aE e1 ?_;refine ai c1 ?_;by_cases q:(i:Int)∈eqv
  ·have e2:=ak q;rw[if_neg (fun h=>h q)]at hs;refine aQ e2 ?_;refine ap hw ?_;refine⟨i+1,h1,by omega,?_⟩;rw[hs];exact adk [] [0]
  ·have e2:=au q;rw[if_pos q]at hs;refine bg e2 ?_;refine aO hgd hw ?_;refine⟨i+1,h1,by omega,?_⟩;rw[hs];exact adk [] [0]
 ·obtain rfl:i=bals.length:=by omega
  have e1:=inF (bals.length);refine aD e1 ?_;exact af
theorem U5(s T:am)(e:Int)(h1:e=0->0<T.nodes.length/\PC Tryz.prog 38 [.agg (aw T.a)] (.int .i64 0)/\s.j.ep<=T.j.ep/\s.f.ep<=T.f.ep)(h2:e≠0->T=d9):Tri Tryz.prog 109 0 (bK.tl 6) (PQ [.tmp 6] (.bool true)) ⟨57,[.dead,.dead,.dead,.dead,.dead,.dead,.bool false,.ptr 0 0,.ptr 1 0,.int .i64 e,.dead,.dead,.dead,.dead,.dead,.dead,.dead,.dead,.dead,.dead,.dead,.dead,.dead,.dead,.dead,.dead,.dead,.dead,.dead,.dead,.dead,.dead,.dead,.dead,.dead,.dead,.dead,.dead,.dead,.dead,.dead,.dead,.dead,.dead,.dead,.dead,.dead,.dead,.dead,.dead,.dead,.dead,.dead,.dead,.dead,.dead,.dead],[]⟩ [.var (aw s.a),.var (aw T.a)]:=by
 unfold bK;refine bd ?_;simp only[ab.tl];have c3:=qA;by_cases q:e=0
 ·subst q;obtain⟨h3,h4,h5,h6⟩:=h1 rfl;have e1:decide (((T.nodes.length:Nat):Int) > 0)=true:=ak (by omega);have e1':decide ((0:Int)<((T.nodes.length:Nat):Int))=true:=ak (by omega);have e2:decide (T.f.ep ≥ s.f.ep)=true:=ak h6;have e3:decide (T.j.ep ≥ s.j.ep)=true:=ak h5;have e2':decide (s.f.ep<=T.f.ep)=true:=ak h6;have e3':decide (s.j.ep<=T.j.ep)=true:=ak h5;refine dk ?_;refine eI e1 e1' e2 e2' e3 e3' ?_;refine ai h4 ?_;refine eW e2 e2' e3 e3' ?_;refine acT c3 ?_;exact af
 ·have e1:(e != 0)=true:=by simp[q]
  obtain rfl:=h2 q;have c4:=uu d9 yA;refine aE e1 ?_;refine mm c4 ⟨Wk.refl _,DC,trivial⟩ (by simp[PuL,Pu,fG,gY,aw,eo,jW,dS,jY,fF,qD,cD,cp0,d9,am.a,cU.a,ax,rows]) ?_;refine gon ?_;refine acT c3 ?_;exact af
theorem Y2{s:am}(h:(dH s).2≠0):(dH s).1=d9:=by
 unfold dH at h ⊢;split
 ·rfl
 ·rename_i h1;rw[if_neg h1]at h;exact absurd rfl h
theorem uh{T:am}{i:Nat}(hV:StV T)(hI:bi T i)(hB:md T):0<T.nodes.length/\PC Tryz.prog 38 [.agg (aw T.a)] (.int .i64 0):=by
 have:=VK T (acC hI hB) hI.nw.1;rw[hV.val (by have:=hI.cfg.ln;omega) hI.uf hI.nw.1]at this;exact⟨hV.w.tree.pos,this⟩
theorem pc_StoreKeeps(l:List Int)(hl:l.length<=maxLen)(hwl:∀z∈l,(Lit.int .i64 z).wf=true)(which:Int)(hwh:(Lit.int .i64 which).wf=true)(k:Int)(hla:(Lit.int .i64 k).wf=true):PC Tryz.prog 14 [.sl 1 false (ax .i64 l),.int .i64 which,.int .i64 k] (.bool true):=by
 have tl:=U5;obtain⟨a,⟨ha,hV,hB⟩,ca⟩:=Sf l;have hI:=ha.sto;have hcl:=hI.cfg.b1;obtain⟨x,hx,cx⟩:=zI a.sto 24 hI (gr .i64 k 16777215) (E6 k).1;obtain⟨y,hy,cy⟩:=tZ a.sto.cfg.bals.length (gr .i64 k 16777215) (by omega);obtain⟨z,hz,cz⟩:=zL a.sto 24 hI (gr .i64 k 16777215) (E6 k).1;obtain⟨b,hb,cb⟩:=IA a.sto 24 hI hI.cfg.tt 99 (gr .i64 k 16777215) (E6 k).1 (by decide) (by decide) (by decide);have hx1:=hx.len;have hy1:=hy.l1;have hy2:=hy.l2;have hz1:=hz.len;have c0:=xy a.sto 24 hI;have c1:=Jz a.sto 24 hI x (by omega);have c2:=oV a.sto 24 hI hV.eqv_sorted y (by omega) (by omega);have c3:=JC a.sto 24 hI hV.w.tv z (by omega) (fun n hn=>⟨(hz.bals n hn).1,(hz.bals n hn).2⟩);have c4:=OT a.sto 24 hI b hb.w
 have t0:=tl a.sto (dH a.sto).1 (dH a.sto).2 (fun q=>by
  have s1:=Gk q;obtain⟨k1,k2⟩:=uh (hV.tick hI q) (hI.tick q) ((⟨hB.tb,hB.cb⟩:md (tickA a.sto)).sub s1);exact⟨k1,k2,s1.j,s1.f⟩) Y2
 have t1:=tl a.sto (i9 a.sto x).1 (i9 a.sto x).2 (fun q=>by
  have s1:=MU q;obtain⟨k1,k2⟩:=uh (hV.att q) (hI.att hx1 q) (hB.sub s1);exact⟨k1,k2,s1.j,s1.f⟩) SC
 have t2:=tl a.sto (di a.sto y).1 (di a.sto y).2 (fun q=>by
  have s1:=qn q;obtain⟨k1,k2⟩:=uh (hV.slash q) (hI.slash hy1 (by decide) q) (hB.sub s1);exact⟨k1,k2,s1.j,s1.f⟩) JU
 have t3:=tl a.sto (iu a.sto z).1 (iu a.sto z).2 (fun q=>by
  obtain⟨s1,s2,s3⟩:=S4 q;obtain⟨k1,k2⟩:=uh (hV.reg q) (hI.reg q) (hB.reg (fun n hn=>⟨(hz.bals n hn).1,(hz.bals n hn).2⟩) q);exact⟨k1,k2,by rw[s2];exact Int.le_refl _,by rw[s3];exact Int.le_refl _⟩) Tp
 have t4:=tl a.sto (cq a.sto b).1 (cq a.sto b).2.2 (fun q=>by
  have s1:=AS q;obtain⟨k1,k2⟩:=uh (hV.block hI hb.w q) (hI.block hb.w q).1 (hB.sub s1);exact⟨k1,k2,s1.j,s1.f⟩) (fun q=>(Uj q).1)
 clear tl hV hB;generalize hK:gr .i64 k 16777215=K at *;generalize hW:gr .i64 which 7=W;generalize dH a.sto=T0 at *;generalize i9 a.sto x=T1 at *;generalize di a.sto y=T2 at *;generalize iu a.sto z=T3 at *;generalize cq a.sto b=T4 at *;obtain⟨T0,e0⟩:=T0;obtain⟨T1,e1⟩:=T1;obtain⟨T2,e2⟩:=T2;obtain⟨T3,e3⟩:=T3;obtain⟨T4,r4,e4⟩:=T4;dsimp only at c0 c1 c2 c3 c4 t0 t1 t2 t3 t4;refine PC.fact 57 xd (by simp) puA puA ?_;have hc:bK=.seq bK.hd (.seq (bK.tl 1).hd (.seq (bK.tl 2).hd (.seq (bK.tl 3).hd (.seq (bK.tl 4).hd (.seq (bK.tl 5).hd (bK.tl 6)))))):=rfl;rw[hc];clear hc;generalize bK.tl 6=cT at *;unfold bK;refine bd ?_;simp only[ab.tl,ab.hd];refine gon ?_;refine ai ca ?_;refine aO hK hW ?_;by_cases q0:W=0
 ·have e:(W==0)=true:=by simp[q0]
  refine aE e ?_;refine acT c0 ?_;refine dR ?_ t0;exact adk [] [0,1]
 have e:(W==0)=false:=by simp[q0]
 refine aD e ?_;clear e;by_cases q1:W=1
 ·have e:(W==1)=true:=by simp[q1]
  refine aE e ?_;refine aC (cx) ?_;refine gon ?_;refine aC (c1) ?_;refine gon ?_;refine dR ?_ t1;exact adk [] [0,1]
 have e:(W==1)=false:=by simp[q1]
 refine aD e ?_;clear e;by_cases q2:W=2
 ·have e:(W==2)=true:=by simp[q2]
  refine aE e ?_;refine aC (cy) ?_;refine gon ?_;refine aC (c2) ?_;refine gon ?_;refine dR ?_ t2;exact adk [] [0,1]
 have e:(W==2)=false:=by simp[q2]
 refine aD e ?_;clear e;by_cases q3:W=3
 ·have e:(W==3)=true:=by simp[q3]
  refine aE e ?_;refine aC (cz) ?_;refine gon ?_;refine aC (c3) ?_;refine gon ?_;refine dR ?_ t3;exact adk [] [0,1]
 have e:(W==3)=false:=by simp[q3]
 refine aD e ?_;clear e;refine aC (cb) ?_;refine gon ?_;refine aC (c4) ?_;refine gon ?_;refine dR ?_ t4;exact adk [] [0,1]
theorem pc_StoreSlashed(l:List Int)(hl:l.length<=maxLen)(hwl:∀z∈l,(Lit.int .i64 z).wf=true)(k:Int)(hla:(Lit.int .i64 k).wf=true)(which:Int)(hwh:(Lit.int .i64 which).wf=true):PC Tryz.prog 12 [.sl 1 false (ax .i64 l),.int .i64 k,.int .i64 which] (.bool true):=by
 refine PC.fact 21 sX (by simp) puA puA ?_;unfold lG;refine bd ?_;obtain⟨a,⟨ha,hV,hB,hN⟩,ca⟩:=Ca l;have hI:=ha.sto;have hcl:=hI.cfg.b1;have hqs:=hV.eqv_sorted;obtain⟨y,hy,cy⟩:=tZ a.sto.cfg.bals.length (gr .i64 k 16777215) (by omega);have hy1:=hy.l1;have hy2:=hy.l2;have c1:=oV a.sto 24 hI hqs y (by omega) (by omega);have c9:=qA;generalize hK:gr .i64 k 16777215=K at *;by_cases q:(di a.sto y).2=0
 case neg=>
  generalize di a.sto y=T at *;obtain⟨T,e⟩:=T;dsimp only at c1 q;have e1:(e != 0)=true:=by simp[q]
  refine gon ?_;refine ai ca ?_;refine ap hK ?_;refine acT cy ?_;refine ai c1 ?_;refine aE e1 ?_;refine acT c9 ?_;exact af
 have hV2:=hV.slash q;have hI2:=hI.slash hy1 (by decide) q;have hB2:=hB.sub (qn q);have hN2:=(qn q).n
 have hT:(di a.sto y).1=PT a.sto (mV a.sto.eqv (ee y.fst.vals y.snd.vals y.fst.vals.length))/\evE y.a y.fst.vals y.snd.vals a.sto.cfg.bals.length=0:=by
  unfold di at q ⊢;by_cases p1:evE y.a y.fst.vals y.snd.vals a.sto.cfg.bals.length=0
  ·rw[if_neg (by simp[p1])]at q ⊢;by_cases p2:IntKind.i64.wrap ((mV a.sto.eqv (ee y.fst.vals y.snd.vals y.fst.vals.length)).length-a.sto.eqv.length)=0
   ·rw[if_pos p2]at q;cases q
   ·rw[if_neg p2];exact⟨rfl,p1⟩
  ·rw[if_pos p1]at q;exact absurd q p1
 have hcq:∀v∈ee y.fst.vals y.snd.vals y.fst.vals.length,v∈mV a.sto.eqv (ee y.fst.vals y.snd.vals y.fst.vals.length):=fun v hv=>Tn _ _ v _ (Nat.le_refl _) (.inr (by rwa [List.take_length]))
 have hps:(mV a.sto.eqv (ee y.fst.vals y.snd.vals y.fst.vals.length)).Pairwise (· < ·):=xz _ _ hqs _
 have hag:di (di a.sto y).1 y=(d9,9):=by
  rw[hT.1];unfold di;have hn:¬evE y.a y.fst.vals y.snd.vals ((PT a.sto (mV a.sto.eqv (ee y.fst.vals y.snd.vals y.fst.vals.length))).cfg.bals.length:Int)≠0:=fun h=>h hT.2
  rw[if_neg hn];have:mV (PT a.sto (mV a.sto.eqv (ee y.fst.vals y.snd.vals y.fst.vals.length))).eqv (ee y.fst.vals y.snd.vals y.fst.vals.length)=mV a.sto.eqv (ee y.fst.vals y.snd.vals y.fst.vals.length):=JF _ _ hps hcq _ (Nat.le_refl _);rw[this];show (if IntKind.i64.wrap (((mV a.sto.eqv (ee y.fst.vals y.snd.vals y.fst.vals.length)).length:Int)-(mV a.sto.eqv (ee y.fst.vals y.snd.vals y.fst.vals.length)).length)=0 then (d9,(9:Int))else _)=_
  rw[Int.sub_self];rfl
 have heq:(di a.sto y).1.eqv=mV a.sto.eqv (ee y.fst.vals y.snd.vals y.fst.vals.length):=by rw[hT.1];rfl
 rw[<-heq]at hcq hps;have c4:=xA y.a y.fst.vals y.snd.vals false false rfl rfl (by omega) (by omega);have hlc:(ee y.fst.vals y.snd.vals y.fst.vals.length).length<=10:=Nat.le_trans (pY _ _ _) hy1;clear hT heq hV hI hB;generalize ee y.fst.vals y.snd.vals y.fst.vals.length=C at *;generalize di a.sto y=T at *;obtain⟨T,e⟩:=T;dsimp only at c1 q hV2 hI2 hB2 hN2 hag hcq hps;subst q;have c2:=(uh hV2 hI2 hB2).2;have hr:=hI2.r;have c3:=NC T hr;have hbl:=NB hr;have c5:=BN T.nodes T.latest T.eqv (rY T) hr.bn hr.bl hr.be hbl;have c6:=Sq T.latest T.eqv (rY T) hr.be hbl;have c7:=xy T 25 hI2;have c8:=oV T 25 hI2 hps y (by omega) (by omega);rw[hag]at c8;obtain⟨u1,u2⟩:=WS hV2 hB2;have hle:=abp hV2.w.tree T.latest T.eqv (rY T) u1 u2
 have ht2:(dH T).2=0:=by
  unfold dH;rw[if_neg (by omega)]
 have hte:=Y3 ht2;have hDl:(eV T.nodes T.latest T.eqv (rY T)).length=T.nodes.length:=oO _ _ _ _ _;have hnn:=hI2.nn;have hqq:=hI2.qq;unfold Zn at hle;generalize eV T.nodes T.latest T.eqv (rY T)=D at *;generalize Y4 T.eqv (rY T)=H at *;generalize rY T=B at *;generalize dH T=U at *;obtain⟨U,eu⟩:=U;dsimp only at ht2 hte c7;subst ht2;have e2:decide (aL (fun i n=>IntKind.u64.wrap (n+D.getD i 0)) 0 D.length<=H)=true:=ak hle;have e3:(((U.eqv.length:Nat):Int)==((T.eqv.length:Nat):Int))=true:=by rw[hte];simp
 refine gon ?_;refine ai ca ?_;refine ap hK ?_;refine acT cy ?_;refine ai c1 ?_;refine bh ?_;refine ai c2 ?_;refine bh ?_;refine acT c4 ?_;refine ay (fun i:Nat=>[(12,.int .i64 i)]) (fun i=>[.var (aw a.sto.a),.var (dq y.a),.var (aw T.a)]) (fun i=>C.length-i) (fun i=>i<=C.length) 0 (Nat.zero_le _) ?_ ?_
 ·exact adk [] [0,1,2]
 intro i hi;refine dM ?_;by_cases h1:i<C.length
 ·have e1:=inT h1;have hw:=ah h1 (by omega);have hgd:=gdn (k:=.i64) h1;have hm:=hcq _ (cG 0 h1);have c10:=tm T.eqv false (C.getD i 0) (by omega);rw[ak hm]at c10;refine bg e1 ?_;refine ap hgd ?_;refine aC (c10) ?_;refine dk ?_;refine ap hw ?_;refine⟨i+1,h1,by omega,?_⟩;exact adk [] [0,1,2]
 ·obtain rfl:i=C.length:=by omega
  have e1:=inF C.length;refine aD e1 ?_;refine aC (c3) ?_;refine gon ?_;refine aC (c5) ?_;refine gon ?_;refine ay (fun i:Nat=>[(15,.int .i64 i),(14,.int .u64 (aL (fun i n=>IntKind.u64.wrap (n+D.getD i 0)) 0 i))]) (fun i=>[.var (aw a.sto.a),.var (dq y.a),.var (aw T.a)]) (fun i=>D.length-i) (fun i=>i<=D.length) 0 (Nat.zero_le _) ?_ ?_
  ·exact adk [] [0,1,2]
  intro i hi;refine dM ?_;by_cases h1:i<D.length
  ·have e1:=inT h1;have hw:=ah h1 (by omega);have hgd:=gdn (k:=.u64) h1;have hs:=bH (fun(i:Nat) (n:Int)=>IntKind.u64.wrap (n+D.getD i 0)) 0 i;generalize aL (fun(i:Nat) (n:Int)=>IntKind.u64.wrap (n+D.getD i 0)) 0 i=X at *;refine bg e1 ?_;refine aO hgd hw ?_;refine⟨i+1,h1,by omega,?_⟩;rw[hs];exact adk [] [0,1,2]
  ·obtain rfl:i=D.length:=by omega
   have e1:=inF D.length;generalize aL (fun i n=>IntKind.u64.wrap (n+D.getD i 0)) 0 D.length=X at *;refine aD e1 ?_;refine aC (c3) ?_;refine gon ?_;refine aC (c6) ?_;refine gon ?_;refine acT c7 ?_;refine ai c8 ?_;refine aO e2 e3 ?_;refine acT c9 ?_;exact af
end Go.Proofs.YtnjdpnfglgcjcaaGreat
