/-
 My texts Bp, Bq, Br, Bs, By, Ja, Jb, Jc, Jd, Je, Pb, Jh, Bw, Bx, Ji, Jk, Bv, Bo, Bt, Bu, joined.
-/
import Derived.Test.YtkgimpdgncakjaaGreatW2
import Derived.OpenShut
import Derived.ChangeMaps
namespace Go.FH
set_option linter.unusedVariables false
set_option linter.unusedSimpArgs false
open Go Go.RowKit
def Ng_(σ:St)(zs:List Nat)(fr:Fr):Fr:=⟨fr.nv,fr.vs.map (fz σ zs),[]⟩
def Cl_(σ:St)(zs:List Nat):St:=(List.range σ.length).map fun i=>if zs.contains i then .gone else fzO σ zs (σ.getD i .gone)
theorem evZ:(∀σ zs nv vs ts,Ng_ σ zs ⟨nv,vs,ts⟩=⟨nv,vs.map (fz σ zs),[]⟩):=fun _ _ _ _ _=>rfl
section
variable{P:Program}{nt k:Nat}{fr:Fr}{σ:St}
theorem MC_{c:ad_}{Q:Ex→Fr→St→Prop}(zs:List Nat)(h:Tri P nt k c Q (Ng_ σ zs fr) (Cl_ σ zs)):Tri P nt k c Q fr σ:=by
 intro fx code hc C loc a w hs;have hk:=hs.klen
 have hf:hP_ k σ zs (List.range σ.length) (Cl_ σ zs):=by
  refine⟨fun i hi=>List.getElem?_range (by omega),List.nodup_range,fun j hj=>List.mem_range.1 hj,by simp[Cl_],fun i o ho=>?_⟩
  have hi:i<σ.length:=by
   have:=(List.getElem?_eq_some_iff.1 ho).1;simpa[Cl_]using this
  unfold Cl_ at ho;rw[List.getElem?_map,List.getElem?_range hi]at ho;simp only[Option.map_some,Option.some.injEq]at ho;split at ho
  ·exact .inl ho.symm
  ·rename_i hz;refine .inr ⟨i,List.getElem?_range hi,by simpa using hz,?_⟩;rw[Da_,NK_,←ho,List.getElem?_eq_getElem hi,List.getD_eq_getElem?_getD,List.getElem?_eq_getElem hi];rfl
 refine vw_ zs (List.range σ.length) (Ng_ σ zs fr) (Cl_ σ zs) hf (by simpa using hk) (fun t=>?_) h fx code hc C loc a w hs;rw[Da_,LQ_];unfold Fr.get Ng_;simp only;split
 ·right
  rw[List.getD_eq_getElem?_getD,List.getD_eq_getElem?_getD,List.getElem?_map];cases fr.vs[t]?<;>rfl
 ·exact .inl rfl
def Sc(v:AV):Prop:=∀E E' u,Rl E v u→Rl E' v u
theorem Sc.int(k:IntKind)(n:Int):Sc (.int k n):=fun _ _ _ h=>h
theorem Sc.bool(b:Bool):Sc (.bool b):=fun _ _ _ h=>h
theorem Sc.str(s:List UInt8):Sc (.str s):=fun _ _ _ h=>h
end
theorem ci_{a:List AV}{n:Nat}(h:a.length=n):cut a 0 n=a:=by
 unfold cut;rw[List.drop_zero,←h,List.take_length]
theorem OI_(x:AV)(b:List AV)(o n:Nat)(h:1≤o):cut (x::b) o n=cut b (o-1) n:=by
 obtain⟨k,rfl⟩:∃k,o=k+1:=⟨o-1,by omega⟩
 rfl
theorem OH_(a b:List AV)(o n:Nat)(h:a.length≤o):cut (a++b) o n=cut b (o-a.length) n:=by
 unfold cut;rw[List.drop_append,List.drop_eq_nil_of_le h,List.nil_append]
theorem OG_(a b:List AV)(o n:Nat)(h:o+n≤a.length):cut (a++b) o n=cut a o n:=by
 unfold cut;rw[List.drop_append,List.take_append_of_le_length (by rw[List.length_drop];omega)]
theorem PY_(x:AV)(b:List AV)(n:Nat)(h:0<n):cut (x::b) 0 n=x::cut b 0 (n-1):=by
 obtain⟨k,rfl⟩:∃k,n=k+1:=⟨n-1,by omega⟩
 rfl
theorem PX_(b:List AV)(o:Nat):cut b o 0=[]:=by simp[cut]
theorem Dn_{a:List AV}{vs:List AV}(h:vs.length=a.length):spl a 0 vs=vs:=by
 unfold spl;rw[h];simp
theorem OQ_(x:AV)(b:List AV)(o:Nat)(vs:List AV)(h:1≤o):spl (x::b) o vs=x::spl b (o-1) vs:=by
 obtain⟨k,rfl⟩:∃k,o=k+1:=⟨o-1,by omega⟩
 unfold spl;simp[Nat.add_right_comm]
theorem OP_(a b:List AV)(o:Nat)(vs:List AV)(h:a.length≤o):spl (a++b) o vs=a++spl b (o-a.length) vs:=by
 unfold spl;rw[List.take_append,List.drop_append,List.take_of_length_le h,List.drop_eq_nil_of_le (by omega),List.nil_append,show o+vs.length-a.length=o-a.length+vs.length by omega];simp
theorem OO_(a b:List AV)(o:Nat)(vs:List AV)(h:o+vs.length≤a.length):spl (a++b) o vs=spl a o vs++b:=by
 unfold spl;rw[List.take_append_of_le_length (by omega),List.drop_append_of_le_length h];simp
theorem cS1{x:AV}{b:List AV}{o n:Nat}(h:1≤o:=by omega):cut (x::b) o n=cut b (o-1) n:=OI_ x b o n h
theorem cR1{a b:List AV}{k:Nat}(hk:a.length=k){o n:Nat}(h:k≤o:=by omega):cut (a++b) o n=cut b (o-k) n:=by subst hk;exact OH_ a b o n h
theorem cL1{a b:List AV}{k:Nat}(hk:a.length=k){o n:Nat}(h:o+n≤k:=by omega):cut (a++b) o n=cut a o n:=by subst hk;exact OG_ a b o n h
theorem pS1{x:AV}{b:List AV}{o:Nat}{vs:List AV}(h:1≤o:=by omega):spl (x::b) o vs=x::spl b (o-1) vs:=OQ_ x b o vs h
theorem pR1{a b:List AV}{k:Nat}(hk:a.length=k){o:Nat}{vs:List AV}(h:k≤o:=by omega):spl (a++b) o vs=a++spl b (o-k) vs:=by subst hk;exact OP_ a b o vs h
theorem pL1{a b:List AV}{k:Nat}(hk:a.length=k){o:Nat}{vs:List AV}(h:o+vs.length≤k:=by omega):spl (a++b) o vs=spl a o vs++b:=by subst hk;exact OO_ a b o vs h
theorem Qm_(x:AV)(b:List AV)(v:AV)(vs:List AV):spl (x::b) 0 (v::vs)=v::spl b 0 vs:=by
 unfold spl;simp
theorem Qn_(b:List AV):spl b 0 []=b:=by simp[spl]
theorem hD_(a b:Int):(a==b)=decide (a=b):=by rw[Bool.eq_iff_iff];simp
theorem bi_:aU_ []=true:=rfl
theorem ba_(x:AV)(b:List AV):aU_ (x::b)=(x.cell&&aU_ b):=rfl
theorem bh_(a b:List AV):aU_ (a++b)=(aU_ a&&aU_ b):=by simp[aU_]
theorem cB_(a b:List AV):PuL (a++b)↔PuL a∧PuL b:=by
 simp only[sL_,List.mem_append];exact⟨fun h=>⟨fun c hc=>h c (.inl hc),fun c hc=>h c (.inr hc)⟩,fun h c hc=>hc.elim (h.1 c) (h.2 c)⟩
theorem gV_(ρ:Nat→Nat)(a b:List AV):bS_ ρ (a++b)=bS_ ρ a++bS_ ρ b:=by simp[uY_]
theorem hC_(σ:St)(zs:List Nat):∀a b,fzL σ zs (a++b)=fzL σ zs a++fzL σ zs b
 | [],b=>rfl
 |x::a,b=>by simp only[List.cons_append,fzL,hC_ σ zs a b]
theorem eT_:∀ {a b:List AV} (x y:List AV),a.length=b.length→dz_ (a++x) (b++y)=(match dz_ a b,dz_ x y with|some p,some q=>some (p&&q)|_,_=>none)
 | [],[],x,y,_=>by simp only[List.nil_append,dz_];cases dz_ x y<;>simp
 | u :: a, v :: b, x, y, h => by
   have ih:=eT_ (a:=a) (b:=b) x y (by simpa using h);simp only[List.cons_append,dz_,ih];cases oi_ u v<;>cases dz_ a b<;>cases dz_ x y<;>simp[Bool.and_assoc]
 | [],_::_,_,_,h|_::_,[],_,_,h=>by simp at h
theorem dM_:∀ {ks:List (Nat×Nat)} {cs:List AV},cs.map ce_=cj_ ks→ep_ ks cs=true
 | [],cs,h=>by simp only[cj_,List.map_eq_nil_iff]at h;subst h;rfl
 | (n, k) :: ks, cs, h => by
   simp only[cj_]at h;have hl:n≤cs.length:=by have:=congrArg List.length h;simp at this;omega
   have h1:(cs.take n).map ce_=List.replicate n k:=by rw[List.map_take,h];simp
   have h2:(cs.drop n).map ce_=cj_ ks:=by rw[List.map_drop,h];simp
   simp only[ep_,dM_ h2,Bool.and_true,Bool.and_eq_true,List.all_eq_true,beq_iff_eq];refine⟨by rw[List.length_take];omega,fun x hx=>?_⟩;have:ce_ x∈(cs.take n).map ce_:=List.mem_map_of_mem hx;rw[h1]at this;exact(List.mem_replicate.1 this).2
def byc(bs:List UInt8):List AV:=bs.map fun b=>.int .u8 (b.toNat:Int)
@[simp] theorem EV_(bs:List UInt8):(byc bs).length=bs.length:=by simp[byc]
theorem MR_(bs:List UInt8):PuL (byc bs):=by
 rw[sL_];intro x hx;obtain⟨b,_,rfl⟩:=List.mem_map.1 hx;trivial
theorem za_(bs:List UInt8):aU_ (byc bs)=true:=by simp[aU_,byc,AV.cell]
theorem Bn_:∀ {a b:List UInt8},a.length=b.length→dz_ (byc a) (byc b)=some (decide (a=b))
 | [],[],_=>rfl
 | x :: a, y :: b, h => by
   have ih:=Bn_ (a:=a) (b:=b) (by simpa using h)
   have e:(((x.toNat:Int))==(y.toNat:Int))=decide (x=y):=by
    rw[Bool.eq_iff_iff];simp;exact⟨fun h=>UInt8.toNat_inj.1 (by omega),fun h=>by rw[h]⟩
   simp only[byc,List.map_cons,dz_,oi_,if_true]at ih ⊢;rw[ih,e];simp[List.cons.injEq]
 | [],_::_,h|_::_,[],h=>by simp at h
theorem xO_:∀ (bs:List UInt8) (n:Nat),bs.length=n→chunk 1 n (byc bs)=bts bs
 | [],_,rfl=>rfl
 | b :: bs, _, rfl => by
   simp only[List.length_cons,chunk,byc,List.map_cons,bts];have:=xO_ bs _ rfl;simp only[byc,bts]at this;simp[this]
theorem Nd_(bs:List UInt8){j:Nat}(h:j<bs.length):cut (byc bs) j 1=[.int .u8 (bs[j].toNat:Int)]:=by
 unfold cut byc;rw[←List.map_drop,←List.map_take,List.drop_eq_getElem_cons h];rfl
theorem Os_(bs:List UInt8){j:Nat}(h:j<bs.length)(b:UInt8):spl (byc bs) j [.int .u8 (b.toNat:Int)]=byc (bs.set j b):=by
 unfold spl byc;rw[←List.map_take,List.length_singleton,←List.map_drop,List.set_eq_take_append_cons_drop,if_pos h];simp
theorem It_(bs:List UInt8):(byc bs).map ce_=List.replicate bs.length 1:=by
 rw[List.eq_replicate_iff];refine⟨by simp,fun b hb=>?_⟩;obtain⟨c,hc,rfl⟩:=List.mem_map.1 hb;obtain⟨d,_,rfl⟩:=List.mem_map.1 hc;rfl
theorem rB_(bs:List UInt8):(bts bs).flatten=byc bs:=by
 induction bs with
 |nil=>rfl
 |cons b bs ih=>simp only[bts,byc,List.map_cons,List.flatten_cons]at ih ⊢;rw[ih];rfl
abbrev Rt:={b:List UInt8 // b.length=32}
def rtc(r:Rt):List AV:=byc r.1
@[simp] theorem ag_(r:Rt):(rtc r).length=32:=by rw[rtc,EV_,r.2]
theorem LV_(r:Rt):cut (rtc r) 0 32=rtc r:=ci_ (ag_ r)
theorem HH_(r:Rt):chunk 1 32 (rtc r)=bts r.1:=xO_ _ _ r.2
theorem cc_(r:Rt):PuL (rtc r):=MR_ _
theorem mr_(ρ:Nat→Nat)(r:Rt):bS_ ρ (rtc r)=rtc r:=(cc_ r).ren ρ
theorem pM_(σ:St)(zs:List Nat)(r:Rt):fzL σ zs (rtc r)=rtc r:=(cc_ r).fz σ zs
theorem ch_(r:Rt):aU_ (rtc r)=true:=za_ _
theorem gB_(r s:Rt):dz_ (rtc r) (rtc s)=some (decide (r=s)):=by
 rw[rtc,rtc,Bn_ (by rw[r.2,s.2])];congr 1;rw[decide_eq_decide];exact Subtype.ext_iff.symm
theorem go_(r:Rt):(rtc r).map ce_=List.replicate 32 1:=by rw[rtc,It_,r.2]
theorem BV_(r:Rt):ep_ [(32,1)] (rtc r)=true:=dM_ (by rw[go_];rfl)
theorem Gi_(r:Rt){j:Nat}(h:j<32):cut (rtc r) j 1=[.int .u8 ((r.1[j]'(by rw[r.2];exact h)).toNat:Int)]:=Nd_ _ _
def Rt.set(r:Rt)(j:Nat)(b:UInt8):Rt:=⟨r.1.set j b,by rw[List.length_set,r.2]⟩
theorem sV_(r:Rt){j:Nat}(h:j<32)(b:UInt8):spl (rtc r) j [.int .u8 (b.toNat:Int)]=rtc (r.set j b):=Os_ _ (by rw[r.2];exact h) b
theorem mz_(r:Rt):(bts r.1=[])=False:=by
 rw[eq_iff_iff,iff_false];intro h;have:=congrArg List.length h;rw[uw_,r.2]at this;cases this
def rt0:Rt:=⟨List.replicate 32 0,rfl⟩
instance:Inhabited Rt:=⟨rt0⟩
abbrev Wd:={l:List Int // l.length=4}
def wdc(a:Wd):List AV:=a.1.map (.int .u64)
@[simp] theorem aC_(a:Wd):(wdc a).length=4:=by rw[wdc,List.length_map,a.2]
theorem MI_(a:Wd):cut (wdc a) 0 4=wdc a:=ci_ (aC_ a)
theorem gv_(a:Wd):PuL (wdc a):=by
 rw[sL_];intro x hx;obtain⟨b,_,rfl⟩:=List.mem_map.1 hx;trivial
theorem CV_(ρ:Nat→Nat)(r:Wd):bS_ ρ (wdc r)=wdc r:=(gv_ r).ren ρ
theorem Go_(σ:St)(zs:List Nat)(r:Wd):fzL σ zs (wdc r)=wdc r:=(gv_ r).fz σ zs
theorem jZ_(r:Wd):aU_ (wdc r)=true:=by simp[aU_,wdc,AV.cell]
theorem xG_:∀ {a b:List Int},a.length=b.length→dz_ (a.map (.int .u64)) (b.map (.int .u64))=some (decide (a=b))
 | [],[],_=>rfl
 | x :: a, y :: b, h => by
   have ih:=xG_ (a:=a) (b:=b) (by simpa using h);have e:(x==y)=decide (x=y):=by rw[Bool.eq_iff_iff];simp
   simp only[List.map_cons,dz_,oi_,if_true]at ih ⊢;rw[ih,e];simp[List.cons.injEq]
 | [],_::_,h|_::_,[],h=>by simp at h
theorem Bo_(r s:Wd):dz_ (wdc r) (wdc s)=some (decide (r=s)):=by
 rw[wdc,wdc,xG_ (by rw[r.2,s.2])];congr 1;rw[decide_eq_decide];exact Subtype.ext_iff.symm
theorem yh_(r:Wd):(wdc r).map ce_=List.replicate 4 1:=by
 rw[wdc,List.map_map,List.eq_replicate_iff];refine⟨by rw[List.length_map,r.2],fun b hb=>?_⟩;obtain⟨c,hc,rfl⟩:=List.mem_map.1 hb;rfl
theorem KS_(r:Wd):ep_ [(4,1)] (wdc r)=true:=dM_ (by rw[yh_];rfl)
theorem zA_(r:Wd){j:Nat}(h:j<4):cut (wdc r) j 1=[.int .u64 (r.1[j]'(by rw[r.2];exact h))]:=by
 unfold cut wdc;rw[←List.map_drop,←List.map_take,List.drop_eq_getElem_cons (by rw[r.2];exact h)];rfl
def Wd.set(r:Wd)(j:Nat)(x:Int):Wd:=⟨r.1.set j x,by rw[List.length_set,r.2]⟩
theorem jb_(r:Wd){j:Nat}(h:j<4)(x:Int):spl (wdc r) j [.int .u64 x]=wdc (r.set j x):=by
 have h2:j<r.1.length:=by rw[r.2];exact h
 unfold spl wdc Wd.set;simp only;rw[←List.map_take,List.length_singleton,←List.map_drop,List.set_eq_take_append_cons_drop,if_pos h2];simp
theorem KL_(r:Wd){j:Nat}(h:j<4):cut (wdc r) j 1=[.int .u64 (r.1.getD j 0)]:=by
 rw[zA_ r h,List.getD_eq_getElem?_getD,List.getElem?_eq_getElem (by rw[r.2];exact h)];rfl
def wd0:Wd:=⟨List.replicate 4 0,rfl⟩
instance:Inhabited Wd:=⟨wd0⟩
structure Cp where
 ep:Int
 rt:Rt
 deriving Inhabited,DecidableEq
def cpC(x:Cp):List AV:=.int .u64 x.ep::(rtc x.rt)
@[simp] theorem al_(x:Cp):(cpC x).length=33:=by simp only[cpC,List.length_cons,List.length_append,List.length_nil,ag_]
theorem KI_(ep:Int)(rt:Rt):.int .u64 ep::(rtc rt)=cpC ⟨ep,rt⟩:=rfl
theorem KJ_(x:Cp):cut (cpC x) 0 33=cpC x:=ci_ (al_ x)
theorem Ej_(x:Cp):cut (cpC x) 0 1=[.int .u64 x.ep]:=by unfold cpC;all_goals rfl
theorem El_(x:Cp)(v:Int):spl (cpC x) 0 [.int .u64 v]=cpC { x with ep:=v }:=by unfold cpC;all_goals rfl
theorem Ek_(x:Cp)(o n:Nat)(h1:1≤o)(h2:o+n≤33):cut (cpC x) o n=cut (rtc x.rt) (o-1) n:=by unfold cpC;rw[cS1];all_goals rfl
theorem Em_(x:Cp)(o:Nat)(vs:List AV)(h1:1≤o)(h2:o+vs.length≤33):spl (cpC x) o vs=.int .u64 x.ep::(spl (rtc x.rt) (o-1) vs):=by unfold cpC;rw[pS1];all_goals rfl
theorem eC_(x:Cp):aU_ (cpC x)=true:=by simp[cpC,ba_,bh_,bi_,AV.cell,ch_]
theorem dv_(x:Cp):PuL (cpC x):=by simp[cpC,cB_,PuL,Pu,cc_]
theorem pX_(ρ:Nat→Nat)(x:Cp):bS_ ρ (cpC x)=cpC x:=(dv_ x).ren ρ
theorem sR_(σ:St)(zs:List Nat)(x:Cp):fzL σ zs (cpC x)=cpC x:=(dv_ x).fz σ zs
theorem qL_(x:Cp):(cpC x).map ce_=cj_ [(33,1)]:=by simp only[cpC,List.map_cons,List.map_append,List.map_nil,ce_,go_];decide +kernel
theorem KR_(x:Cp):ep_ [(33,1)] (cpC x)=true:=dM_ (qL_ x)
theorem td_(x y:Cp):dz_ (cpC x) (cpC y)=some (decide (x=y)):=by cases x;cases y;simp[cpC,eT_,dz_,oi_,ag_,aC_,gB_,Bool.beq_eq_decide_eq,hD_,Bool.and_assoc,Bool.decide_and]
def cp0:Cp:=⟨0,rt0⟩
structure Pul where
 j:Cp
 f:Cp
 deriving Inhabited,DecidableEq
def cg_(x:Pul):List AV:=cpC x.j++(cpC x.f)
@[simp] theorem aX_(x:Pul):(cg_ x).length=66:=by simp only[cg_,List.length_cons,List.length_append,List.length_nil,al_]
theorem IP_(j:Cp)(f:Cp):cpC j++(cpC f)=cg_ ⟨j,f⟩:=rfl
theorem IQ_(x:Pul):cut (cg_ x) 0 66=cg_ x:=ci_ (aX_ x)
theorem Fw_(x:Pul)(o n:Nat)(h1:0≤o)(h2:o+n≤33):cut (cg_ x) o n=cut (cpC x.j) (o-0) n:=by unfold cg_;rw[cL1 (al_ _)];all_goals rfl
theorem Fy_(x:Pul)(o:Nat)(vs:List AV)(h1:0≤o)(h2:o+vs.length≤33):spl (cg_ x) o vs=spl (cpC x.j) (o-0) vs++(cpC x.f):=by unfold cg_;rw[pL1 (al_ _)];all_goals rfl
theorem Fv_(x:Pul)(o n:Nat)(h1:33≤o)(h2:o+n≤66):cut (cg_ x) o n=cut (cpC x.f) (o-33) n:=by unfold cg_;rw[cR1 (al_ _)];all_goals rfl
theorem Fx_(x:Pul)(o:Nat)(vs:List AV)(h1:33≤o)(h2:o+vs.length≤66):spl (cg_ x) o vs=cpC x.j++(spl (cpC x.f) (o-33) vs):=by unfold cg_;rw[pR1 (al_ _)];all_goals rfl
theorem nq_(x:Pul):aU_ (cg_ x)=true:=by simp[cg_,ba_,bh_,bi_,AV.cell,eC_]
theorem oU_(x:Pul):PuL (cg_ x):=by simp[cg_,cB_,PuL,Pu,dv_]
theorem Jc_(ρ:Nat→Nat)(x:Pul):bS_ ρ (cg_ x)=cg_ x:=(oU_ x).ren ρ
theorem La_(σ:St)(zs:List Nat)(x:Pul):fzL σ zs (cg_ x)=cg_ x:=(oU_ x).fz σ zs
theorem ut_(x:Pul):(cg_ x).map ce_=cj_ [(66,1)]:=by simp only[cg_,List.map_cons,List.map_append,List.map_nil,ce_,qL_];decide +kernel
theorem Ie_(x:Pul):ep_ [(66,1)] (cg_ x)=true:=dM_ (ut_ x)
theorem xH_(x y:Pul):dz_ (cg_ x) (cg_ y)=some (decide (x=y)):=by cases x;cases y;simp[cg_,eT_,dz_,oi_,ag_,aC_,td_,Bool.beq_eq_decide_eq,hD_,Bool.and_assoc,Bool.decide_and]
def ks_:Pul:=⟨cp0,cp0⟩
structure Blk where
 pul:Pul
 slot:Int
 root:Rt
 parent:Rt
 payload:Rt
 diff:Wd
 pdiff:Wd
 just:Cp
 fin:Cp
 timely:Bool
 deriving Inhabited,DecidableEq
def ap_(x:Blk):List AV:=cg_ x.pul++(.int .u64 x.slot::(rtc x.root++(rtc x.parent++(rtc x.payload++(wdc x.diff++(wdc x.pdiff++(cpC x.just++(cpC x.fin++[.bool x.timely]))))))))
@[simp] theorem aV_(x:Blk):(ap_ x).length=238:=by simp only[ap_,List.length_cons,List.length_append,List.length_nil,al_,aX_,ag_,aC_]
theorem Ht_(pul:Pul)(slot:Int)(root:Rt)(parent:Rt)(payload:Rt)(diff:Wd)(pdiff:Wd)(just:Cp)(fin:Cp)(timely:Bool):cg_ pul++(.int .u64 slot::(rtc root++(rtc parent++(rtc payload++(wdc diff++(wdc pdiff++(cpC just++(cpC fin++[.bool timely]))))))))=ap_ ⟨pul,slot,root,parent,payload,diff,pdiff,just,fin,timely⟩:=rfl
theorem Hu_(x:Blk):cut (ap_ x) 0 238=ap_ x:=ci_ (aV_ x)
theorem zh_(x:Blk)(o n:Nat)(h1:0≤o)(h2:o+n≤66):cut (ap_ x) o n=cut (cg_ x.pul) (o-0) n:=by unfold ap_;rw[cL1 (aX_ _)];all_goals rfl
theorem zj_(x:Blk)(o:Nat)(vs:List AV)(h1:0≤o)(h2:o+vs.length≤66):spl (ap_ x) o vs=spl (cg_ x.pul) (o-0) vs++(.int .u64 x.slot::(rtc x.root++(rtc x.parent++(rtc x.payload++(wdc x.diff++(wdc x.pdiff++(cpC x.just++(cpC x.fin++[.bool x.timely])))))))):=by unfold ap_;rw[pL1 (aX_ _)];all_goals rfl
theorem vS_(x:Blk):cut (ap_ x) 66 1=[.int .u64 x.slot]:=by unfold ap_;rw[cR1 (aX_ _)];simp only[Nat.reduceSub];all_goals rfl
theorem vW_(x:Blk)(v:Int):spl (ap_ x) 66 [.int .u64 v]=ap_ { x with slot:=v }:=by unfold ap_;rw[pR1 (aX_ _)];simp only[Nat.reduceSub];all_goals rfl
theorem vR_(x:Blk)(o n:Nat)(h1:67≤o)(h2:o+n≤99):cut (ap_ x) o n=cut (rtc x.root) (o-67) n:=by unfold ap_;rw[cR1 (aX_ _),cS1,cL1 (ag_ _)];rw[show o-66-1=o-67 by omega]
theorem vV_(x:Blk)(o:Nat)(vs:List AV)(h1:67≤o)(h2:o+vs.length≤99):spl (ap_ x) o vs=cg_ x.pul++(.int .u64 x.slot::(spl (rtc x.root) (o-67) vs++(rtc x.parent++(rtc x.payload++(wdc x.diff++(wdc x.pdiff++(cpC x.just++(cpC x.fin++[.bool x.timely])))))))):=by unfold ap_;rw[pR1 (aX_ _),pS1,pL1 (ag_ _)];rw[show o-66-1=o-67 by omega]
theorem rP_(x:Blk)(o n:Nat)(h1:99≤o)(h2:o+n≤131):cut (ap_ x) o n=cut (rtc x.parent) (o-99) n:=by unfold ap_;rw[cR1 (aX_ _),cS1];rw[cR1 (ag_ _),cL1 (ag_ _)];rw[show o-66-1-32=o-99 by omega]
theorem rR_(x:Blk)(o:Nat)(vs:List AV)(h1:99≤o)(h2:o+vs.length≤131):spl (ap_ x) o vs=cg_ x.pul++(.int .u64 x.slot::(rtc x.root++(spl (rtc x.parent) (o-99) vs++(rtc x.payload++(wdc x.diff++(wdc x.pdiff++(cpC x.just++(cpC x.fin++[.bool x.timely])))))))):=by unfold ap_;rw[pR1 (aX_ _),pS1];rw[pR1 (ag_ _),pL1 (ag_ _)];rw[show o-66-1-32=o-99 by omega]
theorem qq_(x:Blk)(o n:Nat)(h1:131≤o)(h2:o+n≤163):cut (ap_ x) o n=cut (rtc x.payload) (o-131) n:=by unfold ap_;rw[cR1 (aX_ _),cS1];rw[cR1 (ag_ _),cR1 (ag_ _),cL1 (ag_ _)];rw[show o-66-1-32-32=o-131 by omega]
theorem qr_(x:Blk)(o:Nat)(vs:List AV)(h1:131≤o)(h2:o+vs.length≤163):spl (ap_ x) o vs=cg_ x.pul++(.int .u64 x.slot::(rtc x.root++(rtc x.parent++(spl (rtc x.payload) (o-131) vs++(wdc x.diff++(wdc x.pdiff++(cpC x.just++(cpC x.fin++[.bool x.timely])))))))):=by unfold ap_;rw[pR1 (aX_ _),pS1];rw[pR1 (ag_ _),pR1 (ag_ _),pL1 (ag_ _)];rw[show o-66-1-32-32=o-131 by omega]
theorem vP_(x:Blk)(o n:Nat)(h1:163≤o)(h2:o+n≤167):cut (ap_ x) o n=cut (wdc x.diff) (o-163) n:=by unfold ap_;rw[cR1 (aX_ _),cS1];rw[cR1 (ag_ _),cR1 (ag_ _)];rw[cR1 (ag_ _),cL1 (aC_ _)];rw[show o-66-1-32-32-32=o-163 by omega]
theorem vT_(x:Blk)(o:Nat)(vs:List AV)(h1:163≤o)(h2:o+vs.length≤167):spl (ap_ x) o vs=cg_ x.pul++(.int .u64 x.slot::(rtc x.root++(rtc x.parent++(rtc x.payload++(spl (wdc x.diff) (o-163) vs++(wdc x.pdiff++(cpC x.just++(cpC x.fin++[.bool x.timely])))))))):=by unfold ap_;rw[pR1 (aX_ _),pS1];rw[pR1 (ag_ _),pR1 (ag_ _)];rw[pR1 (ag_ _),pL1 (aC_ _)];rw[show o-66-1-32-32-32=o-163 by omega]
theorem tk_(x:Blk)(o n:Nat)(h1:167≤o)(h2:o+n≤171):cut (ap_ x) o n=cut (wdc x.pdiff) (o-167) n:=by unfold ap_;rw[cR1 (aX_ _),cS1];rw[cR1 (ag_ _),cR1 (ag_ _)];rw[cR1 (ag_ _),cR1 (aC_ _),cL1 (aC_ _)];rw[show o-66-1-32-32-32-4=o-167 by omega]
theorem tl_(x:Blk)(o:Nat)(vs:List AV)(h1:167≤o)(h2:o+vs.length≤171):spl (ap_ x) o vs=cg_ x.pul++(.int .u64 x.slot::(rtc x.root++(rtc x.parent++(rtc x.payload++(wdc x.diff++(spl (wdc x.pdiff) (o-167) vs++(cpC x.just++(cpC x.fin++[.bool x.timely])))))))):=by unfold ap_;rw[pR1 (aX_ _),pS1];rw[pR1 (ag_ _),pR1 (ag_ _)];rw[pR1 (ag_ _),pR1 (aC_ _),pL1 (aC_ _)];rw[show o-66-1-32-32-32-4=o-167 by omega]
theorem vQ_(x:Blk)(o n:Nat)(h1:171≤o)(h2:o+n≤204):cut (ap_ x) o n=cut (cpC x.just) (o-171) n:=by unfold ap_;rw[cR1 (aX_ _),cS1];rw[cR1 (ag_ _),cR1 (ag_ _)];rw[cR1 (ag_ _),cR1 (aC_ _)];rw[cR1 (aC_ _),cL1 (al_ _)];rw[show o-66-1-32-32-32-4-4=o-171 by omega]
theorem vU_(x:Blk)(o:Nat)(vs:List AV)(h1:171≤o)(h2:o+vs.length≤204):spl (ap_ x) o vs=cg_ x.pul++(.int .u64 x.slot::(rtc x.root++(rtc x.parent++(rtc x.payload++(wdc x.diff++(wdc x.pdiff++(spl (cpC x.just) (o-171) vs++(cpC x.fin++[.bool x.timely])))))))):=by unfold ap_;rw[pR1 (aX_ _),pS1];rw[pR1 (ag_ _),pR1 (ag_ _)];rw[pR1 (ag_ _),pR1 (aC_ _)];rw[pR1 (aC_ _),pL1 (al_ _)];rw[show o-66-1-32-32-32-4-4=o-171 by omega]
theorem zg_(x:Blk)(o n:Nat)(h1:204≤o)(h2:o+n≤237):cut (ap_ x) o n=cut (cpC x.fin) (o-204) n:=by unfold ap_;rw[cR1 (aX_ _),cS1];rw[cR1 (ag_ _),cR1 (ag_ _)];rw[cR1 (ag_ _),cR1 (aC_ _)];rw[cR1 (aC_ _),cR1 (al_ _),cL1 (al_ _)];rw[show o-66-1-32-32-32-4-4-33=o-204 by omega]
theorem zi_(x:Blk)(o:Nat)(vs:List AV)(h1:204≤o)(h2:o+vs.length≤237):spl (ap_ x) o vs=cg_ x.pul++(.int .u64 x.slot::(rtc x.root++(rtc x.parent++(rtc x.payload++(wdc x.diff++(wdc x.pdiff++(cpC x.just++(spl (cpC x.fin) (o-204) vs++[.bool x.timely])))))))):=by unfold ap_;rw[pR1 (aX_ _),pS1];rw[pR1 (ag_ _),pR1 (ag_ _)];rw[pR1 (ag_ _),pR1 (aC_ _)];rw[pR1 (aC_ _),pR1 (al_ _),pL1 (al_ _)];rw[show o-66-1-32-32-32-4-4-33=o-204 by omega]
theorem rQ_(x:Blk):cut (ap_ x) 237 1=[.bool x.timely]:=by unfold ap_;rw[cR1 (aX_ _),cS1];rw[cR1 (ag_ _),cR1 (ag_ _)];rw[cR1 (ag_ _),cR1 (aC_ _)];rw[cR1 (aC_ _),cR1 (al_ _),cR1 (al_ _)];simp only[Nat.reduceSub];all_goals rfl
theorem rS_(x:Blk)(v:Bool):spl (ap_ x) 237 [.bool v]=ap_ { x with timely:=v }:=by unfold ap_;rw[pR1 (aX_ _),pS1];rw[pR1 (ag_ _),pR1 (ag_ _)];rw[pR1 (ag_ _),pR1 (aC_ _)];rw[pR1 (aC_ _),pR1 (al_ _),pR1 (al_ _)];simp only[Nat.reduceSub];all_goals rfl
theorem jf_(x:Blk):aU_ (ap_ x)=true:=by simp[ap_,ba_,bh_,bi_,AV.cell,eC_,nq_,ch_,jZ_]
theorem dH_(x:Blk):PuL (ap_ x):=by simp[ap_,cB_,PuL,Pu,dv_,oU_,cc_,gv_]
theorem yy_(ρ:Nat→Nat)(x:Blk):bS_ ρ (ap_ x)=ap_ x:=(dH_ x).ren ρ
theorem Cc_(σ:St)(zs:List Nat)(x:Blk):fzL σ zs (ap_ x)=ap_ x:=(dH_ x).fz σ zs
theorem us_(x:Blk):(ap_ x).map ce_=cj_ [(237,1),(1,0)]:=by simp only[ap_,List.map_cons,List.map_append,List.map_nil,ce_,qL_,ut_,go_,yh_];decide +kernel
theorem Ia_(x:Blk):ep_ [(237,1),(1,0)] (ap_ x)=true:=dM_ (us_ x)
theorem xF_(x y:Blk):dz_ (ap_ x) (ap_ y)=some (decide (x=y)):=by cases x;cases y;simp[ap_,eT_,dz_,oi_,ag_,aC_,td_,xH_,gB_,Bo_,Bool.beq_eq_decide_eq,hD_,Bool.and_assoc,Bool.decide_and]
def bR_:Blk:=⟨ks_,0,rt0,rt0,rt0,wd0,wd0,cp0,cp0,false⟩
structure Att where
 slot:Int
 root:Rt
 target:Cp
 vals:AV
 deriving Inhabited
def aY_(x:Att):List AV:=.int .u64 x.slot::(rtc x.root++(cpC x.target++[x.vals]))
@[simp] theorem bK_(x:Att):(aY_ x).length=67:=by simp only[aY_,List.length_cons,List.length_append,List.length_nil,al_,ag_]
theorem Hj_(slot:Int)(root:Rt)(target:Cp)(vals:AV):.int .u64 slot::(rtc root++(cpC target++[vals]))=aY_ ⟨slot,root,target,vals⟩:=rfl
theorem Hk_(x:Att):cut (aY_ x) 0 67=aY_ x:=ci_ (bK_ x)
theorem vK_(x:Att):cut (aY_ x) 0 1=[.int .u64 x.slot]:=by unfold aY_;all_goals rfl
theorem vN_(x:Att)(v:Int):spl (aY_ x) 0 [.int .u64 v]=aY_ { x with slot:=v }:=by unfold aY_;all_goals rfl
theorem vJ_(x:Att)(o n:Nat)(h1:1≤o)(h2:o+n≤33):cut (aY_ x) o n=cut (rtc x.root) (o-1) n:=by unfold aY_;rw[cS1,cL1 (ag_ _)];all_goals rfl
theorem vM_(x:Att)(o:Nat)(vs:List AV)(h1:1≤o)(h2:o+vs.length≤33):spl (aY_ x) o vs=.int .u64 x.slot::(spl (rtc x.root) (o-1) vs++(cpC x.target++[x.vals])):=by unfold aY_;rw[pS1,pL1 (ag_ _)];all_goals rfl
theorem rN_(x:Att)(o n:Nat)(h1:33≤o)(h2:o+n≤66):cut (aY_ x) o n=cut (cpC x.target) (o-33) n:=by unfold aY_;rw[cS1,cR1 (ag_ _),cL1 (al_ _)];rw[show o-1-32=o-33 by omega]
theorem rO_(x:Att)(o:Nat)(vs:List AV)(h1:33≤o)(h2:o+vs.length≤66):spl (aY_ x) o vs=.int .u64 x.slot::(rtc x.root++(spl (cpC x.target) (o-33) vs++[x.vals])):=by unfold aY_;rw[pS1,pR1 (ag_ _),pL1 (al_ _)];rw[show o-1-32=o-33 by omega]
theorem vL_(x:Att):cut (aY_ x) 66 1=[x.vals]:=by unfold aY_;rw[cS1,cR1 (ag_ _),cR1 (al_ _)];simp only[Nat.reduceSub];all_goals rfl
theorem vO_(x:Att)(v:AV):spl (aY_ x) 66 [v]=aY_ { x with vals:=v }:=by unfold aY_;rw[pS1,pR1 (ag_ _),pR1 (al_ _)];simp only[Nat.reduceSub];all_goals rfl
def Att.map(g:AV→AV)(x:Att):Att:={ x with vals:=g x.vals }
theorem Att.map_mk(g:AV→AV)(slot:Int)(root:Rt)(target:Cp)(vals:AV):Att.map g ⟨slot,root,target,vals⟩=⟨slot,root,target,g vals⟩:=rfl
def Att.good(x:Att):Bool:=x.vals.cell
theorem Att.good_mk(slot:Int)(root:Rt)(target:Cp)(vals:AV):Att.good ⟨slot,root,target,vals⟩=(vals.cell):=rfl
def Att.Pure(x:Att):Prop:=Pu x.vals
theorem nl_(x:Att):aU_ (aY_ x)=x.good:=by simp[aY_,Att.good,Bool.and_assoc,ba_,bh_,bi_,AV.cell,eC_,ch_]
theorem ei_(x:Att):PuL (aY_ x)↔x.Pure:=by simp[aY_,Att.Pure,cB_,PuL,Pu,dv_,cc_]
theorem yx_(ρ:Nat→Nat)(x:Att):bS_ ρ (aY_ x)=aY_ (x.map (ren ρ)):=by simp only[aY_,Att.map,gV_,bS_,ren,pX_,mr_]
theorem Cb_(σ:St)(zs:List Nat)(x:Att):fzL σ zs (aY_ x)=aY_ (x.map (fz σ zs)):=by simp only[aY_,Att.map,hC_,fzL,fz,sR_,pM_]
def jw_:Att:=⟨0,rt0,cp0,.sl 0 true []⟩
structure Clm where
 src:Int
 tgt:Int
 root:Rt
 vals:AV
 deriving Inhabited
def bz_(x:Clm):List AV:=.int .u64 x.src::(.int .u64 x.tgt::(rtc x.root++[x.vals]))
@[simp] theorem eq_(x:Clm):(bz_ x).length=35:=by simp only[bz_,List.length_cons,List.length_append,List.length_nil,ag_]
theorem HI_(src:Int)(tgt:Int)(root:Rt)(vals:AV):.int .u64 src::(.int .u64 tgt::(rtc root++[vals]))=bz_ ⟨src,tgt,root,vals⟩:=rfl
theorem HJ_(x:Clm):cut (bz_ x) 0 35=bz_ x:=ci_ (eq_ x)
theorem zt_(x:Clm):cut (bz_ x) 0 1=[.int .u64 x.src]:=by unfold bz_;all_goals rfl
theorem zv_(x:Clm)(v:Int):spl (bz_ x) 0 [.int .u64 v]=bz_ { x with src:=v }:=by unfold bz_;all_goals rfl
theorem zu_(x:Clm):cut (bz_ x) 1 1=[.int .u64 x.tgt]:=by unfold bz_;rw[cS1];simp only[Nat.reduceSub];all_goals rfl
theorem zw_(x:Clm)(v:Int):spl (bz_ x) 1 [.int .u64 v]=bz_ { x with tgt:=v }:=by unfold bz_;rw[pS1];simp only[Nat.reduceSub];all_goals rfl
theorem vZ_(x:Clm)(o n:Nat)(h1:2≤o)(h2:o+n≤34):cut (bz_ x) o n=cut (rtc x.root) (o-2) n:=by unfold bz_;rw[cS1,cS1,cL1 (ag_ _)];rw[show o-1-1=o-2 by omega]
theorem wb_(x:Clm)(o:Nat)(vs:List AV)(h1:2≤o)(h2:o+vs.length≤34):spl (bz_ x) o vs=.int .u64 x.src::(.int .u64 x.tgt::(spl (rtc x.root) (o-2) vs++[x.vals])):=by unfold bz_;rw[pS1,pS1,pL1 (ag_ _)];rw[show o-1-1=o-2 by omega]
theorem wa_(x:Clm):cut (bz_ x) 34 1=[x.vals]:=by unfold bz_;rw[cS1,cS1,cR1 (ag_ _)];simp only[Nat.reduceSub];all_goals rfl
theorem wc_(x:Clm)(v:AV):spl (bz_ x) 34 [v]=bz_ { x with vals:=v }:=by unfold bz_;rw[pS1,pS1,pR1 (ag_ _)];simp only[Nat.reduceSub];all_goals rfl
def Clm.map(g:AV→AV)(x:Clm):Clm:={ x with vals:=g x.vals }
theorem Clm.map_mk(g:AV→AV)(src:Int)(tgt:Int)(root:Rt)(vals:AV):Clm.map g ⟨src,tgt,root,vals⟩=⟨src,tgt,root,g vals⟩:=rfl
def Clm.good(x:Clm):Bool:=x.vals.cell
theorem Clm.good_mk(src:Int)(tgt:Int)(root:Rt)(vals:AV):Clm.good ⟨src,tgt,root,vals⟩=(vals.cell):=rfl
def Clm.Pure(x:Clm):Prop:=Pu x.vals
theorem nn_(x:Clm):aU_ (bz_ x)=x.good:=by simp[bz_,Clm.good,Bool.and_assoc,ba_,bh_,bi_,AV.cell,ch_]
theorem jr_(x:Clm):PuL (bz_ x)↔x.Pure:=by simp[bz_,Clm.Pure,cB_,PuL,Pu,cc_]
theorem yz_(ρ:Nat→Nat)(x:Clm):bS_ ρ (bz_ x)=bz_ (x.map (ren ρ)):=by simp only[bz_,Clm.map,gV_,bS_,ren,mr_]
theorem Ce_(σ:St)(zs:List Nat)(x:Clm):fzL σ zs (bz_ x)=bz_ (x.map (fz σ zs)):=by simp only[bz_,Clm.map,hC_,fzL,fz,pM_]
def KA_:Clm:=⟨0,0,rt0,.sl 0 true []⟩
structure Slg where
 fst:Clm
 snd:Clm
 deriving Inhabited
def bZ_(x:Slg):List AV:=bz_ x.fst++(bz_ x.snd)
@[simp] theorem bX_(x:Slg):(bZ_ x).length=70:=by simp only[bZ_,List.length_cons,List.length_append,List.length_nil,eq_]
theorem Jr_(fst:Clm)(snd:Clm):bz_ fst++(bz_ snd)=bZ_ ⟨fst,snd⟩:=rfl
theorem Js_(x:Slg):cut (bZ_ x) 0 70=bZ_ x:=ci_ (bX_ x)
theorem AA_(x:Slg)(o n:Nat)(h1:0≤o)(h2:o+n≤35):cut (bZ_ x) o n=cut (bz_ x.fst) (o-0) n:=by unfold bZ_;rw[cL1 (eq_ _)];all_goals rfl
theorem AC_(x:Slg)(o:Nat)(vs:List AV)(h1:0≤o)(h2:o+vs.length≤35):spl (bZ_ x) o vs=spl (bz_ x.fst) (o-0) vs++(bz_ x.snd):=by unfold bZ_;rw[pL1 (eq_ _)];all_goals rfl
theorem AB_(x:Slg)(o n:Nat)(h1:35≤o)(h2:o+n≤70):cut (bZ_ x) o n=cut (bz_ x.snd) (o-35) n:=by unfold bZ_;rw[cR1 (eq_ _)];all_goals rfl
theorem AD_(x:Slg)(o:Nat)(vs:List AV)(h1:35≤o)(h2:o+vs.length≤70):spl (bZ_ x) o vs=bz_ x.fst++(spl (bz_ x.snd) (o-35) vs):=by unfold bZ_;rw[pR1 (eq_ _)];all_goals rfl
def Slg.map(g:AV→AV)(x:Slg):Slg:={ x with fst:=x.fst.map g,snd:=x.snd.map g }
theorem Slg.map_mk(g:AV→AV)(fst:Clm)(snd:Clm):Slg.map g ⟨fst,snd⟩=⟨fst.map g,snd.map g⟩:=rfl
def Slg.good(x:Slg):Bool:=x.fst.good&&x.snd.good
theorem Slg.good_mk(fst:Clm)(snd:Clm):Slg.good ⟨fst,snd⟩=(fst.good&&snd.good):=rfl
def Slg.Pure(x:Slg):Prop:=x.fst.Pure∧x.snd.Pure
theorem nr_(x:Slg):aU_ (bZ_ x)=x.good:=by simp[bZ_,Slg.good,Bool.and_assoc,ba_,bh_,bi_,AV.cell,nn_]
theorem fz_(x:Slg):PuL (bZ_ x)↔x.Pure:=by simp[bZ_,Slg.Pure,cB_,PuL,Pu,jr_]
theorem yC_(ρ:Nat→Nat)(x:Slg):bS_ ρ (bZ_ x)=bZ_ (x.map (ren ρ)):=by simp only[bZ_,Slg.map,gV_,bS_,ren,yz_]
theorem Ch_(σ:St)(zs:List Nat)(x:Slg):fzL σ zs (bZ_ x)=bZ_ (x.map (fz σ zs)):=by simp only[bZ_,Slg.map,hC_,fzL,fz,Ce_]
def sF_:Slg:=⟨KA_,KA_⟩
structure Tab where
 cp:Cp
 bals:AV
 deriving Inhabited
def aT_(x:Tab):List AV:=cpC x.cp++[x.bals]
@[simp] theorem cK_(x:Tab):(aT_ x).length=34:=by simp only[aT_,List.length_cons,List.length_append,List.length_nil,al_]
theorem JB_(cp:Cp)(bals:AV):cpC cp++[bals]=aT_ ⟨cp,bals⟩:=rfl
theorem JC_(x:Tab):cut (aT_ x) 0 34=aT_ x:=ci_ (cK_ x)
theorem Dv_(x:Tab)(o n:Nat)(h1:0≤o)(h2:o+n≤33):cut (aT_ x) o n=cut (cpC x.cp) (o-0) n:=by unfold aT_;rw[cL1 (al_ _)];all_goals rfl
theorem Dw_(x:Tab)(o:Nat)(vs:List AV)(h1:0≤o)(h2:o+vs.length≤33):spl (aT_ x) o vs=spl (cpC x.cp) (o-0) vs++[x.bals]:=by unfold aT_;rw[pL1 (al_ _)];all_goals rfl
theorem xu_(x:Tab):cut (aT_ x) 33 1=[x.bals]:=by unfold aT_;rw[cR1 (al_ _)];simp only[Nat.reduceSub];all_goals rfl
theorem xv_(x:Tab)(v:AV):spl (aT_ x) 33 [v]=aT_ { x with bals:=v }:=by unfold aT_;rw[pR1 (al_ _)];simp only[Nat.reduceSub];all_goals rfl
def Tab.map(g:AV→AV)(x:Tab):Tab:={ x with bals:=g x.bals }
theorem Tab.map_mk(g:AV→AV)(cp:Cp)(bals:AV):Tab.map g ⟨cp,bals⟩=⟨cp,g bals⟩:=rfl
def Tab.good(x:Tab):Bool:=x.bals.cell
theorem Tab.good_mk(cp:Cp)(bals:AV):Tab.good ⟨cp,bals⟩=(bals.cell):=rfl
def Tab.Pure(x:Tab):Prop:=Pu x.bals
theorem nt_(x:Tab):aU_ (aT_ x)=x.good:=by simp[aT_,Tab.good,Bool.and_assoc,ba_,bh_,bi_,AV.cell,eC_]
theorem dJ_(x:Tab):PuL (aT_ x)↔x.Pure:=by simp[aT_,Tab.Pure,cB_,PuL,Pu,dv_]
theorem yE_(ρ:Nat→Nat)(x:Tab):bS_ ρ (aT_ x)=aT_ (x.map (ren ρ)):=by simp only[aT_,Tab.map,gV_,bS_,ren,pX_]
theorem Cj_(σ:St)(zs:List Nat)(x:Tab):fzL σ zs (aT_ x)=aT_ (x.map (fz σ zs)):=by simp only[aT_,Tab.map,hC_,fzL,fz,sR_]
def fw_:Tab:=⟨cp0,.sl 0 true []⟩
structure Vdt where
 tag:Int
 kind:Int
 latest:Rt
 deriving Inhabited,DecidableEq
def cl_(x:Vdt):List AV:=.int .u64 x.tag::(.int .i64 x.kind::(rtc x.latest))
@[simp] theorem dr_(x:Vdt):(cl_ x).length=34:=by simp only[cl_,List.length_cons,List.length_append,List.length_nil,ag_]
theorem JQ_(tag:Int)(kind:Int)(latest:Rt):.int .u64 tag::(.int .i64 kind::(rtc latest))=cl_ ⟨tag,kind,latest⟩:=rfl
theorem JR_(x:Vdt):cut (cl_ x) 0 34=cl_ x:=ci_ (dr_ x)
theorem AY_(x:Vdt):cut (cl_ x) 0 1=[.int .u64 x.tag]:=by unfold cl_;all_goals rfl
theorem AZ_(x:Vdt)(v:Int):spl (cl_ x) 0 [.int .u64 v]=cl_ { x with tag:=v }:=by unfold cl_;all_goals rfl
theorem xw_(x:Vdt):cut (cl_ x) 1 1=[.int .i64 x.kind]:=by unfold cl_;rw[cS1];simp only[Nat.reduceSub];all_goals rfl
theorem xx_(x:Vdt)(v:Int):spl (cl_ x) 1 [.int .i64 v]=cl_ { x with kind:=v }:=by unfold cl_;rw[pS1];simp only[Nat.reduceSub];all_goals rfl
theorem sJ_(x:Vdt)(o n:Nat)(h1:2≤o)(h2:o+n≤34):cut (cl_ x) o n=cut (rtc x.latest) (o-2) n:=by unfold cl_;rw[cS1,cS1];rw[show o-1-1=o-2 by omega]
theorem sK_(x:Vdt)(o:Nat)(vs:List AV)(h1:2≤o)(h2:o+vs.length≤34):spl (cl_ x) o vs=.int .u64 x.tag::(.int .i64 x.kind::(spl (rtc x.latest) (o-2) vs)):=by unfold cl_;rw[pS1,pS1];rw[show o-1-1=o-2 by omega]
theorem nu_(x:Vdt):aU_ (cl_ x)=true:=by simp[cl_,ba_,bh_,bi_,AV.cell,ch_]
theorem li_(x:Vdt):PuL (cl_ x):=by simp[cl_,cB_,PuL,Pu,cc_]
theorem yF_(ρ:Nat→Nat)(x:Vdt):bS_ ρ (cl_ x)=cl_ x:=(li_ x).ren ρ
theorem Ck_(σ:St)(zs:List Nat)(x:Vdt):fzL σ zs (cl_ x)=cl_ x:=(li_ x).fz σ zs
theorem EQ_(x:Vdt):(cl_ x).map ce_=cj_ [(34,1)]:=by simp only[cl_,List.map_cons,List.map_append,List.map_nil,ce_,go_];decide +kernel
theorem Ig_(x:Vdt):ep_ [(34,1)] (cl_ x)=true:=dM_ (EQ_ x)
theorem Hh_(x y:Vdt):dz_ (cl_ x) (cl_ y)=some (decide (x=y)):=by cases x;cases y;simp[cl_,eT_,dz_,oi_,ag_,aC_,gB_,Bool.beq_eq_decide_eq,hD_,Bool.and_assoc,Bool.decide_and]
def fV_:Vdt:=⟨0,0,rt0⟩
structure SOp where
 kind:Int
 blk:Blk
 att:Att
 slg:Slg
 tab:Tab
 vdt:Vdt
 write:Int
 keep:Int
 deriving Inhabited
def bq_(x:SOp):List AV:=.int .i64 x.kind::(ap_ x.blk++(aY_ x.att++(bZ_ x.slg++(aT_ x.tab++(cl_ x.vdt++(.int .i64 x.write::[.int .i64 x.keep]))))))
@[simp] theorem rE_(x:SOp):(bq_ x).length=446:=by simp only[bq_,List.length_cons,List.length_append,List.length_nil,bK_,aV_,bX_,cK_,dr_]
theorem Ji_(kind:Int)(blk:Blk)(att:Att)(slg:Slg)(tab:Tab)(vdt:Vdt)(write:Int)(keep:Int):.int .i64 kind::(ap_ blk++(aY_ att++(bZ_ slg++(aT_ tab++(cl_ vdt++(.int .i64 write::[.int .i64 keep]))))))=bq_ ⟨kind,blk,att,slg,tab,vdt,write,keep⟩:=rfl
theorem Jj_(x:SOp):cut (bq_ x) 0 446=bq_ x:=ci_ (rE_ x)
theorem xa_(x:SOp):cut (bq_ x) 0 1=[.int .i64 x.kind]:=by unfold bq_;all_goals rfl
theorem xc_(x:SOp)(v:Int):spl (bq_ x) 0 [.int .i64 v]=bq_ { x with kind:=v }:=by unfold bq_;all_goals rfl
theorem Aq_(x:SOp)(o n:Nat)(h1:1≤o)(h2:o+n≤239):cut (bq_ x) o n=cut (ap_ x.blk) (o-1) n:=by unfold bq_;rw[cS1,cL1 (aV_ _)];all_goals rfl
theorem Av_(x:SOp)(o:Nat)(vs:List AV)(h1:1≤o)(h2:o+vs.length≤239):spl (bq_ x) o vs=.int .i64 x.kind::(spl (ap_ x.blk) (o-1) vs++(aY_ x.att++(bZ_ x.slg++(aT_ x.tab++(cl_ x.vdt++(.int .i64 x.write::[.int .i64 x.keep])))))):=by unfold bq_;rw[pS1,pL1 (aV_ _)];all_goals rfl
theorem Ap_(x:SOp)(o n:Nat)(h1:239≤o)(h2:o+n≤306):cut (bq_ x) o n=cut (aY_ x.att) (o-239) n:=by unfold bq_;rw[cS1,cR1 (aV_ _),cL1 (bK_ _)];rw[show o-1-238=o-239 by omega]
theorem Au_(x:SOp)(o:Nat)(vs:List AV)(h1:239≤o)(h2:o+vs.length≤306):spl (bq_ x) o vs=.int .i64 x.kind::(ap_ x.blk++(spl (aY_ x.att) (o-239) vs++(bZ_ x.slg++(aT_ x.tab++(cl_ x.vdt++(.int .i64 x.write::[.int .i64 x.keep])))))):=by unfold bq_;rw[pS1,pR1 (aV_ _),pL1 (bK_ _)];rw[show o-1-238=o-239 by omega]
theorem Ar_(x:SOp)(o n:Nat)(h1:306≤o)(h2:o+n≤376):cut (bq_ x) o n=cut (bZ_ x.slg) (o-306) n:=by unfold bq_;rw[cS1,cR1 (aV_ _)];rw[cR1 (bK_ _),cL1 (bX_ _)];rw[show o-1-238-67=o-306 by omega]
theorem Aw_(x:SOp)(o:Nat)(vs:List AV)(h1:306≤o)(h2:o+vs.length≤376):spl (bq_ x) o vs=.int .i64 x.kind::(ap_ x.blk++(aY_ x.att++(spl (bZ_ x.slg) (o-306) vs++(aT_ x.tab++(cl_ x.vdt++(.int .i64 x.write::[.int .i64 x.keep])))))):=by unfold bq_;rw[pS1,pR1 (aV_ _)];rw[pR1 (bK_ _),pL1 (bX_ _)];rw[show o-1-238-67=o-306 by omega]
theorem As_(x:SOp)(o n:Nat)(h1:376≤o)(h2:o+n≤410):cut (bq_ x) o n=cut (aT_ x.tab) (o-376) n:=by unfold bq_;rw[cS1,cR1 (aV_ _)];rw[cR1 (bK_ _),cR1 (bX_ _),cL1 (cK_ _)];rw[show o-1-238-67-70=o-376 by omega]
theorem Ax_(x:SOp)(o:Nat)(vs:List AV)(h1:376≤o)(h2:o+vs.length≤410):spl (bq_ x) o vs=.int .i64 x.kind::(ap_ x.blk++(aY_ x.att++(bZ_ x.slg++(spl (aT_ x.tab) (o-376) vs++(cl_ x.vdt++(.int .i64 x.write::[.int .i64 x.keep])))))):=by unfold bq_;rw[pS1,pR1 (aV_ _)];rw[pR1 (bK_ _),pR1 (bX_ _),pL1 (cK_ _)];rw[show o-1-238-67-70=o-376 by omega]
theorem At_(x:SOp)(o n:Nat)(h1:410≤o)(h2:o+n≤444):cut (bq_ x) o n=cut (cl_ x.vdt) (o-410) n:=by unfold bq_;rw[cS1,cR1 (aV_ _)];rw[cR1 (bK_ _),cR1 (bX_ _)];rw[cR1 (cK_ _),cL1 (dr_ _)];rw[show o-1-238-67-70-34=o-410 by omega]
theorem Ay_(x:SOp)(o:Nat)(vs:List AV)(h1:410≤o)(h2:o+vs.length≤444):spl (bq_ x) o vs=.int .i64 x.kind::(ap_ x.blk++(aY_ x.att++(bZ_ x.slg++(aT_ x.tab++(spl (cl_ x.vdt) (o-410) vs++(.int .i64 x.write::[.int .i64 x.keep])))))):=by unfold bq_;rw[pS1,pR1 (aV_ _)];rw[pR1 (bK_ _),pR1 (bX_ _)];rw[pR1 (cK_ _),pL1 (dr_ _)];rw[show o-1-238-67-70-34=o-410 by omega]
theorem vh_(x:SOp):cut (bq_ x) 444 1=[.int .i64 x.write]:=by unfold bq_;rw[cS1,cR1 (aV_ _)];rw[cR1 (bK_ _),cR1 (bX_ _)];rw[cR1 (cK_ _),cR1 (dr_ _)];simp only[Nat.reduceSub];all_goals rfl
theorem vi_(x:SOp)(v:Int):spl (bq_ x) 444 [.int .i64 v]=bq_ { x with write:=v }:=by unfold bq_;rw[pS1,pR1 (aV_ _)];rw[pR1 (bK_ _),pR1 (bX_ _)];rw[pR1 (cK_ _),pR1 (dr_ _)];simp only[Nat.reduceSub];all_goals rfl
theorem wZ_(x:SOp):cut (bq_ x) 445 1=[.int .i64 x.keep]:=by unfold bq_;rw[cS1,cR1 (aV_ _)];rw[cR1 (bK_ _),cR1 (bX_ _)];rw[cR1 (cK_ _),cR1 (dr_ _),cS1];simp only[Nat.reduceSub];all_goals rfl
theorem xb_(x:SOp)(v:Int):spl (bq_ x) 445 [.int .i64 v]=bq_ { x with keep:=v }:=by unfold bq_;rw[pS1,pR1 (aV_ _)];rw[pR1 (bK_ _),pR1 (bX_ _)];rw[pR1 (cK_ _),pR1 (dr_ _),pS1];simp only[Nat.reduceSub];all_goals rfl
def SOp.map(g:AV→AV)(x:SOp):SOp:={ x with att:=x.att.map g,slg:=x.slg.map g,tab:=x.tab.map g }
theorem SOp.map_mk(g:AV→AV)(kind:Int)(blk:Blk)(att:Att)(slg:Slg)(tab:Tab)(vdt:Vdt)(write:Int)(keep:Int):SOp.map g ⟨kind,blk,att,slg,tab,vdt,write,keep⟩=⟨kind,blk,att.map g,slg.map g,tab.map g,vdt,write,keep⟩:=rfl
def SOp.good(x:SOp):Bool:=x.att.good&&x.slg.good&&x.tab.good
theorem SOp.good_mk(kind:Int)(blk:Blk)(att:Att)(slg:Slg)(tab:Tab)(vdt:Vdt)(write:Int)(keep:Int):SOp.good ⟨kind,blk,att,slg,tab,vdt,write,keep⟩=(att.good&&slg.good&&tab.good):=rfl
def SOp.Pure(x:SOp):Prop:=x.att.Pure∧x.slg.Pure∧x.tab.Pure
theorem vF_(x:SOp):aU_ (bq_ x)=x.good:=by simp[bq_,SOp.good,Bool.and_assoc,ba_,bh_,bi_,AV.cell,nl_,jf_,nr_,nt_,nu_]
theorem eS_(x:SOp):PuL (bq_ x)↔x.Pure:=by simp[bq_,SOp.Pure,cB_,PuL,Pu,ei_,dH_,fz_,dJ_,li_]
theorem Jd_(ρ:Nat→Nat)(x:SOp):bS_ ρ (bq_ x)=bq_ (x.map (ren ρ)):=by simp only[bq_,SOp.map,gV_,bS_,ren,yx_,yy_,yC_,yE_,yF_]
theorem Lc_(σ:St)(zs:List Nat)(x:SOp):fzL σ zs (bq_ x)=bq_ (x.map (fz σ zs)):=by simp only[bq_,SOp.map,hC_,fzL,fz,Cb_,Cc_,Ch_,Cj_,Ck_]
def sE_:SOp:=⟨0,bR_,jw_,sF_,fw_,fV_,0,0⟩
end Go.FH
namespace Go.FH
open Go Go.RowKit
set_option linter.unusedVariables false
theorem QJ_(P:Program)(nv:Nat)(vs:List AV)(ts:List (Nat×AV))(σ:St)(K:AV→St→Prop):type_of% (evO P ⟨nv,vs,ts⟩ σ K):=evO P ⟨nv,vs,ts⟩ σ K
theorem QK_(P:Program)(nv:Nat)(vs:List AV)(ts:List (Nat×AV))(σ:St)(K:AV→St→Prop):type_of% (evM P ⟨nv,vs,ts⟩ σ K):=evM P ⟨nv,vs,ts⟩ σ K
theorem QL_(P:Program)(nv:Nat)(vs:List AV)(ts:List (Nat×AV))(σ:St)(K:AV→St→Prop):type_of% (evA P ⟨nv,vs,ts⟩ σ K):=evA P ⟨nv,vs,ts⟩ σ K
theorem QM_(P:Program)(nv:Nat)(vs:List AV)(ts:List (Nat×AV))(σ:St)(n:Nat)(K:AV→List Nat→List Nat→St→Prop):type_of% (PZ_ P σ n nv vs ts K):=PZ_ P σ n nv vs ts K
theorem QN_(P:Program)(nv:Nat)(vs:List AV)(ts:List (Nat×AV))(σ:St)(K:AV→St→Prop):type_of% (Qa_ P σ K nv vs ts):=Qa_ P σ K nv vs ts
attribute [go_sem] QM_ QN_ QH_ QI_
attribute [go_sem] QJ_ QK_ QL_ evF evQ evR evL evD opF evH evK Fe_ Fd_ Py_ Px_ Pz_ DU_ Lq_ hg_ mS_ AOp.allocs uw_ gS_ List.length_set List.length_append List.length_cons List.length_nil List.map_cons List.map_nil List.set_cons_zero List.set_cons_succ List.getElem?_cons_zero List.getElem?_cons_succ List.getElem?_nil List.nil_append List.cons_append List.append_nil if_true if_false true_and and_true true_or or_true Bool.false_eq_true not_false_eq_true not_true_eq_false Int.toNat_natCast Bool.not_true Bool.not_false cond_true cond_false Int.natCast_nonneg forall_const false_implies implies_true Nat.sub_zero Nat.zero_add Nat.add_zero List.drop_zero decide_true decide_false pJ_ oD_ BU_ mK_ OI_ OH_ OG_ PY_ PX_ Dn_ OQ_ OP_ OO_ Qm_ Qn_ LV_ MI_ ag_ aC_ ch_ jZ_ mr_ CV_ gB_ Bo_ BV_ KS_ HH_ rB_ KJ_ al_ KI_ Ej_ El_ Ek_ Em_ eC_ pX_ KR_ td_ IQ_ aX_ IP_ Fw_ Fy_ Fv_ Fx_ nq_ Jc_ Ie_ xH_ Hu_ aV_ Ht_ zh_ zj_ vS_ vW_ vR_ vV_ rP_ rR_ qq_ qr_ vP_ vT_ tk_ tl_ vQ_ vU_ zg_ zi_ rQ_ rS_ jf_ yy_ Ia_ xF_ Hk_ bK_ Hj_ vK_ vN_ vJ_ vM_ rN_ rO_ vL_ vO_ Att.map_mk Att.good_mk nl_ yx_ HJ_ eq_ HI_ zt_ zv_ zu_ zw_ vZ_ wb_ wa_ wc_ Clm.map_mk Clm.good_mk nn_ yz_ Js_ bX_ Jr_ AA_ AC_ AB_ AD_ Slg.map_mk Slg.good_mk nr_ yC_ JC_ cK_ JB_ Dv_ Dw_ xu_ xv_ Tab.map_mk Tab.good_mk nt_ yE_ JR_ dr_ JQ_ AY_ AZ_ xw_ xx_ sJ_ sK_ nu_ yF_ Ig_ Hh_ Jj_ rE_ Ji_ xa_ xc_ Aq_ Av_ Ap_ Au_ Ar_ Aw_ As_ Ax_ At_ Ay_ vh_ vi_ wZ_ xb_ SOp.map_mk SOp.good_mk vF_ Jd_ cp0 ks_ bR_ jw_ KA_ sF_ fw_ fV_ sE_ bi_ ba_ bh_ AV.cell List.all_cons List.all_nil Bool.and_true Bool.true_and List.replicate_succ List.replicate_zero beq_self_eq_true ne_eq bS_ ren rdS hv_ List.flatten_cons List.flatten_nil lm_ MX_ Ku_ Kt_ List.take_of_length_le Nat.le_refl is_ jv_ List.isEmpty_nil List.isEmpty_cons List.filter_cons List.filter_nil decide_eq_true_eq bne_self_eq_false Bool.bne_false Bool.bne_true Option.isNone_some Option.isNone_none Bool.and_false Bool.false_and Bool.not_eq_true Bool.not_eq_false eq_self Kx_ Bool.true_eq_false forall_eq
attribute [go_sem] FD_ CY_ CX_ oG_ Option.map_some
attribute [go_sem] pM_ Go_ sR_ La_ Cc_ Cb_ Ce_ Ch_ Cj_ Ck_ Lc_ jn_ fi_ fT_ ax_ fS_ rn eQ_ mL_ ck_ fz fzL fzO pL_ cZ_ ee_ List.getD_cons_zero List.getD_cons_succ List.getD_nil List.take_zero List.take_succ_cons List.take_nil List.drop_succ_cons List.drop_nil List.getElem?_cons_zero List.getElem?_cons_succ List.getElem?_nil Option.map_none and_self List.mem_cons List.not_mem_nil or_false false_or or_self List.range_zero List.range_succ List.mem_append List.mem_singleton List.contains_eq_mem List.mem_range Nat.sub_self dZ_
structure Hid(q:Prop):Prop where
 out:q
theorem evd{p:Prop}(h:p:=by((try simp only[go_sem,Nat.reduceAdd,Nat.reduceSub,Nat.reduceMul,Nat.reduceLT,Nat.reduceLeDiff,Nat.reduceEqDiff,reduceIte,Int.reduceToNat,Int.reduceLT,Int.reduceLE,Int.reduceEq,Int.reduceNeg,reduceCtorEq,Int.reduceBEq,Int.reduceBNe]);try rfl)):p:=h
theorem evg{p q:Prop}(hq:q)(h:Hid q→p:=by(intro hq;(try simp only[go_sem,Nat.reduceAdd,Nat.reduceSub,Nat.reduceMul,Nat.reduceLT,Nat.reduceLeDiff,Nat.reduceEqDiff,reduceIte,Int.reduceToNat,Int.reduceLT,Int.reduceLE,Int.reduceEq,Int.reduceNeg,reduceCtorEq,Int.reduceBEq,Int.reduceBNe]);exact hq.out)):p:=h ⟨hq⟩
theorem aa_{p q:Prop}(hq:q) (h:Hid q→p:=by
 (intro hq
  (first|with_reducible (first|refine fd_ ?_|refine fv_ ?_|refine eI_ ?_|refine gX_ (by simp only[List.length_cons,List.length_nil]) ?_|refine gZ_ ?_|refine gY_ ?_|refine jd_ ?_)|(simp only[go_sem,Nat.reduceAdd,Nat.reduceSub,Nat.reduceMul,Nat.reduceLT,Nat.reduceLeDiff,Nat.reduceEqDiff,reduceIte,Int.reduceToNat,Int.reduceLT,Int.reduceLE,Int.reduceEq,Int.reduceNeg,reduceCtorEq,Int.reduceBEq,Int.reduceBNe])|with_reducible refine And.intro (ip_ (by decide)) ?_|(with_reducible refine And.intro ?_ ?_;first|omega|decide|(simp;done)|(simp;omega)))
  repeat(first|with_reducible (first|refine fd_ ?_|refine fv_ ?_|refine eI_ ?_|refine gX_ (by simp only[List.length_cons,List.length_nil]) ?_|refine gZ_ ?_|refine gY_ ?_|refine jd_ ?_)|(simp only[go_sem,Nat.reduceAdd,Nat.reduceSub,Nat.reduceMul,Nat.reduceLT,Nat.reduceLeDiff,Nat.reduceEqDiff,reduceIte,Int.reduceToNat,Int.reduceLT,Int.reduceLE,Int.reduceEq,Int.reduceNeg,reduceCtorEq,Int.reduceBEq,Int.reduceBNe])|with_reducible refine And.intro (ip_ (by decide)) ?_|(with_reducible refine And.intro ?_ ?_;first|omega|decide|(simp;done)|(simp;omega)))
  exact hq.out)):p:=h ⟨hq⟩
theorem Do_{p q:Prop}(hq:q) (h:Hid q→p:=by
 (intro hq
  repeat(first|(simp only[go_sem,Nat.reduceAdd,Nat.reduceSub,Nat.reduceMul,Nat.reduceLT,Nat.reduceLeDiff,Nat.reduceEqDiff,reduceIte,Int.reduceToNat,Int.reduceLT,Int.reduceLE,Int.reduceEq,Int.reduceNeg,reduceCtorEq,Int.reduceBEq,Int.reduceBNe])|with_reducible refine And.intro (ip_ (by decide)) ?_|(with_reducible refine And.intro ?_ ?_;first|omega|decide|(simp;done)|(simp;omega)))
  exact hq.out)):p:=h ⟨hq⟩
section
variable{P:Program}{nt k:Nat}{fr:Fr}{σ:St}{c:Opd}{x y:ad_}{Q:Ex→Fr→St→Prop}
theorem ac_(h:Tri P nt k x Q fr σ)(hb:c.ev fr=.bool true:=by((try simp only[go_sem,Nat.reduceAdd,Nat.reduceSub,Nat.reduceMul,Nat.reduceLT,Nat.reduceLeDiff,Nat.reduceEqDiff,reduceIte,Int.reduceToNat,Int.reduceLT,Int.reduceLE,Int.reduceEq,Int.reduceNeg,reduceCtorEq,Int.reduceBEq,Int.reduceBNe]);try rfl)):Tri P nt k (.cond c x y) Q fr σ:=bA_ hb (fun _=>h) (fun h=>by cases h)
theorem ab_(h:Tri P nt k y Q fr σ)(hb:c.ev fr=.bool false:=by((try simp only[go_sem,Nat.reduceAdd,Nat.reduceSub,Nat.reduceMul,Nat.reduceLT,Nat.reduceLeDiff,Nat.reduceEqDiff,reduceIte,Int.reduceToNat,Int.reduceLT,Int.reduceLE,Int.reduceEq,Int.reduceNeg,reduceCtorEq,Int.reduceBEq,Int.reduceBNe]);try rfl)):Tri P nt k (.cond c x y) Q fr σ:=bA_ hb (fun h=>by cases h) (fun _=>h)
end
end Go.FH
namespace Go.FH
open Go Go.RowKit
set_option linter.unusedVariables false
set_option linter.unusedSimpArgs false
theorem evP:
 (∀n σ K,gT_ n σ K .mkm []=K (.mp n) [n] true (σ.set n (.map [])))∧
 (∀n σ K kk z ok id k,gT_ n σ K (.lkp kk z ok) [.mp id,k]=(jk_ kk k=true∧match σ[id]? with
  | some (.map es) => (match jQ_ kk k es with
    |some (some j)=>K (if ok then .tup [(es.getD j []).getD 1 .dead,.bool true]else (es.getD j []).getD 1 .dead) [id] false σ
    |some none=>K (if ok then .tup [z,.bool false]else z) [id] false σ
    |none=>False)
  |_=>False))∧
 (∀n σ K kk id k v,gT_ n σ K (.upd kk) [.mp id,k,v]=(jk_ kk k=true∧match σ[id]? with
  | some (.map es) => (match jQ_ kk k es with
    |some (some j)=>K (.tup []) [id] true (σ.set id (.map (es.set j [k,v])))
    |some none=>K (.tup []) [id] true (σ.set id (.map (es++[[k,v]])))
    |none=>False)
  |_=>False))∧
 (∀n σ K id,gT_ n σ K .rng [.mp id]=(match σ[id]? with
  |some (.map es)=>K (.ptr n 0) [n,id] true (σ.set n (.iter id es.length []))
  |_=>False))∧
 (∀n σ K id,gT_ n σ K .ent [.ptr id 0]=(match σ[id]? with
  | some (.iter m N seen) => (match seen.getLast?, σ[m]? with
    |some i,some (.map es)=>es.length=N∧i<N∧K (.tup (es.getD i [])) [id,m] false σ
    |_,_=>False)
  |_=>False))∧
 (∀id σ K,kp_ (.ptr id 0) σ K=(match σ[id]? with
  | some (.iter m N seen) => (match σ[m]? with
    |some (.map es)=>id≠m∧es.length=N∧(∀i,i<N→i∉seen→K (.tup (.bool true::es.getD i [])) (σ.set id (.iter m N (seen++[i]))))∧((∀i,i<N→i∈seen)→K (.tup [.bool false]) σ)
    |_=>False)
  |_=>False))∧
 (∀k n,jk_ none (.int k n)=true)∧(∀n cs,jk_ (some n) (.agg cs)=ep_ [(n,1)] cs)∧
 (∀id,AV.cellsOf (.mp id)=[.mp id])∧(∀σ zs id,fz σ zs (.mp id)=.mp id)∧(∀ρ id,ren ρ (.mp id)=.mp (ρ id)):=
 ⟨fun _ _ _=>rfl,fun _ _ _ _ _ _ _ _=>rfl,fun _ _ _ _ _ _ _=>rfl,fun _ _ _ _=>rfl,fun _ _ _ _=>rfl,fun _ _ _=>rfl,fun _ _=>rfl,fun _ _=>rfl,fun _=>rfl,fun _ _ _=>rfl,fun _ _=>rfl⟩
attribute [go_sem] evP List.getLast?_concat List.getLast?_singleton
def mns(k:IntKind)(m:List (Int×Bool)):List (List AV):=m.map fun p=>[.int k p.1,.bool p.2]
theorem EY_(k:IntKind)(m:List (Int×Bool)):(mns k m).length=m.length:=by simp[mns]
theorem CA_(k:IntKind)(x:Int):∀m:List (Int×Bool),jQ_ none (.int k x) (mns k m)=some (m.findIdx? fun p=>p.1==x)
 | []=>rfl
 | (a, b) :: m => by
   have ih:=CA_ k x m;simp only[mns,List.map_cons,jQ_,jk_,if_true,keq]at ih ⊢;rw[ih,List.findIdx?_cons];by_cases h:a=x
   ·subst h;simp
   ·have h':¬x=a:=fun e=>h e.symm
    simp only[beq_eq_false_iff_ne.2 h',beq_eq_false_iff_ne.2 h,Option.map_some,Bool.false_eq_true,if_false]
theorem Ns_(k:IntKind)(m:List (Int×Bool))(j:Nat)(x:Int)(b:Bool):(mns k m).set j [.int k x,.bool b]=mns k (m.set j (x,b)):=by simp[mns,List.map_set]
theorem Lt_(k:IntKind)(m:List (Int×Bool))(x:Int)(b:Bool):mns k m++[[.int k x,.bool b]]=mns k (m++[(x,b)]):=by simp[mns]
theorem Bg_(k:IntKind)(m:List (Int×Bool)):dh_ (mns k m):=by
 rw[hQ_];intro x hx;obtain⟨p,_,rfl⟩:=List.mem_map.1 hx;exact⟨trivial,trivial,trivial⟩
theorem IY_(ρ:Nat→Nat)(k:IntKind)(m:List (Int×Bool)):bH_ ρ (mns k m)=mns k m:=(Bg_ k m).ren ρ
theorem KW_(σ:St)(zs:List Nat)(k:IntKind)(m:List (Int×Bool)):dZ_ σ zs (mns k m)=mns k m:=(Bg_ k m).fz σ zs
attribute [go_sem] EY_ IY_ KW_ CA_ Ns_ Lt_
end Go.FH
namespace Go.FH
set_option linter.unusedVariables false
set_option linter.unusedSimpArgs false
open Go Go.RowKit
section
variable{P:Program}{C:Cx}{nt k:Nat}{fr:Fr}{σ:St}{loc:Nat→Option Loc}{a:Act}{w:World}
theorem SR.own(h:SR C nt k fr σ loc a w)(e:Nat):SR C nt k fr (σ++[.vec e []]) (eP_ loc σ.length ⟨false,0,0,0⟩) a w:=by
 have hg:loc σ.length=none:=h.rel.beyond _ (Nat.le_refl _);have hp:=h.pad 1;obtain⟨k1,k2⟩:=hp.rel.add (n:=σ.length) (by simp) hg (.vec e []) ⟨false,0,0,0⟩ w (Ev.refl _ _) (σ++List.replicate 1 .gone) (fun _ _ h _=>h) rfl (fun id o' L' _ _ _ _=>⟨(fun h=>by cases h),rfl⟩) (fun h=>by cases h) (fun E _ _=>.inl ⟨rfl,rfl⟩);have hs:(σ++List.replicate 1 be_.gone).set σ.length (.vec e [])=σ++[.vec e []]:=mO_ σ _;rw[hs]at k1 k2;have hle:=gP_ (X:=C.X) hp.rel (cY_ hg _) (Ev.refl _ _) k2;refine⟨k1,fun t=>Rl.mono hle _ _ (hp.frm t),h.size,h.dfr,h.ev,fun b hb=>(k2 b hb).elim (hp.old b) fun h1=>.inr (Nat.le_trans (h.ev.size) h1),fun id hid=>?_,by simp;have:=h.klen;omega⟩;rw[cv_ _ _ _ (by have:=h.klen;omega)];exact h.pre id hid
theorem LH_{E:Env}{e e0 id:Nat}{v:Value}(hl:E.loc id=some ⟨false,0,0,0⟩)(h:Rl E (.sl e0 true []) v):Rl E (.hs e id 0 0) v:=by
 obtain⟨ad,n,cap,h1,h2,h3,h4,h5,h6,h7⟩:=h;have hn:n=0:=by simpa using h2
 have hc:cap=n:=h5 rfl;subst hn;subst hc;exact⟨ad,0,_,h1,Nat.le_refl _,h4,fun _=>rfl,hl,.inl ⟨rfl,fun h=>(by cases h)⟩⟩
theorem cP_{c:ad_}{Q:Ex→Fr→St→Prop}(t e:Nat){e0:Nat}(hq:Tri P nt k c Q (fr.put t (.hs e σ.length 0 0)) (σ++[.vec e []]))(h0:fr.get t=.sl e0 true []:=by first|rfl|(simp only[go_sem];rfl)):Tri P nt k c Q fr σ:=by
 intro fx code hc C loc a w hs;have h1:=hs.own e;refine hq fx code hc C _ a w (h1.putSame t _ (LH_ (e0:=e0) (bY_ _ _ _) ?_));have:=h1.frm t;rwa [h0]at this
theorem FZ_{E:Env}{c:AV}:∀ {cs:List AV} {vs:List Value} (i:Nat),RlC E cs vs→c.cell=true→(∀v,Rl E (cs.getD i .dead) v→Rl E c v)→RlC E (cs.set i c) vs
 | [],_,_,h,_,_=>by simpa using h
 | x :: cs, _, 0, h, hc, hi => by
   obtain⟨u,us,rfl,h2,h3,h4⟩:=h;exact⟨u,us,rfl,hc,hi u (by simpa using h3),h4⟩
 | x :: cs, _, i + 1, h, hc, hi => by
   obtain⟨u,us,rfl,h2,h3,h4⟩:=h;exact⟨u,us,rfl,h2,h3,FZ_ i h4 hc (fun v hv=>hi v (by simpa using hv))⟩
theorem iB_{c:ad_}{Q:Ex→Fr→St→Prop}(id i e:Nat){e0:Nat}{cs:List AV}(hq:Tri P nt k c Q fr (σ.set id (.var (cs.set i (.hs e σ.length 0 0)))++[.vec e []]))(ho:σ[id]?=some (.var cs):=by first|rfl|(simp only[go_sem];rfl))(h0:cs.getD i .dead=.sl e0 true []:=by first|rfl|(simp only[go_sem];rfl)):Tri P nt k c Q fr σ:=by
 intro fx code hc C loc a w hs;have h1:=hs.own e;have hid:id<σ.length:=(List.getElem?_eq_some_iff.1 ho).1;have ho2:(σ++[be_.vec e []])[id]?=some (.var cs):=by rw[List.getElem?_append_left hid];exact ho
 have hset:(σ++[be_.vec e []]).set id (.var (cs.set i (.hs e σ.length 0 0)))=σ.set id (.var (cs.set i (.hs e σ.length 0 0)))++[.vec e []]:=List.set_append_left _ _ hid;refine hq fx code hc C (eP_ loc σ.length ⟨false,0,0,0⟩) a w ?_;rw[←hset]
 have hl:∀b,aB_ ((σ++[be_.vec e []]).set id (.var (cs.set i (.hs e σ.length 0 0)))) (eP_ loc σ.length ⟨false,0,0,0⟩) b↔aB_ (σ++[be_.vec e []]) (eP_ loc σ.length ⟨false,0,0,0⟩) b:=by
  intro b;constructor
  ·rintro⟨j,oj,L,g1,g2,g3,g4⟩;rcases cO_ _ id j _ g1 with⟨rfl,rfl,_⟩|⟨g5,g6⟩
   ·exact⟨_,_,L,ho2,rfl,g3,g4⟩
   ·exact⟨j,oj,L,g6,g2,g3,g4⟩
  ·rintro⟨j,oj,L,g1,g2,g3,g4⟩
   by_cases hj:j=id
   ·subst hj;refine⟨j,.var (cs.set i (.hs e σ.length 0 0)),L,?_,rfl,g3,g4⟩;rw[List.getElem?_set_self (List.getElem?_eq_some_iff.1 g1).1]
   ·exact⟨j,oj,L,by rw[List.getElem?_set_ne (Ne.symm hj)];exact g1,g2,g3,g4⟩
 have hF:dD_ C.X ((σ++[be_.vec e []]).set id (.var (cs.set i (.hs e σ.length 0 0)))) (eP_ loc σ.length ⟨false,0,0,0⟩)=dD_ C.X (σ++[be_.vec e []]) (eP_ loc σ.length ⟨false,0,0,0⟩):=by
  funext b;unfold dD_;rw[hl b]
 have hget:∀ (j:Nat) (o:be_),((σ++[be_.vec e []]).set id (.var (cs.set i (.hs e σ.length 0 0))))[j]?=some o→o.live=true→∃o',(σ++[be_.vec e []])[j]?=some o'∧o'.live=true:=by
  intro j o g1 g2;rcases cO_ _ id j _ g1 with⟨rfl,rfl,_⟩|⟨g5,g6⟩
  ·exact⟨_,ho2,rfl⟩
  ·exact⟨o,g6,g2⟩
 refine⟨⟨fun j o g1 g2=>?_,fun i' j x y La Lb hij g1 g2 g3 g4=>?_,fun b hb=>?_,fun j hj=>h1.rel.beyond j (by simpa using hj)⟩,fun t=>?_,h1.size,h1.dfr,h1.ev,fun b hb=>h1.old b ((hl b).1 hb),h1.pre,by simp;have:=hs.klen;omega⟩
 ·show ∃L,_∧eR_ ⟨_,dD_ C.X _ _,w⟩ L o
  rw[hF];rcases cO_ _ id j _ g1 with⟨rfl,rfl,_⟩|⟨g5,g6⟩
  ·obtain⟨L,m1,m2,m3,vs,t,m4,m5⟩:=h1.rel.obj _ _ ho2 rfl;exact⟨L,m1,m2,m3,vs,t,m4,FZ_ i m5 rfl fun v hv=>LH_ (e0:=e0) (bY_ _ _ _) (by rwa [h0]at hv)⟩
  ·exact h1.rel.obj j o g6 g2
 ·obtain⟨x',k1,k2⟩:=hget i' x g1 g3;obtain⟨y',k3,k4⟩:=hget j y g2 g4;exact h1.rel.apart i' j x' y' La Lb hij k1 k3 k2 k4
 ·rw[hl b];exact h1.rel.out b hb
 ·show Rl ⟨_,dD_ C.X _ _,w⟩ _ _
  rw[hF];exact h1.frm t
theorem PC.weak{f:FuncId}{args:List AV}{r r':AV}(h:PC P f args r)(hw:Wk r r')(hr:Pu r'):PC P f args r':=
 ⟨⟨h.call.1,h.call.2.1,fun X loc w vs hrel hv=>(h.call.2.2 X loc w vs hrel hv).mono fun e w' ⟨v,loc',h1,h2,h3⟩=>⟨v,loc',h1,⟨h2.locs,h2.rel,hw _ _ h2.val,h2.ev,h2.old⟩,h3⟩⟩,h.pa,hr⟩
def hl_(us:List (Nat×AV))(vs:List AV):List AV:=us.foldl (fun l p=>l.set p.1 p.2) vs
theorem am_{ι:Type}{x:ad_}{Q:Ex→Fr→St→Prop}{nv:Nat}{vs:List AV}{ts:List (Nat×AV)}(us:ι→List (Nat×AV))(S:ι→St)(μ:ι→Nat)(ok:ι→Prop)(x0:ι)(h0:ok x0)(hgc:GC k ⟨nv,vs,ts⟩ σ ⟨nv,hl_ (us x0) vs,[]⟩ (S x0))
 (round:∀i,ok i→Tri P nt k x (fu_ (fun fr σ=>∃j,ok j∧μ j<μ i∧GC k fr σ ⟨nv,hl_ (us j) vs,[]⟩ (S j)) Q) ⟨nv,hl_ (us i) vs,[]⟩ (S i)):Tri P nt k (.loop x) Q ⟨nv,vs,ts⟩ σ:=
 gs_ (fun i=>⟨nv,hl_ (us i) vs,[]⟩) S μ ok x0 h0 hgc round
theorem ar_(vs:List AV):hl_ [] vs=vs:=rfl
theorem ao_(p:Nat×AV)(us:List (Nat×AV))(vs:List AV):hl_ (p::us) vs=hl_ us (vs.set p.1 p.2):=rfl
attribute [go_sem] ar_ ao_
theorem aW_{c:Opd}{x y:ad_}{Q:Ex→Fr→St→Prop}{t:Bool}(h1:t=true→Tri P nt k x Q fr σ)(h2:t=false→Tri P nt k y Q fr σ)(hb:c.ev fr=.bool t:=by first|rfl|(simp only[go_sem];rfl)):Tri P nt k (.cond c x y) Q fr σ:=bA_ hb h1 h2
end
theorem wk_{a b c:List AV}(ha:a.length=33)(hb:b.length=33):cut (a++(b++c)) 0 66=a++b:=by
 unfold cut;rw[List.drop_zero,←List.append_assoc,show 66=(a++b).length by simp[ha,hb],List.take_left]
theorem xd_{a b c x y:List AV}(ha:a.length+b.length=x.length+y.length):spl (a++(b++c)) 0 (x++y)=x++(y++c):=by
 unfold spl;simp only[List.take_zero,List.nil_append,Nat.zero_add,List.append_assoc];rw[←List.append_assoc a b c,List.drop_left' (by simp;omega)]
structure Lim where
 node:Int
 orph:Int
 early:Int
 table:Int
 retry:Int
 backoff:Int
 deriving Inhabited,DecidableEq
def cu_(x:Lim):List AV:=.int .i64 x.node::(.int .i64 x.orph::(.int .i64 x.early::(.int .i64 x.table::(.int .i64 x.retry::[.int .u64 x.backoff]))))
@[simp] theorem bs_(x:Lim):(cu_ x).length=6:=by simp only[cu_,List.length_cons,List.length_append,List.length_nil]
theorem Iv_(node:Int)(orph:Int)(early:Int)(table:Int)(retry:Int)(backoff:Int):.int .i64 node::(.int .i64 orph::(.int .i64 early::(.int .i64 table::(.int .i64 retry::[.int .u64 backoff]))))=cu_ ⟨node,orph,early,table,retry,backoff⟩:=rfl
theorem Iw_(x:Lim):cut (cu_ x) 0 6=cu_ x:=ci_ (bs_ x)
theorem wQ_(x:Lim):cut (cu_ x) 0 1=[.int .i64 x.node]:=by unfold cu_;all_goals rfl
theorem wS_(x:Lim)(v:Int):spl (cu_ x) 0 [.int .i64 v]=cu_ { x with node:=v }:=by unfold cu_;all_goals rfl
theorem wR_(x:Lim):cut (cu_ x) 1 1=[.int .i64 x.orph]:=by unfold cu_;rw[cS1];simp only[Nat.reduceSub];all_goals rfl
theorem wT_(x:Lim)(v:Int):spl (cu_ x) 1 [.int .i64 v]=cu_ { x with orph:=v }:=by unfold cu_;rw[pS1];simp only[Nat.reduceSub];all_goals rfl
theorem ux_(x:Lim):cut (cu_ x) 2 1=[.int .i64 x.early]:=by unfold cu_;rw[cS1,cS1];simp only[Nat.reduceSub];all_goals rfl
theorem uA_(x:Lim)(v:Int):spl (cu_ x) 2 [.int .i64 v]=cu_ { x with early:=v }:=by unfold cu_;rw[pS1,pS1];simp only[Nat.reduceSub];all_goals rfl
theorem uz_(x:Lim):cut (cu_ x) 3 1=[.int .i64 x.table]:=by unfold cu_;rw[cS1,cS1,cS1];simp only[Nat.reduceSub];all_goals rfl
theorem uC_(x:Lim)(v:Int):spl (cu_ x) 3 [.int .i64 v]=cu_ { x with table:=v }:=by unfold cu_;rw[pS1,pS1,pS1];simp only[Nat.reduceSub];all_goals rfl
theorem uy_(x:Lim):cut (cu_ x) 4 1=[.int .i64 x.retry]:=by unfold cu_;rw[cS1,cS1];rw[cS1,cS1];simp only[Nat.reduceSub];all_goals rfl
theorem uB_(x:Lim)(v:Int):spl (cu_ x) 4 [.int .i64 v]=cu_ { x with retry:=v }:=by unfold cu_;rw[pS1,pS1];rw[pS1,pS1];simp only[Nat.reduceSub];all_goals rfl
theorem qN_(x:Lim):cut (cu_ x) 5 1=[.int .u64 x.backoff]:=by unfold cu_;rw[cS1,cS1];rw[cS1,cS1,cS1];simp only[Nat.reduceSub];all_goals rfl
theorem qO_(x:Lim)(v:Int):spl (cu_ x) 5 [.int .u64 v]=cu_ { x with backoff:=v }:=by unfold cu_;rw[pS1,pS1];rw[pS1,pS1,pS1];simp only[Nat.reduceSub];all_goals rfl
theorem np_(x:Lim):aU_ (cu_ x)=true:=by simp[cu_,ba_,bh_,bi_,AV.cell]
theorem gA_(x:Lim):PuL (cu_ x):=by simp[cu_,cB_,PuL,Pu]
theorem qY_(ρ:Nat→Nat)(x:Lim):bS_ ρ (cu_ x)=cu_ x:=(gA_ x).ren ρ
theorem Cg_(σ:St)(zs:List Nat)(x:Lim):fzL σ zs (cu_ x)=cu_ x:=(gA_ x).fz σ zs
theorem EN_(x:Lim):(cu_ x).map ce_=cj_ [(6,1)]:=by simp only[cu_,List.map_cons,List.map_append,List.map_nil,ce_];decide +kernel
theorem Ic_(x:Lim):ep_ [(6,1)] (cu_ x)=true:=dM_ (EN_ x)
theorem He_(x y:Lim):dz_ (cu_ x) (cu_ y)=some (decide (x=y)):=by cases x;cases y;simp[cu_,eT_,dz_,oi_,ag_,aC_,Bool.beq_eq_decide_eq,hD_,Bool.and_assoc,Bool.decide_and]
def Po_:Lim:=⟨0,0,0,0,0,0⟩
structure Cfg where
 lim:Lim
 spe:Int
 boost:Int
 ttd:Wd
 gen:Rt
 bals:AV
 deriving Inhabited
def bf_(x:Cfg):List AV:=cu_ x.lim++(.int .u64 x.spe::(.int .u64 x.boost::(wdc x.ttd++(rtc x.gen++[x.bals]))))
@[simp] theorem aE_(x:Cfg):(bf_ x).length=45:=by simp only[bf_,List.length_cons,List.length_append,List.length_nil,bs_,ag_,aC_]
theorem HC_(lim:Lim)(spe:Int)(boost:Int)(ttd:Wd)(gen:Rt)(bals:AV):cu_ lim++(.int .u64 spe::(.int .u64 boost::(wdc ttd++(rtc gen++[bals]))))=bf_ ⟨lim,spe,boost,ttd,gen,bals⟩:=rfl
theorem HD_(x:Cfg):cut (bf_ x) 0 45=bf_ x:=ci_ (aE_ x)
theorem zm_(x:Cfg)(o n:Nat)(h1:0≤o)(h2:o+n≤6):cut (bf_ x) o n=cut (cu_ x.lim) (o-0) n:=by unfold bf_;rw[cL1 (bs_ _)];all_goals rfl
theorem zq_(x:Cfg)(o:Nat)(vs:List AV)(h1:0≤o)(h2:o+vs.length≤6):spl (bf_ x) o vs=spl (cu_ x.lim) (o-0) vs++(.int .u64 x.spe::(.int .u64 x.boost::(wdc x.ttd++(rtc x.gen++[x.bals])))):=by unfold bf_;rw[pL1 (bs_ _)];all_goals rfl
theorem zn_(x:Cfg):cut (bf_ x) 6 1=[.int .u64 x.spe]:=by unfold bf_;rw[cR1 (bs_ _)];simp only[Nat.reduceSub];all_goals rfl
theorem zr_(x:Cfg)(v:Int):spl (bf_ x) 6 [.int .u64 v]=bf_ { x with spe:=v }:=by unfold bf_;rw[pR1 (bs_ _)];simp only[Nat.reduceSub];all_goals rfl
theorem tw_(x:Cfg):cut (bf_ x) 7 1=[.int .u64 x.boost]:=by unfold bf_;rw[cR1 (bs_ _),cS1];simp only[Nat.reduceSub];all_goals rfl
theorem tx_(x:Cfg)(v:Int):spl (bf_ x) 7 [.int .u64 v]=bf_ { x with boost:=v }:=by unfold bf_;rw[pR1 (bs_ _),pS1];simp only[Nat.reduceSub];all_goals rfl
theorem zo_(x:Cfg)(o n:Nat)(h1:8≤o)(h2:o+n≤12):cut (bf_ x) o n=cut (wdc x.ttd) (o-8) n:=by unfold bf_;rw[cR1 (bs_ _),cS1];rw[cS1,cL1 (aC_ _)];rw[show o-6-1-1=o-8 by omega]
theorem zs_(x:Cfg)(o:Nat)(vs:List AV)(h1:8≤o)(h2:o+vs.length≤12):spl (bf_ x) o vs=cu_ x.lim++(.int .u64 x.spe::(.int .u64 x.boost::(spl (wdc x.ttd) (o-8) vs++(rtc x.gen++[x.bals])))):=by unfold bf_;rw[pR1 (bs_ _),pS1];rw[pS1,pL1 (aC_ _)];rw[show o-6-1-1=o-8 by omega]
theorem zl_(x:Cfg)(o n:Nat)(h1:12≤o)(h2:o+n≤44):cut (bf_ x) o n=cut (rtc x.gen) (o-12) n:=by unfold bf_;rw[cR1 (bs_ _),cS1];rw[cS1,cR1 (aC_ _),cL1 (ag_ _)];rw[show o-6-1-1-4=o-12 by omega]
theorem zp_(x:Cfg)(o:Nat)(vs:List AV)(h1:12≤o)(h2:o+vs.length≤44):spl (bf_ x) o vs=cu_ x.lim++(.int .u64 x.spe::(.int .u64 x.boost::(wdc x.ttd++(spl (rtc x.gen) (o-12) vs++[x.bals])))):=by unfold bf_;rw[pR1 (bs_ _),pS1];rw[pS1,pR1 (aC_ _),pL1 (ag_ _)];rw[show o-6-1-1-4=o-12 by omega]
theorem vX_(x:Cfg):cut (bf_ x) 44 1=[x.bals]:=by unfold bf_;rw[cR1 (bs_ _),cS1];rw[cS1,cR1 (aC_ _),cR1 (ag_ _)];simp only[Nat.reduceSub];all_goals rfl
theorem vY_(x:Cfg)(v:AV):spl (bf_ x) 44 [v]=bf_ { x with bals:=v }:=by unfold bf_;rw[pR1 (bs_ _),pS1];rw[pS1,pR1 (aC_ _),pR1 (ag_ _)];simp only[Nat.reduceSub];all_goals rfl
def Cfg.map(g:AV→AV)(x:Cfg):Cfg:={ x with bals:=g x.bals }
theorem Cfg.map_mk(g:AV→AV)(lim:Lim)(spe:Int)(boost:Int)(ttd:Wd)(gen:Rt)(bals:AV):Cfg.map g ⟨lim,spe,boost,ttd,gen,bals⟩=⟨lim,spe,boost,ttd,gen,g bals⟩:=rfl
def Cfg.good(x:Cfg):Bool:=x.bals.cell
theorem Cfg.good_mk(lim:Lim)(spe:Int)(boost:Int)(ttd:Wd)(gen:Rt)(bals:AV):Cfg.good ⟨lim,spe,boost,ttd,gen,bals⟩=(bals.cell):=rfl
def Cfg.Pure(x:Cfg):Prop:=Pu x.bals
theorem nm_(x:Cfg):aU_ (bf_ x)=x.good:=by simp[bf_,Cfg.good,Bool.and_assoc,ba_,bh_,bi_,AV.cell,np_,ch_,jZ_]
theorem Bi_(x:Cfg):PuL (bf_ x)↔x.Pure:=by simp[bf_,Cfg.Pure,cB_,PuL,Pu,gA_,cc_,gv_]
theorem qW_(ρ:Nat→Nat)(x:Cfg):bS_ ρ (bf_ x)=bf_ (x.map (ren ρ)):=by simp only[bf_,Cfg.map,gV_,bS_,ren,qY_,mr_,CV_]
theorem Cd_(σ:St)(zs:List Nat)(x:Cfg):fzL σ zs (bf_ x)=bf_ (x.map (fz σ zs)):=by simp only[bf_,Cfg.map,hC_,fzL,fz,Cg_,pM_,Go_]
def ih_:Cfg:=⟨Po_,0,0,wd0,rt0,.sl 0 true []⟩
structure Vot where
 has:Bool
 ep:Int
 root:Rt
 deriving Inhabited,DecidableEq
def aZ_(x:Vot):List AV:=.bool x.has::(.int .u64 x.ep::(rtc x.root))
@[simp] theorem mk_(x:Vot):(aZ_ x).length=34:=by simp only[aZ_,List.length_cons,List.length_append,List.length_nil,ag_]
theorem JT_(has:Bool)(ep:Int)(root:Rt):.bool has::(.int .u64 ep::(rtc root))=aZ_ ⟨has,ep,root⟩:=rfl
theorem JU_(x:Vot):cut (aZ_ x) 0 34=aZ_ x:=ci_ (mk_ x)
theorem Ba_(x:Vot):cut (aZ_ x) 0 1=[.bool x.has]:=by unfold aZ_;all_goals rfl
theorem Bb_(x:Vot)(v:Bool):spl (aZ_ x) 0 [.bool v]=aZ_ { x with has:=v }:=by unfold aZ_;all_goals rfl
theorem DH_(x:Vot):cut (aZ_ x) 1 1=[.int .u64 x.ep]:=by unfold aZ_;rw[cS1];simp only[Nat.reduceSub];all_goals rfl
theorem DI_(x:Vot)(v:Int):spl (aZ_ x) 1 [.int .u64 v]=aZ_ { x with ep:=v }:=by unfold aZ_;rw[pS1];simp only[Nat.reduceSub];all_goals rfl
theorem xz_(x:Vot)(o n:Nat)(h1:2≤o)(h2:o+n≤34):cut (aZ_ x) o n=cut (rtc x.root) (o-2) n:=by unfold aZ_;rw[cS1,cS1];rw[show o-1-1=o-2 by omega]
theorem xA_(x:Vot)(o:Nat)(vs:List AV)(h1:2≤o)(h2:o+vs.length≤34):spl (aZ_ x) o vs=.bool x.has::(.int .u64 x.ep::(spl (rtc x.root) (o-2) vs)):=by unfold aZ_;rw[pS1,pS1];rw[show o-1-1=o-2 by omega]
theorem vH_(x:Vot):aU_ (aZ_ x)=true:=by simp[aZ_,ba_,bh_,bi_,AV.cell,ch_]
theorem hS_(x:Vot):PuL (aZ_ x):=by simp[aZ_,cB_,PuL,Pu,cc_]
theorem yG_(ρ:Nat→Nat)(x:Vot):bS_ ρ (aZ_ x)=aZ_ x:=(hS_ x).ren ρ
theorem Le_(σ:St)(zs:List Nat)(x:Vot):fzL σ zs (aZ_ x)=aZ_ x:=(hS_ x).fz σ zs
theorem ER_(x:Vot):(aZ_ x).map ce_=cj_ [(1,0),(33,1)]:=by simp only[aZ_,List.map_cons,List.map_append,List.map_nil,ce_,go_];decide +kernel
theorem Ih_(x:Vot):ep_ [(1,0),(33,1)] (aZ_ x)=true:=dM_ (ER_ x)
theorem Hi_(x y:Vot):dz_ (aZ_ x) (aZ_ y)=some (decide (x=y)):=by cases x;cases y;simp[aZ_,eT_,dz_,oi_,ag_,aC_,gB_,Bool.beq_eq_decide_eq,hD_,Bool.and_assoc,Bool.decide_and]
def eh_:Vot:=⟨false,0,rt0⟩
structure Nod where
 blk:Blk
 up:Int
 status:Int
 deriving Inhabited,DecidableEq
def aG_(x:Nod):List AV:=ap_ x.blk++(.int .i64 x.up::[.int .i64 x.status])
@[simp] theorem mh_(x:Nod):(aG_ x).length=240:=by simp only[aG_,List.length_cons,List.length_append,List.length_nil,aV_]
theorem IA_(blk:Blk)(up:Int)(status:Int):ap_ blk++(.int .i64 up::[.int .i64 status])=aG_ ⟨blk,up,status⟩:=rfl
theorem IB_(x:Nod):cut (aG_ x) 0 240=aG_ x:=ci_ (mh_ x)
theorem Ae_(x:Nod)(o n:Nat)(h1:0≤o)(h2:o+n≤238):cut (aG_ x) o n=cut (ap_ x.blk) (o-0) n:=by unfold aG_;rw[cL1 (aV_ _)];all_goals rfl
theorem Af_(x:Nod)(o:Nat)(vs:List AV)(h1:0≤o)(h2:o+vs.length≤238):spl (aG_ x) o vs=spl (ap_ x.blk) (o-0) vs++(.int .i64 x.up::[.int .i64 x.status]):=by unfold aG_;rw[pL1 (aV_ _)];all_goals rfl
theorem CB_(x:Nod):cut (aG_ x) 238 1=[.int .i64 x.up]:=by unfold aG_;rw[cR1 (aV_ _)];simp only[Nat.reduceSub];all_goals rfl
theorem CC_(x:Nod)(v:Int):spl (aG_ x) 238 [.int .i64 v]=aG_ { x with up:=v }:=by unfold aG_;rw[pR1 (aV_ _)];simp only[Nat.reduceSub];all_goals rfl
theorem su_(x:Nod):cut (aG_ x) 239 1=[.int .i64 x.status]:=by unfold aG_;rw[cR1 (aV_ _),cS1];simp only[Nat.reduceSub];all_goals rfl
theorem sv_(x:Nod)(v:Int):spl (aG_ x) 239 [.int .i64 v]=aG_ { x with status:=v }:=by unfold aG_;rw[pR1 (aV_ _),pS1];simp only[Nat.reduceSub];all_goals rfl
theorem vD_(x:Nod):aU_ (aG_ x)=true:=by simp[aG_,ba_,bh_,bi_,AV.cell,jf_]
theorem hR_(x:Nod):PuL (aG_ x):=by simp[aG_,cB_,PuL,Pu,dH_]
theorem yA_(ρ:Nat→Nat)(x:Nod):bS_ ρ (aG_ x)=aG_ x:=(hR_ x).ren ρ
theorem KZ_(σ:St)(zs:List Nat)(x:Nod):fzL σ zs (aG_ x)=aG_ x:=(hR_ x).fz σ zs
theorem EO_(x:Nod):(aG_ x).map ce_=cj_ [(237,1),(1,0),(2,1)]:=by simp only[aG_,List.map_cons,List.map_append,List.map_nil,ce_,us_];decide +kernel
theorem Id_(x:Nod):ep_ [(237,1),(1,0),(2,1)] (aG_ x)=true:=dM_ (EO_ x)
theorem Hf_(x y:Nod):dz_ (aG_ x) (aG_ y)=some (decide (x=y)):=by cases x;cases y;simp[aG_,eT_,dz_,oi_,ag_,aC_,xF_,Bool.beq_eq_decide_eq,hD_,Bool.and_assoc,Bool.decide_and]
def dE_:Nod:=⟨bR_,0,0⟩
structure Sto where
 cfg:Cfg
 latest:AV
 eqv:AV
 j:Cp
 f:Cp
 early:AV
 orph:AV
 nodes:AV
 now:Int
 boost:Rt
 tabs:AV
 deriving Inhabited
def ai_(x:Sto):List AV:=bf_ x.cfg++(x.latest::(x.eqv::(cpC x.j++(cpC x.f++(x.early::(x.orph::(x.nodes::(.int .u64 x.now::(rtc x.boost++[x.tabs])))))))))
@[simp] theorem bc_(x:Sto):(ai_ x).length=150:=by simp only[ai_,List.length_cons,List.length_append,List.length_nil,aE_,al_,ag_]
theorem Jz_(cfg:Cfg)(latest:AV)(eqv:AV)(j:Cp)(f:Cp)(early:AV)(orph:AV)(nodes:AV)(now:Int)(boost:Rt)(tabs:AV):bf_ cfg++(latest::(eqv::(cpC j++(cpC f++(early::(orph::(nodes::(.int .u64 now::(rtc boost++[tabs])))))))))=ai_ ⟨cfg,latest,eqv,j,f,early,orph,nodes,now,boost,tabs⟩:=rfl
theorem JA_(x:Sto):cut (ai_ x) 0 150=ai_ x:=ci_ (bc_ x)
theorem AN_(x:Sto)(o n:Nat)(h1:0≤o)(h2:o+n≤45):cut (ai_ x) o n=cut (bf_ x.cfg) (o-0) n:=by unfold ai_;rw[cL1 (aE_ _)];all_goals rfl
theorem AR_(x:Sto)(o:Nat)(vs:List AV)(h1:0≤o)(h2:o+vs.length≤45):spl (ai_ x) o vs=spl (bf_ x.cfg) (o-0) vs++(x.latest::(x.eqv::(cpC x.j++(cpC x.f++(x.early::(x.orph::(x.nodes::(.int .u64 x.now::(rtc x.boost++[x.tabs]))))))))):=by unfold ai_;rw[pL1 (aE_ _)];all_goals rfl
theorem sG_(x:Sto):cut (ai_ x) 45 1=[x.latest]:=by unfold ai_;rw[cR1 (aE_ _)];simp only[Nat.reduceSub];all_goals rfl
theorem sH_(x:Sto)(v:AV):spl (ai_ x) 45 [v]=ai_ { x with latest:=v }:=by unfold ai_;rw[pR1 (aE_ _)];simp only[Nat.reduceSub];all_goals rfl
theorem AO_(x:Sto):cut (ai_ x) 46 1=[x.eqv]:=by unfold ai_;rw[cR1 (aE_ _),cS1];simp only[Nat.reduceSub];all_goals rfl
theorem AS_(x:Sto)(v:AV):spl (ai_ x) 46 [v]=ai_ { x with eqv:=v }:=by unfold ai_;rw[pR1 (aE_ _),pS1];simp only[Nat.reduceSub];all_goals rfl
theorem FQ_(x:Sto)(o n:Nat)(h1:47≤o)(h2:o+n≤80):cut (ai_ x) o n=cut (cpC x.j) (o-47) n:=by unfold ai_;rw[cR1 (aE_ _),cS1];rw[cS1,cL1 (al_ _)];rw[show o-45-1-1=o-47 by omega]
theorem FS_(x:Sto)(o:Nat)(vs:List AV)(h1:47≤o)(h2:o+vs.length≤80):spl (ai_ x) o vs=bf_ x.cfg++(x.latest::(x.eqv::(spl (cpC x.j) (o-47) vs++(cpC x.f++(x.early::(x.orph::(x.nodes::(.int .u64 x.now::(rtc x.boost++[x.tabs]))))))))):=by unfold ai_;rw[pR1 (aE_ _),pS1];rw[pS1,pL1 (al_ _)];rw[show o-45-1-1=o-47 by omega]
theorem FP_(x:Sto)(o n:Nat)(h1:80≤o)(h2:o+n≤113):cut (ai_ x) o n=cut (cpC x.f) (o-80) n:=by unfold ai_;rw[cR1 (aE_ _),cS1];rw[cS1,cR1 (al_ _),cL1 (al_ _)];rw[show o-45-1-1-33=o-80 by omega]
theorem FR_(x:Sto)(o:Nat)(vs:List AV)(h1:80≤o)(h2:o+vs.length≤113):spl (ai_ x) o vs=bf_ x.cfg++(x.latest::(x.eqv::(cpC x.j++(spl (cpC x.f) (o-80) vs++(x.early::(x.orph::(x.nodes::(.int .u64 x.now::(rtc x.boost++[x.tabs]))))))))):=by unfold ai_;rw[pR1 (aE_ _),pS1];rw[pS1,pR1 (al_ _),pL1 (al_ _)];rw[show o-45-1-1-33=o-80 by omega]
theorem vp_(x:Sto):cut (ai_ x) 113 1=[x.early]:=by unfold ai_;rw[cR1 (aE_ _),cS1];rw[cS1,cR1 (al_ _),cR1 (al_ _)];simp only[Nat.reduceSub];all_goals rfl
theorem vs_(x:Sto)(v:AV):spl (ai_ x) 113 [v]=ai_ { x with early:=v }:=by unfold ai_;rw[pR1 (aE_ _),pS1];rw[pS1,pR1 (al_ _),pR1 (al_ _)];simp only[Nat.reduceSub];all_goals rfl
theorem xq_(x:Sto):cut (ai_ x) 114 1=[x.orph]:=by unfold ai_;rw[cR1 (aE_ _),cS1];rw[cS1,cR1 (al_ _)];rw[cR1 (al_ _),cS1];simp only[Nat.reduceSub];all_goals rfl
theorem xs_(x:Sto)(v:AV):spl (ai_ x) 114 [v]=ai_ { x with orph:=v }:=by unfold ai_;rw[pR1 (aE_ _),pS1];rw[pS1,pR1 (al_ _)];rw[pR1 (al_ _),pS1];simp only[Nat.reduceSub];all_goals rfl
theorem vq_(x:Sto):cut (ai_ x) 115 1=[x.nodes]:=by unfold ai_;rw[cR1 (aE_ _),cS1];rw[cS1,cR1 (al_ _)];rw[cR1 (al_ _),cS1,cS1];simp only[Nat.reduceSub];all_goals rfl
theorem vt_(x:Sto)(v:AV):spl (ai_ x) 115 [v]=ai_ { x with nodes:=v }:=by unfold ai_;rw[pR1 (aE_ _),pS1];rw[pS1,pR1 (al_ _)];rw[pR1 (al_ _),pS1,pS1];simp only[Nat.reduceSub];all_goals rfl
theorem AQ_(x:Sto):cut (ai_ x) 116 1=[.int .u64 x.now]:=by unfold ai_;rw[cR1 (aE_ _),cS1];rw[cS1,cR1 (al_ _)];rw[cR1 (al_ _),cS1];rw[cS1,cS1];simp only[Nat.reduceSub];all_goals rfl
theorem AT_(x:Sto)(v:Int):spl (ai_ x) 116 [.int .u64 v]=ai_ { x with now:=v }:=by unfold ai_;rw[pR1 (aE_ _),pS1];rw[pS1,pR1 (al_ _)];rw[pR1 (al_ _),pS1];rw[pS1,pS1];simp only[Nat.reduceSub];all_goals rfl
theorem vo_(x:Sto)(o n:Nat)(h1:117≤o)(h2:o+n≤149):cut (ai_ x) o n=cut (rtc x.boost) (o-117) n:=by unfold ai_;rw[cR1 (aE_ _),cS1];rw[cS1,cR1 (al_ _)];rw[cR1 (al_ _),cS1];rw[cS1,cS1];rw[cS1,cL1 (ag_ _)];rw[show o-45-1-1-33-33-1-1-1-1=o-117 by omega]
theorem vr_(x:Sto)(o:Nat)(vs:List AV)(h1:117≤o)(h2:o+vs.length≤149):spl (ai_ x) o vs=bf_ x.cfg++(x.latest::(x.eqv::(cpC x.j++(cpC x.f++(x.early::(x.orph::(x.nodes::(.int .u64 x.now::(spl (rtc x.boost) (o-117) vs++[x.tabs]))))))))):=by unfold ai_;rw[pR1 (aE_ _),pS1];rw[pS1,pR1 (al_ _)];rw[pR1 (al_ _),pS1];rw[pS1,pS1];rw[pS1,pL1 (ag_ _)];rw[show o-45-1-1-33-33-1-1-1-1=o-117 by omega]
theorem xr_(x:Sto):cut (ai_ x) 149 1=[x.tabs]:=by unfold ai_;rw[cR1 (aE_ _),cS1];rw[cS1,cR1 (al_ _)];rw[cR1 (al_ _),cS1];rw[cS1,cS1];rw[cS1,cR1 (ag_ _)];simp only[Nat.reduceSub];all_goals rfl
theorem xt_(x:Sto)(v:AV):spl (ai_ x) 149 [v]=ai_ { x with tabs:=v }:=by unfold ai_;rw[pR1 (aE_ _),pS1];rw[pS1,pR1 (al_ _)];rw[pR1 (al_ _),pS1];rw[pS1,pS1];rw[pS1,pR1 (ag_ _)];simp only[Nat.reduceSub];all_goals rfl
theorem ne_(x:Sto):cut (ai_ x) 45 2=x.latest::[x.eqv]:=by unfold ai_;rw[cR1 (aE_ _)];(try simp only[Nat.reduceSub]);rfl
theorem ng_(x:Sto)(y1:AV)(y2:AV):spl (ai_ x) 45 (y1::[y2])=ai_ { x with latest:=y1,eqv:=y2 }:=by unfold ai_;rw[pR1 (aE_ _)];(try simp only[Nat.reduceSub]);rfl
theorem AP_(x:Sto):cut (ai_ x) 47 66=cpC x.j++(cpC x.f):=by unfold ai_;rw[cR1 (aE_ _),cS1,cS1];(try simp only[Nat.reduceSub]);exact wk_ (by simp) (by simp)
theorem qf_(x:Sto)(y3:Cp)(y4:Cp):spl (ai_ x) 47 (cpC y3++(cpC y4))=ai_ { x with j:=y3,f:=y4 }:=by unfold ai_;rw[pR1 (aE_ _),pS1,pS1];(try simp only[Nat.reduceSub]);rw[xd_];all_goals first|rfl|simp
theorem nd_(x:Sto):cut (ai_ x) 113 2=x.early::[x.orph]:=by unfold ai_;rw[cR1 (aE_ _),cS1];rw[cS1,cR1 (al_ _),cR1 (al_ _)];(try simp only[Nat.reduceSub]);rfl
theorem nf_(x:Sto)(y5:AV)(y6:AV):spl (ai_ x) 113 (y5::[y6])=ai_ { x with early:=y5,orph:=y6 }:=by unfold ai_;rw[pR1 (aE_ _),pS1];rw[pS1,pR1 (al_ _),pR1 (al_ _)];(try simp only[Nat.reduceSub]);rfl
def Sto.map(g:AV→AV)(x:Sto):Sto:={ x with cfg:=x.cfg.map g,latest:=g x.latest,eqv:=g x.eqv,early:=g x.early,orph:=g x.orph,nodes:=g x.nodes,tabs:=g x.tabs }
theorem Sto.map_mk(g:AV→AV)(cfg:Cfg)(latest:AV)(eqv:AV)(j:Cp)(f:Cp)(early:AV)(orph:AV)(nodes:AV)(now:Int)(boost:Rt)(tabs:AV):Sto.map g ⟨cfg,latest,eqv,j,f,early,orph,nodes,now,boost,tabs⟩=⟨cfg.map g,g latest,g eqv,j,f,g early,g orph,g nodes,now,boost,g tabs⟩:=rfl
def Sto.good(x:Sto):Bool:=x.cfg.good&&x.latest.cell&&x.eqv.cell&&x.early.cell&&x.orph.cell&&x.nodes.cell&&x.tabs.cell
theorem Sto.good_mk(cfg:Cfg)(latest:AV)(eqv:AV)(j:Cp)(f:Cp)(early:AV)(orph:AV)(nodes:AV)(now:Int)(boost:Rt)(tabs:AV):Sto.good ⟨cfg,latest,eqv,j,f,early,orph,nodes,now,boost,tabs⟩=(cfg.good&&latest.cell&&eqv.cell&&early.cell&&orph.cell&&nodes.cell&&tabs.cell):=rfl
def Sto.Pure(x:Sto):Prop:=x.cfg.Pure∧Pu x.latest∧Pu x.eqv∧Pu x.early∧Pu x.orph∧Pu x.nodes∧Pu x.tabs
theorem ns_(x:Sto):aU_ (ai_ x)=x.good:=by simp[ai_,Sto.good,Bool.and_assoc,ba_,bh_,bi_,AV.cell,nm_,eC_,ch_]
theorem lh_(x:Sto):PuL (ai_ x)↔x.Pure:=by simp[ai_,Sto.Pure,cB_,PuL,Pu,Bi_,dv_,cc_]
theorem qZ_(ρ:Nat→Nat)(x:Sto):bS_ ρ (ai_ x)=ai_ (x.map (ren ρ)):=by simp only[ai_,Sto.map,gV_,bS_,ren,qW_,pX_,mr_]
theorem Ci_(σ:St)(zs:List Nat)(x:Sto):fzL σ zs (ai_ x)=ai_ (x.map (fz σ zs)):=by simp only[ai_,Sto.map,hC_,fzL,fz,Cd_,sR_,pM_]
def bI_:Sto:=⟨ih_,.sl 0 true [],.sl 0 true [],cp0,cp0,.sl 0 true [],.sl 0 true [],.sl 0 true [],0,rt0,.sl 0 true []⟩
structure Req where
 tag:Int
 block:Rt
 tries:Int
 due:Int
 deriving Inhabited,DecidableEq
def aJ_(x:Req):List AV:=.int .u64 x.tag::(rtc x.block++(.int .i64 x.tries::[.int .u64 x.due]))
@[simp] theorem mi_(x:Req):(aJ_ x).length=35:=by simp only[aJ_,List.length_cons,List.length_append,List.length_nil,ag_]
theorem Je_(tag:Int)(block:Rt)(tries:Int)(due:Int):.int .u64 tag::(rtc block++(.int .i64 tries::[.int .u64 due]))=aJ_ ⟨tag,block,tries,due⟩:=rfl
theorem Jf_(x:Req):cut (aJ_ x) 0 35=aJ_ x:=ci_ (mi_ x)
theorem Am_(x:Req):cut (aJ_ x) 0 1=[.int .u64 x.tag]:=by unfold aJ_;all_goals rfl
theorem Ao_(x:Req)(v:Int):spl (aJ_ x) 0 [.int .u64 v]=aJ_ { x with tag:=v }:=by unfold aJ_;all_goals rfl
theorem uZ_(x:Req)(o n:Nat)(h1:1≤o)(h2:o+n≤33):cut (aJ_ x) o n=cut (rtc x.block) (o-1) n:=by unfold aJ_;rw[cS1,cL1 (ag_ _)];all_goals rfl
theorem vb_(x:Req)(o:Nat)(vs:List AV)(h1:1≤o)(h2:o+vs.length≤33):spl (aJ_ x) o vs=.int .u64 x.tag::(spl (rtc x.block) (o-1) vs++(.int .i64 x.tries::[.int .u64 x.due])):=by unfold aJ_;rw[pS1,pL1 (ag_ _)];all_goals rfl
theorem va_(x:Req):cut (aJ_ x) 33 1=[.int .i64 x.tries]:=by unfold aJ_;rw[cS1,cR1 (ag_ _)];simp only[Nat.reduceSub];all_goals rfl
theorem vc_(x:Req)(v:Int):spl (aJ_ x) 33 [.int .i64 v]=aJ_ { x with tries:=v }:=by unfold aJ_;rw[pS1,pR1 (ag_ _)];simp only[Nat.reduceSub];all_goals rfl
theorem Al_(x:Req):cut (aJ_ x) 34 1=[.int .u64 x.due]:=by unfold aJ_;rw[cS1,cR1 (ag_ _),cS1];simp only[Nat.reduceSub];all_goals rfl
theorem An_(x:Req)(v:Int):spl (aJ_ x) 34 [.int .u64 v]=aJ_ { x with due:=v }:=by unfold aJ_;rw[pS1,pR1 (ag_ _),pS1];simp only[Nat.reduceSub];all_goals rfl
theorem vE_(x:Req):aU_ (aJ_ x)=true:=by simp[aJ_,ba_,bh_,bi_,AV.cell,ch_]
theorem dI_(x:Req):PuL (aJ_ x):=by simp[aJ_,cB_,PuL,Pu,cc_]
theorem yB_(ρ:Nat→Nat)(x:Req):bS_ ρ (aJ_ x)=aJ_ x:=(dI_ x).ren ρ
theorem Lb_(σ:St)(zs:List Nat)(x:Req):fzL σ zs (aJ_ x)=aJ_ x:=(dI_ x).fz σ zs
theorem EP_(x:Req):(aJ_ x).map ce_=cj_ [(35,1)]:=by simp only[aJ_,List.map_cons,List.map_append,List.map_nil,ce_,go_];decide +kernel
theorem If_(x:Req):ep_ [(35,1)] (aJ_ x)=true:=dM_ (EP_ x)
theorem Hg_(x y:Req):dz_ (aJ_ x) (aJ_ y)=some (decide (x=y)):=by cases x;cases y;simp[aJ_,eT_,dz_,oi_,ag_,aC_,gB_,Bool.beq_eq_decide_eq,hD_,Bool.and_assoc,Bool.decide_and]
def hk_:Req:=⟨0,rt0,0,0⟩
structure Cmd where
 head:Rt
 safe:Rt
 fin:Rt
 deriving Inhabited,DecidableEq
def cH_(x:Cmd):List AV:=rtc x.head++(rtc x.safe++(rtc x.fin))
@[simp] theorem cW_(x:Cmd):(cH_ x).length=96:=by simp only[cH_,List.length_cons,List.length_append,List.length_nil,ag_]
theorem HM_(head:Rt)(safe:Rt)(fin:Rt):rtc head++(rtc safe++(rtc fin))=cH_ ⟨head,safe,fin⟩:=rfl
theorem HN_(x:Cmd):cut (cH_ x) 0 96=cH_ x:=ci_ (cW_ x)
theorem wd_(x:Cmd)(o n:Nat)(h1:0≤o)(h2:o+n≤32):cut (cH_ x) o n=cut (rtc x.head) (o-0) n:=by unfold cH_;rw[cL1 (ag_ _)];all_goals rfl
theorem wf_(x:Cmd)(o:Nat)(vs:List AV)(h1:0≤o)(h2:o+vs.length≤32):spl (cH_ x) o vs=spl (rtc x.head) (o-0) vs++(rtc x.safe++(rtc x.fin)):=by unfold cH_;rw[pL1 (ag_ _)];all_goals rfl
theorem we_(x:Cmd)(o n:Nat)(h1:32≤o)(h2:o+n≤64):cut (cH_ x) o n=cut (rtc x.safe) (o-32) n:=by unfold cH_;rw[cR1 (ag_ _),cL1 (ag_ _)];all_goals rfl
theorem wg_(x:Cmd)(o:Nat)(vs:List AV)(h1:32≤o)(h2:o+vs.length≤64):spl (cH_ x) o vs=rtc x.head++(spl (rtc x.safe) (o-32) vs++(rtc x.fin)):=by unfold cH_;rw[pR1 (ag_ _),pL1 (ag_ _)];all_goals rfl
theorem zx_(x:Cmd)(o n:Nat)(h1:64≤o)(h2:o+n≤96):cut (cH_ x) o n=cut (rtc x.fin) (o-64) n:=by unfold cH_;rw[cR1 (ag_ _),cR1 (ag_ _)];rw[show o-32-32=o-64 by omega]
theorem zy_(x:Cmd)(o:Nat)(vs:List AV)(h1:64≤o)(h2:o+vs.length≤96):spl (cH_ x) o vs=rtc x.head++(rtc x.safe++(spl (rtc x.fin) (o-64) vs)):=by unfold cH_;rw[pR1 (ag_ _),pR1 (ag_ _)];rw[show o-32-32=o-64 by omega]
theorem no_(x:Cmd):aU_ (cH_ x)=true:=by simp[cH_,ba_,bh_,bi_,AV.cell,ch_]
theorem js_(x:Cmd):PuL (cH_ x):=by simp[cH_,cB_,PuL,Pu,cc_]
theorem qX_(ρ:Nat→Nat)(x:Cmd):bS_ ρ (cH_ x)=cH_ x:=(js_ x).ren ρ
theorem Cf_(σ:St)(zs:List Nat)(x:Cmd):fzL σ zs (cH_ x)=cH_ x:=(js_ x).fz σ zs
theorem EM_(x:Cmd):(cH_ x).map ce_=cj_ [(96,1)]:=by simp only[cH_,List.map_cons,List.map_append,List.map_nil,ce_,go_];decide +kernel
theorem Ib_(x:Cmd):ep_ [(96,1)] (cH_ x)=true:=dM_ (EM_ x)
theorem Hd_(x y:Cmd):dz_ (cH_ x) (cH_ y)=some (decide (x=y)):=by cases x;cases y;simp[cH_,eT_,dz_,oi_,ag_,aC_,gB_,Bool.beq_eq_decide_eq,hD_,Bool.and_assoc,Bool.decide_and]
def pv_:Cmd:=⟨rt0,rt0,rt0⟩
structure Sta where
 sto:Sto
 reqs:AV
 rets:AV
 tag:Int
 sent:Bool
 last:Cmd
 over:Bool
 halt:Bool
 deriving Inhabited
def aD_(x:Sta):List AV:=ai_ x.sto++(x.reqs::(x.rets::(.int .u64 x.tag::(.bool x.sent::(cH_ x.last++(.bool x.over::[.bool x.halt]))))))
@[simp] theorem mj_(x:Sta):(aD_ x).length=252:=by simp only[aD_,List.length_cons,List.length_append,List.length_nil,cW_,bc_]
theorem Jv_(sto:Sto)(reqs:AV)(rets:AV)(tag:Int)(sent:Bool)(last:Cmd)(over:Bool)(halt:Bool):ai_ sto++(reqs::(rets::(.int .u64 tag::(.bool sent::(cH_ last++(.bool over::[.bool halt]))))))=aD_ ⟨sto,reqs,rets,tag,sent,last,over,halt⟩:=rfl
theorem Jw_(x:Sta):cut (aD_ x) 0 252=aD_ x:=ci_ (mj_ x)
theorem AH_(x:Sta)(o n:Nat)(h1:0≤o)(h2:o+n≤150):cut (aD_ x) o n=cut (ai_ x.sto) (o-0) n:=by unfold aD_;rw[cL1 (bc_ _)];all_goals rfl
theorem AJ_(x:Sta)(o:Nat)(vs:List AV)(h1:0≤o)(h2:o+vs.length≤150):spl (aD_ x) o vs=spl (ai_ x.sto) (o-0) vs++(x.reqs::(x.rets::(.int .u64 x.tag::(.bool x.sent::(cH_ x.last++(.bool x.over::[.bool x.halt])))))):=by unfold aD_;rw[pL1 (bc_ _)];all_goals rfl
theorem xh_(x:Sta):cut (aD_ x) 150 1=[x.reqs]:=by unfold aD_;rw[cR1 (bc_ _)];simp only[Nat.reduceSub];all_goals rfl
theorem xn_(x:Sta)(v:AV):spl (aD_ x) 150 [v]=aD_ { x with reqs:=v }:=by unfold aD_;rw[pR1 (bc_ _)];simp only[Nat.reduceSub];all_goals rfl
theorem xi_(x:Sta):cut (aD_ x) 151 1=[x.rets]:=by unfold aD_;rw[cR1 (bc_ _),cS1];simp only[Nat.reduceSub];all_goals rfl
theorem xo_(x:Sta)(v:AV):spl (aD_ x) 151 [v]=aD_ { x with rets:=v }:=by unfold aD_;rw[pR1 (bc_ _),pS1];simp only[Nat.reduceSub];all_goals rfl
theorem AI_(x:Sta):cut (aD_ x) 152 1=[.int .u64 x.tag]:=by unfold aD_;rw[cR1 (bc_ _),cS1,cS1];simp only[Nat.reduceSub];all_goals rfl
theorem AK_(x:Sta)(v:Int):spl (aD_ x) 152 [.int .u64 v]=aD_ { x with tag:=v }:=by unfold aD_;rw[pR1 (bc_ _),pS1,pS1];simp only[Nat.reduceSub];all_goals rfl
theorem xj_(x:Sta):cut (aD_ x) 153 1=[.bool x.sent]:=by unfold aD_;rw[cR1 (bc_ _),cS1];rw[cS1,cS1];simp only[Nat.reduceSub];all_goals rfl
theorem xp_(x:Sta)(v:Bool):spl (aD_ x) 153 [.bool v]=aD_ { x with sent:=v }:=by unfold aD_;rw[pR1 (bc_ _),pS1];rw[pS1,pS1];simp only[Nat.reduceSub];all_goals rfl
theorem xf_(x:Sta)(o n:Nat)(h1:154≤o)(h2:o+n≤250):cut (aD_ x) o n=cut (cH_ x.last) (o-154) n:=by unfold aD_;rw[cR1 (bc_ _),cS1];rw[cS1,cS1];rw[cS1,cL1 (cW_ _)];rw[show o-150-1-1-1-1=o-154 by omega]
theorem xl_(x:Sta)(o:Nat)(vs:List AV)(h1:154≤o)(h2:o+vs.length≤250):spl (aD_ x) o vs=ai_ x.sto++(x.reqs::(x.rets::(.int .u64 x.tag::(.bool x.sent::(spl (cH_ x.last) (o-154) vs++(.bool x.over::[.bool x.halt])))))):=by unfold aD_;rw[pR1 (bc_ _),pS1];rw[pS1,pS1];rw[pS1,pL1 (cW_ _)];rw[show o-150-1-1-1-1=o-154 by omega]
theorem xg_(x:Sta):cut (aD_ x) 250 1=[.bool x.over]:=by unfold aD_;rw[cR1 (bc_ _),cS1];rw[cS1,cS1];rw[cS1,cR1 (cW_ _)];simp only[Nat.reduceSub];all_goals rfl
theorem xm_(x:Sta)(v:Bool):spl (aD_ x) 250 [.bool v]=aD_ { x with over:=v }:=by unfold aD_;rw[pR1 (bc_ _),pS1];rw[pS1,pS1];rw[pS1,pR1 (cW_ _)];simp only[Nat.reduceSub];all_goals rfl
theorem xe_(x:Sta):cut (aD_ x) 251 1=[.bool x.halt]:=by unfold aD_;rw[cR1 (bc_ _),cS1];rw[cS1,cS1];rw[cS1,cR1 (cW_ _),cS1];simp only[Nat.reduceSub];all_goals rfl
theorem xk_(x:Sta)(v:Bool):spl (aD_ x) 251 [.bool v]=aD_ { x with halt:=v }:=by unfold aD_;rw[pR1 (bc_ _),pS1];rw[pS1,pS1];rw[pS1,pR1 (cW_ _),pS1];simp only[Nat.reduceSub];all_goals rfl
def Sta.map(g:AV→AV)(x:Sta):Sta:={ x with sto:=x.sto.map g,reqs:=g x.reqs,rets:=g x.rets }
theorem Sta.map_mk(g:AV→AV)(sto:Sto)(reqs:AV)(rets:AV)(tag:Int)(sent:Bool)(last:Cmd)(over:Bool)(halt:Bool):Sta.map g ⟨sto,reqs,rets,tag,sent,last,over,halt⟩=⟨sto.map g,g reqs,g rets,tag,sent,last,over,halt⟩:=rfl
def Sta.good(x:Sta):Bool:=x.sto.good&&x.reqs.cell&&x.rets.cell
theorem Sta.good_mk(sto:Sto)(reqs:AV)(rets:AV)(tag:Int)(sent:Bool)(last:Cmd)(over:Bool)(halt:Bool):Sta.good ⟨sto,reqs,rets,tag,sent,last,over,halt⟩=(sto.good&&reqs.cell&&rets.cell):=rfl
def Sta.Pure(x:Sta):Prop:=x.sto.Pure∧Pu x.reqs∧Pu x.rets
theorem vG_(x:Sta):aU_ (aD_ x)=x.good:=by simp[aD_,Sta.good,Bool.and_assoc,ba_,bh_,bi_,AV.cell,no_,ns_]
theorem Bk_(x:Sta):PuL (aD_ x)↔x.Pure:=by simp[aD_,Sta.Pure,cB_,PuL,Pu,js_,lh_]
theorem yD_(ρ:Nat→Nat)(x:Sta):bS_ ρ (aD_ x)=aD_ (x.map (ren ρ)):=by simp only[aD_,Sta.map,gV_,bS_,ren,qX_,qZ_]
theorem Ld_(σ:St)(zs:List Nat)(x:Sta):fzL σ zs (aD_ x)=aD_ (x.map (fz σ zs)):=by simp only[aD_,Sta.map,hC_,fzL,fz,Cf_,Ci_]
def dG_:Sta:=⟨bI_,.sl 0 true [],.sl 0 true [],0,false,pv_,false,false⟩
attribute [go_sem] Iw_ bs_ Iv_ wQ_ wS_ wR_ wT_ ux_ uA_ uz_ uC_ uy_ uB_ qN_ qO_ np_ qY_ Ic_ He_ HD_ aE_ HC_ zm_ zq_ zn_ zr_ tw_ tx_ zo_ zs_ zl_ zp_ vX_ vY_ Cfg.map_mk Cfg.good_mk nm_ qW_ JU_ mk_ JT_ Ba_ Bb_ DH_ DI_ xz_ xA_ vH_ yG_ Ih_ Hi_ IB_ mh_ IA_ Ae_ Af_ CB_ CC_ su_ sv_ vD_ yA_ Id_ Hf_ JA_ bc_ Jz_ AN_ AR_ sG_ sH_ AO_ AS_ FQ_ FS_ FP_ FR_ vp_ vs_ xq_ xs_ vq_ vt_ AQ_ AT_ vo_ vr_ xr_ xt_ ne_ ng_ AP_ qf_ nd_ nf_ Sto.map_mk Sto.good_mk ns_ qZ_ Jf_ mi_ Je_ Am_ Ao_ uZ_ vb_ va_ vc_ Al_ An_ vE_ yB_ If_ Hg_ HN_ cW_ HM_ wd_ wf_ we_ wg_ zx_ zy_ no_ qX_ Ib_ Hd_ Jw_ mj_ Jv_ AH_ AJ_ xh_ xn_ xi_ xo_ AI_ AK_ xj_ xp_ xf_ xl_ xg_ xm_ xe_ xk_ Sta.map_mk Sta.good_mk vG_ yD_ Po_ ih_ eh_ dE_ bI_ hk_ pv_ dG_ bs_ qY_ Cg_ aE_ Cfg.map_mk qW_ Cd_ mk_ yG_ Le_ mh_ yA_ KZ_ bc_ Sto.map_mk qZ_ Ci_ mi_ yB_ Lb_ cW_ qX_ Cf_ mj_ Sta.map_mk yD_ Ld_
def rows{α:Type}(f:α→List AV)(l:List α):List (List AV):=l.map f
section
variable{α:Type}{f:α→List AV}{l m:List α}
@[simp] theorem Cy_(f:α→List AV)(l:List α):(rows f l).length=l.length:=by simp[rows]
theorem LT_(f:α→List AV):rows f []=[]:=rfl
theorem vd_(f:α→List AV)(l m:List α):rows f l++rows f m=rows f (l++m):=by simp[rows]
theorem bP_(f:α→List AV)(l:List α)(x:α):rows f l++[f x]=rows f (l++[x]):=by simp[rows]
theorem mN_(f:α→List AV)(l:List α)(n:Nat):(rows f l).take n=rows f (l.take n):=by simp[rows]
theorem mM_(f:α→List AV)(l:List α)(n:Nat):(rows f l).drop n=rows f (l.drop n):=by simp[rows]
theorem pY_(f:α→List AV)(l:List α)(n:Nat)(x:α):(rows f l).set n (f x)=rows f (l.set n x):=by simp[rows,List.map_set]
theorem LU_(f:α→List AV)(n:Nat)(x:α):List.replicate n (f x)=rows f (List.replicate n x):=by simp[rows]
theorem aK_{i:Nat}(d:α)(h:i<l.length):(rows f l).getD i []=f (l.getD i d):=by
 simp[rows,List.getD_eq_getElem?_getD,h]
theorem bp_(h:∀x∈l,PuL (f x)):dh_ (rows f l):=by
 rw[hQ_];intro x hx;obtain⟨y,hy,rfl⟩:=List.mem_map.1 hx;exact h y hy
end
theorem gdn{k:IntKind}{ns:List Int}{i:Nat}(h:i<ns.length):(aq_ k ns).getD i []=[.int k (ns.getD i 0)]:=by
 simp[aq_,List.getD_eq_getElem?_getD,h]
def gD_(b:Bool):List AV:=[.bool b]
theorem Hc_(b:Bool):PuL (gD_ b):=by simp[gD_,PuL,Pu]
theorem FW_(h:Bool)(c:Cp):.bool h::cpC c=aZ_ ⟨h,c.ep,c.rt⟩:=rfl
attribute [go_sem] FW_
attribute [go_sem] Cy_ LT_
structure aH_ where
 slot:Int
 root:Rt
 target:Cp
 vals:List Int
 deriving Inhabited,DecidableEq
def aH_.a(x:aH_):Att:=⟨x.slot,x.root,x.target,.sl 1 false (aq_ .i64 x.vals)⟩
abbrev aH_.c(x:aH_):List AV:=aY_ x.a
theorem aH_.a_slot(x:aH_):x.a.slot=x.slot:=rfl
theorem aH_.a_root(x:aH_):x.a.root=x.root:=rfl
theorem aH_.a_target(x:aH_):x.a.target=x.target:=rfl
theorem aH_.a_vals(x:aH_):x.a.vals=.sl 1 false (aq_ .i64 x.vals):=rfl
theorem aH_.pure(x:aH_):x.a.Pure:=by
 exact aM_ _ _
theorem aH_.pul(x:aH_):PuL (aY_ x.a):=(ei_ _).2 x.pure
theorem aH_.ren_a(ρ:Nat→Nat)(x:aH_):bS_ ρ (aY_ x.a)=aY_ x.a:=x.pul.ren ρ
theorem aH_.fz_a(σ:St)(zs:List Nat)(x:aH_):fzL σ zs (aY_ x.a)=aY_ x.a:=x.pul.fz σ zs
theorem aH_.map_ren(ρ:Nat→Nat)(x:aH_):x.a.map (ren ρ)=x.a:=by
 unfold aH_.a Att.map;simp only[ren,ck_]
theorem aH_.map_fz(σ:St)(zs:List Nat)(x:aH_):x.a.map (fz σ zs)=x.a:=by
 unfold aH_.a Att.map;simp only[fz,cZ_]
theorem aH_.good_a(x:aH_):x.a.good=true:=by
 simp[aH_.a,Att.good,AV.cell]
structure aw_ where
 cp:Cp
 bals:List Int
 deriving Inhabited,DecidableEq
def aw_.a(x:aw_):Tab:=⟨x.cp,.sl 1 false (aq_ .u64 x.bals)⟩
abbrev aw_.c(x:aw_):List AV:=aT_ x.a
theorem aw_.a_cp(x:aw_):x.a.cp=x.cp:=rfl
theorem aw_.a_bals(x:aw_):x.a.bals=.sl 1 false (aq_ .u64 x.bals):=rfl
theorem aw_.pure(x:aw_):x.a.Pure:=by
 exact aM_ _ _
theorem aw_.pul(x:aw_):PuL (aT_ x.a):=(dJ_ _).2 x.pure
theorem aw_.ren_a(ρ:Nat→Nat)(x:aw_):bS_ ρ (aT_ x.a)=aT_ x.a:=x.pul.ren ρ
theorem aw_.fz_a(σ:St)(zs:List Nat)(x:aw_):fzL σ zs (aT_ x.a)=aT_ x.a:=x.pul.fz σ zs
theorem aw_.map_ren(ρ:Nat→Nat)(x:aw_):x.a.map (ren ρ)=x.a:=by
 unfold aw_.a Tab.map;simp only[ren,ck_]
theorem aw_.map_fz(σ:St)(zs:List Nat)(x:aw_):x.a.map (fz σ zs)=x.a:=by
 unfold aw_.a Tab.map;simp only[fz,cZ_]
theorem aw_.good_a(x:aw_):x.a.good=true:=by
 simp[aw_.a,Tab.good,AV.cell]
structure cQ_ where
 src:Int
 tgt:Int
 root:Rt
 vals:List Int
 deriving Inhabited,DecidableEq
def cQ_.a(x:cQ_):Clm:=⟨x.src,x.tgt,x.root,.sl 1 false (aq_ .i64 x.vals)⟩
abbrev cQ_.c(x:cQ_):List AV:=bz_ x.a
theorem cQ_.a_src(x:cQ_):x.a.src=x.src:=rfl
theorem cQ_.a_tgt(x:cQ_):x.a.tgt=x.tgt:=rfl
theorem cQ_.a_root(x:cQ_):x.a.root=x.root:=rfl
theorem cQ_.a_vals(x:cQ_):x.a.vals=.sl 1 false (aq_ .i64 x.vals):=rfl
theorem cQ_.pure(x:cQ_):x.a.Pure:=by
 exact aM_ _ _
theorem cQ_.pul(x:cQ_):PuL (bz_ x.a):=(jr_ _).2 x.pure
theorem cQ_.ren_a(ρ:Nat→Nat)(x:cQ_):bS_ ρ (bz_ x.a)=bz_ x.a:=x.pul.ren ρ
theorem cQ_.fz_a(σ:St)(zs:List Nat)(x:cQ_):fzL σ zs (bz_ x.a)=bz_ x.a:=x.pul.fz σ zs
theorem cQ_.map_ren(ρ:Nat→Nat)(x:cQ_):x.a.map (ren ρ)=x.a:=by
 unfold cQ_.a Clm.map;simp only[ren,ck_]
theorem cQ_.map_fz(σ:St)(zs:List Nat)(x:cQ_):x.a.map (fz σ zs)=x.a:=by
 unfold cQ_.a Clm.map;simp only[fz,cZ_]
theorem cQ_.good_a(x:cQ_):x.a.good=true:=by
 simp[cQ_.a,Clm.good,AV.cell]
structure da_ where
 fst:cQ_
 snd:cQ_
 deriving Inhabited,DecidableEq
def da_.a(x:da_):Slg:=⟨x.fst.a,x.snd.a⟩
abbrev da_.c(x:da_):List AV:=bZ_ x.a
theorem da_.a_fst(x:da_):x.a.fst=x.fst.a:=rfl
theorem da_.a_snd(x:da_):x.a.snd=x.snd.a:=rfl
theorem da_.pure(x:da_):x.a.Pure:=by
 exact⟨cQ_.pure _,cQ_.pure _⟩
theorem da_.pul(x:da_):PuL (bZ_ x.a):=(fz_ _).2 x.pure
theorem da_.ren_a(ρ:Nat→Nat)(x:da_):bS_ ρ (bZ_ x.a)=bZ_ x.a:=x.pul.ren ρ
theorem da_.fz_a(σ:St)(zs:List Nat)(x:da_):fzL σ zs (bZ_ x.a)=bZ_ x.a:=x.pul.fz σ zs
theorem da_.map_ren(ρ:Nat→Nat)(x:da_):x.a.map (ren ρ)=x.a:=by
 unfold da_.a Slg.map;simp only[ren,ck_,cQ_.map_ren,cQ_.map_ren]
theorem da_.map_fz(σ:St)(zs:List Nat)(x:da_):x.a.map (fz σ zs)=x.a:=by
 unfold da_.a Slg.map;simp only[fz,cZ_,cQ_.map_fz,cQ_.map_fz]
theorem da_.good_a(x:da_):x.a.good=true:=by
 simp[da_.a,Slg.good,AV.cell,cQ_.good_a,cQ_.good_a]
structure bt_ where
 lim:Lim
 spe:Int
 boost:Int
 ttd:Wd
 gen:Rt
 bals:List Int
 deriving Inhabited,DecidableEq
def bt_.a(x:bt_):Cfg:=⟨x.lim,x.spe,x.boost,x.ttd,x.gen,.sl 1 false (aq_ .u64 x.bals)⟩
abbrev bt_.c(x:bt_):List AV:=bf_ x.a
theorem bt_.a_lim(x:bt_):x.a.lim=x.lim:=rfl
theorem bt_.a_spe(x:bt_):x.a.spe=x.spe:=rfl
theorem bt_.a_boost(x:bt_):x.a.boost=x.boost:=rfl
theorem bt_.a_ttd(x:bt_):x.a.ttd=x.ttd:=rfl
theorem bt_.a_gen(x:bt_):x.a.gen=x.gen:=rfl
theorem bt_.a_bals(x:bt_):x.a.bals=.sl 1 false (aq_ .u64 x.bals):=rfl
theorem bt_.pure(x:bt_):x.a.Pure:=by
 exact aM_ _ _
theorem bt_.pul(x:bt_):PuL (bf_ x.a):=(Bi_ _).2 x.pure
theorem bt_.ren_a(ρ:Nat→Nat)(x:bt_):bS_ ρ (bf_ x.a)=bf_ x.a:=x.pul.ren ρ
theorem bt_.fz_a(σ:St)(zs:List Nat)(x:bt_):fzL σ zs (bf_ x.a)=bf_ x.a:=x.pul.fz σ zs
theorem bt_.map_ren(ρ:Nat→Nat)(x:bt_):x.a.map (ren ρ)=x.a:=by
 unfold bt_.a Cfg.map;simp only[ren,ck_]
theorem bt_.map_fz(σ:St)(zs:List Nat)(x:bt_):x.a.map (fz σ zs)=x.a:=by
 unfold bt_.a Cfg.map;simp only[fz,cZ_]
theorem bt_.good_a(x:bt_):x.a.good=true:=by
 simp[bt_.a,Cfg.good,AV.cell]
structure aj_ where
 cfg:bt_
 latest:List Vot
 eqv:List Int
 j:Cp
 f:Cp
 early:List aH_
 orph:List Blk
 nodes:List Nod
 now:Int
 boost:Rt
 tabs:List aw_
 deriving Inhabited,DecidableEq
def aj_.a(x:aj_):Sto:=⟨x.cfg.a,.sl 34 false (rows aZ_ x.latest),.sl 1 false (aq_ .i64 x.eqv),x.j,x.f,.sl 67 false (rows aH_.c x.early),.sl 238 false (rows ap_ x.orph),.sl 240 false (rows aG_ x.nodes),x.now,x.boost,.sl 34 false (rows aw_.c x.tabs)⟩
abbrev aj_.c(x:aj_):List AV:=ai_ x.a
theorem aj_.a_cfg(x:aj_):x.a.cfg=x.cfg.a:=rfl
theorem aj_.a_latest(x:aj_):x.a.latest=.sl 34 false (rows aZ_ x.latest):=rfl
theorem aj_.a_eqv(x:aj_):x.a.eqv=.sl 1 false (aq_ .i64 x.eqv):=rfl
theorem aj_.a_j(x:aj_):x.a.j=x.j:=rfl
theorem aj_.a_f(x:aj_):x.a.f=x.f:=rfl
theorem aj_.a_early(x:aj_):x.a.early=.sl 67 false (rows aH_.c x.early):=rfl
theorem aj_.a_orph(x:aj_):x.a.orph=.sl 238 false (rows ap_ x.orph):=rfl
theorem aj_.a_nodes(x:aj_):x.a.nodes=.sl 240 false (rows aG_ x.nodes):=rfl
theorem aj_.a_now(x:aj_):x.a.now=x.now:=rfl
theorem aj_.a_boost(x:aj_):x.a.boost=x.boost:=rfl
theorem aj_.a_tabs(x:aj_):x.a.tabs=.sl 34 false (rows aw_.c x.tabs):=rfl
theorem aj_.pure(x:aj_):x.a.Pure:=by
 exact⟨bt_.pure _,bp_ fun x _=>hS_ x,aM_ _ _,bp_ fun x _=>(ei_ _).2 (aH_.pure x),bp_ fun x _=>dH_ x,bp_ fun x _=>hR_ x,bp_ fun x _=>(dJ_ _).2 (aw_.pure x)⟩
theorem aj_.pul(x:aj_):PuL (ai_ x.a):=(lh_ _).2 x.pure
theorem aj_.ren_a(ρ:Nat→Nat)(x:aj_):bS_ ρ (ai_ x.a)=ai_ x.a:=x.pul.ren ρ
theorem aj_.fz_a(σ:St)(zs:List Nat)(x:aj_):fzL σ zs (ai_ x.a)=ai_ x.a:=x.pul.fz σ zs
theorem aj_.map_ren(ρ:Nat→Nat)(x:aj_):x.a.map (ren ρ)=x.a:=by
 unfold aj_.a Sto.map;simp only[ren,ck_,bt_.map_ren,(bp_ (f:=aZ_) (l:=x.latest) fun y _=>hS_ y).ren ρ,(bp_ (f:=aH_.c) (l:=x.early) fun y _=>(ei_ _).2 (aH_.pure y)).ren ρ,(bp_ (f:=ap_) (l:=x.orph) fun y _=>dH_ y).ren ρ,(bp_ (f:=aG_) (l:=x.nodes) fun y _=>hR_ y).ren ρ,(bp_ (f:=aw_.c) (l:=x.tabs) fun y _=>(dJ_ _).2 (aw_.pure y)).ren ρ]
theorem aj_.map_fz(σ:St)(zs:List Nat)(x:aj_):x.a.map (fz σ zs)=x.a:=by
 unfold aj_.a Sto.map;simp only[fz,cZ_,bt_.map_fz,(bp_ (f:=aZ_) (l:=x.latest) fun y _=>hS_ y).fz σ zs,(bp_ (f:=aH_.c) (l:=x.early) fun y _=>(ei_ _).2 (aH_.pure y)).fz σ zs,(bp_ (f:=ap_) (l:=x.orph) fun y _=>dH_ y).fz σ zs,(bp_ (f:=aG_) (l:=x.nodes) fun y _=>hR_ y).fz σ zs,(bp_ (f:=aw_.c) (l:=x.tabs) fun y _=>(dJ_ _).2 (aw_.pure y)).fz σ zs]
theorem aj_.good_a(x:aj_):x.a.good=true:=by
 simp[aj_.a,Sto.good,AV.cell,bt_.good_a]
structure aI_ where
 sto:aj_
 reqs:List Req
 rets:List Req
 tag:Int
 sent:Bool
 last:Cmd
 over:Bool
 halt:Bool
 deriving Inhabited,DecidableEq
def aI_.a(x:aI_):Sta:=⟨x.sto.a,.sl 35 false (rows aJ_ x.reqs),.sl 35 false (rows aJ_ x.rets),x.tag,x.sent,x.last,x.over,x.halt⟩
abbrev aI_.c(x:aI_):List AV:=aD_ x.a
theorem aI_.a_sto(x:aI_):x.a.sto=x.sto.a:=rfl
theorem aI_.a_reqs(x:aI_):x.a.reqs=.sl 35 false (rows aJ_ x.reqs):=rfl
theorem aI_.a_rets(x:aI_):x.a.rets=.sl 35 false (rows aJ_ x.rets):=rfl
theorem aI_.a_tag(x:aI_):x.a.tag=x.tag:=rfl
theorem aI_.a_sent(x:aI_):x.a.sent=x.sent:=rfl
theorem aI_.a_last(x:aI_):x.a.last=x.last:=rfl
theorem aI_.a_over(x:aI_):x.a.over=x.over:=rfl
theorem aI_.a_halt(x:aI_):x.a.halt=x.halt:=rfl
theorem aI_.pure(x:aI_):x.a.Pure:=by
 exact⟨aj_.pure _,bp_ fun x _=>dI_ x,bp_ fun x _=>dI_ x⟩
theorem aI_.pul(x:aI_):PuL (aD_ x.a):=(Bk_ _).2 x.pure
theorem aI_.ren_a(ρ:Nat→Nat)(x:aI_):bS_ ρ (aD_ x.a)=aD_ x.a:=x.pul.ren ρ
theorem aI_.fz_a(σ:St)(zs:List Nat)(x:aI_):fzL σ zs (aD_ x.a)=aD_ x.a:=x.pul.fz σ zs
theorem aI_.map_ren(ρ:Nat→Nat)(x:aI_):x.a.map (ren ρ)=x.a:=by
 unfold aI_.a Sta.map;simp only[ren,ck_,aj_.map_ren,(bp_ (f:=aJ_) (l:=x.reqs) fun y _=>dI_ y).ren ρ,(bp_ (f:=aJ_) (l:=x.rets) fun y _=>dI_ y).ren ρ]
theorem aI_.map_fz(σ:St)(zs:List Nat)(x:aI_):x.a.map (fz σ zs)=x.a:=by
 unfold aI_.a Sta.map;simp only[fz,cZ_,aj_.map_fz,(bp_ (f:=aJ_) (l:=x.reqs) fun y _=>dI_ y).fz σ zs,(bp_ (f:=aJ_) (l:=x.rets) fun y _=>dI_ y).fz σ zs]
theorem aI_.good_a(x:aI_):x.a.good=true:=by
 simp[aI_.a,Sta.good,AV.cell,aj_.good_a]
structure VOp where
 kind:Int
 blk:Blk
 att:aH_
 slg:da_
 tab:aw_
 vdt:Vdt
 write:Int
 keep:Int
 deriving Inhabited,DecidableEq
def VOp.a(x:VOp):SOp:=⟨x.kind,x.blk,x.att.a,x.slg.a,x.tab.a,x.vdt,x.write,x.keep⟩
abbrev VOp.c(x:VOp):List AV:=bq_ x.a
theorem VOp.a_kind(x:VOp):x.a.kind=x.kind:=rfl
theorem VOp.a_blk(x:VOp):x.a.blk=x.blk:=rfl
theorem VOp.a_att(x:VOp):x.a.att=x.att.a:=rfl
theorem VOp.a_slg(x:VOp):x.a.slg=x.slg.a:=rfl
theorem VOp.a_tab(x:VOp):x.a.tab=x.tab.a:=rfl
theorem VOp.a_vdt(x:VOp):x.a.vdt=x.vdt:=rfl
theorem VOp.a_write(x:VOp):x.a.write=x.write:=rfl
theorem VOp.a_keep(x:VOp):x.a.keep=x.keep:=rfl
theorem VOp.pure(x:VOp):x.a.Pure:=by
 exact⟨aH_.pure _,da_.pure _,aw_.pure _⟩
theorem VOp.pul(x:VOp):PuL (bq_ x.a):=(eS_ _).2 x.pure
theorem VOp.ren_a(ρ:Nat→Nat)(x:VOp):bS_ ρ (bq_ x.a)=bq_ x.a:=x.pul.ren ρ
theorem VOp.fz_a(σ:St)(zs:List Nat)(x:VOp):fzL σ zs (bq_ x.a)=bq_ x.a:=x.pul.fz σ zs
theorem VOp.map_ren(ρ:Nat→Nat)(x:VOp):x.a.map (ren ρ)=x.a:=by
 unfold VOp.a SOp.map;simp only[ren,ck_,aH_.map_ren,da_.map_ren,aw_.map_ren]
theorem VOp.map_fz(σ:St)(zs:List Nat)(x:VOp):x.a.map (fz σ zs)=x.a:=by
 unfold VOp.a SOp.map;simp only[fz,cZ_,aH_.map_fz,da_.map_fz,aw_.map_fz]
theorem VOp.good_a(x:VOp):x.a.good=true:=by
 simp[VOp.a,SOp.good,AV.cell,aH_.good_a,da_.good_a,aw_.good_a]
theorem fn_(l:List Rt):dh_ (rows rtc l):=bp_ fun x _=>cc_ x
theorem uX_(ρ:Nat→Nat)(l:List Rt):bH_ ρ (rows rtc l)=rows rtc l:=(fn_ l).ren ρ
theorem wN_(σ:St)(zs:List Nat)(l:List Rt):dZ_ σ zs (rows rtc l)=rows rtc l:=(fn_ l).fz σ zs
theorem gw_(l:List Bool):dh_ (rows gD_ l):=bp_ fun x _=>Hc_ x
theorem qV_(ρ:Nat→Nat)(l:List Bool):bH_ ρ (rows gD_ l)=rows gD_ l:=(gw_ l).ren ρ
theorem st_(σ:St)(zs:List Nat)(l:List Bool):dZ_ σ zs (rows gD_ l)=rows gD_ l:=(gw_ l).fz σ zs
theorem hz_(l:List Vot):dh_ (rows aZ_ l):=bp_ fun x _=>hS_ x
theorem sC_(ρ:Nat→Nat)(l:List Vot):bH_ ρ (rows aZ_ l)=rows aZ_ l:=(hz_ l).ren ρ
theorem uk_(σ:St)(zs:List Nat)(l:List Vot):dZ_ σ zs (rows aZ_ l)=rows aZ_ l:=(hz_ l).fz σ zs
theorem hx_(l:List Blk):dh_ (rows ap_ l):=bp_ fun x _=>dH_ x
theorem sy_(ρ:Nat→Nat)(l:List Blk):bH_ ρ (rows ap_ l)=rows ap_ l:=(hx_ l).ren ρ
theorem ug_(σ:St)(zs:List Nat)(l:List Blk):dZ_ σ zs (rows ap_ l)=rows ap_ l:=(hx_ l).fz σ zs
theorem eB_(l:List Nod):dh_ (rows aG_ l):=bp_ fun x _=>hR_ x
theorem sA_(ρ:Nat→Nat)(l:List Nod):bH_ ρ (rows aG_ l)=rows aG_ l:=(eB_ l).ren ρ
theorem ui_(σ:St)(zs:List Nat)(l:List Nod):dZ_ σ zs (rows aG_ l)=rows aG_ l:=(eB_ l).fz σ zs
theorem hy_(l:List Req):dh_ (rows aJ_ l):=bp_ fun x _=>dI_ x
theorem sB_(ρ:Nat→Nat)(l:List Req):bH_ ρ (rows aJ_ l)=rows aJ_ l:=(hy_ l).ren ρ
theorem uj_(σ:St)(zs:List Nat)(l:List Req):dZ_ σ zs (rows aJ_ l)=rows aJ_ l:=(hy_ l).fz σ zs
theorem cT_(l:List Cmd):dh_ (rows cH_ l):=bp_ fun x _=>js_ x
theorem sz_(ρ:Nat→Nat)(l:List Cmd):bH_ ρ (rows cH_ l)=rows cH_ l:=(cT_ l).ren ρ
theorem uh_(σ:St)(zs:List Nat)(l:List Cmd):dZ_ σ zs (rows cH_ l)=rows cH_ l:=(cT_ l).fz σ zs
theorem hw_(l:List aH_):dh_ (rows aH_.c l):=bp_ fun x _=>aH_.pul x
theorem sw_(ρ:Nat→Nat)(l:List aH_):bH_ ρ (rows aH_.c l)=rows aH_.c l:=(hw_ l).ren ρ
theorem ue_(σ:St)(zs:List Nat)(l:List aH_):dZ_ σ zs (rows aH_.c l)=rows aH_.c l:=(hw_ l).fz σ zs
theorem fA_(l:List aw_):dh_ (rows aw_.c l):=bp_ fun x _=>aw_.pul x
theorem sx_(ρ:Nat→Nat)(l:List aw_):bH_ ρ (rows aw_.c l)=rows aw_.c l:=(fA_ l).ren ρ
theorem uf_(σ:St)(zs:List Nat)(l:List aw_):dZ_ σ zs (rows aw_.c l)=rows aw_.c l:=(fA_ l).fz σ zs
theorem iG_(l:List VOp):dh_ (rows VOp.c l):=bp_ fun x _=>VOp.pul x
theorem uW_(ρ:Nat→Nat)(l:List VOp):bH_ ρ (rows VOp.c l)=rows VOp.c l:=(iG_ l).ren ρ
theorem wM_(σ:St)(zs:List Nat)(l:List VOp):dZ_ σ zs (rows VOp.c l)=rows VOp.c l:=(iG_ l).fz σ zs
attribute [go_sem] aH_.a_slot aH_.a_root aH_.a_target aH_.a_vals aH_.pul aH_.ren_a aH_.fz_a aH_.map_ren aH_.map_fz aH_.good_a aw_.a_cp aw_.a_bals aw_.pul aw_.ren_a aw_.fz_a aw_.map_ren aw_.map_fz aw_.good_a cQ_.a_src cQ_.a_tgt cQ_.a_root cQ_.a_vals cQ_.pul cQ_.ren_a cQ_.fz_a cQ_.map_ren cQ_.map_fz cQ_.good_a da_.a_fst da_.a_snd da_.pul da_.ren_a da_.fz_a da_.map_ren da_.map_fz da_.good_a bt_.a_lim bt_.a_spe bt_.a_boost bt_.a_ttd bt_.a_gen bt_.a_bals bt_.pul bt_.ren_a bt_.fz_a bt_.map_ren bt_.map_fz bt_.good_a aj_.a_cfg aj_.a_latest aj_.a_eqv aj_.a_j aj_.a_f aj_.a_early aj_.a_orph aj_.a_nodes aj_.a_now aj_.a_boost aj_.a_tabs aj_.pul aj_.ren_a aj_.fz_a aj_.map_ren aj_.map_fz aj_.good_a aI_.a_sto aI_.a_reqs aI_.a_rets aI_.a_tag aI_.a_sent aI_.a_last aI_.a_over aI_.a_halt aI_.pul aI_.ren_a aI_.fz_a aI_.map_ren aI_.map_fz aI_.good_a VOp.a_kind VOp.a_blk VOp.a_att VOp.a_slg VOp.a_tab VOp.a_vdt VOp.a_write VOp.a_keep VOp.pul VOp.ren_a VOp.fz_a VOp.map_ren VOp.map_fz VOp.good_a fn_ uX_ wN_ gw_ qV_ st_ hz_ sC_ uk_ hx_ sy_ ug_ eB_ sA_ ui_ hy_ sB_ uj_ cT_ sz_ uh_ hw_ sw_ ue_ fA_ sx_ uf_ iG_ uW_ wM_
end Go.FH
namespace Go.FH
def om(d s:Nat):bU_:=⟨some d,.mv (.t s),none⟩
def oo(d:Nat)(op:AOp):bU_:=⟨some d,op,none⟩
def on(op:AOp):bU_:=⟨none,op,none⟩
def omg(d s t:Nat)(b:Bool):bU_:=⟨some d,.mv (.t s),some (t,b)⟩
def og(d:Nat)(op:AOp)(t:Nat)(b:Bool):bU_:=⟨some d,op,some (t,b)⟩
def ong(op:AOp)(t:Nat)(b:Bool):bU_:=⟨none,op,some (t,b)⟩
def ci(n:Int):Opd:=.c (.int .i64 n)
def cu(n:Int):Opd:=.c (.int .u64 n)
def cb(b:Bool):Opd:=.c (.bool b)
def cf(n:Nat):Opd:=.c (.fn (.func n) [])
def fA(d o x:Nat):bU_:=⟨some d,.fldA o (.t x),none⟩
def lA(d n x:Nat):bU_:=⟨some d,.ld true n (.t x),none⟩
def lF(d n x:Nat):bU_:=⟨some d,.ld false n (.t x),none⟩
def bI(d:Nat)(o:BinOp)(x y:Nat):bU_:=⟨some d,.bin o (.t x) (.t y),none⟩
def bC(d:Nat)(o:BinOp)(x:Nat)(c:Opd):bU_:=⟨some d,.bin o (.t x) c,none⟩
def sO(n x y:Nat):bU_:=⟨none,.sto n (.t x) (.t y),none⟩
def eX(d i x:Nat):bU_:=⟨some d,.ext i (.t x),none⟩
def lN(d x:Nat):bU_:=⟨some d,.len false (.t x),none⟩
def iX(d e x y:Nat):bU_:=⟨some d,.idxS e (.t x) (.t y),none⟩
def kA(d f x:Nat):bU_:=⟨some d,.call (cf f) [.t x],none⟩
def kB(d f x y:Nat):bU_:=⟨some d,.call (cf f) [.t x,.t y],none⟩
def kC(d f x y z:Nat):bU_:=⟨some d,.call (cf f) [.t x,.t y,.t z],none⟩
def sR(l:List bU_)(x:ad_):ad_:=.seq (.reg l) x
def cN(c:Nat)(x y:ad_):ad_:=.cond (.t c) x y
theorem bd{p q:Prop}(hq:q)(h:Hid q→p:=by(intro hq;dsimp only[om,oo,on,omg,og,ong,ci,cu,cb,cf,fA,lA,lF,bI,bC,sO,eX,lN,iX,kA,kB,kC,sR,cN];exact hq.out)):p:=h ⟨hq⟩
theorem puA{p:Prop}(h:p:=by simp[PuL,Pu,dh_,aM_,je_,cc_,gv_,dv_,oU_,dH_,hR_,hS_,dI_,js_,gA_,li_,aj_.pul,aI_.pul,aH_.pul,aw_.pul,da_.pul,cQ_.pul,bt_.pul,VOp.pul,hz_,hx_,eB_,hy_,cT_,hw_,fA_,iG_,fn_,gw_]):p:=h
theorem af_{fr:Fr}{σ:St}{rs:List eA_}{r:AV}{l:List AV}(hl:bV_ fr σ rs=some l:=by first|rfl|exact evd)(hv:fz σ (List.range σ.length) (ee_ l)=r:=by exact evd):
 ∃l,bV_ fr σ rs=some l∧(fz σ (List.range σ.length) (ee_ l)=r∨∃r0,fz σ (List.range σ.length) (ee_ l)=r0∧Pu r0∧Wk r0 r):=⟨l,hl,.inl hv⟩
section
variable{P:Program}{nt k:Nat}{fr:Fr}{σ:St}{c:Opd}{x y:ad_}{Q:Ex→Fr→St→Prop}{q:Prop}
theorem PH_(hq:q)(hb:c.ev fr=.bool true:=by exact evd)(h:Hid q→Tri P nt k x Q fr σ:=by(intro hq;(try refine aa_ ?_);exact hq.out)):Tri P nt k (.cond c x y) Q fr σ:=ac_ (h ⟨hq⟩) hb
theorem PG_(hq:q)(hb:c.ev fr=.bool false:=by exact evd)(h:Hid q→Tri P nt k y Q fr σ:=by(intro hq;(try refine aa_ ?_);exact hq.out)):Tri P nt k (.cond c x y) Q fr σ:=ab_ (h ⟨hq⟩) hb
theorem Qy_{f:FuncId}{args caps:List AV}{r:AV}{K:AV→St→Prop}(h:PC P f (args++caps) r)(hq:q)(hk:Hid q→K r σ:=by(intro hq;(try refine aa_ ?_);exact hq.out)):eX_ P (.fn (.func f) caps) args σ K:=ah_ h (hk ⟨hq⟩)
theorem QV_{nv:Nat}{vs vs2:List AV}{ts:List (Nat×AV)}{σ2:St}(zs js:List Nat)(hk:k≤js.length:=by simp)(hfix:js.take k=List.range k:=by rfl)(hnd:js.Nodup:=by simp)(hlt:∀j∈js,j<σ.length:=by simp)(ho:fi_ σ zs (rn js σ.length) js σ2:=by exact evd)
 (hs:fT_ σ zs (rn js σ.length) vs vs2:=by exact evd):GC k ⟨nv,vs,ts⟩ σ ⟨nv,vs2,[]⟩ σ2:=GC.mk' zs js hk hfix hnd hlt ho hs
theorem QO_{rs:List eA_}{r:AV}{σ':St}{l:List AV}{e:Ex}(zs js:List Nat)(he:∀i,e≠.exit i:=by simp)(hl:bV_ fr σ rs=some l:=by first|rfl|exact evd)(hk:k≤js.length:=by simp)(hfix:js.take k=List.range k:=by rfl)(hnd:js.Nodup:=by simp)(hlt:∀j∈js,j<σ.length:=by simp)(ho:fi_ σ zs (rn js σ.length) js σ':=by exact evd)
 (hr:fz σ zs (ee_ l)=ren (rn js σ.length) r:=by exact evd):DP_ rs k σ' r e fr σ:=by_ zs js e he hl hk hfix hnd hlt ho hr
end
set_option linter.unusedVariables false
open Go Go.RowKit
def ay_{α:Type}(f:Nat→α→α)(a:α):Nat→α
 |0=>a
 |n+1=>f n (ay_ f a n)
theorem FV_{α:Type}(f:Nat→α→α)(a:α):ay_ f a 0=a:=rfl
theorem Ly_(k:IntKind):aq_ k []=[]:=rfl
attribute [go_sem] FV_ Ly_
theorem br_{α:Type}(f:Nat→α→α)(a:α)(n:Nat):ay_ f a (n+1)=f n (ay_ f a n):=rfl
theorem ha_{α:Type}{f:Nat→α→α}{a:α}(I:Nat→α→Prop)(h0:I 0 a)(n:Nat)(hs:∀i x,i<n→I i x→I (i+1) (f i x)):∀i,i≤n→I i (ay_ f a i)
 |0,_=>h0
 |i+1,hi=>hs i _ (by omega) (ha_ I h0 n hs i (by omega))
theorem kv_{α:Type}{f g:Nat→α→α}{a:α}:∀ {n:Nat},(∀i x,i<n→f i x=g i x)→ay_ f a n=ay_ g a n
 |0,_=>rfl
 |n+1,h=>by rw[br_,br_,kv_ fun i x hi=>h i x (by omega),h n _ (by omega)]
theorem hb_{β:Type}{f:Nat→List β→List β}{a:List β}(h:∀i l,(f i l).length≤l.length+1):∀n,(ay_ f a n).length≤a.length+n
 |0=>Nat.le_refl _
 |n+1=>by rw[br_];have:=h n (ay_ f a n);have:=hb_ h (a:=a) n;omega
def eF_(p:Nat→Bool):Nat→Nat→Option Nat
 |0,_=>none
 |f+1,i=>if p i=true then some i else eF_ p f (i+1)
def cD_(p:Nat→Bool)(n:Nat):Option Nat:=eF_ p n 0
theorem gm_{p:Nat→Bool}{n i:Nat}(hi:i<n)(h:p i=true):eF_ p (n-i) i=some i:=by
 obtain⟨f,hf⟩:∃f,n-i=f+1:=⟨n-i-1,by omega⟩
 rw[hf];show (if p i=true then _ else _)=_;rw[if_pos h]
theorem gl_{p:Nat→Bool}{n i:Nat}(hi:i<n)(h:p i=false):eF_ p (n-i) i=eF_ p (n-(i+1)) (i+1):=by
 obtain⟨f,hf⟩:∃f,n-i=f+1:=⟨n-i-1,by omega⟩
 rw[hf,show n-(i+1)=f by omega];show (if p i=true then _ else _)=_;rw[if_neg (by simp[h])]
theorem gk_(p:Nat→Bool)(n:Nat):eF_ p (n-n) n=none:=by rw[Nat.sub_self];rfl
theorem xZ_{p:Nat→Bool}:∀ {f i j:Nat},eF_ p f i=some j→i≤j∧j<i+f∧p j=true∧∀k,i≤k→k<j→p k=false
 |0,_,_,h=>by cases h
 | f + 1, i, j, h => by
   unfold eF_ at h;by_cases hp:p i=true
   ·rw[if_pos hp]at h;cases h;exact⟨Nat.le_refl _,by omega,hp,fun k h1 h2=>by omega⟩
   ·rw[if_neg hp]at h;obtain⟨h1,h2,h3,h4⟩:=xZ_ h;refine⟨by omega,by omega,h3,fun k k1 k2=>?_⟩;by_cases hk:k=i
    ·subst hk;simpa using hp
    ·exact h4 k (by omega) k2
theorem xY_{p:Nat→Bool}:∀ {f i:Nat},eF_ p f i=none→∀k,i≤k→k<i+f→p k=false
 |0,_,_,k,h1,h2=>by omega
 | f + 1, i, h, k, h1, h2 => by
   unfold eF_ at h;by_cases hp:p i=true
   ·rw[if_pos hp]at h;cases h
   ·rw[if_neg hp]at h;by_cases hk:k=i
    ·subst hk;simpa using hp
    ·exact xY_ h k (by omega) (by omega)
theorem dR_{p:Nat→Bool}{n j:Nat}(h:cD_ p n=some j):j<n∧p j=true∧∀k,k<j→p k=false:=by
 obtain⟨h1,h2,h3,h4⟩:=xZ_ h;exact⟨by omega,h3,fun k hk=>h4 k (Nat.zero_le _) hk⟩
theorem qJ_{p:Nat→Bool}{n:Nat}(h:cD_ p n=none):∀k,k<n→p k=false:=fun k hk=>xY_ h k (Nat.zero_le _) (by omega)
def wU_(p:Nat→Bool):Nat→Option Nat
 |0=>none
 |n+1=>if p n=true then some n else wU_ p n
theorem Pr_(p:Nat→Bool):wU_ p 0=none:=rfl
theorem Pq_{p:Nat→Bool}{n:Nat}(h:p n=true):wU_ p (n+1)=some n:=by unfold wU_;rw[if_pos h]
theorem Pp_{p:Nat→Bool}{n:Nat}(h:p n=false):wU_ p (n+1)=wU_ p n:=by rw[wU_,if_neg (by simp[h])]
def me_(o:Option Nat):Int:=match o with
 |some i=>(i:Int)
 |none=>-1
theorem hK_(i:Nat):me_ (some i)=(i:Int):=rfl
theorem mF_:me_ none=-1:=rfl
attribute [go_sem] hK_ mF_
end Go.FH
namespace Go.FH
set_option linter.unusedVariables false
open Go Go.RowKit
def rM_(a b:Int):Int×Int:=if IntKind.u64.wrap (18446744073709551615-b)<a then (0,4)else (IntKind.u64.wrap (a+b),0)
def wV_(a b:Int):Int×Int:=if b≠0∧IntKind.u64.wrap (Int.tdiv 18446744073709551615 b)<a then (0,4)else (IntKind.u64.wrap (a*b),0)
def fc_(l:List Int):Nat→Int×Int
 |0=>(0,0)
 |i+1=>let p:=fc_ l i;if p.2≠0 then p else rM_ p.1 (l.getD i 0)
def re_(l:List Int):Int×Int:=fc_ l l.length
def iC_(n:Int):Bool:=decide (1≤n)&&decide (n≤64)
def cf_(e per:Int):Int×Int:=if iC_ per=true then wV_ e per else (0,3)
def tA_(a b:Rt):Nat→Nat→Int
 |0,_=>0
 |f+1,i=>if a.1.getD i 0<b.1.getD i 0 then -1 else if b.1.getD i 0<a.1.getD i 0 then 1 else tA_ a b f (i+1)
def rT_(a b:Rt):Int:=tA_ a b 32 0
def BC_(a b:Wd):Nat→Int
 |0=>0
 |f+1=>if a.1.getD f 0<b.1.getD f 0 then -1 else if b.1.getD f 0<a.1.getD f 0 then 1 else BC_ a b f
def HP_(a b:Wd):Int:=BC_ a b 4
def eu_(t:aw_)(n:Int):Int:=if (t.bals.length:Int)≠n then 2 else if (re_ t.bals).2≠0∨4611686018427387904<(re_ t.bals).1 then 4 else 0
def wi_(a b:Cp):Int:=if a.ep≠b.ep then (if a.ep<b.ep then -1 else 1)else rT_ a.rt b.rt
def tab(l:List aw_)(i:Nat):aw_:=l.getD i default
def dg_(l:List aw_)(c:Cp):Int:=me_ (cD_ (fun i=>decide ((tab l i).cp=c)) l.length)
def kr_(l:List aw_)(c:Cp):Nat→Nat→Nat
 |0,i=>i
 |f+1,i=>if wi_ (tab l i).cp c<0 then kr_ l c f (i+1)else i
def lj_(l:List aw_)(t:aw_):List aw_:=let k:=kr_ l t.cp l.length 0;l.take k++[t]++l.drop k
def iu_(l:List aw_)(t:aw_)(n limit:Int):List aw_×Int:=
 if eu_ t n≠0 then (l,eu_ t n)else if 0≤dg_ l t.cp then (l,9)else if limit≤l.length then (l,11)else (lj_ l t,0)
def dx_(l:List aw_)(e:Int):List aw_:=ay_ (fun i o=>if e≤(tab l i).cp.ep then o++[tab l i]else o) [] l.length
def vot(l:List Vot)(i:Nat):Vot:=l.getD i eh_
def iN_(ep:Int)(root:Rt)(l:List Int):Nat→List Vot×Int→List Vot×Int:=fun i p=>
 if (vot p.1 (l.getD i 0).toNat).has=false∨(vot p.1 (l.getD i 0).toNat).ep<ep then (p.1.set (l.getD i 0).toNat ⟨true,ep,root⟩,IntKind.i64.wrap (p.2+1))else p
def tv_(v:List Vot)(ep:Int)(root:Rt)(l:List Int):List Vot×Int:=ay_ (iN_ ep root l) (v,0) l.length
def sY_(latest:List Vot)(eqv bals:List Int)(roots:List Rt):Int:=
 ay_ (fun i n=>if (vot latest i).has=true∧(i:Int)∉eqv∧(vot latest i).root∈roots then IntKind.u64.wrap (n+bals.getD i 0)else n) 0 (min bals.length latest.length)
def nod(t:List Nod)(i:Nat):Nod:=t.getD i dE_
def isN(t:List Nod)(i:Int):Bool:=decide (0≤i)&&decide (i<t.length)
def an_(t:List Nod)(r:Rt):Int:=me_ (cD_ (fun i=>decide ((nod t i).blk.root=r)) t.length)
def fX_(t:List Nod)(b:Blk)(status:Int):List Nod×Int:=
 if ¬ (0≤status∧status≤2)then ([],2)else if 0≤an_ t b.root then ([],9)else if an_ t b.parent<0 then ([],10)
 else if b.slot≤(nod t (an_ t b.parent).toNat).blk.slot then ([],14)else if 4096≤t.length then ([],11)else (t++[⟨b,an_ t b.parent,status⟩],0)
def gc_(t:List Nod)(i:Int):List Int:=if isN t i=true then ay_ (fun k l=>if (nod t k).up=i then l++[(k:Int)]else l) [] t.length else []
def uM_(t:List Nod):Nat→Int→List Int
 |0,_=>[]
 |f+1,i=>if isN t i=true then (if i=0 then [0]else uM_ t f (nod t i.toNat).up++[i])else []
def cF_(t:List Nod):Prop:=∀i,0<i→i<t.length→0≤(nod t i).up∧(nod t i).up<i
theorem CH_{t:List Nod}(ht:cF_ t):∀ (n i f g:Nat),i<n→i<f→i<g→uM_ t f i=uM_ t g i
 |0,_,_,_,h,_,_=>by omega
 | n + 1, i, f + 1, g + 1, hn, hf, hg => by
   unfold uM_;by_cases hi:isN t (i:Int)=true
   ·rw[if_pos hi,if_pos hi]
    by_cases h0:(i:Int)=0
    ·rw[if_pos h0,if_pos h0]
    ·rw[if_neg h0,if_neg h0];simp[isN]at hi;obtain⟨u0,u1⟩:=ht i (by omega) hi;obtain⟨u,hu⟩:∃u:Nat,(nod t i).up=u:=⟨_,(Int.toNat_of_nonneg u0).symm⟩
     simp only[Int.toNat_natCast];rw[hu,CH_ ht n u f g (by omega) (by omega) (by omega)]
   ·rw[if_neg hi,if_neg hi]
def bG_(t:List Nod)(i:Int):List Int:=uM_ t (t.length+1) i
theorem hG_{t:List Nod}(h:0<t.length):bG_ t 0=[0]:=by
 unfold bG_ uM_;rw[if_pos (by simp[isN,h]),if_pos rfl]
theorem kq_{t:List Nod}(ht:cF_ t){i:Nat}(h0:0<i)(hi:i<t.length):bG_ t i=bG_ t (nod t i).up++[(i:Int)]:=by
 obtain⟨u0,u1⟩:=ht i h0 hi;obtain⟨u,hu⟩:∃u:Nat,(nod t i).up=u:=⟨_,(Int.toNat_of_nonneg u0).symm⟩
 have:=CH_ ht (i+1) u t.length (t.length+1) (by omega) (by omega) (by omega);unfold bG_;rw[hu,←this];show (if isN t (i:Int)=true then _ else _)=_
 rw[if_pos (by simp[isN,hi]),if_neg (by omega),Int.toNat_natCast,hu]
theorem iV_{t:List Nod}{i:Int}(h:isN t i=false):bG_ t i=[]:=by
 unfold bG_ uM_;rw[if_neg (by simp[h])]
theorem hL_{t:List Nod}(ht:cF_ t):∀ (n i:Nat),i<n→(bG_ t i).length≤i+1
 |0,_,h=>by omega
 | n + 1, i, h => by
   by_cases hi:i<t.length
   ·by_cases h0:i=0
    ·subst h0;rw[show ((0:Nat):Int)=0 from rfl,hG_ hi];simp
    ·obtain⟨u0,u1⟩:=ht i (by omega) hi;obtain⟨u,hu⟩:∃u:Nat,(nod t i).up=u:=⟨_,(Int.toNat_of_nonneg u0).symm⟩
     rw[kq_ ht (by omega) hi,hu];have:=hL_ ht n u (by omega);simp;omega
   ·rw[iV_ (by simp[isN];omega)];simp
theorem yr_{t:List Nod}(ht:cF_ t):∀ (n i:Nat),i<n→∀x∈bG_ t i,0≤x∧x≤i∧x<t.length
 |0,_,h,_,_=>by omega
 | n + 1, i, h, x, hx => by
   by_cases hi:i<t.length
   ·by_cases h0:i=0
    ·subst h0;rw[show ((0:Nat):Int)=0 from rfl,hG_ hi]at hx;simp at hx;omega
    ·obtain⟨u0,u1⟩:=ht i (by omega) hi;obtain⟨u,hu⟩:∃u:Nat,(nod t i).up=u:=⟨_,(Int.toNat_of_nonneg u0).symm⟩
     rw[kq_ ht (by omega) hi,hu,List.mem_append,List.mem_singleton]at hx;rcases hx with hx|hx
     ·have:=yr_ ht n u (by omega) x hx;omega
     ·omega
   ·rw[iV_ (by simp[isN];omega)]at hx;simp at hx
theorem er_{t:List Nod}(ht:cF_ t){i x:Int}(hx:x∈bG_ t i):0≤x∧x≤i∧x<t.length:=by
 by_cases h0:0≤i
 ·obtain⟨u,rfl⟩:∃u:Nat,i=u:=⟨_,(Int.toNat_of_nonneg h0).symm⟩
  exact yr_ ht (u+1) u (by omega) x hx
 ·rw[iV_ (by simp[isN];omega)]at hx;simp at hx
theorem iq_{t:List Nod}(ht:cF_ t)(i:Int):(bG_ t i).length≤t.length:=by
 by_cases h0:isN t i=true
 ·have h1:=h0;simp[isN]at h1;obtain⟨u,rfl⟩:∃u:Nat,i=u:=⟨_,(Int.toNat_of_nonneg h1.1).symm⟩
  have:=hL_ ht (u+1) u (by omega);omega
 ·rw[iV_ (by simpa using h0)];simp
def db_(t:List Nod)(a b:Int):Bool:=decide (a∈bG_ t b)
def atT(t:List Nod)(i slot:Int):Int:=ay_ (fun k at_=>if (nod t ((bG_ t i).getD k 0).toNat).blk.slot≤slot then (bG_ t i).getD k 0 else at_) (-1) (bG_ t i).length
def ii_(t:List Nod)(i:Int):List Int:=ay_ (fun k l=>if db_ t i k=true then l++[(k:Int)]else l) [] t.length
def sQ_(t:List Nod)(latest:List Vot)(eqv bals:List Int):List Int:=
 ay_ (fun i l=>l++[if (nod t i).status≠2 then sY_ latest eqv bals [(nod t i).blk.root]else 0]) [] t.length
def Qp_(t:List Nod)(direct:List Int):List Int:=
 ay_ (fun i l=>l++[ay_ (fun k n=>IntKind.u64.wrap (n+direct.getD ((ii_ t i).getD k 0).toNat 0)) 0 (ii_ t i).length]) [] t.length
def oW_(spe boost total:Int):Int×Int:=
 if spe<1∨64<spe∨100<boost∨4611686018427387904<total then (0,3)
 else (IntKind.u64.wrap (IntKind.u64.wrap (IntKind.u64.wrap (Int.tdiv (IntKind.u64.wrap (Int.tdiv total spe)) 100)*boost)+IntKind.u64.wrap (Int.tdiv (IntKind.u64.wrap (Int.tmod (IntKind.u64.wrap (Int.tdiv total spe)) 100*boost)) 100)),0)
def jx_(t:List Nod)(direct:List Int)(root:Rt)(amount:Int):List Int:=
 if 0≤an_ t root∧(nod t (an_ t root).toNat).status≠2∧root≠rt0 then direct.set (an_ t root).toNat (IntKind.u64.wrap (direct.getD (an_ t root).toNat 0+amount))else direct
def bL_(t:List Nod)(i:Int)(k:Nat)(p:List Nod×List Int):List Nod×List Int:=
 if db_ t i k=true then (p.1++[⟨(nod t k).blk,if (k:Int)=i then -1 else p.2.getD (nod t k).up.toNat 0,(nod t k).status⟩],p.2++[(p.1.length:Int)])else (p.1,p.2++[-1])
def eb_(t:List Nod)(i:Int):List Nod×List Int:=ay_ (bL_ t i) ([],[]) t.length
def qb_(l:List Int)(status forbidden:Int)(k:Nat)(o:Option (List Nod)):Option (List Nod):=o.bind fun u=>if (nod u (l.getD k 0).toNat).status=forbidden then none else some (u.set (l.getD k 0).toNat { nod u (l.getD k 0).toNat with status:=status })
def vk_(t:List Nod)(l:List Int)(status forbidden:Int):Option (List Nod):=ay_ (qb_ l status forbidden) (some t) l.length
theorem yI_{l:List Int}{status forbidden:Int}{o:Option (List Nod)}{k:Nat}(h:ay_ (qb_ l status forbidden) o k=none):∀n,k≤n→ay_ (qb_ l status forbidden) o n=none
 |0,hn=>by rw[show 0=k by omega];exact h
 | n + 1, hn => by
   by_cases he:k=n+1
   ·rw[←he];exact h
   ·rw[br_,yI_ h n (by omega)];rfl
theorem iw_{t:List Nod}{l:List Int}{status forbidden:Int}:∀ {k:Nat} {u:List Nod},ay_ (qb_ l status forbidden) (some t) k=some u→u.length=t.length
 |0,u,h=>by cases h;rfl
 | k + 1, u, h => by
   rw[br_]at h;cases h2:ay_ (qb_ l status forbidden) (some t) k with
   |none=>rw[h2]at h;cases h
   | some v =>
     rw[h2]at h;simp only[qb_,Option.bind_some]at h;split at h
     ·cases h
     ·cases h;rw[List.length_set,iw_ h2]
def cV_(t:List Nod)(i:Int):List Nod×Int:=if isN t i=true then (match vk_ t (bG_ t i) 1 2 with|some u=>(u,0)|none=>([],21))else ([],10)
def iO_(t:List Nod)(i:Int):List Nod×Int:=if isN t i=true then (match vk_ t (ii_ t i) 2 1 with|some u=>(u,0)|none=>([],21))else ([],10)
theorem Nv_{u:List Nod}{j i:Nat}{n:Nod}:nod (u.set j n) i=if j=i∧i<u.length then n else nod u i:=by
 unfold nod;simp only[List.getD_eq_getElem?_getD,List.getElem?_set];by_cases h:j=i
 ·subst h;by_cases h2:j<u.length
  ·simp[h2]
  ·simp[h2]
 ·simp[h]
theorem qc_{t:List Nod}{l:List Int}{status forbidden:Int}:∀ {k:Nat} {u:List Nod},ay_ (qb_ l status forbidden) (some t) k=some u→∀i,(nod u i).up=(nod t i).up∧(nod u i).blk=(nod t i).blk
 |0,u,h,i=>by cases h;exact⟨rfl,rfl⟩
 | k + 1, u, h, i => by
   rw[br_]at h;cases h2:ay_ (qb_ l status forbidden) (some t) k with
   |none=>rw[h2]at h;cases h
   | some v =>
     rw[h2]at h;simp only[qb_,Option.bind_some]at h;have ih:=qc_ h2 i;split at h
     ·cases h
     ·cases h;rw[Nv_];split
      ·rename_i hq;rw[←hq.1]at ih ⊢;exact ih
      ·exact ih
theorem cF_.of_up{t u:List Nod}(ht:cF_ t)(hl:u.length=t.length)(hu:∀i,(nod u i).up=(nod t i).up):cF_ u:=fun i h1 h2=>by rw[hu i];exact ht i h1 (by omega)
theorem IU_{t:List Nod}(ht:cF_ t){i:Int}(h:(cV_ t i).2=0):cF_ (cV_ t i).1∧(cV_ t i).1.length=t.length∧∀k,(nod (cV_ t i).1 k).blk=(nod t k).blk:=by
 unfold cV_ at *;split at h
 ·rename_i h1;rw[if_pos h1];cases h2:vk_ t (bG_ t i) 1 2 with
  |none=>rw[h2]at h;simp at h
  |some u=>exact⟨ht.of_up (iw_ h2) (fun i=>(qc_ h2 i).1),iw_ h2,fun k=>(qc_ h2 k).2⟩
 ·simp at h
def hj_(t:List Nod)(i:Int)(latest:Rt):Int×Int:=
 if (bG_ t i).length=0 then (-1,-1)
 else if latest=rt0 then (match cD_ (fun k=>decide ((nod t ((bG_ t i).getD k 0).toNat).blk.payload≠rt0)) (bG_ t i).length with
  |some k=>((nod t ((bG_ t i).getD k 0).toNat).up,(bG_ t i).getD k 0)
  |none=>(-1,i))
 else (match wU_ (fun k=>decide ((nod t ((bG_ t i).getD k 0).toNat).blk.payload=latest)) ((bG_ t i).length-1)with
  |some k=>((bG_ t i).getD k 0,(bG_ t i).getD (k+1) 0)
  |none=>(-1,i))
def gn_(t:List Nod)(i:Int)(v:Vdt)(keep:List Int):List Nod×Int:=
 if isN t i=false then ([],10)else if v.kind=1 then cV_ t i else if v.kind=3∨v.kind=4 then (t,0)else if v.kind≠2 then ([],2)
 else if (cD_ (fun k=>db_ t (hj_ t i v.latest).2 (keep.getD k 0)) keep.length).isSome=true then ([],21)
 else if 0≤(hj_ t i v.latest).1 then (if (cV_ t (hj_ t i v.latest).1).2≠0 then ([],(cV_ t (hj_ t i v.latest).1).2)else iO_ (cV_ t (hj_ t i v.latest).1).1 (hj_ t i v.latest).2)
 else iO_ t (hj_ t i v.latest).2
end Go.FH
namespace Go.FH
set_option linter.unusedVariables false
set_option linter.unusedSimpArgs false
open Go Go.RowKit
def dY_(s p:Int):Int×Int:=if iC_ p=true then (IntKind.u64.wrap (Int.tdiv s p),0)else (0,3)
theorem gt_{n:Int}(h0:0≤n)(h1:n<18446744073709551616):IntKind.u64.wrap n=n:=aL_ h0 h1
def Ps_(a b:Int):Int×Int:=if a*b / 18446744073709551616=0 then (IntKind.u64.wrap (a*b),0)else (0,4)
theorem Nt_{a b:Int}(ha:0≤a)(ha2:a<18446744073709551616)(hb:0≤b)(hb2:b<18446744073709551616):Ps_ a b=wV_ a b:=by
 unfold Ps_ wV_;by_cases h0:b=0
 ·subst h0;simp
 ·have hb1:0<b:=by omega
  have hd:Int.tdiv 18446744073709551615 b=18446744073709551615 / b:=Int.tdiv_eq_ediv_of_nonneg (by decide);have hq0:0≤18446744073709551615 / b:=Int.ediv_nonneg (by decide) hb;have hq1:18446744073709551615 / b≤18446744073709551615:=Int.ediv_le_self _ (by decide);rw[hd,gt_ hq0 (by omega)];have hab:0≤a*b:=Int.mul_nonneg ha hb
  have key:(18446744073709551615 / b<a)↔18446744073709551615<a*b:=by
   rw[Int.ediv_lt_iff_lt_mul hb1]
  by_cases h:18446744073709551615 / b<a
  ·have h2:=key.1 h;rw[if_neg (by omega),if_pos ⟨h0,h⟩]
  ·have h2:¬18446744073709551615<a*b:=fun h3=>h (key.2 h3)
   rw[if_pos (by omega),if_neg (fun h3=>h h3.2)]
theorem Pt_{x0 x1 y0 y1:Int}(hx0:0≤x0)(hx0':x0<4294967296)(hx1:0≤x1)(hx1':x1<4294967296)(hy0:0≤y0)(hy0':y0<4294967296)(hy1:0≤y1)(hy1':y1<4294967296):
 (0≤x0*y0∧x0*y0≤18446744065119617025)∧(0≤x1*y0∧x1*y0≤18446744065119617025)∧(0≤x0*y1∧x0*y1≤18446744065119617025)∧(0≤x1*y1∧x1*y1≤18446744065119617025)∧
  (x1*4294967296+x0)*(y1*4294967296+y0)=x1*y1*18446744073709551616+(x1*y0+x0*y1)*4294967296+x0*y0:=by
 have b:∀ {u v:Int},0≤u→u<4294967296→0≤v→v<4294967296→0≤u*v∧u*v≤18446744065119617025:=by
  intro u v h1 h2 h3 h4;refine⟨Int.mul_nonneg h1 h3,?_⟩;have:=Int.mul_le_mul (show u≤4294967295 by omega) (show v≤4294967295 by omega) h3 (by decide);simpa using this
 refine⟨b hx0 hx0' hy0 hy0',b hx1 hx1' hy0 hy0',b hx0 hx0' hy1 hy1',b hx1 hx1' hy1 hy1',?_⟩;simp only[Int.add_mul,Int.mul_add]
 have e1:x1*4294967296*(y1*4294967296)=x1*y1*18446744073709551616:=by
  rw[Int.mul_comm y1,←Int.mul_assoc,Int.mul_assoc x1 4294967296 4294967296,Int.mul_right_comm];rfl
 have e2:x1*4294967296*y0=x1*y0*4294967296:=Int.mul_right_comm _ _ _;have e3:x0*(y1*4294967296)=x0*y1*4294967296:=(Int.mul_assoc _ _ _).symm;rw[e1,e2,e3];omega
def KE_(a b:Int):Int:=if a<b then -1 else if b<a then 1 else 0
def orI:List Int→Int
 | []=>0
 |x::r=>if x≠0 then x else orI r
theorem ND_(a b:Cp):orI [KE_ a.ep b.ep,rT_ a.rt b.rt]=wi_ a b:=by
 unfold wi_ KE_;by_cases h1:a.ep<b.ep
 ·simp[orI,h1];omega
 ·by_cases h2:b.ep<a.ep
  ·simp[orI,h1,h2];omega
  ·have:a.ep=b.ep:=by omega
   simp[orI,this];intro h;exact h.symm
theorem Nb_(a b:Rt):wh_ a.1 b.1=rT_ a b:=by
 have key:∀ (f i:Nat) (x y:List UInt8),x.length=i+f→y.length=i+f→wh_ (x.drop i) (y.drop i)=(fun(x y:List UInt8)=>Nat.rec (motive:=fun _=>Nat→Int) (fun _=>0) (fun _ g i=>if x.getD i 0<y.getD i 0 then -1 else if y.getD i 0<x.getD i 0 then 1 else g (i+1)) f i) x y:=by
  intro f;induction f with
  | zero =>
    intro i x y hx hy;rw[List.drop_of_length_le (by omega),List.drop_of_length_le (by omega)];rfl
  | succ f ih =>
    intro i x y hx hy;rw[List.drop_eq_getElem_cons (show i<x.length by omega),List.drop_eq_getElem_cons (show i<y.length by omega)];have e1:x.getD i 0=x[i]'(by omega):=by simp[List.getD,show i<x.length by omega]
    have e2:y.getD i 0=y[i]'(by omega):=by simp[List.getD,show i<y.length by omega]
    simp only[wh_,e1,e2];rw[ih (i+1) x y (by omega) (by omega)]
 have h:=key 32 0 a.1 b.1 a.2 b.2;simp only[List.drop_zero]at h;rw[h];unfold rT_
 have:∀f i,(Nat.rec (motive:=fun _=>Nat→Int) (fun _=>0) (fun _ g i=>if a.1.getD i 0<b.1.getD i 0 then -1 else if b.1.getD i 0<a.1.getD i 0 then 1 else g (i+1)) f i:Int)=tA_ a b f i:=by
  intro f;induction f with
  |zero=>intro i;rfl
  |succ f ih=>intro i;simp only[tA_,ih]
 exact this 32 0
def sI_:List Int→Int→Int×Bool
 | [],n=>(n,true)
 |x::r,n=>if IntKind.u64.wrap (4611686018427387904-n)<x then (0,false)else sI_ r (IntKind.u64.wrap (n+x))
def iA_:List Int→Int
 | []=>0
 |x::r=>x+iA_ r
theorem AW_:∀ {l:List Int},(∀x∈l,0≤x∧x<18446744073709551616)→0≤iA_ l
 | [],_=>Int.le_refl 0
 | x :: r, h => by
   have:=h x (List.mem_cons_self ..);have:=AW_ (l:=r) fun y hy=>h y (List.mem_cons_of_mem _ hy)
   simp only[iA_];omega
theorem GS_:∀ {l:List Int} {n:Int},(∀x∈l,0≤x∧x<18446744073709551616)→0≤n→n≤4611686018427387904→(sI_ l n).2=decide (n+iA_ l≤4611686018427387904)
 | [],n,_,h0,h1=>by simp[sI_,iA_,h1]
 | x :: r, n, h, h0, h1 => by
   have hx:=h x (List.mem_cons_self ..);have hr:=fun y hy=>h y (List.mem_cons_of_mem x hy)
   have hn:=AW_ (l:=r) hr;simp only[sI_];rw[gt_ (n:=4611686018427387904-n) (by omega) (by omega)];by_cases hc:4611686018427387904-n<x
   ·rw[if_pos hc];exact(decide_eq_false (by simp only[iA_];omega)).symm
   ·rw[if_neg hc,gt_ (by omega) (by omega),GS_ hr (by omega) (by omega)];exact decide_eq_decide.2 (by simp only[iA_];constructor<;>intro<;>omega)
theorem Dt_:∀ (l m:List Int),iA_ (l++m)=iA_ l+iA_ m
 | [],m=>by simp[iA_]
 |x::l,m=>by simp only[List.cons_append,iA_,Dt_ l m];omega
theorem GR_{l:List Int}(h:∀x∈l,0≤x∧x<18446744073709551616):∀i,i≤l.length→(iA_ (l.take i)<18446744073709551616→fc_ l i=(iA_ (l.take i),0))∧(18446744073709551616≤iA_ (l.take i)→(fc_ l i).2≠0)
 |0,_=>⟨fun _=>by simp[fc_,iA_],fun h=>by simp[iA_]at h⟩
 | i + 1, hi => by
   obtain⟨h1,h2⟩:=GR_ h i (by omega)
   have ht:l.take (i+1)=l.take i++[l.getD i 0]:=by
    rw[List.take_add_one,List.getD_eq_getElem?_getD,List.getElem?_eq_getElem (show i<l.length by omega)];rfl
   have hx:0≤l.getD i 0∧l.getD i 0<18446744073709551616:=by
    rw[List.getD_eq_getElem?_getD,List.getElem?_eq_getElem (show i<l.length by omega)];exact h _ (List.getElem_mem _)
   have hn:=AW_ (l:=l.take i) fun y hy=>h y (List.mem_of_mem_take hy)
   have hs:iA_ (l.take (i+1))=iA_ (l.take i)+l.getD i 0:=by rw[ht,Dt_];simp[iA_]
   rw[hs];simp only[fc_];by_cases hc:iA_ (l.take i)<18446744073709551616
   ·rw[h1 hc]
    simp only[ne_eq,not_true_eq_false,if_false];unfold rM_;rw[gt_ (n:=18446744073709551615-l.getD i 0) (by omega) (by omega)];by_cases hov:18446744073709551615-l.getD i 0<iA_ (l.take i)
    ·rw[if_pos hov];exact⟨fun h=>by omega,fun _=>by decide⟩
    ·rw[if_neg hov,gt_ (by omega) (by omega)];exact⟨fun _=>rfl,fun h=>by omega⟩
   ·have h3:=h2 (by omega);rw[if_pos h3];exact⟨fun h=>by omega,fun _=>h3⟩
theorem JV_{l:List Int}(h:∀x∈l,0≤x∧x<18446744073709551616):((re_ l).2≠0∨4611686018427387904<(re_ l).1)↔(sI_ l 0).2=false:=by
 rw[GS_ h (Int.le_refl 0) (by decide),Int.zero_add];have h1:=GR_ h l.length (Nat.le_refl _);rw[List.take_length]at h1;unfold re_;by_cases hc:iA_ l<18446744073709551616
 ·rw[h1.1 hc];simp
 ·have:=h1.2 (by omega);simp only[decide_eq_false_iff_not];exact⟨fun _=>by omega,fun _=>.inl this⟩
def Sm{α:Type}(G F:α→Prop):Prop:=∃r,G r∧F r
section
variable{α:Type}{G:α→Prop}{P:Program}{nt k:Nat}{fr:Fr}{σ:St}
theorem eH_{p q:α→Prop}(h:∀r,q r→p r)(hq:Sm G q):Sm G p:=hq.imp fun r h1=>⟨h1.1,h r h1.2⟩
theorem Mm_{F:α→Prop}(r:α)(h1:G r)(h2:F r):Sm G F:=⟨r,h1,h2⟩
theorem bm_{p q:α→Prop}(hq:Sm G q) (h:∀r,Hid (q r)→p r:=by
 (intro r hq
  (first|with_reducible (first|refine fd_ ?_|refine fv_ ?_|refine eI_ ?_|refine gX_ (by simp only[List.length_cons,List.length_nil]) ?_|refine gZ_ ?_|refine gY_ ?_|refine jd_ ?_)|(simp only[go_sem,Nat.reduceAdd,Nat.reduceSub,Nat.reduceMul,Nat.reduceLT,Nat.reduceLeDiff,Nat.reduceEqDiff,reduceIte,Int.reduceToNat,Int.reduceLT,Int.reduceLE,Int.reduceEq,Int.reduceNeg,reduceCtorEq,Int.reduceBEq,Int.reduceBNe])|with_reducible refine And.intro (ip_ (by decide)) ?_|(with_reducible refine And.intro ?_ ?_;first|omega|decide|(simp;done)|(simp;omega)))
  repeat(first|with_reducible (first|refine fd_ ?_|refine fv_ ?_|refine eI_ ?_|refine gX_ (by simp only[List.length_cons,List.length_nil]) ?_|refine gZ_ ?_|refine gY_ ?_|refine jd_ ?_)|(simp only[go_sem,Nat.reduceAdd,Nat.reduceSub,Nat.reduceMul,Nat.reduceLT,Nat.reduceLeDiff,Nat.reduceEqDiff,reduceIte,Int.reduceToNat,Int.reduceLT,Int.reduceLE,Int.reduceEq,Int.reduceNeg,reduceCtorEq,Int.reduceBEq,Int.reduceBNe])|with_reducible refine And.intro (ip_ (by decide)) ?_|(with_reducible refine And.intro ?_ ?_;first|omega|decide|(simp;done)|(simp;omega)))
  exact hq.out)):Sm G p:=eH_ (fun r h1=>h r ⟨h1⟩) hq
theorem bE_{x y:ad_}{Q:α→Ex→Fr→St→Prop}(h:Sm G fun r=>Tri P nt k x (fu_ (Tri P nt k y (Q r)) (Q r)) fr σ):Sm G fun r=>Tri P nt k (.seq x y) (Q r) fr σ:=eH_ (fun r h1=>fd_ h1) h
theorem ec_{p q:α→Prop}(hq:Sm G q) (h:∀r,Hid (q r)→p r:=by
 (intro r hq
  (first|with_reducible (first|refine fv_ ?_|refine eI_ ?_|refine gX_ (by simp only[List.length_cons,List.length_nil]) ?_|refine gZ_ ?_|refine gY_ ?_|refine jd_ ?_)|(simp only[go_sem,Nat.reduceAdd,Nat.reduceSub,Nat.reduceMul,Nat.reduceLT,Nat.reduceLeDiff,Nat.reduceEqDiff,reduceIte,Int.reduceToNat,Int.reduceLT,Int.reduceLE,Int.reduceEq,Int.reduceNeg,reduceCtorEq,Int.reduceBEq,Int.reduceBNe])|with_reducible refine And.intro (ip_ (by decide)) ?_|(with_reducible refine And.intro ?_ ?_;first|omega|decide|(simp;done)|(simp;omega)))
  repeat(first|with_reducible (first|refine fv_ ?_|refine eI_ ?_|refine gX_ (by simp only[List.length_cons,List.length_nil]) ?_|refine gZ_ ?_|refine gY_ ?_|refine jd_ ?_)|(simp only[go_sem,Nat.reduceAdd,Nat.reduceSub,Nat.reduceMul,Nat.reduceLT,Nat.reduceLeDiff,Nat.reduceEqDiff,reduceIte,Int.reduceToNat,Int.reduceLT,Int.reduceLE,Int.reduceEq,Int.reduceNeg,reduceCtorEq,Int.reduceBEq,Int.reduceBNe])|with_reducible refine And.intro (ip_ (by decide)) ?_|(with_reducible refine And.intro ?_ ?_;first|omega|decide|(simp;done)|(simp;omega)))
  exact hq.out)):Sm G p:=eH_ (fun r h1=>h r ⟨h1⟩) hq
theorem gd_{p q:α→Prop}(hq:Sm G q) (h:∀r,Hid (q r)→p r:=by
 (intro r hq
  (first|(simp only[go_sem,Nat.reduceAdd,Nat.reduceSub,Nat.reduceMul,Nat.reduceLT,Nat.reduceLeDiff,Nat.reduceEqDiff,reduceIte,Int.reduceToNat,Int.reduceLT,Int.reduceLE,Int.reduceEq,Int.reduceNeg,reduceCtorEq,Int.reduceBEq,Int.reduceBNe])|with_reducible refine And.intro (ip_ (by decide)) ?_|(with_reducible refine And.intro ?_ ?_;first|omega|decide|(simp;done)|(simp;omega)))
  repeat(first|(simp only[go_sem,Nat.reduceAdd,Nat.reduceSub,Nat.reduceMul,Nat.reduceLT,Nat.reduceLeDiff,Nat.reduceEqDiff,reduceIte,Int.reduceToNat,Int.reduceLT,Int.reduceLE,Int.reduceEq,Int.reduceNeg,reduceCtorEq,Int.reduceBEq,Int.reduceBNe])|with_reducible refine And.intro (ip_ (by decide)) ?_|(with_reducible refine And.intro ?_ ?_;first|omega|decide|(simp;done)|(simp;omega)))
  exact hq.out)):Sm G p:=eH_ (fun r h1=>h r ⟨h1⟩) hq
theorem aS_{c:Opd}{x y:ad_}{Q:α→Ex→Fr→St→Prop}{t:Bool}(h1:t=true→Sm G fun r=>Tri P nt k x (Q r) fr σ)(h2:t=false→Sm G fun r=>Tri P nt k y (Q r) fr σ)
 (hb:c.ev fr=.bool t:=by first|rfl|(simp only[go_sem];rfl)):Sm G fun r=>Tri P nt k (.cond c x y) (Q r) fr σ:=by
 cases t with
 |true=>exact eH_ (fun r h=>bA_ hb (fun _=>h) (fun h=>by cases h)) (h1 rfl)
 |false=>exact eH_ (fun r h=>bA_ hb (fun h=>by cases h) (fun _=>h)) (h2 rfl)
theorem cr_{p1 p2:Prop}{A B:α→Prop}(h1:p1→Sm G A)(h2:p2→Sm G B)(hx:p1→p2→False:=by intro h1 h2;first|(rw[h1]at h2;cases h2;done)|exact h2 h1|exact h1 h2|(simp_all;done)|omega)
 (ho:p1∨p2:=by first|exact Classical.em _|exact(Classical.em _).symm|exact Bool.eq_false_or_eq_true _|exact(Bool.eq_false_or_eq_true _).symm|(simp;omega)|omega):Sm G fun r=>(p1→A r)∧(p2→B r):=by
 rcases ho with h|h
 ·exact eH_ (fun r h3=>⟨fun _=>h3,fun h4=>(hx h h4).elim⟩) (h1 h)
 ·exact eH_ (fun r h3=>⟨fun h4=>(hx h4 h).elim,fun _=>h3⟩) (h2 h)
theorem bu_{f:FuncId}{args caps:List AV}{r0:AV}{K:α→AV→St→Prop}(h:PC P f (args++caps) r0)(hk:Sm G fun r=>K r r0 σ):Sm G fun r=>eX_ P (.fn (.func f) caps) args σ (K r):=eH_ (fun r h1=>ah_ h h1) hk
theorem ca_{n:Nat}{f:FuncId}{args caps:List AV}{r0:AV}{K:α→AV→List Nat→List Nat→St→Prop}(h:PC P f (args++caps) r0)(hk:Sm G fun r=>K r r0 [] [] σ):
 Sm G fun r=>∃v ft ch σ',nS_ P n (.fn (.func f) caps) args σ v ft ch σ'∧K r v ft ch σ':=eH_ (fun r h1=>au_ h h1) hk
theorem Ql_{c:ad_}{Q:α→Ex→Fr→St→Prop}{fr2:Fr}{σ2:St}(hg:GC k fr σ fr2 σ2)(h:Sm G fun r=>Tri P nt k c (Q r) fr2 σ2):Sm G fun r=>Tri P nt k c (Q r) fr σ:=eH_ (fun r h1=>du_ hg h1) h
def PT_(P:Program)(nt k:Nat)(x:ad_)(fr:Fr)(σ:St)(fr2:Fr)(σ2:St):Prop:=∀ (z:ad_) (Q0 Q:Ex→Fr→St→Prop),Tri P nt k z Q0 fr2 σ2→Tri P nt k x (fu_ (Tri P nt k z Q0) Q) fr σ
theorem sS_{x:ad_}{fr2:Fr}{σ2:St}(h:Tri P nt k x (fun e fr σ=>e=.normal∧GC k fr σ fr2 σ2) fr σ):PT_ P nt k x fr σ fr2 σ2:=fun z Q0 Q hz=>Tri.mono h fun e fr3 σ3 ⟨h1,h2⟩=>by
 subst h1;exact du_ h2 hz
theorem mR_{c:Opd}{x y z:ad_}{Q0 Q:Ex→Fr→St→Prop}{t:Bool}{nv:Nat}{vs:List AV}{ts:List (Nat×AV)}(us:Bool→List (Nat×AV))(S:Bool→St)
 (hx:t=true→Tri P nt k x (fun e fr σ=>e=.normal∧GC k fr σ ⟨nv,hl_ (us true) vs,[]⟩ (S true)) ⟨nv,vs,ts⟩ σ) (hy:t=false→Tri P nt k y (fun e fr σ=>e=.normal∧GC k fr σ ⟨nv,hl_ (us false) vs,[]⟩ (S false)) ⟨nv,vs,ts⟩ σ)
 (hz:Tri P nt k z Q0 ⟨nv,hl_ (us t) vs,[]⟩ (S t)) (hb:c.ev ⟨nv,vs,ts⟩=.bool t:=by first|rfl|(simp only[go_sem];rfl)):Tri P nt k (.cond c x y) (fu_ (Tri P nt k z Q0) Q) ⟨nv,vs,ts⟩ σ:=by
 cases t with
 |true=>exact bA_ hb (fun _=>sS_ (hx rfl) z Q0 Q hz) (fun h=>by cases h)
 |false=>exact bA_ hb (fun h=>by cases h) (fun _=>sS_ (hy rfl) z Q0 Q hz)
theorem AE_{β:Type}{x z:ad_}{Q0 Q:α→Ex→Fr→St→Prop}{H:β→Prop}{F:β→Fr}{S:β→St}(h:Sm H fun b=>Tri P nt k x (fun e fr σ=>e=.normal∧GC k fr σ (F b) (S b)) fr σ)
 (hz:∀b,H b→Sm G fun r=>Tri P nt k z (Q0 r) (F b) (S b)):Sm G fun r=>Tri P nt k x (fu_ (Tri P nt k z (Q0 r)) (Q r)) fr σ:=by
 obtain⟨b,h1,h2⟩:=h;exact eH_ (fun r h3=>sS_ h2 z _ _ h3) (hz b h1)
theorem fb_{β:Type}{x z:ad_}{Q0 Q:α→Ex→Fr→St→Prop}{nv:Nat}{vs:List AV}{ts:List (Nat×AV)}(H:β→Prop)(f:β→List AV)(i:Nat)(us:List (Nat×AV))(h:Sm H fun b=>Tri P nt k x (fun e fr' σ'=>e=.normal∧GC k fr' σ' ⟨nv,hl_ us vs,[]⟩ (σ.set i (.var (f b)))) ⟨nv,vs,ts⟩ σ)
 (hz:∀b,H b→Sm G fun r=>Tri P nt k z (Q0 r) ⟨nv,hl_ us vs,[]⟩ (σ.set i (.var (f b)))):Sm G fun r=>Tri P nt k x (fu_ (Tri P nt k z (Q0 r)) (Q r)) ⟨nv,vs,ts⟩ σ:=AE_ (F:=fun _=>⟨nv,hl_ us vs,[]⟩) (S:=fun b=>σ.set i (.var (f b))) h hz
theorem qd_{β:Type}{x z:ad_}{Q0 Q:α→Ex→Fr→St→Prop}{nv:Nat}{vs:List AV}{ts:List (Nat×AV)}(H:β→Prop)(us:β→List (Nat×AV))(h:Sm H fun b=>Tri P nt k x (fun e fr' σ'=>e=.normal∧GC k fr' σ' ⟨nv,hl_ (us b) vs,[]⟩ σ) ⟨nv,vs,ts⟩ σ)
 (hz:∀b,H b→Sm G fun r=>Tri P nt k z (Q0 r) ⟨nv,hl_ (us b) vs,[]⟩ σ):Sm G fun r=>Tri P nt k x (fu_ (Tri P nt k z (Q0 r)) (Q r)) ⟨nv,vs,ts⟩ σ:=AE_ (F:=fun b=>⟨nv,hl_ (us b) vs,[]⟩) (S:=fun _=>σ) h hz
theorem vn_{β:Type}{x z:ad_}{Q0 Q:α→Ex→Fr→St→Prop}{nv:Nat}{vs:List AV}{ts:List (Nat×AV)}(H:β→Prop)(us:β→List (Nat×AV))(S:β→St)(h:Sm H fun b=>Tri P nt k x (fun e fr' σ'=>e=.normal∧GC k fr' σ' ⟨nv,hl_ (us b) vs,[]⟩ (S b)) ⟨nv,vs,ts⟩ σ)
 (hz:∀b,H b→Sm G fun r=>Tri P nt k z (Q0 r) ⟨nv,hl_ (us b) vs,[]⟩ (S b)):Sm G fun r=>Tri P nt k x (fu_ (Tri P nt k z (Q0 r)) (Q r)) ⟨nv,vs,ts⟩ σ:=AE_ (F:=fun b=>⟨nv,hl_ (us b) vs,[]⟩) (S:=S) h hz
theorem eG_{H:α→Prop}{fr1 fr2:Fr}{σ1:St}{S:α→St}(f:α→List AV)(i:Nat){b:α}(hi:σ1[i]?=some (.var (f b)))(hb:H b)(hg:GC k fr1 σ1 fr2 (S b)):Sm H fun r=>GC k fr1 σ1 fr2 (S r):=⟨b,hb,hg⟩
theorem vm_{rs:List eA_}{F:α→AV}{l:List AV}{b:α}(hl:bV_ fr σ rs=some l)(hv:fz σ (List.range σ.length) (ee_ l)=F b)(hg:G b):Sm G fun r=>PQ rs (F r) .ret fr σ:=⟨b,hg,l,hl,.inl hv⟩
theorem fU_{f:FuncId}{rs:List eA_}{ac:ad_}{args:List AV}{F:α→AV}(nv:Nat)(hf:av_ P f=some (nt,rs,ac))(ha:args.length≤nt)(hp:PuL args)(hr:∀r,G r→Pu (F r))
 (h:Sm G fun r=>Tri P nt 0 ac (PQ rs (F r)) ⟨nv,args++List.replicate (nv-args.length) .dead,[]⟩ []):Sm G fun r=>PC P f args (F r):=by
 obtain⟨r,h1,h2⟩:=h;exact⟨r,h1,PC.fact nv hf ha hp (hr r h1) h2⟩
end
section
variable{P:Program}{σ:St}
theorem qK_{n:Nat}{loc:Nat→Option Loc}{b:Nat}:¬aB_ (List.replicate n .gone) loc b:=by
 rintro⟨id,o,L,h1,h2,_⟩;rw[List.getElem?_replicate]at h1;split at h1
 ·simp only[Option.some.injEq]at h1;subst h1;cases h2
 ·cases h1
theorem as_.give{f:FuncId}{args:List AV}{r:AV}(h:PC P f (fzL σ (List.range σ.length) args) r):as_ P f args σ r (List.replicate σ.length .gone):=by
 refine⟨h.call.1,by simp,fun X loc w vs hr hv=>?_⟩;obtain⟨loc2,g1,g2,g3,g4⟩:=(ik_ σ (List.range σ.length)).rel hr;have hpu:=h.pa
 have hv2:RlS (aA_ X loc2 [] w) (fzL σ (List.range σ.length) args) vs:=by
  have key:∀ {xs:List AV} {us:List Value},PuL (fzL σ (List.range σ.length) xs)→RlS (aA_ X loc σ w) xs us→RlS (aA_ X loc2 [] w) (fzL σ (List.range σ.length) xs) us:=by
   intro xs;induction xs with
   |nil=>intro us _ hv;exact hv
   | cons a xs ih =>
     intro us hp hv;obtain⟨u,us',e,h1,h2⟩:=hv;exact⟨u,us',e,g4 a u h1 _ (hp.1.ren _).symm,ih hp.2 h2⟩
  exact key hpu hv
 refine(h.call.2.2 X loc2 w vs g2 hv2).mono ?_;rintro e w' ⟨v,loc',rfl,ho,_⟩;have hl:loc'=fun _=>none:=funext fun id=>ho.rel.beyond id (Nat.zero_le _)
 have hnl:∀b,¬aB_ [] loc' b:=fun b hd=>by obtain⟨id,o,L,h1,_⟩:=hd;simp at h1
 refine⟨v,loc,rfl,⟨fun _ _ h=>h,⟨fun id o h1 h2=>?_,fun i j a b La Lb _ h1 _ h3=>?_,fun b hb=>⟨Nat.lt_of_lt_of_le (hr.out b hb).1 ho.ev.size,qK_⟩,fun id hid=>hr.beyond id (by simpa using hid)⟩,?_,⟨ho.ev.size,fun b hb hn=>ho.ev.blk b hb (fun hd=>by obtain⟨id,o,L,h1,_⟩:=hd;simp at h1),ho.ev.os,ho.ev.tape,ho.ev.output⟩,fun b hb=>absurd hb qK_⟩,fun _ _=>rfl⟩
 ·rw[List.getElem?_replicate]at h1;split at h1
  ·simp only[Option.some.injEq]at h1;subst h1;cases h2
  ·cases h1
 ·rw[List.getElem?_replicate]at h1;split at h1
  ·simp only[Option.some.injEq]at h1;subst h1;cases h3
  ·cases h1
 ·refine Rl.mono (E:=aA_ X loc' [] w') (E':=aA_ X loc (List.replicate σ.length .gone) w') ⟨fun id L hL=>?_,Nat.le_refl _,fun b hb hn=>⟨fun(hf:X b∨aB_ _ loc b)=>hn (hf.elim .inl fun hd=>absurd hd qK_),rfl⟩⟩ _ _ ho.val;have hL2:loc' id=some L:=hL;rw[hl]at hL2;cases hL2
end
def MD_(σ:St)(zs:List Nat)(ρ:Nat→Nat)(ts:List (Nat×AV)):List (Nat×AV)→Prop
 | []=>True
 |p::r=>fz σ zs (mm_ ts p.1)=ren ρ p.2∧MD_ σ zs ρ ts r
theorem MD_.get{σ:St}{zs:List Nat}{ρ:Nat→Nat}{ts:List (Nat×AV)}(t:Nat):∀ {ts2:List (Nat×AV)},MD_ σ zs ρ ts ts2→mm_ ts2 t=.dead∨fz σ zs (mm_ ts t)=ren ρ (mm_ ts2 t)
 | [],_=>.inl rfl
 | (u, v) :: r, h => by
   rw[show mm_ ((u,v)::r) t=if t=u then v else mm_ r t from rfl];by_cases hu:t=u
   ·subst hu;rw[if_pos rfl];exact .inr h.1
   ·rw[if_neg hu];exact MD_.get t h.2
section
variable{k:Nat}{σ:St}
end
attribute [go_sem] MD_ mm_
def ad_.tl:Nat→ad_→ad_
 |0,c=>c
 |n+1,.seq _ b=>b.tl n
 |_+1,c=>c
def ad_.hd:ad_→ad_
 |.seq a _=>a
 |c=>c
def flat1:AV→Bool
 |.bool _|.int _ _|.str _=>true
 |_=>false
def flat2:AV→Bool
 |.agg cs=>cs.all flat1
 |v=>flat1 v
def flatR:AV→Bool
 |.tup us=>us.all flat2
 |v=>flat2 v
theorem Rl.flat1{E E':Env}{c:AV}{v:Value}(hc:flat1 c=true)(h:Rl E c v):Rl E' c v:=by
 cases c<;>first|exact h|cases hc
theorem RlC.flat{E E':Env}:∀ {cs:List AV} {vs:List Value},cs.all Go.FH.flat1=true→RlC E cs vs→RlC E' cs vs
 | [],_,_,h=>h
 | c :: cs, _, hc, h => by
   obtain⟨u,us,e,h1,h2,h3⟩:=h;rw[List.all_cons,Bool.and_eq_true]at hc;exact⟨u,us,e,h1,h2.flat1 hc.1,RlC.flat hc.2 h3⟩
theorem Rl.flat2{E E':Env}{c:AV}{v:Value}(hc:flat2 c=true)(h:Rl E c v):Rl E' c v:=by
 cases c<;>first|exact h|cases hc|skip
 obtain⟨vs,e,h1⟩:=h;exact⟨vs,e,h1.flat hc⟩
theorem RlS.flat{E E':Env}:∀ {cs:List AV} {vs:List Value},cs.all Go.FH.flat2=true→RlS E cs vs→RlS E' cs vs
 | [],_,_,h=>h
 | c :: cs, _, hc, h => by
   obtain⟨u,us,e,h2,h3⟩:=h;rw[List.all_cons,Bool.and_eq_true]at hc;exact⟨u,us,e,h2.flat2 hc.1,RlS.flat hc.2 h3⟩
theorem Rl.flatR{E E':Env}{c:AV}{v:Value}(hc:flatR c=true)(h:Rl E c v):Rl E' c v:=by
 cases c<;>first|exact h|cases hc|exact Rl.flat2 hc h|skip
 obtain⟨vs,e,h1⟩:=h;exact⟨vs,e,h1.flat hc⟩
theorem md_{p q:Prop}(hq:q) (h:Hid q→p:=by
 (intro hq
  (first|with_reducible (first|refine fv_ ?_|refine eI_ ?_|refine gX_ (by simp only[List.length_cons,List.length_nil]) ?_|refine gZ_ ?_|refine gY_ ?_|refine jd_ ?_)|(simp only[go_sem,Nat.reduceAdd,Nat.reduceSub,Nat.reduceMul,Nat.reduceLT,Nat.reduceLeDiff,Nat.reduceEqDiff,reduceIte,Int.reduceToNat,Int.reduceLT,Int.reduceLE,Int.reduceEq,Int.reduceNeg,reduceCtorEq,Int.reduceBEq,Int.reduceBNe])|with_reducible refine And.intro (ip_ (by decide)) ?_|(with_reducible refine And.intro ?_ ?_;first|omega|decide|(simp;done)|(simp;omega)))
  repeat(first|with_reducible (first|refine fv_ ?_|refine eI_ ?_|refine gX_ (by simp only[List.length_cons,List.length_nil]) ?_|refine gZ_ ?_|refine gY_ ?_|refine jd_ ?_)|(simp only[go_sem,Nat.reduceAdd,Nat.reduceSub,Nat.reduceMul,Nat.reduceLT,Nat.reduceLeDiff,Nat.reduceEqDiff,reduceIte,Int.reduceToNat,Int.reduceLT,Int.reduceLE,Int.reduceEq,Int.reduceNeg,reduceCtorEq,Int.reduceBEq,Int.reduceBNe])|with_reducible refine And.intro (ip_ (by decide)) ?_|(with_reducible refine And.intro ?_ ?_;first|omega|decide|(simp;done)|(simp;omega)))
  exact hq.out)):p:=h ⟨hq⟩
section
variable{P:Program}{σ:St}
theorem as_.lend{f:FuncId}{args:List AV}{r:AV}(hf:flatR r=true)(h:PC P f (fzL σ (List.range σ.length) args) r):as_ P f args σ r σ:=by
 refine⟨h.call.1,Nat.le_refl _,fun X loc w vs hr hv=>?_⟩;obtain⟨loc2,g1,g2,g3,g4⟩:=(ik_ σ (List.range σ.length)).rel hr;have hpu:=h.pa
 have hv2:RlS (aA_ X loc2 [] w) (fzL σ (List.range σ.length) args) vs:=by
  have key:∀ {xs:List AV} {us:List Value},PuL (fzL σ (List.range σ.length) xs)→RlS (aA_ X loc σ w) xs us→RlS (aA_ X loc2 [] w) (fzL σ (List.range σ.length) xs) us:=by
   intro xs;induction xs with
   |nil=>intro us _ hv;exact hv
   | cons a xs ih =>
     intro us hp hv;obtain⟨u,us',e,h1,h2⟩:=hv;exact⟨u,us',e,g4 a u h1 _ (hp.1.ren _).symm,ih hp.2 h2⟩
  exact key hpu hv
 refine(h.call.2.2 X loc2 w vs g2 hv2).mono ?_;rintro e w' ⟨v,loc',rfl,ho,_⟩;have hnl:∀b,¬aB_ [] loc2 b:=fun b hd=>by obtain⟨id,o,L,h1,_⟩:=hd;simp at h1
 have hev:Ev (aB_ σ loc) w w':=⟨ho.ev.size,fun b hb hn=>ho.ev.blk b hb (hnl b),ho.ev.os,ho.ev.tape,ho.ev.output⟩
 exact⟨v,loc,rfl,⟨fun _ _ h=>h,hr.change (fun _ _ h=>h) hev (fun b hb=>.inl hb) hr.beyond (fun id o h1 h2=>.inl ⟨h1,fun L hL hh=>ho.ev.blk _ (aB_.lt hr ⟨id,o,L,h1,h2,hL,hh,rfl⟩) (hnl _)⟩) hr.apart,
  ho.val.flatR hf,hev,fun b hb=>.inl hb⟩,fun _ _=>rfl⟩
end
section
variable{P:Program}
theorem as_.forget{f:FuncId}{args:List AV}{r r2:AV}{σ σ' σ2:St}{zs js:List Nat}(h:as_ P f args σ r σ')(hf:hP_ σ.length σ' zs js σ2)(hr2:fz σ' zs r=ren (rn js σ'.length) r2):as_ P f args σ r2 σ2:=by
 have hlen:σ.length≤σ2.length:=by
  rw[hf.len];rcases Nat.lt_or_ge js.length σ.length with h1|h1
  ·have:=hf.fix js.length h1;rw[List.getElem?_eq_none (Nat.le_refl _)]at this;cases this
  ·exact h1
 refine⟨h.1,hlen,fun X loc w vs hr hv=>(h.2.2 X loc w vs hr hv).mono ?_⟩;rintro e w' ⟨v,loc',rfl,ho,hk⟩;obtain⟨loc2,g1,g2,g3,g4⟩:=hf.rel ho.rel
 have hid:∀id,id<σ.length→loc2 id=loc' id:=by
  intro id hid;rw[g1];congr 1;have:=hf.fix id hid;simp[rn,List.getD,this]
 refine⟨v,loc2,rfl,⟨fun id L hL=>?_,g2,g4 _ _ ho.val _ hr2,ho.ev,fun b hb=>ho.old b (g3 b hb)⟩,fun id h2=>(hid id h2).trans (hk id h2)⟩;rcases Nat.lt_or_ge id σ.length with h2|h2
 ·rw[hid id h2];exact ho.locs id L hL
 ·rw[hr.beyond id h2]at hL;cases hL
theorem as_.pc{f:FuncId}{args:List AV}{r r2:AV}{σ':St}(h:as_ P f args [] r σ')(pa:PuL args)(pr:Pu r2)(hr2:fz σ' (List.range σ'.length) r=r2:=by exact evd):PC P f args r2:=
 ⟨h.forget (ik_ σ' (List.range σ'.length)) (by rw[hr2,pr.ren]),pa,pr⟩
end
theorem Ja_(ρ:Nat→Nat):bH_ ρ []=[]:=rfl
theorem wl0:IntKind.i64.wrap ((0:Int)+1)=1:=by decide
theorem wl1:IntKind.i64.wrap ((1:Int)+1)=2:=by decide
theorem wl2:IntKind.i64.wrap ((2:Int)+1)=3:=by decide
theorem wl3:IntKind.i64.wrap ((3:Int)+1)=4:=by decide
theorem wl4:IntKind.i64.wrap ((4:Int)+1)=5:=by decide
theorem wl5:IntKind.i64.wrap ((5:Int)+1)=6:=by decide
theorem wl6:IntKind.i64.wrap ((6:Int)+1)=7:=by decide
theorem qR_(k:IntKind)(ns:List Int)(x:Int):aq_ k ns++[[.int k x]]=aq_ k (ns++[x]):=by simp[aq_]
attribute [go_sem] qR_ Ja_ wl0 wl1 wl2 wl3 wl4 wl5 wl6
def Unr(P:Program)(nt k:Nat)(x:ad_)(Q:Ex→Fr→St→Prop):Nat→Fr→St→Prop
 |0,_,_=>False
 |n+1,fr,σ=>Tri P nt k x (fu_ (Unr P nt k x Q n) Q) fr σ
@[congr] theorem PM_{P:Program}{nt k n:Nat}{c:ad_}{Q:Ex→Fr→St→Prop}{fr fr':Fr}{σ σ':St}(h1:fr=fr')(h2:σ=σ'):Unr P nt k c Q n fr σ=Unr P nt k c Q n fr' σ':=by rw[h1,h2]
section
variable{P:Program}{nt k:Nat}{fr:Fr}{σ:St}
end
theorem uS_{w:World}{b o:Nat}{vs:List Value}(hn:vs≠[])(h:∀j u,vs[j]?=some u→w.cell? ⟨b,o+j,none⟩=some u):range? w b o vs.length=some vs.toArray:=by
 unfold range?
 have h0:∃u,vs[0]?=some u:=by
  cases vs with
  |nil=>exact absurd rfl hn
  |cons u us=>exact⟨u,rfl⟩
 obtain⟨u0,hu0⟩:=h0;have hc0:=h 0 u0 hu0;unfold World.cell? at hc0;split at hc0
 ·rename_i c t f hb
  simp only at hb
  have key:∀j u,vs[j]?=some u→c[o+j]?=some u:=by
   intro j u hj;have:=h j u hj;unfold World.cell? at this;simp only[hb]at this;simpa using this
  rw[hb];simp only
  have hlen:o+vs.length≤c.size:=by
   have hlt:vs.length-1<vs.length:=by
    have:vs.length≠0:=fun hh=>hn (List.eq_nil_of_length_eq_zero hh)
    omega
   have:=key (vs.length-1) _ (List.getElem?_eq_getElem hlt);have:=(Array.getElem?_eq_some_iff.1 this).1;omega
  rw[if_pos hlen];congr 1;apply Array.ext
  ·simp;omega
  ·intro i h1 h2;have hi:i<vs.length:=by simpa using h2
   have:=key i _ (List.getElem?_eq_getElem hi);rw[Array.getElem?_eq_some_iff]at this;obtain⟨h3,h4⟩:=this;simp[h4]
 ·cases hc0
abbrev oP_(w:World):Env:=⟨fun _=>none,fun _=>False,w⟩
theorem PC.top{P:Program}{f:FuncId}{args:List AV}{r:AV}(h:PC P f args r){w:World}{vs:List Value}(hv:RlS (oP_ w) args vs):
 Calls P f vs.toArray w fun e w'=>(∃v,e=.returned v∧Rl (oP_ w') r v)∧Below w.heap.size w w':=by
 have hF:∀w:World,aA_ (fun _=>False) (fun _=>none) [] w=oP_ w:=by
  intro w;unfold aA_ oP_;congr 1;funext b
  apply propext
  constructor
  ·rintro (h|⟨id,o,L,h1,_⟩)
   ·exact h
   ·simp at h1
  ·exact fun h=>h.elim
 have hr:Rel (fun _=>False) (fun _=>none) [] w:=⟨fun id o h=>by simp at h,fun i j a b La Lb _ h=>by simp at h,fun b h=>h.elim,fun _ _=>rfl⟩;refine(h.call.2.2 _ _ w vs hr (by rw[hF];exact hv)).mono ?_;rintro e w' ⟨v,loc',rfl,ho,_⟩;refine⟨⟨v,rfl,?_⟩,ho.ev.below fun b _ hb=>?_⟩
 ·have hl:loc'=fun _=>none:=funext fun id=>ho.rel.beyond id (Nat.zero_le _)
  have:=ho.val;rw[hl,hF]at this;exact this
 ·obtain⟨id,o,L,h1,_⟩:=hb;simp at h1
theorem PC.law{P:Program}{f:FuncId}{args:List AV}(h:PC P f args (.bool true)){w:World}{vs:List Value}(hv:RlS (oP_ w) args vs):
 Calls P f vs.toArray w fun e w'=>e=.returned (.bool true)∧Below w.heap.size w w':=
 (h.top hv).mono fun e w' ⟨⟨v,h1,h2⟩,h3⟩=>⟨by rw[h1];exact congrArg Ending.returned h2,h3⟩
inductive Sh where
 |bool
 |int (k:IntKind)
 |arr (n:Nat) (s:Sh)
 |sl (s:Sh)
 |st (ss:List Sh)
mutual
def Sh.size:Sh→Nat
 |.bool=>1
 |.int _=>1
 |.sl _=>1
 |.arr n s=>n*s.size
 |.st ss=>Sh.sizes ss
def Sh.sizes:List Sh→Nat
 | []=>0
 |s::ss=>s.size+Sh.sizes ss
end
mutual
inductive Opn:Sh→List AV→Prop
 |bool (b:Bool):Opn .bool [.bool b]
 |int (k:IntKind) (n:Int) (h:(Lit.int k n).wf=true):Opn (.int k) [.int k n]
 |arr (n:Nat) (s:Sh) (xs:List (List AV)) (hl:xs.length=n) (h:∀x∈xs,Opn s x):Opn (.arr n s) xs.flatten
 |sl (s:Sh) (xs:List (List AV)) (hl:xs.length≤maxLen) (h:∀x∈xs,Opn s x):Opn (.sl s) [.sl s.size false xs]
 |st (ss:List Sh) (cs:List AV) (h:ta_ ss cs):Opn (.st ss) cs
inductive ta_:List Sh→List AV→Prop
 |nil:ta_ [] []
 |cons (s:Sh) (ss:List Sh) (a b:List AV) (h:Opn s a) (hs:ta_ ss b):ta_ (s::ss) (a++b)
end
mutual
def uo_(P:Program):Sh→TypeId→Bool
 | .bool, t => match P.underlying t with
   |some .bool=>true
   |_=>false
 | .int k, t => match P.underlying t with
   |some (.int k')=>k==k'
   |_=>false
 | .arr n s, t => match P.underlying t with
   |some (.array m e)=>m==n&&P.cellsOf e==s.size&&P.cellsOf t==n*s.size&&uo_ P s e
   |_=>false
 | .sl s, t => match P.underlying t with
   |some (.slice e)=>P.cellsOf e==s.size&&decide (0<s.size)&&uo_ P s e
   |_=>false
 | .st ss, t => match P.underlying t with
   |some (.struct fs)=>P.cellsOf t==Sh.sizes ss&&ye_ P ss fs.toList 0
   |_=>false
def ye_(P:Program):List Sh→List Field→Nat→Bool
 | [],[],_=>true
 |s::ss,f::fs,o=>f.offset==o&&P.cellsOf f.type==s.size&&uo_ P s f.type&&ye_ P ss fs (o+s.size)
 |_,_,_=>false
end
section
variable{H:Type}{enc:TypeId×Value→H}{P:Program}{w:World}
theorem Ki_{s:Sh}{k:Nat}:∀ (n:Nat) (cs:List Value),cs.length=n*k→(∀i,i<n→∃avs,Opn s avs∧RlC (oP_ w) avs ((cs.drop (i*k)).take k))→
 ∃xs:List (List AV),xs.length=n∧(∀x∈xs,Opn s x)∧RlC (oP_ w) xs.flatten cs
 |0,cs,hl,_=>⟨[],rfl,by simp,by have:cs=[]:=List.eq_nil_of_length_eq_zero (by omega);subst this;rfl⟩
 | n + 1, cs, hl, h => by
   have hk:(n+1)*k=k+n*k:=by rw[Nat.succ_mul];omega
   obtain⟨a,ha,hr⟩:=h 0 (by omega)
   obtain⟨xs,h1,h2,h3⟩:=Ki_ (s:=s) (k:=k) n (cs.drop k) (by rw[List.length_drop,hl,hk];omega) (fun i hi=>by
    obtain⟨b,hb,hr⟩:=h (i+1) (by omega);refine⟨b,hb,?_⟩;rw[List.drop_drop,show k+i*k=(i+1)*k by rw[Nat.succ_mul];omega];exact hr)
   refine⟨a::xs,by simp[h1],fun x hx=>?_,?_⟩
   ·rcases List.mem_cons.1 hx with rfl|hx
    ·exact ha
    ·exact h2 x hx
   ·have e:cs=cs.take k++cs.drop k:=(List.take_append_drop k cs).symm;rw[e];simp only[Nat.zero_mul,List.drop_zero]at hr;exact RlC.app hr h3
theorem OM_{s:Sh}{k:Nat}{b off:Nat}:∀ (n:Nat) (o:Nat),(∀i,i<n→∃avs us,Opn s avs∧RlC (oP_ w) avs us∧us.length=k∧∀j,j<k→w.cell? ⟨b,off+(o+i*k+j),none⟩=us[j]?)→
 ∃ (xs:List (List AV)) (vs:List Value),xs.length=n∧(∀x∈xs,Opn s x)∧vs.length=n*k∧RlE (oP_ w) k xs vs∧∀j,j<n*k→w.cell? ⟨b,off+(o+j),none⟩=vs[j]?
 |0,o,_=>⟨[],[],rfl,by simp,by simp,rfl,fun j hj=>by omega⟩
 | n + 1, o, h => by
   obtain⟨a,us,ha,hr,hl,hc⟩:=h 0 (by omega)
   obtain⟨xs,vs,h1,h2,h3,h4,h5⟩:=OM_ n (o+k) (fun i hi=>by
    obtain⟨a,us,ha,hr,hl,hc⟩:=h (i+1) (by omega);refine⟨a,us,ha,hr,hl,fun j hj=>?_⟩;have:=hc j hj;rwa [show off+(o+(i+1)*k+j)=off+(o+k+i*k+j)by rw[Nat.succ_mul];omega]at this)
   refine⟨a::xs,us++vs,by simp[h1],fun x hx=>?_,?_,⟨us,vs,rfl,hl,hr,h4⟩,fun j hj=>?_⟩
   ·rcases List.mem_cons.1 hx with rfl|hx
    ·exact ha
    ·exact h2 x hx
   ·rw[List.length_append,hl,h3,Nat.succ_mul];omega
   ·by_cases hjk:j<k
    ·have:=hc j hjk;rw[List.getElem?_append_left (by omega)];simpa using this
    ·have:=h5 (j-k) (by rw[Nat.succ_mul]at hj;omega);rw[List.getElem?_append_right (by omega),hl,←this];congr 2;omega
mutual
theorem Ag_:∀ (s:Sh) (t:TypeId) (fuel:Nat) (cs:List Value) (x:DataW H×List MemPlace),uo_ P s t=true→DataW.trod enc P w 0 (fun _=>true) true fuel t cs=some x→∃avs,Opn s avs∧RlC (oP_ w) avs cs
 | .bool, t, fuel, cs, x, hs, h => by
   unfold uo_ at hs;split at hs<;>try cases hs
   rename_i ht;cases fuel with
   |zero=>simp[DataW.trod]at h
   | succ n =>
     unfold DataW.trod at h;rw[ht]at h;split at h<;>simp_all
     exact⟨_,.bool _,_,[],rfl,rfl,rfl,rfl⟩
 | .int k, t, fuel, cs, x, hs, h => by
   unfold uo_ at hs;split at hs<;>try cases hs
   rename_i k' ht;obtain⟨n,rfl,_,hw⟩:=DataW.trod_int ht h;have:k=k':=by simpa using hs
   subst this;exact⟨_,.int _ _ hw,_,[],rfl,rfl,rfl,rfl⟩
 | .arr n s, t, fuel, cs, x, hs, h => by
   unfold uo_ at hs;split at hs<;>try cases hs
   rename_i m e ht;simp only[Bool.and_eq_true,beq_iff_eq]at hs;obtain⟨⟨⟨rfl,hc⟩,hct⟩,hi⟩:=hs;obtain⟨xs,fl,rfl,rfl,hl,hx,he⟩:=DataW.trod_array ht h;rw[hct]at hl
   obtain⟨xs,h1,h2,h3⟩:=Ki_ (s:=s) (w:=w) m cs hl (fun i hin=>by
    have h1:=he i hin;rw[hc,List.getElem?_eq_getElem (by omega)]at h1;exact Ag_ s e _ _ _ hi h1)
   exact⟨_,.arr _ _ _ h1 h2,h3⟩
 | .sl s, t, fuel, cs, x, hs, h => by
   unfold uo_ at hs;split at hs<;>try cases hs
   rename_i e ht;simp only[Bool.and_eq_true,beq_iff_eq,decide_eq_true_eq]at hs;obtain⟨⟨hc,hp⟩,hi⟩:=hs;rcases DataW.trod_slice ht h with⟨rfl,_⟩|⟨a,len,cap,elems,rest,n,_,rfl,rfl,hb,hl,hm,hlen,hel,hsp,hns⟩
   ·exact⟨_,.sl s [] (by simp) (by simp),_,[],rfl,rfl,⟨none,0,0,rfl,rfl,Nat.le_refl _,by simp[maxLen],fun _=>rfl,fun _=>rfl,.inl rfl⟩,rfl⟩
   ·by_cases h0:len=0
    ·subst h0;exact⟨_,.sl s [] (by simp) (by simp),_,[],rfl,rfl,⟨some a,0,cap,rfl,rfl,hl,hm,(fun h=>Bool.noConfusion h),(fun h=>by cases h),.inl rfl⟩,rfl⟩
    have each:∀i,i<len→∃avs us,Opn s avs∧RlC (oP_ w) avs us∧us.length=s.size∧∀j,j<s.size→w.cell? ((a.add (i*s.size)).add j)=us[j]?:=by
     intro i hin;have h1:=hel i hin;rw[hc,List.getElem?_eq_getElem (by omega),Option.bind_eq_some_iff]at h1;obtain⟨us,h2,h3⟩:=h1;obtain⟨_,h5,h6⟩:=World.cells?_some h2;obtain⟨avs,h7,h8⟩:=Ag_ s e _ _ _ hi h3;exact⟨avs,us,h7,h8,h5,h6⟩
    obtain⟨b,off,spot⟩:=a;obtain⟨_,us,_,_,hul,hcc⟩:=each 0 (by omega);have hc0:=hcc 0 hp;rw[List.getElem?_eq_getElem (by omega)]at hc0;have hspot:spot=none:=by simpa[Addr.add]using World.cell?_spot hc0
    subst hspot
    obtain⟨xs,vs,h1,h2,h3,h4,h5⟩:=OM_ (s:=s) (w:=w) (k:=s.size) (b:=b) (off:=off) len 0 (fun i hin=>by
     obtain⟨avs,us,g1,g2,g3,g4⟩:=each i hin;refine⟨avs,us,g1,g2,g3,fun j hj=>?_⟩;rw[←g4 j hj,WideShapes.add_plain,WideShapes.add_plain];congr 2;omega)
    have hne:vs≠[]:=by
     intro hh;subst hh;simp only[List.length_nil]at h3;have:=Nat.mul_pos (Nat.pos_of_ne_zero h0) hp;omega
    have hrange:=uS_ (w:=w) (b:=b) (o:=off) hne (fun j u hj=>by
     have hjl:=(List.getElem?_eq_some_iff.1 hj).1;rw[←hj,←h5 j (by omega)];congr 2;omega)
    rw[h3]at hrange
    have hblk:b<w.heap.size:=by
     rw[WideShapes.add_plain,WideShapes.add_plain]at hc0;exact World.block_lt_of_cell? w _ hc0
    exact⟨_,.sl s xs (by omega) h2,_,[],rfl,rfl,⟨_,len,cap,rfl,h1.symm,hl,hm,(fun h=>Bool.noConfusion h),(fun h=>by cases h),.inr ⟨b,off,vs,rfl,hblk,fun hf=>hf,hrange,h4⟩⟩,rfl⟩
 | .st ss, t, fuel, cs, x, hs, h => by
   unfold uo_ at hs;split at hs<;>try cases hs
   rename_i fs ht;simp only[Bool.and_eq_true,beq_iff_eq]at hs;obtain⟨hc,hi⟩:=hs;obtain⟨xs,n,rfl,_,hl,hxs,he⟩:=DataW.trod_struct ht h
   obtain⟨avs,h1,h2⟩:=GB_ ss fs.toList 0 cs hi (fun f hf=>by
    obtain⟨i,hi⟩:=List.getElem?_of_mem hf;have h1:=he i f (by simpa using hi);have hil:=(List.getElem?_eq_some_iff.1 hi).1;rw[Array.length_toList]at hil;rw[List.getElem?_eq_getElem (by omega)]at h1;exact⟨_,_,h1⟩) (by omega)
   exact⟨avs,.st _ _ h1,h2⟩
theorem GB_:∀ (ss:List Sh) (fs:List Field) (o:Nat) (cs:List Value),ye_ P ss fs o=true→
 (∀f∈fs,∃ (fuel:Nat) (x:DataW H×List MemPlace),DataW.trod enc P w 0 (fun _=>true) true fuel f.type ((cs.drop f.offset).take (P.cellsOf f.type))=some x)→cs.length=o+Sh.sizes ss→∃avs,ta_ ss avs∧RlC (oP_ w) avs (cs.drop o)
 | [],[],o,cs,_,_,hl=>⟨[],.nil,by rw[List.drop_of_length_le (by simp[Sh.sizes]at hl;omega)];rfl⟩
 | [],_::_,o,cs,hs,_,_=>by simp[ye_]at hs
 |_::_,[],o,cs,hs,_,_=>by simp[ye_]at hs
 | s :: ss, f :: fs, o, cs, hs, hf, hl => by
   simp only[ye_,Bool.and_eq_true,beq_iff_eq]at hs;obtain⟨⟨⟨rfl,hc⟩,hi⟩,hr⟩:=hs;simp only[Sh.sizes]at hl;obtain⟨fuel,x,hx⟩:=hf f (by simp);obtain⟨a,ha,hra⟩:=Ag_ s f.type fuel _ x hi hx;obtain⟨b,hb,hrb⟩:=GB_ ss fs (f.offset+s.size) cs hr (fun g hg=>hf g (by simp[hg])) (by omega);refine⟨a++b,.cons _ _ _ _ ha hb,?_⟩;have e:cs.drop f.offset=(cs.drop f.offset).take s.size++cs.drop (f.offset+s.size):=by rw[←List.drop_drop,List.take_append_drop]
   rw[e];rw[hc]at hra;exact RlC.app hra hrb
end
theorem LF_{t e:TypeId}{v:Value}{d:DataW H}{p:List MemPlace}{r:Reach}{base:Nat}(s:Sh)(hs:uo_ P (.sl s) t=true)(hv:Value.okWide P w r base t v)(hd:DataW.Trod enc P w 0 (fun _=>true) true t v d p)
 (ht:P.underlying t=some (.slice e)):∃xs,xs.length≤maxLen∧(∀x∈xs,Opn s x)∧Rl (oP_ w) (.sl s.size false xs) v:=by
 obtain⟨fuel,hf⟩:=hd;obtain⟨b,l,c,rfl⟩:=WideShapes.okWide_slice ht hv;obtain⟨avs,h1,h2⟩:=Ag_ _ t fuel _ _ hs hf;cases h1 with
 | sl s xs hl h =>
   obtain⟨u,us,h3,_,h4,h5⟩:=h2;simp only[Value.cells,List.cons.injEq]at h3;obtain⟨rfl,rfl⟩:=h3;exact⟨xs,hl,h,h4⟩
theorem IE_{t:TypeId}{v:Value}{d:DataW H}{p:List MemPlace}{r:Reach}{base:Nat}(k:IntKind)(ht:P.underlying t=some (.int k))(hv:Value.okWide P w r base t v)(hd:DataW.Trod enc P w 0 (fun _=>true) true t v d p):
 ∃n,(Lit.int k n).wf=true∧Rl (oP_ w) (.int k n) v:=by
 obtain⟨n,rfl,_,_,hw⟩:=ChangeShapes.open_int ht hv hd;exact⟨n,hw,rfl⟩
end
theorem Opn.ints{k:IntKind}:∀ {xs:List (List AV)},(∀x∈xs,Opn (.int k) x)→∃ns:List Int,xs=aq_ k ns∧∀n∈ns,(Lit.int k n).wf=true
 | [],_=>⟨[],rfl,by simp⟩
 | x :: xs, h => by
   obtain⟨ns,rfl,h2⟩:=Opn.ints (xs:=xs) (fun y hy=>h y (by simp[hy]));cases h x (by simp)with
   | int k n hw =>
     refine⟨n::ns,rfl,fun m hm=>?_⟩;rcases List.mem_cons.1 hm with rfl|hm
     ·exact hw
     ·exact h2 m hm
theorem Gx_:∀ {ns:List Int},(∀n∈ns,(Lit.int .u8 n).wf=true)→∃bs:List UInt8,aq_ .u8 ns=bts bs∧bs.length=ns.length
 | [],_=>⟨[],rfl,rfl⟩
 | n :: ns, h => by
   obtain⟨bs,h1,h2⟩:=Gx_ (ns:=ns) (fun m hm=>h m (by simp[hm]));have hb:=bounds_u8 (h n (by simp));refine⟨UInt8.ofNat n.toNat::bs,?_,by simp[h2]⟩;have e:((UInt8.ofNat n.toNat).toNat:Int)=n:=by rw[UInt8.toNat_ofNat'];omega
   rw[Ks_,e,←h1];rfl
theorem Opn.rt{cs:List AV}(h:Opn (.arr 32 (.int .u8)) cs):∃r:Rt,cs=rtc r:=by
 cases h with
 | arr n s xs hl h =>
   obtain⟨ns,rfl,hw⟩:=Opn.ints h;obtain⟨bs,h1,h2⟩:=Gx_ hw;rw[gS_]at hl;exact⟨⟨bs,by omega⟩,by rw[h1,rB_];rfl⟩
theorem Opn.wd{cs:List AV}(h:Opn (.arr 4 (.int .u64)) cs):∃a:Wd,cs=wdc a∧∀n∈a.1,0≤n∧n<18446744073709551616:=by
 cases h with
 | arr n s xs hl h =>
   obtain⟨ns,rfl,hw⟩:=Opn.ints h;rw[gS_]at hl;refine⟨⟨ns,hl⟩,?_,fun n hn=>?_⟩
   ·show _=ns.map _
    clear hl hw h;induction ns with
    |nil=>rfl
    |cons n ns ih=>simp only[aq_,List.map_cons,List.flatten_cons]at ih ⊢;rw[ih];rfl
   ·have:=bounds_u64 (hw n hn);omega
theorem Opn.inv_st{ss:List Sh}{cs:List AV}(h:Opn (.st ss) cs):ta_ ss cs:=by
 cases h with
 |st _ _ h=>exact h
theorem ta_.inv_cons{s:Sh}{ss:List Sh}{cs:List AV}(h:ta_ (s::ss) cs):∃a b,cs=a++b∧Opn s a∧ta_ ss b:=by
 cases h with
 |cons _ _ a b h hs=>exact⟨a,b,rfl,h,hs⟩
theorem ta_.inv_nil{cs:List AV}(h:ta_ [] cs):cs=[]:=by
 cases h;rfl
theorem Opn.inv_int{k:IntKind}{cs:List AV}(h:Opn (.int k) cs):∃n,(Lit.int k n).wf=true∧cs=[.int k n]:=by
 cases h with
 |int _ n h=>exact⟨n,h,rfl⟩
theorem Opn.inv_bool{cs:List AV}(h:Opn .bool cs):∃b,cs=[.bool b]:=by
 cases h with
 |bool b=>exact⟨b,rfl⟩
theorem Opn.inv_nums{k:IntKind}{cs:List AV}(h:Opn (.sl (.int k)) cs):∃ns:List Int,ns.length≤maxLen∧(∀n∈ns,(Lit.int k n).wf=true)∧cs=[.sl 1 false (aq_ k ns)]:=by
 cases h with
 | sl _ xs hl h =>
   obtain⟨ns,rfl,hw⟩:=Opn.ints h;exact⟨ns,by rwa [gS_]at hl,hw,rfl⟩
section
variable{H:Type}{enc:TypeId×Value→H}{P:Program}{w:World}
theorem IF_{t e:TypeId}{v:Value}{d:DataW H}{p:List MemPlace}{r:Reach}{base:Nat}(k:IntKind)(hs:uo_ P (.sl (.int k)) t=true)(hv:Value.okWide P w r base t v)(hd:DataW.Trod enc P w 0 (fun _=>true) true t v d p)
 (ht:P.underlying t=some (.slice e)):∃ns:List Int,ns.length≤maxLen∧(∀n∈ns,(Lit.int k n).wf=true)∧Rl (oP_ w) (.sl 1 false (aq_ k ns)) v:=by
 obtain⟨xs,hl,h,hr⟩:=LF_ (.int k) hs hv hd ht;obtain⟨ns,rfl,hw⟩:=Opn.ints h;exact⟨ns,by rwa [gS_]at hl,hw,hr⟩
end
structure Cp.Ok(x:Cp):Prop where
 ep:(Lit.int .u64 x.ep).wf=true
abbrev cpS:Sh:=.st [.int .u64,.arr 32 (.int .u8)]
theorem Opn.cp{cs:List AV}(h:Opn cpS cs):∃x:Cp,cs=cpC x∧x.Ok:=by
 have h:=h.inv_st;obtain⟨a0,b0,rfl,h0,h⟩:=h.inv_cons;obtain⟨a1,b1,rfl,h1,h⟩:=h.inv_cons;have h:=h.inv_nil;subst h;obtain⟨n0,w0,rfl⟩:=h0.inv_int;obtain⟨n1,rfl⟩:=h1.rt;exact⟨⟨n0,n1⟩,by simp only[cpC,List.cons_append,List.nil_append,List.append_nil,List.append_assoc],⟨w0⟩⟩
structure Pul.Ok(x:Pul):Prop where
 j:x.j.Ok
 f:x.f.Ok
abbrev Qh_:Sh:=.st [cpS,cpS]
theorem Opn.pul{cs:List AV}(h:Opn Qh_ cs):∃x:Pul,cs=cg_ x∧x.Ok:=by
 have h:=h.inv_st;obtain⟨a0,b0,rfl,h0,h⟩:=h.inv_cons;obtain⟨a1,b1,rfl,h1,h⟩:=h.inv_cons;have h:=h.inv_nil;subst h;obtain⟨n0,rfl,w0⟩:=h0.cp;obtain⟨n1,rfl,w1⟩:=h1.cp;exact⟨⟨n0,n1⟩,by simp only[cg_,List.cons_append,List.nil_append,List.append_nil,List.append_assoc],⟨w0,w1⟩⟩
structure Blk.Ok(x:Blk):Prop where
 pul:x.pul.Ok
 slot:(Lit.int .u64 x.slot).wf=true
 diff:∀n∈x.diff.1,0≤n∧n<18446744073709551616
 pdiff:∀n∈x.pdiff.1,0≤n∧n<18446744073709551616
 just:x.just.Ok
 fin:x.fin.Ok
abbrev QG_:Sh:=.st [Qh_,.int .u64,.arr 32 (.int .u8),.arr 32 (.int .u8),.arr 32 (.int .u8),.arr 4 (.int .u64),.arr 4 (.int .u64),cpS,cpS,.bool]
theorem Opn.blk{cs:List AV}(h:Opn QG_ cs):∃x:Blk,cs=ap_ x∧x.Ok:=by
 have h:=h.inv_st;obtain⟨a0,b0,rfl,h0,h⟩:=h.inv_cons;obtain⟨a1,b1,rfl,h1,h⟩:=h.inv_cons;obtain⟨a2,b2,rfl,h2,h⟩:=h.inv_cons;obtain⟨a3,b3,rfl,h3,h⟩:=h.inv_cons;obtain⟨a4,b4,rfl,h4,h⟩:=h.inv_cons;obtain⟨a5,b5,rfl,h5,h⟩:=h.inv_cons;obtain⟨a6,b6,rfl,h6,h⟩:=h.inv_cons;obtain⟨a7,b7,rfl,h7,h⟩:=h.inv_cons;obtain⟨a8,b8,rfl,h8,h⟩:=h.inv_cons;obtain⟨a9,b9,rfl,h9,h⟩:=h.inv_cons;have h:=h.inv_nil;subst h;obtain⟨n0,rfl,w0⟩:=h0.pul;obtain⟨n1,w1,rfl⟩:=h1.inv_int;obtain⟨n2,rfl⟩:=h2.rt;obtain⟨n3,rfl⟩:=h3.rt;obtain⟨n4,rfl⟩:=h4.rt;obtain⟨n5,rfl,w5⟩:=h5.wd;obtain⟨n6,rfl,w6⟩:=h6.wd;obtain⟨n7,rfl,w7⟩:=h7.cp;obtain⟨n8,rfl,w8⟩:=h8.cp;obtain⟨n9,rfl⟩:=h9.inv_bool;exact⟨⟨n0,n1,n2,n3,n4,n5,n6,n7,n8,n9⟩,by simp only[ap_,List.cons_append,List.nil_append,List.append_nil,List.append_assoc],⟨w0,w1,w5,w6,w7,w8⟩⟩
structure Att.Ok(x:Att):Prop where
 slot:(Lit.int .u64 x.slot).wf=true
 target:x.target.Ok
 vals:∃ns:List Int,x.vals=.sl 1 false (aq_ .i64 ns)∧ns.length≤maxLen∧∀n∈ns,(Lit.int .i64 n).wf=true
abbrev qp_:Sh:=.st [.int .u64,.arr 32 (.int .u8),cpS,.sl (.int .i64)]
theorem Opn.att{cs:List AV}(h:Opn qp_ cs):∃x:Att,cs=aY_ x∧x.Ok:=by
 have h:=h.inv_st;obtain⟨a0,b0,rfl,h0,h⟩:=h.inv_cons;obtain⟨a1,b1,rfl,h1,h⟩:=h.inv_cons;obtain⟨a2,b2,rfl,h2,h⟩:=h.inv_cons;obtain⟨a3,b3,rfl,h3,h⟩:=h.inv_cons;have h:=h.inv_nil;subst h;obtain⟨n0,w0,rfl⟩:=h0.inv_int;obtain⟨n1,rfl⟩:=h1.rt;obtain⟨n2,rfl,w2⟩:=h2.cp;obtain⟨n3,l3,w3,rfl⟩:=h3.inv_nums;exact⟨⟨n0,n1,n2,_⟩,by simp only[aY_,List.cons_append,List.nil_append,List.append_nil,List.append_assoc],⟨w0,w2,⟨n3,rfl,l3,w3⟩⟩⟩
structure Clm.Ok(x:Clm):Prop where
 src:(Lit.int .u64 x.src).wf=true
 tgt:(Lit.int .u64 x.tgt).wf=true
 vals:∃ns:List Int,x.vals=.sl 1 false (aq_ .i64 ns)∧ns.length≤maxLen∧∀n∈ns,(Lit.int .i64 n).wf=true
abbrev Pk_:Sh:=.st [.int .u64,.int .u64,.arr 32 (.int .u8),.sl (.int .i64)]
theorem Opn.clm{cs:List AV}(h:Opn Pk_ cs):∃x:Clm,cs=bz_ x∧x.Ok:=by
 have h:=h.inv_st;obtain⟨a0,b0,rfl,h0,h⟩:=h.inv_cons;obtain⟨a1,b1,rfl,h1,h⟩:=h.inv_cons;obtain⟨a2,b2,rfl,h2,h⟩:=h.inv_cons;obtain⟨a3,b3,rfl,h3,h⟩:=h.inv_cons;have h:=h.inv_nil;subst h;obtain⟨n0,w0,rfl⟩:=h0.inv_int;obtain⟨n1,w1,rfl⟩:=h1.inv_int;obtain⟨n2,rfl⟩:=h2.rt;obtain⟨n3,l3,w3,rfl⟩:=h3.inv_nums;exact⟨⟨n0,n1,n2,_⟩,by simp only[bz_,List.cons_append,List.nil_append,List.append_nil,List.append_assoc],⟨w0,w1,⟨n3,rfl,l3,w3⟩⟩⟩
structure Slg.Ok(x:Slg):Prop where
 fst:x.fst.Ok
 snd:x.snd.Ok
abbrev QQ_:Sh:=.st [Pk_,Pk_]
theorem Opn.slg{cs:List AV}(h:Opn QQ_ cs):∃x:Slg,cs=bZ_ x∧x.Ok:=by
 have h:=h.inv_st;obtain⟨a0,b0,rfl,h0,h⟩:=h.inv_cons;obtain⟨a1,b1,rfl,h1,h⟩:=h.inv_cons;have h:=h.inv_nil;subst h;obtain⟨n0,rfl,w0⟩:=h0.clm;obtain⟨n1,rfl,w1⟩:=h1.clm;exact⟨⟨n0,n1⟩,by simp only[bZ_,List.cons_append,List.nil_append,List.append_nil,List.append_assoc],⟨w0,w1⟩⟩
structure Tab.Ok(x:Tab):Prop where
 cp:x.cp.Ok
 bals:∃ns:List Int,x.bals=.sl 1 false (aq_ .u64 ns)∧ns.length≤maxLen∧∀n∈ns,(Lit.int .u64 n).wf=true
abbrev QT_:Sh:=.st [cpS,.sl (.int .u64)]
theorem Opn.tab{cs:List AV}(h:Opn QT_ cs):∃x:Tab,cs=aT_ x∧x.Ok:=by
 have h:=h.inv_st;obtain⟨a0,b0,rfl,h0,h⟩:=h.inv_cons;obtain⟨a1,b1,rfl,h1,h⟩:=h.inv_cons;have h:=h.inv_nil;subst h;obtain⟨n0,rfl,w0⟩:=h0.cp;obtain⟨n1,l1,w1,rfl⟩:=h1.inv_nums;exact⟨⟨n0,_⟩,by simp only[aT_,List.cons_append,List.nil_append,List.append_nil,List.append_assoc],⟨w0,⟨n1,rfl,l1,w1⟩⟩⟩
structure Vdt.Ok(x:Vdt):Prop where
 tag:(Lit.int .u64 x.tag).wf=true
 kind:(Lit.int .i64 x.kind).wf=true
abbrev QU_:Sh:=.st [.st [.int .u64],.int .i64,.arr 32 (.int .u8)]
theorem Opn.vdt{cs:List AV}(h:Opn QU_ cs):∃x:Vdt,cs=cl_ x∧x.Ok:=by
 have h:=h.inv_st;obtain⟨a0,b0,rfl,h0,h⟩:=h.inv_cons;obtain⟨a1,b1,rfl,h1,h⟩:=h.inv_cons;obtain⟨a2,b2,rfl,h2,h⟩:=h.inv_cons;have h:=h.inv_nil;subst h;obtain⟨y0,z0,rfl,g0,q0⟩:=h0.inv_st.inv_cons;have q0:=q0.inv_nil;subst q0;obtain⟨n0,w0,rfl⟩:=g0.inv_int;obtain⟨n1,w1,rfl⟩:=h1.inv_int;obtain⟨n2,rfl⟩:=h2.rt;exact⟨⟨n0,n1,n2⟩,by simp only[cl_,List.cons_append,List.nil_append,List.append_nil,List.append_assoc],⟨w0,w1⟩⟩
structure SOp.Ok(x:SOp):Prop where
 kind:(Lit.int .i64 x.kind).wf=true
 blk:x.blk.Ok
 att:x.att.Ok
 slg:x.slg.Ok
 tab:x.tab.Ok
 vdt:x.vdt.Ok
 write:(Lit.int .i64 x.write).wf=true
 keep:(Lit.int .i64 x.keep).wf=true
end Go.FH
