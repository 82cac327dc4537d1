/-
 My texts Bp, Bq, Br, Bs, By, Ja, Jb, Jc, Jd, Je, Pb, Jh, Bw, Bx, Ji, Jk, Bv, Bo, Bt, Bu, joined.
-/
import Derived.Test.YtkgimpdgncakjaaGreatW2
import Derived.OpenShut
import Derived.ChangeMaps
namespace Go.FH
set_option linter.unusedVariables false
set_option linter.unusedSimpArgs false
open Go Go.RowKit
def OS_(σ:St)(zs:List Nat)(fr:Fr):Fr:=⟨fr.nv,fr.vs.map (fz σ zs),[]⟩
def vw_(σ:St)(zs:List Nat):St:=(List.range σ.length).map fun i=>if zs.contains i then .gone else fzO σ zs (σ.getD i .gone)
theorem evZ:(∀σ zs nv vs ts,OS_ σ zs ⟨nv,vs,ts⟩=⟨nv,vs.map (fz σ zs),[]⟩):=fun _ _ _ _ _=>rfl
section
variable{P:Program}{nt k:Nat}{fr:Fr}{σ:St}
theorem wN_{c:ad_}{Q:Ex→Fr→St→Prop}(zs:List Nat)(h:Tri P nt k c Q (OS_ σ zs fr) (vw_ σ zs)):Tri P nt k c Q fr σ:=by
 intro fx code hc C loc a w hs;have hk:=hs.klen
 have hf:ij_ k σ zs (List.range σ.length) (vw_ σ zs):=by
  refine⟨fun i hi=>List.getElem?_range (by omega),List.nodup_range,fun j hj=>List.mem_range.1 hj,by simp[vw_],fun i o ho=>?_⟩
  have hi:i<σ.length:=by
   have:=(List.getElem?_eq_some_iff.1 ho).1;simpa[vw_]using this
  unfold vw_ at ho;rw[List.getElem?_map,List.getElem?_range hi]at ho;simp only[Option.map_some,Option.some.injEq]at ho;split at ho
  ·exact .inl ho.symm
  ·rename_i hz;refine .inr ⟨i,List.getElem?_range hi,by simpa using hz,?_⟩;rw[EK_,Pu_,←ho,List.getElem?_eq_getElem hi,List.getD_eq_getElem?_getD,List.getElem?_eq_getElem hi];rfl
 refine wM_ zs (List.range σ.length) (OS_ σ zs fr) (vw_ σ zs) hf (by simpa using hk) (fun t=>?_) h fx code hc C loc a w hs;rw[EK_,Ny_];unfold Fr.get OS_;simp only;split
 ·right
  rw[List.getD_eq_getElem?_getD,List.getD_eq_getElem?_getD,List.getElem?_map];cases fr.vs[t]?<;>rfl
 ·exact .inl rfl
def Sc(v:AV):Prop:=∀E E' u,Rl E v u→Rl E' v u
theorem Sc.int(k:IntKind)(n:Int):Sc (.int k n):=fun _ _ _ h=>h
theorem Sc.bool(b:Bool):Sc (.bool b):=fun _ _ _ h=>h
theorem Sc.str(s:List UInt8):Sc (.str s):=fun _ _ _ h=>h
end
theorem cu_{a:List AV}{n:Nat}(h:a.length=n):cut a 0 n=a:=by
 unfold cut;rw[List.drop_zero,←h,List.take_length]
theorem Qp_(x:AV)(b:List AV)(o n:Nat)(h:1≤o):cut (x::b) o n=cut b (o-1) n:=by
 obtain⟨k,rfl⟩:∃k,o=k+1:=⟨o-1,by omega⟩
 rfl
theorem Qo_(a b:List AV)(o n:Nat)(h:a.length≤o):cut (a++b) o n=cut b (o-a.length) n:=by
 unfold cut;rw[List.drop_append,List.drop_eq_nil_of_le h,List.nil_append]
theorem Qn_(a b:List AV)(o n:Nat)(h:o+n≤a.length):cut (a++b) o n=cut a o n:=by
 unfold cut;rw[List.drop_append,List.take_append_of_le_length (by rw[List.length_drop];omega)]
theorem RE_(x:AV)(b:List AV)(n:Nat)(h:0<n):cut (x::b) 0 n=x::cut b 0 (n-1):=by
 obtain⟨k,rfl⟩:∃k,n=k+1:=⟨n-1,by omega⟩
 rfl
theorem RD_(b:List AV)(o:Nat):cut b o 0=[]:=by simp[cut]
theorem EX_{a:List AV}{vs:List AV}(h:vs.length=a.length):spl a 0 vs=vs:=by
 unfold spl;rw[h];simp
theorem Qz_(x:AV)(b:List AV)(o:Nat)(vs:List AV)(h:1≤o):spl (x::b) o vs=x::spl b (o-1) vs:=by
 obtain⟨k,rfl⟩:∃k,o=k+1:=⟨o-1,by omega⟩
 unfold spl;simp[Nat.add_right_comm]
theorem Qy_(a b:List AV)(o:Nat)(vs:List AV)(h:a.length≤o):spl (a++b) o vs=a++spl b (o-a.length) vs:=by
 unfold spl;rw[List.take_append,List.drop_append,List.take_of_length_le h,List.drop_eq_nil_of_le (by omega),List.nil_append,show o+vs.length-a.length=o-a.length+vs.length by omega];simp
theorem Qx_(a b:List AV)(o:Nat)(vs:List AV)(h:o+vs.length≤a.length):spl (a++b) o vs=spl a o vs++b:=by
 unfold spl;rw[List.take_append_of_le_length (by omega),List.drop_append_of_le_length h];simp
theorem cS1{x:AV}{b:List AV}{o n:Nat}(h:1≤o:=by omega):cut (x::b) o n=cut b (o-1) n:=Qp_ x b o n h
theorem cR1{a b:List AV}{k:Nat}(hk:a.length=k){o n:Nat}(h:k≤o:=by omega):cut (a++b) o n=cut b (o-k) n:=by subst hk;exact Qo_ a b o n h
theorem cL1{a b:List AV}{k:Nat}(hk:a.length=k){o n:Nat}(h:o+n≤k:=by omega):cut (a++b) o n=cut a o n:=by subst hk;exact Qn_ a b o n h
theorem pS1{x:AV}{b:List AV}{o:Nat}{vs:List AV}(h:1≤o:=by omega):spl (x::b) o vs=x::spl b (o-1) vs:=Qz_ x b o vs h
theorem pR1{a b:List AV}{k:Nat}(hk:a.length=k){o:Nat}{vs:List AV}(h:k≤o:=by omega):spl (a++b) o vs=a++spl b (o-k) vs:=by subst hk;exact Qy_ a b o vs h
theorem pL1{a b:List AV}{k:Nat}(hk:a.length=k){o:Nat}{vs:List AV}(h:o+vs.length≤k:=by omega):spl (a++b) o vs=spl a o vs++b:=by subst hk;exact Qx_ a b o vs h
theorem RX_(x:AV)(b:List AV)(v:AV)(vs:List AV):spl (x::b) 0 (v::vs)=v::spl b 0 vs:=by
 unfold spl;simp
theorem RY_(b:List AV):spl b 0 []=b:=by simp[spl]
theorem hV_(a b:Int):(a==b)=decide (a=b):=by rw[Bool.eq_iff_iff];simp
theorem bl_:aW_ []=true:=rfl
theorem aZ_(x:AV)(b:List AV):aW_ (x::b)=(x.cell&&aW_ b):=rfl
theorem bk_(a b:List AV):aW_ (a++b)=(aW_ a&&aW_ b):=by simp[aW_]
theorem cM_(a b:List AV):PuL (a++b)↔PuL a∧PuL b:=by
 simp only[tP_,List.mem_append];exact⟨fun h=>⟨fun c hc=>h c (.inl hc),fun c hc=>h c (.inr hc)⟩,fun h c hc=>hc.elim (h.1 c) (h.2 c)⟩
theorem hm_(ρ:Nat→Nat)(a b:List AV):cd_ ρ (a++b)=cd_ ρ a++cd_ ρ b:=by simp[wm_]
theorem hU_(σ:St)(zs:List Nat):∀a b,fzL σ zs (a++b)=fzL σ zs a++fzL σ zs b
 | [],b=>rfl
 |x::a,b=>by simp only[List.cons_append,fzL,hU_ σ zs a b]
theorem fg_:∀ {a b:List AV} (x y:List AV),a.length=b.length→dP_ (a++x) (b++y)=(match dP_ a b,dP_ x y with|some p,some q=>some (p&&q)|_,_=>none)
 | [],[],x,y,_=>by simp only[List.nil_append,dP_];cases dP_ x y<;>simp
 | u :: a, v :: b, x, y, h => by
   have ih:=fg_ (a:=a) (b:=b) x y (by simpa using h);simp only[List.cons_append,dP_,ih];cases oZ_ u v<;>cases dP_ a b<;>cases dP_ x y<;>simp[Bool.and_assoc]
 | [],_::_,_,_,h|_::_,[],_,_,h=>by simp at h
theorem eb_:∀ {ks:List (Nat×Nat)} {cs:List AV},cs.map cr_=cv_ ks→ey_ ks cs=true
 | [],cs,h=>by simp only[cv_,List.map_eq_nil_iff]at h;subst h;rfl
 | (n, k) :: ks, cs, h => by
   simp only[cv_]at h;have hl:n≤cs.length:=by have:=congrArg List.length h;simp at this;omega
   have h1:(cs.take n).map cr_=List.replicate n k:=by rw[List.map_take,h];simp
   have h2:(cs.drop n).map cr_=cv_ ks:=by rw[List.map_drop,h];simp
   simp only[ey_,eb_ h2,Bool.and_true,Bool.and_eq_true,List.all_eq_true,beq_iff_eq];refine⟨by rw[List.length_take];omega,fun x hx=>?_⟩;have:cr_ x∈(cs.take n).map cr_:=List.mem_map_of_mem hx;rw[h1]at this;exact(List.mem_replicate.1 this).2
def byc(bs:List UInt8):List AV:=bs.map fun b=>.int .u8 (b.toNat:Int)
@[simp] theorem GC_(bs:List UInt8):(byc bs).length=bs.length:=by simp[byc]
theorem OD_(bs:List UInt8):PuL (byc bs):=by
 rw[tP_];intro x hx;obtain⟨b,_,rfl⟩:=List.mem_map.1 hx;trivial
theorem AD_(bs:List UInt8):aW_ (byc bs)=true:=by simp[aW_,byc,AV.cell]
theorem CW_:∀ {a b:List UInt8},a.length=b.length→dP_ (byc a) (byc b)=some (decide (a=b))
 | [],[],_=>rfl
 | x :: a, y :: b, h => by
   have ih:=CW_ (a:=a) (b:=b) (by simpa using h)
   have e:(((x.toNat:Int))==(y.toNat:Int))=decide (x=y):=by
    rw[Bool.eq_iff_iff];simp;exact⟨fun h=>UInt8.toNat_inj.1 (by omega),fun h=>by rw[h]⟩
   simp only[byc,List.map_cons,dP_,oZ_,if_true]at ih ⊢;rw[ih,e];simp[List.cons.injEq]
 | [],_::_,h|_::_,[],h=>by simp at h
theorem zm_:∀ (bs:List UInt8) (n:Nat),bs.length=n→chunk 1 n (byc bs)=bts bs
 | [],_,rfl=>rfl
 | b :: bs, _, rfl => by
   simp only[List.length_cons,chunk,byc,List.map_cons,bts];have:=zm_ bs _ rfl;simp only[byc,bts]at this;simp[this]
theorem OP_(bs:List UInt8){j:Nat}(h:j<bs.length):cut (byc bs) j 1=[.int .u8 (bs[j].toNat:Int)]:=by
 unfold cut byc;rw[←List.map_drop,←List.map_take,List.drop_eq_getElem_cons h];rfl
theorem Qb_(bs:List UInt8){j:Nat}(h:j<bs.length)(b:UInt8):spl (byc bs) j [.int .u8 (b.toNat:Int)]=byc (bs.set j b):=by
 unfold spl byc;rw[←List.map_take,List.length_singleton,←List.map_drop,List.set_eq_take_append_cons_drop,if_pos h];simp
theorem Kc_(bs:List UInt8):(byc bs).map cr_=List.replicate bs.length 1:=by
 rw[List.eq_replicate_iff];refine⟨by simp,fun b hb=>?_⟩;obtain⟨c,hc,rfl⟩:=List.mem_map.1 hb;obtain⟨d,_,rfl⟩:=List.mem_map.1 hc;rfl
theorem sF_(bs:List UInt8):(bts bs).flatten=byc bs:=by
 induction bs with
 |nil=>rfl
 |cons b bs ih=>simp only[bts,byc,List.map_cons,List.flatten_cons]at ih ⊢;rw[ih];rfl
abbrev Rt:={b:List UInt8 // b.length=32}
def rtc(r:Rt):List AV:=byc r.1
@[simp] theorem ah_(r:Rt):(rtc r).length=32:=by rw[rtc,GC_,r.2]
theorem NG_(r:Rt):cut (rtc r) 0 32=rtc r:=cu_ (ah_ r)
theorem Jp_(r:Rt):chunk 1 32 (rtc r)=bts r.1:=zm_ _ _ r.2
theorem cf_(r:Rt):PuL (rtc r):=OD_ _
theorem nb_(ρ:Nat→Nat)(r:Rt):cd_ ρ (rtc r)=rtc r:=(cf_ r).ren ρ
theorem qG_(σ:St)(zs:List Nat)(r:Rt):fzL σ zs (rtc r)=rtc r:=(cf_ r).fz σ zs
theorem ct_(r:Rt):aW_ (rtc r)=true:=AD_ _
theorem gQ_(r s:Rt):dP_ (rtc r) (rtc s)=some (decide (r=s)):=by
 rw[rtc,rtc,CW_ (by rw[r.2,s.2])];congr 1;rw[decide_eq_decide];exact Subtype.ext_iff.symm
theorem gB_(r:Rt):(rtc r).map cr_=List.replicate 32 1:=by rw[rtc,Kc_,r.2]
theorem DE_(r:Rt):ey_ [(32,1)] (rtc r)=true:=eb_ (by rw[gB_];rfl)
theorem HR_(r:Rt){j:Nat}(h:j<32):cut (rtc r) j 1=[.int .u8 ((r.1[j]'(by rw[r.2];exact h)).toNat:Int)]:=OP_ _ _
def Rt.set(r:Rt)(j:Nat)(b:UInt8):Rt:=⟨r.1.set j b,by rw[List.length_set,r.2]⟩
theorem ua_(r:Rt){j:Nat}(h:j<32)(b:UInt8):spl (rtc r) j [.int .u8 (b.toNat:Int)]=rtc (r.set j b):=Qb_ _ (by rw[r.2];exact h) b
theorem nm_(r:Rt):(bts r.1=[])=False:=by
 rw[eq_iff_iff,iff_false];intro h;have:=congrArg List.length h;rw[vI_,r.2]at this;cases this
def rt0:Rt:=⟨List.replicate 32 0,rfl⟩
instance:Inhabited Rt:=⟨rt0⟩
abbrev Wd:={l:List Int // l.length=4}
def wdc(a:Wd):List AV:=a.1.map (.int .u64)
@[simp] theorem aC_(a:Wd):(wdc a).length=4:=by rw[wdc,List.length_map,a.2]
theorem Ou_(a:Wd):cut (wdc a) 0 4=wdc a:=cu_ (aC_ a)
theorem gJ_(a:Wd):PuL (wdc a):=by
 rw[tP_];intro x hx;obtain⟨b,_,rfl⟩:=List.mem_map.1 hx;trivial
theorem EF_(ρ:Nat→Nat)(r:Wd):cd_ ρ (wdc r)=wdc r:=(gJ_ r).ren ρ
theorem HV_(σ:St)(zs:List Nat)(r:Wd):fzL σ zs (wdc r)=wdc r:=(gJ_ r).fz σ zs
theorem ky_(r:Wd):aW_ (wdc r)=true:=by simp[aW_,wdc,AV.cell]
theorem zb_:∀ {a b:List Int},a.length=b.length→dP_ (a.map (.int .u64)) (b.map (.int .u64))=some (decide (a=b))
 | [],[],_=>rfl
 | x :: a, y :: b, h => by
   have ih:=zb_ (a:=a) (b:=b) (by simpa using h);have e:(x==y)=decide (x=y):=by rw[Bool.eq_iff_iff];simp
   simp only[List.map_cons,dP_,oZ_,if_true]at ih ⊢;rw[ih,e];simp[List.cons.injEq]
 | [],_::_,h|_::_,[],h=>by simp at h
theorem CX_(r s:Wd):dP_ (wdc r) (wdc s)=some (decide (r=s)):=by
 rw[wdc,wdc,zb_ (by rw[r.2,s.2])];congr 1;rw[decide_eq_decide];exact Subtype.ext_iff.symm
theorem zH_(r:Wd):(wdc r).map cr_=List.replicate 4 1:=by
 rw[wdc,List.map_map,List.eq_replicate_iff];refine⟨by rw[List.length_map,r.2],fun b hb=>?_⟩;obtain⟨c,hc,rfl⟩:=List.mem_map.1 hb;rfl
theorem MA_(r:Wd):ey_ [(4,1)] (wdc r)=true:=eb_ (by rw[zH_];rfl)
theorem qq_(r:Wd){j:Nat}(h:j<4):cut (wdc r) j 1=[.int .u64 (r.1[j]'(by rw[r.2];exact h))]:=by
 unfold cut wdc;rw[←List.map_drop,←List.map_take,List.drop_eq_getElem_cons (by rw[r.2];exact h)];rfl
def Wd.set(r:Wd)(j:Nat)(x:Int):Wd:=⟨r.1.set j x,by rw[List.length_set,r.2]⟩
theorem jB_(r:Wd){j:Nat}(h:j<4)(x:Int):spl (wdc r) j [.int .u64 x]=wdc (r.set j x):=by
 have h2:j<r.1.length:=by rw[r.2];exact h
 unfold spl wdc Wd.set;simp only;rw[←List.map_take,List.length_singleton,←List.map_drop,List.set_eq_take_append_cons_drop,if_pos h2];simp
theorem Ms_(r:Wd){j:Nat}(h:j<4):cut (wdc r) j 1=[.int .u64 (r.1.getD j 0)]:=by
 rw[qq_ r h,List.getD_eq_getElem?_getD,List.getElem?_eq_getElem (by rw[r.2];exact h)];rfl
def wd0:Wd:=⟨List.replicate 4 0,rfl⟩
instance:Inhabited Wd:=⟨wd0⟩
structure Cp where
 ep:Int
 rt:Rt
 deriving Inhabited,DecidableEq
def cpC(x:Cp):List AV:=.int .u64 x.ep::(rtc x.rt)
@[simp] theorem an_(x:Cp):(cpC x).length=33:=by simp only[cpC,List.length_cons,List.length_append,List.length_nil,ah_]
theorem Mo_(ep:Int)(rt:Rt):.int .u64 ep::(rtc rt)=cpC ⟨ep,rt⟩:=rfl
theorem Mp_(x:Cp):cut (cpC x) 0 33=cpC x:=cu_ (an_ x)
theorem FR_(x:Cp):cut (cpC x) 0 1=[.int .u64 x.ep]:=by unfold cpC;all_goals rfl
theorem FT_(x:Cp)(v:Int):spl (cpC x) 0 [.int .u64 v]=cpC { x with ep:=v }:=by unfold cpC;all_goals rfl
theorem FS_(x:Cp)(o n:Nat)(h1:1≤o)(h2:o+n≤33):cut (cpC x) o n=cut (rtc x.rt) (o-1) n:=by unfold cpC;rw[cS1];all_goals rfl
theorem FU_(x:Cp)(o:Nat)(vs:List AV)(h1:1≤o)(h2:o+vs.length≤33):spl (cpC x) o vs=.int .u64 x.ep::(spl (rtc x.rt) (o-1) vs):=by unfold cpC;rw[pS1];all_goals rfl
theorem eN_(x:Cp):aW_ (cpC x)=true:=by simp[cpC,aZ_,bk_,bl_,AV.cell,ct_]
theorem dv_(x:Cp):PuL (cpC x):=by simp[cpC,cM_,PuL,Pu,cf_]
theorem qV_(ρ:Nat→Nat)(x:Cp):cd_ ρ (cpC x)=cpC x:=(dv_ x).ren ρ
theorem tV_(σ:St)(zs:List Nat)(x:Cp):fzL σ zs (cpC x)=cpC x:=(dv_ x).fz σ zs
theorem rL_(x:Cp):(cpC x).map cr_=cv_ [(33,1)]:=by simp only[cpC,List.map_cons,List.map_append,List.map_nil,cr_,gB_];decide +kernel
theorem Mz_(x:Cp):ey_ [(33,1)] (cpC x)=true:=eb_ (rL_ x)
theorem uh_(x y:Cp):dP_ (cpC x) (cpC y)=some (decide (x=y)):=by cases x;cases y;simp[cpC,fg_,dP_,oZ_,ah_,aC_,gQ_,Bool.beq_eq_decide_eq,hV_,Bool.and_assoc,Bool.decide_and]
def cp0:Cp:=⟨0,rt0⟩
structure Pul where
 j:Cp
 f:Cp
 deriving Inhabited,DecidableEq
def da_(x:Pul):List AV:=cpC x.j++(cpC x.f)
@[simp] theorem aY_(x:Pul):(da_ x).length=66:=by simp only[da_,List.length_cons,List.length_append,List.length_nil,an_]
theorem Ky_(j:Cp)(f:Cp):cpC j++(cpC f)=da_ ⟨j,f⟩:=rfl
theorem Kz_(x:Pul):cut (da_ x) 0 66=da_ x:=cu_ (aY_ x)
theorem Hh_(x:Pul)(o n:Nat)(h1:0≤o)(h2:o+n≤33):cut (da_ x) o n=cut (cpC x.j) (o-0) n:=by unfold da_;rw[cL1 (an_ _)];all_goals rfl
theorem Hj_(x:Pul)(o:Nat)(vs:List AV)(h1:0≤o)(h2:o+vs.length≤33):spl (da_ x) o vs=spl (cpC x.j) (o-0) vs++(cpC x.f):=by unfold da_;rw[pL1 (an_ _)];all_goals rfl
theorem Hg_(x:Pul)(o n:Nat)(h1:33≤o)(h2:o+n≤66):cut (da_ x) o n=cut (cpC x.f) (o-33) n:=by unfold da_;rw[cR1 (an_ _)];all_goals rfl
theorem Hi_(x:Pul)(o:Nat)(vs:List AV)(h1:33≤o)(h2:o+vs.length≤66):spl (da_ x) o vs=cpC x.j++(spl (cpC x.f) (o-33) vs):=by unfold da_;rw[pR1 (an_ _)];all_goals rfl
theorem oh_(x:Pul):aW_ (da_ x)=true:=by simp[da_,aZ_,bk_,bl_,AV.cell,eN_]
theorem pJ_(x:Pul):PuL (da_ x):=by simp[da_,cM_,PuL,Pu,dv_]
theorem KI_(ρ:Nat→Nat)(x:Pul):cd_ ρ (da_ x)=da_ x:=(pJ_ x).ren ρ
theorem MG_(σ:St)(zs:List Nat)(x:Pul):fzL σ zs (da_ x)=da_ x:=(pJ_ x).fz σ zs
theorem vF_(x:Pul):(da_ x).map cr_=cv_ [(66,1)]:=by simp only[da_,List.map_cons,List.map_append,List.map_nil,cr_,rL_];decide +kernel
theorem JL_(x:Pul):ey_ [(66,1)] (da_ x)=true:=eb_ (vF_ x)
theorem zc_(x y:Pul):dP_ (da_ x) (da_ y)=some (decide (x=y)):=by cases x;cases y;simp[da_,fg_,dP_,oZ_,ah_,aC_,uh_,Bool.beq_eq_decide_eq,hV_,Bool.and_assoc,Bool.decide_and]
def yo_:Pul:=⟨cp0,cp0⟩
structure Blk where
 pul:Pul
 slot:Int
 root:Rt
 parent:Rt
 payload:Rt
 diff:Wd
 pdiff:Wd
 just:Cp
 fin:Cp
 timely:Bool
 deriving Inhabited,DecidableEq
def al_(x:Blk):List AV:=da_ x.pul++(.int .u64 x.slot::(rtc x.root++(rtc x.parent++(rtc x.payload++(wdc x.diff++(wdc x.pdiff++(cpC x.just++(cpC x.fin++[.bool x.timely]))))))))
@[simp] theorem aX_(x:Blk):(al_ x).length=238:=by simp only[al_,List.length_cons,List.length_append,List.length_nil,an_,aY_,ah_,aC_]
theorem Jb_(pul:Pul)(slot:Int)(root:Rt)(parent:Rt)(payload:Rt)(diff:Wd)(pdiff:Wd)(just:Cp)(fin:Cp)(timely:Bool):da_ pul++(.int .u64 slot::(rtc root++(rtc parent++(rtc payload++(wdc diff++(wdc pdiff++(cpC just++(cpC fin++[.bool timely]))))))))=al_ ⟨pul,slot,root,parent,payload,diff,pdiff,just,fin,timely⟩:=rfl
theorem Jc_(x:Blk):cut (al_ x) 0 238=al_ x:=cu_ (aX_ x)
theorem AJ_(x:Blk)(o n:Nat)(h1:0≤o)(h2:o+n≤66):cut (al_ x) o n=cut (da_ x.pul) (o-0) n:=by unfold al_;rw[cL1 (aY_ _)];all_goals rfl
theorem AL_(x:Blk)(o:Nat)(vs:List AV)(h1:0≤o)(h2:o+vs.length≤66):spl (al_ x) o vs=spl (da_ x.pul) (o-0) vs++(.int .u64 x.slot::(rtc x.root++(rtc x.parent++(rtc x.payload++(wdc x.diff++(wdc x.pdiff++(cpC x.just++(cpC x.fin++[.bool x.timely])))))))):=by unfold al_;rw[pL1 (aY_ _)];all_goals rfl
theorem xi_(x:Blk):cut (al_ x) 66 1=[.int .u64 x.slot]:=by unfold al_;rw[cR1 (aY_ _)];simp only[Nat.reduceSub];all_goals rfl
theorem xm_(x:Blk)(v:Int):spl (al_ x) 66 [.int .u64 v]=al_ { x with slot:=v }:=by unfold al_;rw[pR1 (aY_ _)];simp only[Nat.reduceSub];all_goals rfl
theorem xh_(x:Blk)(o n:Nat)(h1:67≤o)(h2:o+n≤99):cut (al_ x) o n=cut (rtc x.root) (o-67) n:=by unfold al_;rw[cR1 (aY_ _),cS1,cL1 (ah_ _)];rw[show o-66-1=o-67 by omega]
theorem xl_(x:Blk)(o:Nat)(vs:List AV)(h1:67≤o)(h2:o+vs.length≤99):spl (al_ x) o vs=da_ x.pul++(.int .u64 x.slot::(spl (rtc x.root) (o-67) vs++(rtc x.parent++(rtc x.payload++(wdc x.diff++(wdc x.pdiff++(cpC x.just++(cpC x.fin++[.bool x.timely])))))))):=by unfold al_;rw[pR1 (aY_ _),pS1,pL1 (ah_ _)];rw[show o-66-1=o-67 by omega]
theorem sU_(x:Blk)(o n:Nat)(h1:99≤o)(h2:o+n≤131):cut (al_ x) o n=cut (rtc x.parent) (o-99) n:=by unfold al_;rw[cR1 (aY_ _),cS1];rw[cR1 (ah_ _),cL1 (ah_ _)];rw[show o-66-1-32=o-99 by omega]
theorem sW_(x:Blk)(o:Nat)(vs:List AV)(h1:99≤o)(h2:o+vs.length≤131):spl (al_ x) o vs=da_ x.pul++(.int .u64 x.slot::(rtc x.root++(spl (rtc x.parent) (o-99) vs++(rtc x.payload++(wdc x.diff++(wdc x.pdiff++(cpC x.just++(cpC x.fin++[.bool x.timely])))))))):=by unfold al_;rw[pR1 (aY_ _),pS1];rw[pR1 (ah_ _),pL1 (ah_ _)];rw[show o-66-1-32=o-99 by omega]
theorem rs_(x:Blk)(o n:Nat)(h1:131≤o)(h2:o+n≤163):cut (al_ x) o n=cut (rtc x.payload) (o-131) n:=by unfold al_;rw[cR1 (aY_ _),cS1];rw[cR1 (ah_ _),cR1 (ah_ _),cL1 (ah_ _)];rw[show o-66-1-32-32=o-131 by omega]
theorem rt_(x:Blk)(o:Nat)(vs:List AV)(h1:131≤o)(h2:o+vs.length≤163):spl (al_ x) o vs=da_ x.pul++(.int .u64 x.slot::(rtc x.root++(rtc x.parent++(spl (rtc x.payload) (o-131) vs++(wdc x.diff++(wdc x.pdiff++(cpC x.just++(cpC x.fin++[.bool x.timely])))))))):=by unfold al_;rw[pR1 (aY_ _),pS1];rw[pR1 (ah_ _),pR1 (ah_ _),pL1 (ah_ _)];rw[show o-66-1-32-32=o-131 by omega]
theorem xf_(x:Blk)(o n:Nat)(h1:163≤o)(h2:o+n≤167):cut (al_ x) o n=cut (wdc x.diff) (o-163) n:=by unfold al_;rw[cR1 (aY_ _),cS1];rw[cR1 (ah_ _),cR1 (ah_ _)];rw[cR1 (ah_ _),cL1 (aC_ _)];rw[show o-66-1-32-32-32=o-163 by omega]
theorem xj_(x:Blk)(o:Nat)(vs:List AV)(h1:163≤o)(h2:o+vs.length≤167):spl (al_ x) o vs=da_ x.pul++(.int .u64 x.slot::(rtc x.root++(rtc x.parent++(rtc x.payload++(spl (wdc x.diff) (o-163) vs++(wdc x.pdiff++(cpC x.just++(cpC x.fin++[.bool x.timely])))))))):=by unfold al_;rw[pR1 (aY_ _),pS1];rw[pR1 (ah_ _),pR1 (ah_ _)];rw[pR1 (ah_ _),pL1 (aC_ _)];rw[show o-66-1-32-32-32=o-163 by omega]
theorem uo_(x:Blk)(o n:Nat)(h1:167≤o)(h2:o+n≤171):cut (al_ x) o n=cut (wdc x.pdiff) (o-167) n:=by unfold al_;rw[cR1 (aY_ _),cS1];rw[cR1 (ah_ _),cR1 (ah_ _)];rw[cR1 (ah_ _),cR1 (aC_ _),cL1 (aC_ _)];rw[show o-66-1-32-32-32-4=o-167 by omega]
theorem up_(x:Blk)(o:Nat)(vs:List AV)(h1:167≤o)(h2:o+vs.length≤171):spl (al_ x) o vs=da_ x.pul++(.int .u64 x.slot::(rtc x.root++(rtc x.parent++(rtc x.payload++(wdc x.diff++(spl (wdc x.pdiff) (o-167) vs++(cpC x.just++(cpC x.fin++[.bool x.timely])))))))):=by unfold al_;rw[pR1 (aY_ _),pS1];rw[pR1 (ah_ _),pR1 (ah_ _)];rw[pR1 (ah_ _),pR1 (aC_ _),pL1 (aC_ _)];rw[show o-66-1-32-32-32-4=o-167 by omega]
theorem xg_(x:Blk)(o n:Nat)(h1:171≤o)(h2:o+n≤204):cut (al_ x) o n=cut (cpC x.just) (o-171) n:=by unfold al_;rw[cR1 (aY_ _),cS1];rw[cR1 (ah_ _),cR1 (ah_ _)];rw[cR1 (ah_ _),cR1 (aC_ _)];rw[cR1 (aC_ _),cL1 (an_ _)];rw[show o-66-1-32-32-32-4-4=o-171 by omega]
theorem xk_(x:Blk)(o:Nat)(vs:List AV)(h1:171≤o)(h2:o+vs.length≤204):spl (al_ x) o vs=da_ x.pul++(.int .u64 x.slot::(rtc x.root++(rtc x.parent++(rtc x.payload++(wdc x.diff++(wdc x.pdiff++(spl (cpC x.just) (o-171) vs++(cpC x.fin++[.bool x.timely])))))))):=by unfold al_;rw[pR1 (aY_ _),pS1];rw[pR1 (ah_ _),pR1 (ah_ _)];rw[pR1 (ah_ _),pR1 (aC_ _)];rw[pR1 (aC_ _),pL1 (an_ _)];rw[show o-66-1-32-32-32-4-4=o-171 by omega]
theorem AI_(x:Blk)(o n:Nat)(h1:204≤o)(h2:o+n≤237):cut (al_ x) o n=cut (cpC x.fin) (o-204) n:=by unfold al_;rw[cR1 (aY_ _),cS1];rw[cR1 (ah_ _),cR1 (ah_ _)];rw[cR1 (ah_ _),cR1 (aC_ _)];rw[cR1 (aC_ _),cR1 (an_ _),cL1 (an_ _)];rw[show o-66-1-32-32-32-4-4-33=o-204 by omega]
theorem AK_(x:Blk)(o:Nat)(vs:List AV)(h1:204≤o)(h2:o+vs.length≤237):spl (al_ x) o vs=da_ x.pul++(.int .u64 x.slot::(rtc x.root++(rtc x.parent++(rtc x.payload++(wdc x.diff++(wdc x.pdiff++(cpC x.just++(spl (cpC x.fin) (o-204) vs++[.bool x.timely])))))))):=by unfold al_;rw[pR1 (aY_ _),pS1];rw[pR1 (ah_ _),pR1 (ah_ _)];rw[pR1 (ah_ _),pR1 (aC_ _)];rw[pR1 (aC_ _),pR1 (an_ _),pL1 (an_ _)];rw[show o-66-1-32-32-32-4-4-33=o-204 by omega]
theorem sV_(x:Blk):cut (al_ x) 237 1=[.bool x.timely]:=by unfold al_;rw[cR1 (aY_ _),cS1];rw[cR1 (ah_ _),cR1 (ah_ _)];rw[cR1 (ah_ _),cR1 (aC_ _)];rw[cR1 (aC_ _),cR1 (an_ _),cR1 (an_ _)];simp only[Nat.reduceSub];all_goals rfl
theorem sX_(x:Blk)(v:Bool):spl (al_ x) 237 [.bool v]=al_ { x with timely:=v }:=by unfold al_;rw[pR1 (aY_ _),pS1];rw[pR1 (ah_ _),pR1 (ah_ _)];rw[pR1 (ah_ _),pR1 (aC_ _)];rw[pR1 (aC_ _),pR1 (an_ _),pR1 (an_ _)];simp only[Nat.reduceSub];all_goals rfl
theorem jF_(x:Blk):aW_ (al_ x)=true:=by simp[al_,aZ_,bk_,bl_,AV.cell,eN_,oh_,ct_,ky_]
theorem dI_(x:Blk):PuL (al_ x):=by simp[al_,cM_,PuL,Pu,dv_,pJ_,cf_,gJ_]
theorem Ab_(ρ:Nat→Nat)(x:Blk):cd_ ρ (al_ x)=al_ x:=(dI_ x).ren ρ
theorem DL_(σ:St)(zs:List Nat)(x:Blk):fzL σ zs (al_ x)=al_ x:=(dI_ x).fz σ zs
theorem vE_(x:Blk):(al_ x).map cr_=cv_ [(237,1),(1,0)]:=by simp only[al_,List.map_cons,List.map_append,List.map_nil,cr_,rL_,vF_,gB_,zH_];decide +kernel
theorem JH_(x:Blk):ey_ [(237,1),(1,0)] (al_ x)=true:=eb_ (vE_ x)
theorem za_(x y:Blk):dP_ (al_ x) (al_ y)=some (decide (x=y)):=by cases x;cases y;simp[al_,fg_,dP_,oZ_,ah_,aC_,uh_,zc_,gQ_,CX_,Bool.beq_eq_decide_eq,hV_,Bool.and_assoc,Bool.decide_and]
def cg_:Blk:=⟨yo_,0,rt0,rt0,rt0,wd0,wd0,cp0,cp0,false⟩
structure Att where
 slot:Int
 root:Rt
 target:Cp
 vals:AV
 deriving Inhabited
def bi_(x:Att):List AV:=.int .u64 x.slot::(rtc x.root++(cpC x.target++[x.vals]))
@[simp] theorem bV_(x:Att):(bi_ x).length=67:=by simp only[bi_,List.length_cons,List.length_append,List.length_nil,an_,ah_]
theorem IS_(slot:Int)(root:Rt)(target:Cp)(vals:AV):.int .u64 slot::(rtc root++(cpC target++[vals]))=bi_ ⟨slot,root,target,vals⟩:=rfl
theorem IT_(x:Att):cut (bi_ x) 0 67=bi_ x:=cu_ (bV_ x)
theorem xa_(x:Att):cut (bi_ x) 0 1=[.int .u64 x.slot]:=by unfold bi_;all_goals rfl
theorem xd_(x:Att)(v:Int):spl (bi_ x) 0 [.int .u64 v]=bi_ { x with slot:=v }:=by unfold bi_;all_goals rfl
theorem wZ_(x:Att)(o n:Nat)(h1:1≤o)(h2:o+n≤33):cut (bi_ x) o n=cut (rtc x.root) (o-1) n:=by unfold bi_;rw[cS1,cL1 (ah_ _)];all_goals rfl
theorem xc_(x:Att)(o:Nat)(vs:List AV)(h1:1≤o)(h2:o+vs.length≤33):spl (bi_ x) o vs=.int .u64 x.slot::(spl (rtc x.root) (o-1) vs++(cpC x.target++[x.vals])):=by unfold bi_;rw[pS1,pL1 (ah_ _)];all_goals rfl
theorem sS_(x:Att)(o n:Nat)(h1:33≤o)(h2:o+n≤66):cut (bi_ x) o n=cut (cpC x.target) (o-33) n:=by unfold bi_;rw[cS1,cR1 (ah_ _),cL1 (an_ _)];rw[show o-1-32=o-33 by omega]
theorem sT_(x:Att)(o:Nat)(vs:List AV)(h1:33≤o)(h2:o+vs.length≤66):spl (bi_ x) o vs=.int .u64 x.slot::(rtc x.root++(spl (cpC x.target) (o-33) vs++[x.vals])):=by unfold bi_;rw[pS1,pR1 (ah_ _),pL1 (an_ _)];rw[show o-1-32=o-33 by omega]
theorem xb_(x:Att):cut (bi_ x) 66 1=[x.vals]:=by unfold bi_;rw[cS1,cR1 (ah_ _),cR1 (an_ _)];simp only[Nat.reduceSub];all_goals rfl
theorem xe_(x:Att)(v:AV):spl (bi_ x) 66 [v]=bi_ { x with vals:=v }:=by unfold bi_;rw[pS1,pR1 (ah_ _),pR1 (an_ _)];simp only[Nat.reduceSub];all_goals rfl
def Att.map(g:AV→AV)(x:Att):Att:={ x with vals:=g x.vals }
theorem Att.map_mk(g:AV→AV)(slot:Int)(root:Rt)(target:Cp)(vals:AV):Att.map g ⟨slot,root,target,vals⟩=⟨slot,root,target,g vals⟩:=rfl
def Att.good(x:Att):Bool:=x.vals.cell
theorem Att.good_mk(slot:Int)(root:Rt)(target:Cp)(vals:AV):Att.good ⟨slot,root,target,vals⟩=(vals.cell):=rfl
def Att.Pure(x:Att):Prop:=Pu x.vals
theorem oc_(x:Att):aW_ (bi_ x)=x.good:=by simp[bi_,Att.good,Bool.and_assoc,aZ_,bk_,bl_,AV.cell,eN_,ct_]
theorem et_(x:Att):PuL (bi_ x)↔x.Pure:=by simp[bi_,Att.Pure,cM_,PuL,Pu,dv_,cf_]
theorem Aa_(ρ:Nat→Nat)(x:Att):cd_ ρ (bi_ x)=bi_ (x.map (ren ρ)):=by simp only[bi_,Att.map,hm_,cd_,ren,qV_,nb_]
theorem DK_(σ:St)(zs:List Nat)(x:Att):fzL σ zs (bi_ x)=bi_ (x.map (fz σ zs)):=by simp only[bi_,Att.map,hU_,fzL,fz,tV_,qG_]
def wY_:Att:=⟨0,rt0,cp0,.sl 0 true []⟩
structure Clm where
 src:Int
 tgt:Int
 root:Rt
 vals:AV
 deriving Inhabited
def bO_(x:Clm):List AV:=.int .u64 x.src::(.int .u64 x.tgt::(rtc x.root++[x.vals]))
@[simp] theorem eA_(x:Clm):(bO_ x).length=35:=by simp only[bO_,List.length_cons,List.length_append,List.length_nil,ah_]
theorem Jq_(src:Int)(tgt:Int)(root:Rt)(vals:AV):.int .u64 src::(.int .u64 tgt::(rtc root++[vals]))=bO_ ⟨src,tgt,root,vals⟩:=rfl
theorem Jr_(x:Clm):cut (bO_ x) 0 35=bO_ x:=cu_ (eA_ x)
theorem AW_(x:Clm):cut (bO_ x) 0 1=[.int .u64 x.src]:=by unfold bO_;all_goals rfl
theorem AY_(x:Clm)(v:Int):spl (bO_ x) 0 [.int .u64 v]=bO_ { x with src:=v }:=by unfold bO_;all_goals rfl
theorem AX_(x:Clm):cut (bO_ x) 1 1=[.int .u64 x.tgt]:=by unfold bO_;rw[cS1];simp only[Nat.reduceSub];all_goals rfl
theorem AZ_(x:Clm)(v:Int):spl (bO_ x) 1 [.int .u64 v]=bO_ { x with tgt:=v }:=by unfold bO_;rw[pS1];simp only[Nat.reduceSub];all_goals rfl
theorem xp_(x:Clm)(o n:Nat)(h1:2≤o)(h2:o+n≤34):cut (bO_ x) o n=cut (rtc x.root) (o-2) n:=by unfold bO_;rw[cS1,cS1,cL1 (ah_ _)];rw[show o-1-1=o-2 by omega]
theorem xr_(x:Clm)(o:Nat)(vs:List AV)(h1:2≤o)(h2:o+vs.length≤34):spl (bO_ x) o vs=.int .u64 x.src::(.int .u64 x.tgt::(spl (rtc x.root) (o-2) vs++[x.vals])):=by unfold bO_;rw[pS1,pS1,pL1 (ah_ _)];rw[show o-1-1=o-2 by omega]
theorem xq_(x:Clm):cut (bO_ x) 34 1=[x.vals]:=by unfold bO_;rw[cS1,cS1,cR1 (ah_ _)];simp only[Nat.reduceSub];all_goals rfl
theorem xs_(x:Clm)(v:AV):spl (bO_ x) 34 [v]=bO_ { x with vals:=v }:=by unfold bO_;rw[pS1,pS1,pR1 (ah_ _)];simp only[Nat.reduceSub];all_goals rfl
def Clm.map(g:AV→AV)(x:Clm):Clm:={ x with vals:=g x.vals }
theorem Clm.map_mk(g:AV→AV)(src:Int)(tgt:Int)(root:Rt)(vals:AV):Clm.map g ⟨src,tgt,root,vals⟩=⟨src,tgt,root,g vals⟩:=rfl
def Clm.good(x:Clm):Bool:=x.vals.cell
theorem Clm.good_mk(src:Int)(tgt:Int)(root:Rt)(vals:AV):Clm.good ⟨src,tgt,root,vals⟩=(vals.cell):=rfl
def Clm.Pure(x:Clm):Prop:=Pu x.vals
theorem oe_(x:Clm):aW_ (bO_ x)=x.good:=by simp[bO_,Clm.good,Bool.and_assoc,aZ_,bk_,bl_,AV.cell,ct_]
theorem jP_(x:Clm):PuL (bO_ x)↔x.Pure:=by simp[bO_,Clm.Pure,cM_,PuL,Pu,cf_]
theorem Ac_(ρ:Nat→Nat)(x:Clm):cd_ ρ (bO_ x)=bO_ (x.map (ren ρ)):=by simp only[bO_,Clm.map,hm_,cd_,ren,nb_]
theorem DN_(σ:St)(zs:List Nat)(x:Clm):fzL σ zs (bO_ x)=bO_ (x.map (fz σ zs)):=by simp only[bO_,Clm.map,hU_,fzL,fz,qG_]
def ON_:Clm:=⟨0,0,rt0,.sl 0 true []⟩
structure Slg where
 fst:Clm
 snd:Clm
 deriving Inhabited
def cs_(x:Slg):List AV:=bO_ x.fst++(bO_ x.snd)
@[simp] theorem cm_(x:Slg):(cs_ x).length=70:=by simp only[cs_,List.length_cons,List.length_append,List.length_nil,eA_]
theorem KX_(fst:Clm)(snd:Clm):bO_ fst++(bO_ snd)=cs_ ⟨fst,snd⟩:=rfl
theorem KY_(x:Slg):cut (cs_ x) 0 70=cs_ x:=cu_ (cm_ x)
theorem Ch_(x:Slg)(o n:Nat)(h1:0≤o)(h2:o+n≤35):cut (cs_ x) o n=cut (bO_ x.fst) (o-0) n:=by unfold cs_;rw[cL1 (eA_ _)];all_goals rfl
theorem Cj_(x:Slg)(o:Nat)(vs:List AV)(h1:0≤o)(h2:o+vs.length≤35):spl (cs_ x) o vs=spl (bO_ x.fst) (o-0) vs++(bO_ x.snd):=by unfold cs_;rw[pL1 (eA_ _)];all_goals rfl
theorem Ci_(x:Slg)(o n:Nat)(h1:35≤o)(h2:o+n≤70):cut (cs_ x) o n=cut (bO_ x.snd) (o-35) n:=by unfold cs_;rw[cR1 (eA_ _)];all_goals rfl
theorem Ck_(x:Slg)(o:Nat)(vs:List AV)(h1:35≤o)(h2:o+vs.length≤70):spl (cs_ x) o vs=bO_ x.fst++(spl (bO_ x.snd) (o-35) vs):=by unfold cs_;rw[pR1 (eA_ _)];all_goals rfl
def Slg.map(g:AV→AV)(x:Slg):Slg:={ x with fst:=x.fst.map g,snd:=x.snd.map g }
theorem Slg.map_mk(g:AV→AV)(fst:Clm)(snd:Clm):Slg.map g ⟨fst,snd⟩=⟨fst.map g,snd.map g⟩:=rfl
def Slg.good(x:Slg):Bool:=x.fst.good&&x.snd.good
theorem Slg.good_mk(fst:Clm)(snd:Clm):Slg.good ⟨fst,snd⟩=(fst.good&&snd.good):=rfl
def Slg.Pure(x:Slg):Prop:=x.fst.Pure∧x.snd.Pure
theorem oi_(x:Slg):aW_ (cs_ x)=x.good:=by simp[cs_,Slg.good,Bool.and_assoc,aZ_,bk_,bl_,AV.cell,oe_]
theorem fN_(x:Slg):PuL (cs_ x)↔x.Pure:=by simp[cs_,Slg.Pure,cM_,PuL,Pu,jP_]
theorem Af_(ρ:Nat→Nat)(x:Slg):cd_ ρ (cs_ x)=cs_ (x.map (ren ρ)):=by simp only[cs_,Slg.map,hm_,cd_,ren,Ac_]
theorem DQ_(σ:St)(zs:List Nat)(x:Slg):fzL σ zs (cs_ x)=cs_ (x.map (fz σ zs)):=by simp only[cs_,Slg.map,hU_,fzL,fz,DN_]
def yw_:Slg:=⟨ON_,ON_⟩
structure Tab where
 cp:Cp
 bals:AV
 deriving Inhabited
def bb_(x:Tab):List AV:=cpC x.cp++[x.bals]
@[simp] theorem cT_(x:Tab):(bb_ x).length=34:=by simp only[bb_,List.length_cons,List.length_append,List.length_nil,an_]
theorem Lh_(cp:Cp)(bals:AV):cpC cp++[bals]=bb_ ⟨cp,bals⟩:=rfl
theorem Li_(x:Tab):cut (bb_ x) 0 34=bb_ x:=cu_ (cT_ x)
theorem Fe_(x:Tab)(o n:Nat)(h1:0≤o)(h2:o+n≤33):cut (bb_ x) o n=cut (cpC x.cp) (o-0) n:=by unfold bb_;rw[cL1 (an_ _)];all_goals rfl
theorem Ff_(x:Tab)(o:Nat)(vs:List AV)(h1:0≤o)(h2:o+vs.length≤33):spl (bb_ x) o vs=spl (cpC x.cp) (o-0) vs++[x.bals]:=by unfold bb_;rw[pL1 (an_ _)];all_goals rfl
theorem yO_(x:Tab):cut (bb_ x) 33 1=[x.bals]:=by unfold bb_;rw[cR1 (an_ _)];simp only[Nat.reduceSub];all_goals rfl
theorem yP_(x:Tab)(v:AV):spl (bb_ x) 33 [v]=bb_ { x with bals:=v }:=by unfold bb_;rw[pR1 (an_ _)];simp only[Nat.reduceSub];all_goals rfl
def Tab.map(g:AV→AV)(x:Tab):Tab:={ x with bals:=g x.bals }
theorem Tab.map_mk(g:AV→AV)(cp:Cp)(bals:AV):Tab.map g ⟨cp,bals⟩=⟨cp,g bals⟩:=rfl
def Tab.good(x:Tab):Bool:=x.bals.cell
theorem Tab.good_mk(cp:Cp)(bals:AV):Tab.good ⟨cp,bals⟩=(bals.cell):=rfl
def Tab.Pure(x:Tab):Prop:=Pu x.bals
theorem ok_(x:Tab):aW_ (bb_ x)=x.good:=by simp[bb_,Tab.good,Bool.and_assoc,aZ_,bk_,bl_,AV.cell,eN_]
theorem dX_(x:Tab):PuL (bb_ x)↔x.Pure:=by simp[bb_,Tab.Pure,cM_,PuL,Pu,dv_]
theorem Ah_(ρ:Nat→Nat)(x:Tab):cd_ ρ (bb_ x)=bb_ (x.map (ren ρ)):=by simp only[bb_,Tab.map,hm_,cd_,ren,qV_]
theorem DS_(σ:St)(zs:List Nat)(x:Tab):fzL σ zs (bb_ x)=bb_ (x.map (fz σ zs)):=by simp only[bb_,Tab.map,hU_,fzL,fz,tV_]
def rf_:Tab:=⟨cp0,.sl 0 true []⟩
structure Vdt where
 tag:Int
 kind:Int
 latest:Rt
 deriving Inhabited,DecidableEq
def cA_(x:Vdt):List AV:=.int .u64 x.tag::(.int .i64 x.kind::(rtc x.latest))
@[simp] theorem dB_(x:Vdt):(cA_ x).length=34:=by simp only[cA_,List.length_cons,List.length_append,List.length_nil,ah_]
theorem Lx_(tag:Int)(kind:Int)(latest:Rt):.int .u64 tag::(.int .i64 kind::(rtc latest))=cA_ ⟨tag,kind,latest⟩:=rfl
theorem Ly_(x:Vdt):cut (cA_ x) 0 34=cA_ x:=cu_ (dB_ x)
theorem CH_(x:Vdt):cut (cA_ x) 0 1=[.int .u64 x.tag]:=by unfold cA_;all_goals rfl
theorem CI_(x:Vdt)(v:Int):spl (cA_ x) 0 [.int .u64 v]=cA_ { x with tag:=v }:=by unfold cA_;all_goals rfl
theorem yR_(x:Vdt):cut (cA_ x) 1 1=[.int .i64 x.kind]:=by unfold cA_;rw[cS1];simp only[Nat.reduceSub];all_goals rfl
theorem yS_(x:Vdt)(v:Int):spl (cA_ x) 1 [.int .i64 v]=cA_ { x with kind:=v }:=by unfold cA_;rw[pS1];simp only[Nat.reduceSub];all_goals rfl
theorem tN_(x:Vdt)(o n:Nat)(h1:2≤o)(h2:o+n≤34):cut (cA_ x) o n=cut (rtc x.latest) (o-2) n:=by unfold cA_;rw[cS1,cS1];rw[show o-1-1=o-2 by omega]
theorem tO_(x:Vdt)(o:Nat)(vs:List AV)(h1:2≤o)(h2:o+vs.length≤34):spl (cA_ x) o vs=.int .u64 x.tag::(.int .i64 x.kind::(spl (rtc x.latest) (o-2) vs)):=by unfold cA_;rw[pS1,pS1];rw[show o-1-1=o-2 by omega]
theorem ol_(x:Vdt):aW_ (cA_ x)=true:=by simp[cA_,aZ_,bk_,bl_,AV.cell,ct_]
theorem lN_(x:Vdt):PuL (cA_ x):=by simp[cA_,cM_,PuL,Pu,cf_]
theorem Ai_(ρ:Nat→Nat)(x:Vdt):cd_ ρ (cA_ x)=cA_ x:=(lN_ x).ren ρ
theorem DT_(σ:St)(zs:List Nat)(x:Vdt):fzL σ zs (cA_ x)=cA_ x:=(lN_ x).fz σ zs
theorem Gx_(x:Vdt):(cA_ x).map cr_=cv_ [(34,1)]:=by simp only[cA_,List.map_cons,List.map_append,List.map_nil,cr_,gB_];decide +kernel
theorem JN_(x:Vdt):ey_ [(34,1)] (cA_ x)=true:=eb_ (Gx_ x)
theorem IQ_(x y:Vdt):dP_ (cA_ x) (cA_ y)=some (decide (x=y)):=by cases x;cases y;simp[cA_,fg_,dP_,oZ_,ah_,aC_,gQ_,Bool.beq_eq_decide_eq,hV_,Bool.and_assoc,Bool.decide_and]
def gH_:Vdt:=⟨0,0,rt0⟩
structure SOp where
 kind:Int
 blk:Blk
 att:Att
 slg:Slg
 tab:Tab
 vdt:Vdt
 write:Int
 keep:Int
 deriving Inhabited
def bJ_(x:SOp):List AV:=.int .i64 x.kind::(al_ x.blk++(bi_ x.att++(cs_ x.slg++(bb_ x.tab++(cA_ x.vdt++(.int .i64 x.write::[.int .i64 x.keep]))))))
@[simp] theorem sJ_(x:SOp):(bJ_ x).length=446:=by simp only[bJ_,List.length_cons,List.length_append,List.length_nil,bV_,aX_,cm_,cT_,dB_]
theorem KO_(kind:Int)(blk:Blk)(att:Att)(slg:Slg)(tab:Tab)(vdt:Vdt)(write:Int)(keep:Int):.int .i64 kind::(al_ blk++(bi_ att++(cs_ slg++(bb_ tab++(cA_ vdt++(.int .i64 write::[.int .i64 keep]))))))=bJ_ ⟨kind,blk,att,slg,tab,vdt,write,keep⟩:=rfl
theorem KP_(x:SOp):cut (bJ_ x) 0 446=bJ_ x:=cu_ (sJ_ x)
theorem yt_(x:SOp):cut (bJ_ x) 0 1=[.int .i64 x.kind]:=by unfold bJ_;all_goals rfl
theorem yv_(x:SOp)(v:Int):spl (bJ_ x) 0 [.int .i64 v]=bJ_ { x with kind:=v }:=by unfold bJ_;all_goals rfl
theorem BX_(x:SOp)(o n:Nat)(h1:1≤o)(h2:o+n≤239):cut (bJ_ x) o n=cut (al_ x.blk) (o-1) n:=by unfold bJ_;rw[cS1,cL1 (aX_ _)];all_goals rfl
theorem Cc_(x:SOp)(o:Nat)(vs:List AV)(h1:1≤o)(h2:o+vs.length≤239):spl (bJ_ x) o vs=.int .i64 x.kind::(spl (al_ x.blk) (o-1) vs++(bi_ x.att++(cs_ x.slg++(bb_ x.tab++(cA_ x.vdt++(.int .i64 x.write::[.int .i64 x.keep])))))):=by unfold bJ_;rw[pS1,pL1 (aX_ _)];all_goals rfl
theorem BW_(x:SOp)(o n:Nat)(h1:239≤o)(h2:o+n≤306):cut (bJ_ x) o n=cut (bi_ x.att) (o-239) n:=by unfold bJ_;rw[cS1,cR1 (aX_ _),cL1 (bV_ _)];rw[show o-1-238=o-239 by omega]
theorem Cb_(x:SOp)(o:Nat)(vs:List AV)(h1:239≤o)(h2:o+vs.length≤306):spl (bJ_ x) o vs=.int .i64 x.kind::(al_ x.blk++(spl (bi_ x.att) (o-239) vs++(cs_ x.slg++(bb_ x.tab++(cA_ x.vdt++(.int .i64 x.write::[.int .i64 x.keep])))))):=by unfold bJ_;rw[pS1,pR1 (aX_ _),pL1 (bV_ _)];rw[show o-1-238=o-239 by omega]
theorem BY_(x:SOp)(o n:Nat)(h1:306≤o)(h2:o+n≤376):cut (bJ_ x) o n=cut (cs_ x.slg) (o-306) n:=by unfold bJ_;rw[cS1,cR1 (aX_ _)];rw[cR1 (bV_ _),cL1 (cm_ _)];rw[show o-1-238-67=o-306 by omega]
theorem Cd_(x:SOp)(o:Nat)(vs:List AV)(h1:306≤o)(h2:o+vs.length≤376):spl (bJ_ x) o vs=.int .i64 x.kind::(al_ x.blk++(bi_ x.att++(spl (cs_ x.slg) (o-306) vs++(bb_ x.tab++(cA_ x.vdt++(.int .i64 x.write::[.int .i64 x.keep])))))):=by unfold bJ_;rw[pS1,pR1 (aX_ _)];rw[pR1 (bV_ _),pL1 (cm_ _)];rw[show o-1-238-67=o-306 by omega]
theorem BZ_(x:SOp)(o n:Nat)(h1:376≤o)(h2:o+n≤410):cut (bJ_ x) o n=cut (bb_ x.tab) (o-376) n:=by unfold bJ_;rw[cS1,cR1 (aX_ _)];rw[cR1 (bV_ _),cR1 (cm_ _),cL1 (cT_ _)];rw[show o-1-238-67-70=o-376 by omega]
theorem Ce_(x:SOp)(o:Nat)(vs:List AV)(h1:376≤o)(h2:o+vs.length≤410):spl (bJ_ x) o vs=.int .i64 x.kind::(al_ x.blk++(bi_ x.att++(cs_ x.slg++(spl (bb_ x.tab) (o-376) vs++(cA_ x.vdt++(.int .i64 x.write::[.int .i64 x.keep])))))):=by unfold bJ_;rw[pS1,pR1 (aX_ _)];rw[pR1 (bV_ _),pR1 (cm_ _),pL1 (cT_ _)];rw[show o-1-238-67-70=o-376 by omega]
theorem Ca_(x:SOp)(o n:Nat)(h1:410≤o)(h2:o+n≤444):cut (bJ_ x) o n=cut (cA_ x.vdt) (o-410) n:=by unfold bJ_;rw[cS1,cR1 (aX_ _)];rw[cR1 (bV_ _),cR1 (cm_ _)];rw[cR1 (cT_ _),cL1 (dB_ _)];rw[show o-1-238-67-70-34=o-410 by omega]
theorem Cf_(x:SOp)(o:Nat)(vs:List AV)(h1:410≤o)(h2:o+vs.length≤444):spl (bJ_ x) o vs=.int .i64 x.kind::(al_ x.blk++(bi_ x.att++(cs_ x.slg++(bb_ x.tab++(spl (cA_ x.vdt) (o-410) vs++(.int .i64 x.write::[.int .i64 x.keep])))))):=by unfold bJ_;rw[pS1,pR1 (aX_ _)];rw[pR1 (bV_ _),pR1 (cm_ _)];rw[pR1 (cT_ _),pL1 (dB_ _)];rw[show o-1-238-67-70-34=o-410 by omega]
theorem wv_(x:SOp):cut (bJ_ x) 444 1=[.int .i64 x.write]:=by unfold bJ_;rw[cS1,cR1 (aX_ _)];rw[cR1 (bV_ _),cR1 (cm_ _)];rw[cR1 (cT_ _),cR1 (dB_ _)];simp only[Nat.reduceSub];all_goals rfl
theorem ww_(x:SOp)(v:Int):spl (bJ_ x) 444 [.int .i64 v]=bJ_ { x with write:=v }:=by unfold bJ_;rw[pS1,pR1 (aX_ _)];rw[pR1 (bV_ _),pR1 (cm_ _)];rw[pR1 (cT_ _),pR1 (dB_ _)];simp only[Nat.reduceSub];all_goals rfl
theorem ys_(x:SOp):cut (bJ_ x) 445 1=[.int .i64 x.keep]:=by unfold bJ_;rw[cS1,cR1 (aX_ _)];rw[cR1 (bV_ _),cR1 (cm_ _)];rw[cR1 (cT_ _),cR1 (dB_ _),cS1];simp only[Nat.reduceSub];all_goals rfl
theorem yu_(x:SOp)(v:Int):spl (bJ_ x) 445 [.int .i64 v]=bJ_ { x with keep:=v }:=by unfold bJ_;rw[pS1,pR1 (aX_ _)];rw[pR1 (bV_ _),pR1 (cm_ _)];rw[pR1 (cT_ _),pR1 (dB_ _),pS1];simp only[Nat.reduceSub];all_goals rfl
def SOp.map(g:AV→AV)(x:SOp):SOp:={ x with att:=x.att.map g,slg:=x.slg.map g,tab:=x.tab.map g }
theorem SOp.map_mk(g:AV→AV)(kind:Int)(blk:Blk)(att:Att)(slg:Slg)(tab:Tab)(vdt:Vdt)(write:Int)(keep:Int):SOp.map g ⟨kind,blk,att,slg,tab,vdt,write,keep⟩=⟨kind,blk,att.map g,slg.map g,tab.map g,vdt,write,keep⟩:=rfl
def SOp.good(x:SOp):Bool:=x.att.good&&x.slg.good&&x.tab.good
theorem SOp.good_mk(kind:Int)(blk:Blk)(att:Att)(slg:Slg)(tab:Tab)(vdt:Vdt)(write:Int)(keep:Int):SOp.good ⟨kind,blk,att,slg,tab,vdt,write,keep⟩=(att.good&&slg.good&&tab.good):=rfl
def SOp.Pure(x:SOp):Prop:=x.att.Pure∧x.slg.Pure∧x.tab.Pure
theorem wU_(x:SOp):aW_ (bJ_ x)=x.good:=by simp[bJ_,SOp.good,Bool.and_assoc,aZ_,bk_,bl_,AV.cell,oc_,jF_,oi_,ok_,ol_]
theorem ff_(x:SOp):PuL (bJ_ x)↔x.Pure:=by simp[bJ_,SOp.Pure,cM_,PuL,Pu,et_,dI_,fN_,dX_,lN_]
theorem KJ_(ρ:Nat→Nat)(x:SOp):cd_ ρ (bJ_ x)=bJ_ (x.map (ren ρ)):=by simp only[bJ_,SOp.map,hm_,cd_,ren,Aa_,Ab_,Af_,Ah_,Ai_]
theorem MI_(σ:St)(zs:List Nat)(x:SOp):fzL σ zs (bJ_ x)=bJ_ (x.map (fz σ zs)):=by simp only[bJ_,SOp.map,hU_,fzL,fz,DK_,DL_,DQ_,DS_,DT_]
def RU_:SOp:=⟨0,cg_,wY_,yw_,rf_,gH_,0,0⟩
end Go.FH
namespace Go.FH
open Go Go.RowKit
set_option linter.unusedVariables false
theorem SH_(P:Program)(nv:Nat)(vs:List AV)(ts:List (Nat×AV))(σ:St)(K:AV→St→Prop):type_of% (evO P ⟨nv,vs,ts⟩ σ K):=evO P ⟨nv,vs,ts⟩ σ K
theorem SI_(P:Program)(nv:Nat)(vs:List AV)(ts:List (Nat×AV))(σ:St)(K:AV→St→Prop):type_of% (evM P ⟨nv,vs,ts⟩ σ K):=evM P ⟨nv,vs,ts⟩ σ K
theorem SJ_(P:Program)(nv:Nat)(vs:List AV)(ts:List (Nat×AV))(σ:St)(K:AV→St→Prop):type_of% (evA P ⟨nv,vs,ts⟩ σ K):=evA P ⟨nv,vs,ts⟩ σ K
theorem SK_(P:Program)(nv:Nat)(vs:List AV)(ts:List (Nat×AV))(σ:St)(n:Nat)(K:AV→List Nat→List Nat→St→Prop):type_of% (RF_ P σ n nv vs ts K):=RF_ P σ n nv vs ts K
theorem SL_(P:Program)(nv:Nat)(vs:List AV)(ts:List (Nat×AV))(σ:St)(K:AV→St→Prop):type_of% (RG_ P σ K nv vs ts):=RG_ P σ K nv vs ts
attribute [go_sem] SK_ SL_ SF_ SG_
attribute [go_sem] SH_ SI_ SJ_ evF evQ evR evL evD opF evH evK GJ_ GI_ Re_ Rd_ Rf_ FC_ MX_ hw_ nG_ AOp.allocs vI_ hj_ List.length_set List.length_append List.length_cons List.length_nil List.map_cons List.map_nil List.set_cons_zero List.set_cons_succ List.getElem?_cons_zero List.getElem?_cons_succ List.getElem?_nil List.nil_append List.cons_append List.append_nil if_true if_false true_and and_true true_or or_true Bool.false_eq_true not_false_eq_true not_true_eq_false Int.toNat_natCast Bool.not_true Bool.not_false cond_true cond_false Int.natCast_nonneg forall_const false_implies implies_true Nat.sub_zero Nat.zero_add Nat.add_zero List.drop_zero decide_true decide_false qE_ ps_ DC_ ny_ Qp_ Qo_ Qn_ RE_ RD_ EX_ Qz_ Qy_ Qx_ RX_ RY_ NG_ Ou_ ah_ aC_ ct_ ky_ nb_ EF_ gQ_ CX_ DE_ MA_ Jp_ sF_ Mp_ an_ Mo_ FR_ FT_ FS_ FU_ eN_ qV_ Mz_ uh_ Kz_ aY_ Ky_ Hh_ Hj_ Hg_ Hi_ oh_ KI_ JL_ zc_ Jc_ aX_ Jb_ AJ_ AL_ xi_ xm_ xh_ xl_ sU_ sW_ rs_ rt_ xf_ xj_ uo_ up_ xg_ xk_ AI_ AK_ sV_ sX_ jF_ Ab_ JH_ za_ IT_ bV_ IS_ xa_ xd_ wZ_ xc_ sS_ sT_ xb_ xe_ Att.map_mk Att.good_mk oc_ Aa_ Jr_ eA_ Jq_ AW_ AY_ AX_ AZ_ xp_ xr_ xq_ xs_ Clm.map_mk Clm.good_mk oe_ Ac_ KY_ cm_ KX_ Ch_ Cj_ Ci_ Ck_ Slg.map_mk Slg.good_mk oi_ Af_ Li_ cT_ Lh_ Fe_ Ff_ yO_ yP_ Tab.map_mk Tab.good_mk ok_ Ah_ Ly_ dB_ Lx_ CH_ CI_ yR_ yS_ tN_ tO_ ol_ Ai_ JN_ IQ_ KP_ sJ_ KO_ yt_ yv_ BX_ Cc_ BW_ Cb_ BY_ Cd_ BZ_ Ce_ Ca_ Cf_ wv_ ww_ ys_ yu_ SOp.map_mk SOp.good_mk wU_ KJ_ cp0 yo_ cg_ wY_ ON_ yw_ rf_ gH_ RU_ bl_ aZ_ bk_ AV.cell List.all_cons List.all_nil Bool.and_true Bool.true_and List.replicate_succ List.replicate_zero beq_self_eq_true ne_eq cd_ ren rdS hN_ List.flatten_cons List.flatten_nil lR_ OJ_ Ma_ LZ_ List.take_of_length_le Nat.le_refl iO_ jU_ List.isEmpty_nil List.isEmpty_cons List.filter_cons List.filter_nil decide_eq_true_eq bne_self_eq_false Bool.bne_false Bool.bne_true Option.isNone_some Option.isNone_none Bool.and_false Bool.false_and Bool.not_eq_true Bool.not_eq_false eq_self Md_ Bool.true_eq_false forall_eq
attribute [go_sem] Hp_ EI_ EH_ pw_ Option.map_some
attribute [go_sem] qG_ HV_ tV_ MG_ DL_ DK_ DN_ DQ_ DS_ DT_ MI_ jL_ fx_ gg_ av_ gf_ rn fd_ nz_ cw_ fz fzL fzO qF_ dl_ eD_ List.getD_cons_zero List.getD_cons_succ List.getD_nil List.take_zero List.take_succ_cons List.take_nil List.drop_succ_cons List.drop_nil List.getElem?_cons_zero List.getElem?_cons_succ List.getElem?_nil Option.map_none and_self List.mem_cons List.not_mem_nil or_false false_or or_self List.range_zero List.range_succ List.mem_append List.mem_singleton List.contains_eq_mem List.mem_range Nat.sub_self ez_
structure Hid(q:Prop):Prop where
 out:q
theorem evd{p:Prop}(h:p:=by((try simp only[go_sem,Nat.reduceAdd,Nat.reduceSub,Nat.reduceMul,Nat.reduceLT,Nat.reduceLeDiff,Nat.reduceEqDiff,reduceIte,Int.reduceToNat,Int.reduceLT,Int.reduceLE,Int.reduceEq,Int.reduceNeg,reduceCtorEq,Int.reduceBEq,Int.reduceBNe]);try rfl)):p:=h
theorem evg{p q:Prop}(hq:q)(h:Hid q→p:=by(intro hq;(try simp only[go_sem,Nat.reduceAdd,Nat.reduceSub,Nat.reduceMul,Nat.reduceLT,Nat.reduceLeDiff,Nat.reduceEqDiff,reduceIte,Int.reduceToNat,Int.reduceLT,Int.reduceLE,Int.reduceEq,Int.reduceNeg,reduceCtorEq,Int.reduceBEq,Int.reduceBNe]);exact hq.out)):p:=h ⟨hq⟩
theorem aa_{p q:Prop}(hq:q) (h:Hid q→p:=by
 (intro hq
  (first|with_reducible (first|refine eU_ ?_|refine fJ_ ?_|refine eT_ ?_|refine ho_ (by simp only[List.length_cons,List.length_nil]) ?_|refine hq_ ?_|refine hp_ ?_|refine jD_ ?_)|(simp only[go_sem,Nat.reduceAdd,Nat.reduceSub,Nat.reduceMul,Nat.reduceLT,Nat.reduceLeDiff,Nat.reduceEqDiff,reduceIte,Int.reduceToNat,Int.reduceLT,Int.reduceLE,Int.reduceEq,Int.reduceNeg,reduceCtorEq,Int.reduceBEq,Int.reduceBNe])|with_reducible refine And.intro (iL_ (by decide)) ?_|(with_reducible refine And.intro ?_ ?_;first|omega|decide|(simp;done)|(simp;omega)))
  repeat(first|with_reducible (first|refine eU_ ?_|refine fJ_ ?_|refine eT_ ?_|refine ho_ (by simp only[List.length_cons,List.length_nil]) ?_|refine hq_ ?_|refine hp_ ?_|refine jD_ ?_)|(simp only[go_sem,Nat.reduceAdd,Nat.reduceSub,Nat.reduceMul,Nat.reduceLT,Nat.reduceLeDiff,Nat.reduceEqDiff,reduceIte,Int.reduceToNat,Int.reduceLT,Int.reduceLE,Int.reduceEq,Int.reduceNeg,reduceCtorEq,Int.reduceBEq,Int.reduceBNe])|with_reducible refine And.intro (iL_ (by decide)) ?_|(with_reducible refine And.intro ?_ ?_;first|omega|decide|(simp;done)|(simp;omega)))
  exact hq.out)):p:=h ⟨hq⟩
theorem EY_{p q:Prop}(hq:q) (h:Hid q→p:=by
 (intro hq
  repeat(first|(simp only[go_sem,Nat.reduceAdd,Nat.reduceSub,Nat.reduceMul,Nat.reduceLT,Nat.reduceLeDiff,Nat.reduceEqDiff,reduceIte,Int.reduceToNat,Int.reduceLT,Int.reduceLE,Int.reduceEq,Int.reduceNeg,reduceCtorEq,Int.reduceBEq,Int.reduceBNe])|with_reducible refine And.intro (iL_ (by decide)) ?_|(with_reducible refine And.intro ?_ ?_;first|omega|decide|(simp;done)|(simp;omega)))
  exact hq.out)):p:=h ⟨hq⟩
section
variable{P:Program}{nt k:Nat}{fr:Fr}{σ:St}{c:Opd}{x y:ad_}{Q:Ex→Fr→St→Prop}
theorem ac_(h:Tri P nt k x Q fr σ)(hb:c.ev fr=.bool true:=by((try simp only[go_sem,Nat.reduceAdd,Nat.reduceSub,Nat.reduceMul,Nat.reduceLT,Nat.reduceLeDiff,Nat.reduceEqDiff,reduceIte,Int.reduceToNat,Int.reduceLT,Int.reduceLE,Int.reduceEq,Int.reduceNeg,reduceCtorEq,Int.reduceBEq,Int.reduceBNe]);try rfl)):Tri P nt k (.cond c x y) Q fr σ:=bL_ hb (fun _=>h) (fun h=>by cases h)
theorem ab_(h:Tri P nt k y Q fr σ)(hb:c.ev fr=.bool false:=by((try simp only[go_sem,Nat.reduceAdd,Nat.reduceSub,Nat.reduceMul,Nat.reduceLT,Nat.reduceLeDiff,Nat.reduceEqDiff,reduceIte,Int.reduceToNat,Int.reduceLT,Int.reduceLE,Int.reduceEq,Int.reduceNeg,reduceCtorEq,Int.reduceBEq,Int.reduceBNe]);try rfl)):Tri P nt k (.cond c x y) Q fr σ:=bL_ hb (fun h=>by cases h) (fun _=>h)
end
end Go.FH
namespace Go.FH
open Go Go.RowKit
set_option linter.unusedVariables false
set_option linter.unusedSimpArgs false
theorem evP:
 (∀n σ K,hk_ n σ K .mkm []=K (.mp n) [n] true (σ.set n (.map [])))∧
 (∀n σ K kk z ok id k,hk_ n σ K (.lkp kk z ok) [.mp id,k]=(kn_ kk k=true∧match σ[id]? with
  | some (.map es) => (match lI_ kk k es with
    |some (some j)=>K (if ok then .tup [(es.getD j []).getD 1 .dead,.bool true]else (es.getD j []).getD 1 .dead) [id] false σ
    |some none=>K (if ok then .tup [z,.bool false]else z) [id] false σ
    |none=>False)
  |_=>False))∧
 (∀n σ K kk id k v,hk_ n σ K (.upd kk) [.mp id,k,v]=(kn_ kk k=true∧match σ[id]? with
  | some (.map es) => (match lI_ kk k es with
    |some (some j)=>K (.tup []) [id] true (σ.set id (.map (es.set j [k,v])))
    |some none=>K (.tup []) [id] true (σ.set id (.map (es++[[k,v]])))
    |none=>False)
  |_=>False))∧
 (∀n σ K id,hk_ n σ K .rng [.mp id]=(match σ[id]? with
  |some (.map es)=>K (.ptr n 0) [n,id] true (σ.set n (.iter id es.length []))
  |_=>False))∧
 (∀n σ K id,hk_ n σ K .ent [.ptr id 0]=(match σ[id]? with
  | some (.iter m N seen) => (match seen.getLast?, σ[m]? with
    |some i,some (.map es)=>es.length=N∧i<N∧K (.tup (es.getD i [])) [id,m] false σ
    |_,_=>False)
  |_=>False))∧
 (∀id σ K,kO_ (.ptr id 0) σ K=(match σ[id]? with
  | some (.iter m N seen) => (match σ[m]? with
    |some (.map es)=>id≠m∧es.length=N∧(∀i,i<N→i∉seen→K (.tup (.bool true::es.getD i [])) (σ.set id (.iter m N (seen++[i]))))∧((∀i,i<N→i∈seen)→K (.tup [.bool false]) σ)
    |_=>False)
  |_=>False))∧
 (∀k n,kn_ none (.int k n)=true)∧(∀n cs,kn_ (some n) (.agg cs)=ey_ [(n,1)] cs)∧
 (∀id,AV.cellsOf (.mp id)=[.mp id])∧(∀σ zs id,fz σ zs (.mp id)=.mp id)∧(∀ρ id,ren ρ (.mp id)=.mp (ρ id)):=
 ⟨fun _ _ _=>rfl,fun _ _ _ _ _ _ _ _=>rfl,fun _ _ _ _ _ _ _=>rfl,fun _ _ _ _=>rfl,fun _ _ _ _=>rfl,fun _ _ _=>rfl,fun _ _=>rfl,fun _ _=>rfl,fun _=>rfl,fun _ _ _=>rfl,fun _ _=>rfl⟩
attribute [go_sem] evP List.getLast?_concat List.getLast?_singleton
end Go.FH
namespace Go.FH
set_option linter.unusedVariables false
set_option linter.unusedSimpArgs false
open Go Go.RowKit
section
variable{P:Program}{C:Cx}{nt k:Nat}{fr:Fr}{σ:St}{loc:Nat→Option Loc}{a:Act}{w:World}
theorem SR.own(h:SR C nt k fr σ loc a w)(e:Nat):SR C nt k fr (σ++[.vec e []]) (fc_ loc σ.length ⟨false,0,0,0⟩) a w:=by
 have hg:loc σ.length=none:=h.rel.beyond _ (Nat.le_refl _);have hp:=h.pad 1;obtain⟨k1,k2⟩:=hp.rel.add (n:=σ.length) (by simp) hg (.vec e []) ⟨false,0,0,0⟩ w (Ev.refl _ _) (σ++List.replicate 1 .gone) (fun _ _ h _=>h) rfl (fun id o' L' _ _ _ _=>⟨(fun h=>by cases h),rfl⟩) (fun h=>by cases h) (fun E _ _=>.inl ⟨rfl,rfl⟩);have hs:(σ++List.replicate 1 bd_.gone).set σ.length (.vec e [])=σ++[.vec e []]:=nC_ σ _;rw[hs]at k1 k2;have hle:=hg_ (X:=C.X) hp.rel (dk_ hg _) (Ev.refl _ _) k2;refine⟨k1,fun t=>Rl.mono hle _ _ (hp.frm t),h.size,h.dfr,h.ev,fun b hb=>(k2 b hb).elim (hp.old b) fun h1=>.inr (Nat.le_trans (h.ev.size) h1),fun id hid=>?_,by simp;have:=h.klen;omega⟩;rw[cF_ _ _ _ (by have:=h.klen;omega)];exact h.pre id hid
theorem Nq_{E:Env}{e e0 id:Nat}{v:Value}(hl:E.loc id=some ⟨false,0,0,0⟩)(h:Rl E (.sl e0 true []) v):Rl E (.hs e id 0 0) v:=by
 obtain⟨ad,n,cap,h1,h2,h3,h4,h5,h6,h7⟩:=h;have hn:n=0:=by simpa using h2
 have hc:cap=n:=h5 rfl;subst hn;subst hc;exact⟨ad,0,_,h1,Nat.le_refl _,h4,fun _=>rfl,hl,.inl ⟨rfl,fun h=>(by cases h)⟩⟩
theorem cY_{c:ad_}{Q:Ex→Fr→St→Prop}(t e:Nat){e0:Nat}(hq:Tri P nt k c Q (fr.put t (.hs e σ.length 0 0)) (σ++[.vec e []]))(h0:fr.get t=.sl e0 true []:=by first|rfl|(simp only[go_sem];rfl)):Tri P nt k c Q fr σ:=by
 intro fx code hc C loc a w hs;have h1:=hs.own e;refine hq fx code hc C _ a w (h1.putSame t _ (Nq_ (e0:=e0) (cn_ _ _ _) ?_));have:=h1.frm t;rwa [h0]at this
theorem HJ_{E:Env}{c:AV}:∀ {cs:List AV} {vs:List Value} (i:Nat),RlC E cs vs→c.cell=true→(∀v,Rl E (cs.getD i .dead) v→Rl E c v)→RlC E (cs.set i c) vs
 | [],_,_,h,_,_=>by simpa using h
 | x :: cs, _, 0, h, hc, hi => by
   obtain⟨u,us,rfl,h2,h3,h4⟩:=h;exact⟨u,us,rfl,hc,hi u (by simpa using h3),h4⟩
 | x :: cs, _, i + 1, h, hc, hi => by
   obtain⟨u,us,rfl,h2,h3,h4⟩:=h;exact⟨u,us,rfl,h2,h3,HJ_ i h4 hc (fun v hv=>hi v (by simpa using hv))⟩
theorem iW_{c:ad_}{Q:Ex→Fr→St→Prop}(id i e:Nat){e0:Nat}{cs:List AV}(hq:Tri P nt k c Q fr (σ.set id (.var (cs.set i (.hs e σ.length 0 0)))++[.vec e []]))(ho:σ[id]?=some (.var cs):=by first|rfl|(simp only[go_sem];rfl))(h0:cs.getD i .dead=.sl e0 true []:=by first|rfl|(simp only[go_sem];rfl)):Tri P nt k c Q fr σ:=by
 intro fx code hc C loc a w hs;have h1:=hs.own e;have hid:id<σ.length:=(List.getElem?_eq_some_iff.1 ho).1;have ho2:(σ++[bd_.vec e []])[id]?=some (.var cs):=by rw[List.getElem?_append_left hid];exact ho
 have hset:(σ++[bd_.vec e []]).set id (.var (cs.set i (.hs e σ.length 0 0)))=σ.set id (.var (cs.set i (.hs e σ.length 0 0)))++[.vec e []]:=List.set_append_left _ _ hid;refine hq fx code hc C (fc_ loc σ.length ⟨false,0,0,0⟩) a w ?_;rw[←hset]
 have hl:∀b,aA_ ((σ++[bd_.vec e []]).set id (.var (cs.set i (.hs e σ.length 0 0)))) (fc_ loc σ.length ⟨false,0,0,0⟩) b↔aA_ (σ++[bd_.vec e []]) (fc_ loc σ.length ⟨false,0,0,0⟩) b:=by
  intro b;constructor
  ·rintro⟨j,oj,L,g1,g2,g3,g4⟩;rcases cX_ _ id j _ g1 with⟨rfl,rfl,_⟩|⟨g5,g6⟩
   ·exact⟨_,_,L,ho2,rfl,g3,g4⟩
   ·exact⟨j,oj,L,g6,g2,g3,g4⟩
  ·rintro⟨j,oj,L,g1,g2,g3,g4⟩
   by_cases hj:j=id
   ·subst hj;refine⟨j,.var (cs.set i (.hs e σ.length 0 0)),L,?_,rfl,g3,g4⟩;rw[List.getElem?_set_self (List.getElem?_eq_some_iff.1 g1).1]
   ·exact⟨j,oj,L,by rw[List.getElem?_set_ne (Ne.symm hj)];exact g1,g2,g3,g4⟩
 have hF:dT_ C.X ((σ++[bd_.vec e []]).set id (.var (cs.set i (.hs e σ.length 0 0)))) (fc_ loc σ.length ⟨false,0,0,0⟩)=dT_ C.X (σ++[bd_.vec e []]) (fc_ loc σ.length ⟨false,0,0,0⟩):=by
  funext b;unfold dT_;rw[hl b]
 have hget:∀ (j:Nat) (o:bd_),((σ++[bd_.vec e []]).set id (.var (cs.set i (.hs e σ.length 0 0))))[j]?=some o→o.live=true→∃o',(σ++[bd_.vec e []])[j]?=some o'∧o'.live=true:=by
  intro j o g1 g2;rcases cX_ _ id j _ g1 with⟨rfl,rfl,_⟩|⟨g5,g6⟩
  ·exact⟨_,ho2,rfl⟩
  ·exact⟨o,g6,g2⟩
 refine⟨⟨fun j o g1 g2=>?_,fun i' j x y La Lb hij g1 g2 g3 g4=>?_,fun b hb=>?_,fun j hj=>h1.rel.beyond j (by simpa using hj)⟩,fun t=>?_,h1.size,h1.dfr,h1.ev,fun b hb=>h1.old b ((hl b).1 hb),h1.pre,by simp;have:=hs.klen;omega⟩
 ·show ∃L,_∧fe_ ⟨_,dT_ C.X _ _,w⟩ L o
  rw[hF];rcases cX_ _ id j _ g1 with⟨rfl,rfl,_⟩|⟨g5,g6⟩
  ·obtain⟨L,m1,m2,m3,vs,t,m4,m5⟩:=h1.rel.obj _ _ ho2 rfl;exact⟨L,m1,m2,m3,vs,t,m4,HJ_ i m5 rfl fun v hv=>Nq_ (e0:=e0) (cn_ _ _ _) (by rwa [h0]at hv)⟩
  ·exact h1.rel.obj j o g6 g2
 ·obtain⟨x',k1,k2⟩:=hget i' x g1 g3;obtain⟨y',k3,k4⟩:=hget j y g2 g4;exact h1.rel.apart i' j x' y' La Lb hij k1 k3 k2 k4
 ·rw[hl b];exact h1.rel.out b hb
 ·show Rl ⟨_,dT_ C.X _ _,w⟩ _ _
  rw[hF];exact h1.frm t
theorem PC.weak{f:FuncId}{args:List AV}{r r':AV}(h:PC P f args r)(hw:Wk r r')(hr:Pu r'):PC P f args r':=
 ⟨⟨h.call.1,h.call.2.1,fun X loc w vs hrel hv=>(h.call.2.2 X loc w vs hrel hv).mono fun e w' ⟨v,loc',h1,h2,h3⟩=>⟨v,loc',h1,⟨h2.locs,h2.rel,hw _ _ h2.val,h2.ev,h2.old⟩,h3⟩⟩,h.pa,hr⟩
def fK_(us:List (Nat×AV))(vs:List AV):List AV:=us.foldl (fun l p=>l.set p.1 p.2) vs
theorem ao_{ι:Type}{x:ad_}{Q:Ex→Fr→St→Prop}{nv:Nat}{vs:List AV}{ts:List (Nat×AV)}(us:ι→List (Nat×AV))(S:ι→St)(μ:ι→Nat)(ok:ι→Prop)(x0:ι)(h0:ok x0)(hgc:GC k ⟨nv,vs,ts⟩ σ ⟨nv,fK_ (us x0) vs,[]⟩ (S x0))
 (round:∀i,ok i→Tri P nt k x (fI_ (fun fr σ=>∃j,ok j∧μ j<μ i∧GC k fr σ ⟨nv,fK_ (us j) vs,[]⟩ (S j)) Q) ⟨nv,fK_ (us i) vs,[]⟩ (S i)):Tri P nt k (.loop x) Q ⟨nv,vs,ts⟩ σ:=
 gF_ (fun i=>⟨nv,fK_ (us i) vs,[]⟩) S μ ok x0 h0 hgc round
theorem bt_(vs:List AV):fK_ [] vs=vs:=rfl
theorem bz_(p:Nat×AV)(us:List (Nat×AV))(vs:List AV):fK_ (p::us) vs=fK_ us (vs.set p.1 p.2):=rfl
attribute [go_sem] bt_ bz_
theorem aP_{c:Opd}{x y:ad_}{Q:Ex→Fr→St→Prop}{t:Bool}(h1:t=true→Tri P nt k x Q fr σ)(h2:t=false→Tri P nt k y Q fr σ)(hb:c.ev fr=.bool t:=by first|rfl|(simp only[go_sem];rfl)):Tri P nt k (.cond c x y) Q fr σ:=bL_ hb h1 h2
end
theorem xB_{a b c:List AV}(ha:a.length=33)(hb:b.length=33):cut (a++(b++c)) 0 66=a++b:=by
 unfold cut;rw[List.drop_zero,←List.append_assoc,show 66=(a++b).length by simp[ha,hb],List.take_left]
theorem yx_{a b c x y:List AV}(ha:a.length+b.length=x.length+y.length):spl (a++(b++c)) 0 (x++y)=x++(y++c):=by
 unfold spl;simp only[List.take_zero,List.nil_append,Nat.zero_add,List.append_assoc];rw[←List.append_assoc a b c,List.drop_left' (by simp;omega)]
structure Lim where
 node:Int
 orph:Int
 early:Int
 table:Int
 retry:Int
 backoff:Int
 deriving Inhabited,DecidableEq
def cB_(x:Lim):List AV:=.int .i64 x.node::(.int .i64 x.orph::(.int .i64 x.early::(.int .i64 x.table::(.int .i64 x.retry::[.int .u64 x.backoff]))))
@[simp] theorem bB_(x:Lim):(cB_ x).length=6:=by simp only[cB_,List.length_cons,List.length_append,List.length_nil]
theorem Ke_(node:Int)(orph:Int)(early:Int)(table:Int)(retry:Int)(backoff:Int):.int .i64 node::(.int .i64 orph::(.int .i64 early::(.int .i64 table::(.int .i64 retry::[.int .u64 backoff]))))=cB_ ⟨node,orph,early,table,retry,backoff⟩:=rfl
theorem Kf_(x:Lim):cut (cB_ x) 0 6=cB_ x:=cu_ (bB_ x)
theorem yi_(x:Lim):cut (cB_ x) 0 1=[.int .i64 x.node]:=by unfold cB_;all_goals rfl
theorem yk_(x:Lim)(v:Int):spl (cB_ x) 0 [.int .i64 v]=cB_ { x with node:=v }:=by unfold cB_;all_goals rfl
theorem yj_(x:Lim):cut (cB_ x) 1 1=[.int .i64 x.orph]:=by unfold cB_;rw[cS1];simp only[Nat.reduceSub];all_goals rfl
theorem yl_(x:Lim)(v:Int):spl (cB_ x) 1 [.int .i64 v]=cB_ { x with orph:=v }:=by unfold cB_;rw[pS1];simp only[Nat.reduceSub];all_goals rfl
theorem vJ_(x:Lim):cut (cB_ x) 2 1=[.int .i64 x.early]:=by unfold cB_;rw[cS1,cS1];simp only[Nat.reduceSub];all_goals rfl
theorem vM_(x:Lim)(v:Int):spl (cB_ x) 2 [.int .i64 v]=cB_ { x with early:=v }:=by unfold cB_;rw[pS1,pS1];simp only[Nat.reduceSub];all_goals rfl
theorem vL_(x:Lim):cut (cB_ x) 3 1=[.int .i64 x.table]:=by unfold cB_;rw[cS1,cS1,cS1];simp only[Nat.reduceSub];all_goals rfl
theorem vO_(x:Lim)(v:Int):spl (cB_ x) 3 [.int .i64 v]=cB_ { x with table:=v }:=by unfold cB_;rw[pS1,pS1,pS1];simp only[Nat.reduceSub];all_goals rfl
theorem vK_(x:Lim):cut (cB_ x) 4 1=[.int .i64 x.retry]:=by unfold cB_;rw[cS1,cS1];rw[cS1,cS1];simp only[Nat.reduceSub];all_goals rfl
theorem vN_(x:Lim)(v:Int):spl (cB_ x) 4 [.int .i64 v]=cB_ { x with retry:=v }:=by unfold cB_;rw[pS1,pS1];rw[pS1,pS1];simp only[Nat.reduceSub];all_goals rfl
theorem rO_(x:Lim):cut (cB_ x) 5 1=[.int .u64 x.backoff]:=by unfold cB_;rw[cS1,cS1];rw[cS1,cS1,cS1];simp only[Nat.reduceSub];all_goals rfl
theorem rP_(x:Lim)(v:Int):spl (cB_ x) 5 [.int .u64 v]=cB_ { x with backoff:=v }:=by unfold cB_;rw[pS1,pS1];rw[pS1,pS1,pS1];simp only[Nat.reduceSub];all_goals rfl
theorem og_(x:Lim):aW_ (cB_ x)=true:=by simp[cB_,aZ_,bk_,bl_,AV.cell]
theorem gP_(x:Lim):PuL (cB_ x):=by simp[cB_,cM_,PuL,Pu]
theorem sa_(ρ:Nat→Nat)(x:Lim):cd_ ρ (cB_ x)=cB_ x:=(gP_ x).ren ρ
theorem DP_(σ:St)(zs:List Nat)(x:Lim):fzL σ zs (cB_ x)=cB_ x:=(gP_ x).fz σ zs
theorem Gu_(x:Lim):(cB_ x).map cr_=cv_ [(6,1)]:=by simp only[cB_,List.map_cons,List.map_append,List.map_nil,cr_];decide +kernel
theorem JJ_(x:Lim):ey_ [(6,1)] (cB_ x)=true:=eb_ (Gu_ x)
theorem IN_(x y:Lim):dP_ (cB_ x) (cB_ y)=some (decide (x=y)):=by cases x;cases y;simp[cB_,fg_,dP_,oZ_,ah_,aC_,Bool.beq_eq_decide_eq,hV_,Bool.and_assoc,Bool.decide_and]
def Pc_:Lim:=⟨0,0,0,0,0,0⟩
structure Cfg where
 lim:Lim
 spe:Int
 boost:Int
 ttd:Wd
 gen:Rt
 bals:AV
 deriving Inhabited
def bm_(x:Cfg):List AV:=cB_ x.lim++(.int .u64 x.spe::(.int .u64 x.boost::(wdc x.ttd++(rtc x.gen++[x.bals]))))
@[simp] theorem aD_(x:Cfg):(bm_ x).length=45:=by simp only[bm_,List.length_cons,List.length_append,List.length_nil,bB_,ah_,aC_]
theorem Jk_(lim:Lim)(spe:Int)(boost:Int)(ttd:Wd)(gen:Rt)(bals:AV):cB_ lim++(.int .u64 spe::(.int .u64 boost::(wdc ttd++(rtc gen++[bals]))))=bm_ ⟨lim,spe,boost,ttd,gen,bals⟩:=rfl
theorem Jl_(x:Cfg):cut (bm_ x) 0 45=bm_ x:=cu_ (aD_ x)
theorem AO_(x:Cfg)(o n:Nat)(h1:0≤o)(h2:o+n≤6):cut (bm_ x) o n=cut (cB_ x.lim) (o-0) n:=by unfold bm_;rw[cL1 (bB_ _)];all_goals rfl
theorem AS_(x:Cfg)(o:Nat)(vs:List AV)(h1:0≤o)(h2:o+vs.length≤6):spl (bm_ x) o vs=spl (cB_ x.lim) (o-0) vs++(.int .u64 x.spe::(.int .u64 x.boost::(wdc x.ttd++(rtc x.gen++[x.bals])))):=by unfold bm_;rw[pL1 (bB_ _)];all_goals rfl
theorem AP_(x:Cfg):cut (bm_ x) 6 1=[.int .u64 x.spe]:=by unfold bm_;rw[cR1 (bB_ _)];simp only[Nat.reduceSub];all_goals rfl
theorem AT_(x:Cfg)(v:Int):spl (bm_ x) 6 [.int .u64 v]=bm_ { x with spe:=v }:=by unfold bm_;rw[pR1 (bB_ _)];simp only[Nat.reduceSub];all_goals rfl
theorem uC_(x:Cfg):cut (bm_ x) 7 1=[.int .u64 x.boost]:=by unfold bm_;rw[cR1 (bB_ _),cS1];simp only[Nat.reduceSub];all_goals rfl
theorem uD_(x:Cfg)(v:Int):spl (bm_ x) 7 [.int .u64 v]=bm_ { x with boost:=v }:=by unfold bm_;rw[pR1 (bB_ _),pS1];simp only[Nat.reduceSub];all_goals rfl
theorem AQ_(x:Cfg)(o n:Nat)(h1:8≤o)(h2:o+n≤12):cut (bm_ x) o n=cut (wdc x.ttd) (o-8) n:=by unfold bm_;rw[cR1 (bB_ _),cS1];rw[cS1,cL1 (aC_ _)];rw[show o-6-1-1=o-8 by omega]
theorem AU_(x:Cfg)(o:Nat)(vs:List AV)(h1:8≤o)(h2:o+vs.length≤12):spl (bm_ x) o vs=cB_ x.lim++(.int .u64 x.spe::(.int .u64 x.boost::(spl (wdc x.ttd) (o-8) vs++(rtc x.gen++[x.bals])))):=by unfold bm_;rw[pR1 (bB_ _),pS1];rw[pS1,pL1 (aC_ _)];rw[show o-6-1-1=o-8 by omega]
theorem AN_(x:Cfg)(o n:Nat)(h1:12≤o)(h2:o+n≤44):cut (bm_ x) o n=cut (rtc x.gen) (o-12) n:=by unfold bm_;rw[cR1 (bB_ _),cS1];rw[cS1,cR1 (aC_ _),cL1 (ah_ _)];rw[show o-6-1-1-4=o-12 by omega]
theorem AR_(x:Cfg)(o:Nat)(vs:List AV)(h1:12≤o)(h2:o+vs.length≤44):spl (bm_ x) o vs=cB_ x.lim++(.int .u64 x.spe::(.int .u64 x.boost::(wdc x.ttd++(spl (rtc x.gen) (o-12) vs++[x.bals])))):=by unfold bm_;rw[pR1 (bB_ _),pS1];rw[pS1,pR1 (aC_ _),pL1 (ah_ _)];rw[show o-6-1-1-4=o-12 by omega]
theorem xn_(x:Cfg):cut (bm_ x) 44 1=[x.bals]:=by unfold bm_;rw[cR1 (bB_ _),cS1];rw[cS1,cR1 (aC_ _),cR1 (ah_ _)];simp only[Nat.reduceSub];all_goals rfl
theorem xo_(x:Cfg)(v:AV):spl (bm_ x) 44 [v]=bm_ { x with bals:=v }:=by unfold bm_;rw[pR1 (bB_ _),pS1];rw[pS1,pR1 (aC_ _),pR1 (ah_ _)];simp only[Nat.reduceSub];all_goals rfl
def Cfg.map(g:AV→AV)(x:Cfg):Cfg:={ x with bals:=g x.bals }
theorem Cfg.map_mk(g:AV→AV)(lim:Lim)(spe:Int)(boost:Int)(ttd:Wd)(gen:Rt)(bals:AV):Cfg.map g ⟨lim,spe,boost,ttd,gen,bals⟩=⟨lim,spe,boost,ttd,gen,g bals⟩:=rfl
def Cfg.good(x:Cfg):Bool:=x.bals.cell
theorem Cfg.good_mk(lim:Lim)(spe:Int)(boost:Int)(ttd:Wd)(gen:Rt)(bals:AV):Cfg.good ⟨lim,spe,boost,ttd,gen,bals⟩=(bals.cell):=rfl
def Cfg.Pure(x:Cfg):Prop:=Pu x.bals
theorem od_(x:Cfg):aW_ (bm_ x)=x.good:=by simp[bm_,Cfg.good,Bool.and_assoc,aZ_,bk_,bl_,AV.cell,og_,ct_,ky_]
theorem CR_(x:Cfg):PuL (bm_ x)↔x.Pure:=by simp[bm_,Cfg.Pure,cM_,PuL,Pu,gP_,cf_,gJ_]
theorem rY_(ρ:Nat→Nat)(x:Cfg):cd_ ρ (bm_ x)=bm_ (x.map (ren ρ)):=by simp only[bm_,Cfg.map,hm_,cd_,ren,sa_,nb_,EF_]
theorem DM_(σ:St)(zs:List Nat)(x:Cfg):fzL σ zs (bm_ x)=bm_ (x.map (fz σ zs)):=by simp only[bm_,Cfg.map,hU_,fzL,fz,DP_,qG_,HV_]
def lz_:Cfg:=⟨Pc_,0,0,wd0,rt0,.sl 0 true []⟩
structure Vot where
 has:Bool
 ep:Int
 root:Rt
 deriving Inhabited,DecidableEq
def bg_(x:Vot):List AV:=.bool x.has::(.int .u64 x.ep::(rtc x.root))
@[simp] theorem mU_(x:Vot):(bg_ x).length=34:=by simp only[bg_,List.length_cons,List.length_append,List.length_nil,ah_]
theorem LA_(has:Bool)(ep:Int)(root:Rt):.bool has::(.int .u64 ep::(rtc root))=bg_ ⟨has,ep,root⟩:=rfl
theorem LB_(x:Vot):cut (bg_ x) 0 34=bg_ x:=cu_ (mU_ x)
theorem CJ_(x:Vot):cut (bg_ x) 0 1=[.bool x.has]:=by unfold bg_;all_goals rfl
theorem CK_(x:Vot)(v:Bool):spl (bg_ x) 0 [.bool v]=bg_ { x with has:=v }:=by unfold bg_;all_goals rfl
theorem Fp_(x:Vot):cut (bg_ x) 1 1=[.int .u64 x.ep]:=by unfold bg_;rw[cS1];simp only[Nat.reduceSub];all_goals rfl
theorem Fq_(x:Vot)(v:Int):spl (bg_ x) 1 [.int .u64 v]=bg_ { x with ep:=v }:=by unfold bg_;rw[pS1];simp only[Nat.reduceSub];all_goals rfl
theorem yU_(x:Vot)(o n:Nat)(h1:2≤o)(h2:o+n≤34):cut (bg_ x) o n=cut (rtc x.root) (o-2) n:=by unfold bg_;rw[cS1,cS1];rw[show o-1-1=o-2 by omega]
theorem yV_(x:Vot)(o:Nat)(vs:List AV)(h1:2≤o)(h2:o+vs.length≤34):spl (bg_ x) o vs=.bool x.has::(.int .u64 x.ep::(spl (rtc x.root) (o-2) vs)):=by unfold bg_;rw[pS1,pS1];rw[show o-1-1=o-2 by omega]
theorem wW_(x:Vot):aW_ (bg_ x)=true:=by simp[bg_,aZ_,bk_,bl_,AV.cell,ct_]
theorem il_(x:Vot):PuL (bg_ x):=by simp[bg_,cM_,PuL,Pu,cf_]
theorem Aj_(ρ:Nat→Nat)(x:Vot):cd_ ρ (bg_ x)=bg_ x:=(il_ x).ren ρ
theorem MK_(σ:St)(zs:List Nat)(x:Vot):fzL σ zs (bg_ x)=bg_ x:=(il_ x).fz σ zs
theorem Gy_(x:Vot):(bg_ x).map cr_=cv_ [(1,0),(33,1)]:=by simp only[bg_,List.map_cons,List.map_append,List.map_nil,cr_,gB_];decide +kernel
theorem JO_(x:Vot):ey_ [(1,0),(33,1)] (bg_ x)=true:=eb_ (Gy_ x)
theorem IR_(x y:Vot):dP_ (bg_ x) (bg_ y)=some (decide (x=y)):=by cases x;cases y;simp[bg_,fg_,dP_,oZ_,ah_,aC_,gQ_,Bool.beq_eq_decide_eq,hV_,Bool.and_assoc,Bool.decide_and]
def gj_:Vot:=⟨false,0,rt0⟩
structure Nod where
 blk:Blk
 up:Int
 status:Int
 deriving Inhabited,DecidableEq
def aE_(x:Nod):List AV:=al_ x.blk++(.int .i64 x.up::[.int .i64 x.status])
@[simp] theorem mR_(x:Nod):(aE_ x).length=240:=by simp only[aE_,List.length_cons,List.length_append,List.length_nil,aX_]
theorem Kj_(blk:Blk)(up:Int)(status:Int):al_ blk++(.int .i64 up::[.int .i64 status])=aE_ ⟨blk,up,status⟩:=rfl
theorem Kk_(x:Nod):cut (aE_ x) 0 240=aE_ x:=cu_ (mR_ x)
theorem BI_(x:Nod)(o n:Nat)(h1:0≤o)(h2:o+n≤238):cut (aE_ x) o n=cut (al_ x.blk) (o-0) n:=by unfold aE_;rw[cL1 (aX_ _)];all_goals rfl
theorem BJ_(x:Nod)(o:Nat)(vs:List AV)(h1:0≤o)(h2:o+vs.length≤238):spl (aE_ x) o vs=spl (al_ x.blk) (o-0) vs++(.int .i64 x.up::[.int .i64 x.status]):=by unfold aE_;rw[pL1 (aX_ _)];all_goals rfl
theorem Ej_(x:Nod):cut (aE_ x) 238 1=[.int .i64 x.up]:=by unfold aE_;rw[cR1 (aX_ _)];simp only[Nat.reduceSub];all_goals rfl
theorem Ek_(x:Nod)(v:Int):spl (aE_ x) 238 [.int .i64 v]=aE_ { x with up:=v }:=by unfold aE_;rw[pR1 (aX_ _)];simp only[Nat.reduceSub];all_goals rfl
theorem tA_(x:Nod):cut (aE_ x) 239 1=[.int .i64 x.status]:=by unfold aE_;rw[cR1 (aX_ _),cS1];simp only[Nat.reduceSub];all_goals rfl
theorem tB_(x:Nod)(v:Int):spl (aE_ x) 239 [.int .i64 v]=aE_ { x with status:=v }:=by unfold aE_;rw[pR1 (aX_ _),pS1];simp only[Nat.reduceSub];all_goals rfl
theorem wS_(x:Nod):aW_ (aE_ x)=true:=by simp[aE_,aZ_,bk_,bl_,AV.cell,jF_]
theorem ik_(x:Nod):PuL (aE_ x):=by simp[aE_,cM_,PuL,Pu,dI_]
theorem Ad_(ρ:Nat→Nat)(x:Nod):cd_ ρ (aE_ x)=aE_ x:=(ik_ x).ren ρ
theorem MF_(σ:St)(zs:List Nat)(x:Nod):fzL σ zs (aE_ x)=aE_ x:=(ik_ x).fz σ zs
theorem Gv_(x:Nod):(aE_ x).map cr_=cv_ [(237,1),(1,0),(2,1)]:=by simp only[aE_,List.map_cons,List.map_append,List.map_nil,cr_,vE_];decide +kernel
theorem JK_(x:Nod):ey_ [(237,1),(1,0),(2,1)] (aE_ x)=true:=eb_ (Gv_ x)
theorem IO_(x y:Nod):dP_ (aE_ x) (aE_ y)=some (decide (x=y)):=by cases x;cases y;simp[aE_,fg_,dP_,oZ_,ah_,aC_,za_,Bool.beq_eq_decide_eq,hV_,Bool.and_assoc,Bool.decide_and]
def hz_:Nod:=⟨cg_,0,0⟩
structure Sto where
 cfg:Cfg
 latest:AV
 eqv:AV
 j:Cp
 f:Cp
 early:AV
 orph:AV
 nodes:AV
 now:Int
 boost:Rt
 tabs:AV
 deriving Inhabited
def aj_(x:Sto):List AV:=bm_ x.cfg++(x.latest::(x.eqv::(cpC x.j++(cpC x.f++(x.early::(x.orph::(x.nodes::(.int .u64 x.now::(rtc x.boost++[x.tabs])))))))))
@[simp] theorem bc_(x:Sto):(aj_ x).length=150:=by simp only[aj_,List.length_cons,List.length_append,List.length_nil,aD_,an_,ah_]
theorem Lf_(cfg:Cfg)(latest:AV)(eqv:AV)(j:Cp)(f:Cp)(early:AV)(orph:AV)(nodes:AV)(now:Int)(boost:Rt)(tabs:AV):bm_ cfg++(latest::(eqv::(cpC j++(cpC f++(early::(orph::(nodes::(.int .u64 now::(rtc boost++[tabs])))))))))=aj_ ⟨cfg,latest,eqv,j,f,early,orph,nodes,now,boost,tabs⟩:=rfl
theorem Lg_(x:Sto):cut (aj_ x) 0 150=aj_ x:=cu_ (bc_ x)
theorem Cv_(x:Sto)(o n:Nat)(h1:0≤o)(h2:o+n≤45):cut (aj_ x) o n=cut (bm_ x.cfg) (o-0) n:=by unfold aj_;rw[cL1 (aD_ _)];all_goals rfl
theorem Cz_(x:Sto)(o:Nat)(vs:List AV)(h1:0≤o)(h2:o+vs.length≤45):spl (aj_ x) o vs=spl (bm_ x.cfg) (o-0) vs++(x.latest::(x.eqv::(cpC x.j++(cpC x.f++(x.early::(x.orph::(x.nodes::(.int .u64 x.now::(rtc x.boost++[x.tabs]))))))))):=by unfold aj_;rw[pL1 (aD_ _)];all_goals rfl
theorem tK_(x:Sto):cut (aj_ x) 45 1=[x.latest]:=by unfold aj_;rw[cR1 (aD_ _)];simp only[Nat.reduceSub];all_goals rfl
theorem tL_(x:Sto)(v:AV):spl (aj_ x) 45 [v]=aj_ { x with latest:=v }:=by unfold aj_;rw[pR1 (aD_ _)];simp only[Nat.reduceSub];all_goals rfl
theorem Cw_(x:Sto):cut (aj_ x) 46 1=[x.eqv]:=by unfold aj_;rw[cR1 (aD_ _),cS1];simp only[Nat.reduceSub];all_goals rfl
theorem CA_(x:Sto)(v:AV):spl (aj_ x) 46 [v]=aj_ { x with eqv:=v }:=by unfold aj_;rw[pR1 (aD_ _),pS1];simp only[Nat.reduceSub];all_goals rfl
theorem HB_(x:Sto)(o n:Nat)(h1:47≤o)(h2:o+n≤80):cut (aj_ x) o n=cut (cpC x.j) (o-47) n:=by unfold aj_;rw[cR1 (aD_ _),cS1];rw[cS1,cL1 (an_ _)];rw[show o-45-1-1=o-47 by omega]
theorem HD_(x:Sto)(o:Nat)(vs:List AV)(h1:47≤o)(h2:o+vs.length≤80):spl (aj_ x) o vs=bm_ x.cfg++(x.latest::(x.eqv::(spl (cpC x.j) (o-47) vs++(cpC x.f++(x.early::(x.orph::(x.nodes::(.int .u64 x.now::(rtc x.boost++[x.tabs]))))))))):=by unfold aj_;rw[pR1 (aD_ _),pS1];rw[pS1,pL1 (an_ _)];rw[show o-45-1-1=o-47 by omega]
theorem HA_(x:Sto)(o n:Nat)(h1:80≤o)(h2:o+n≤113):cut (aj_ x) o n=cut (cpC x.f) (o-80) n:=by unfold aj_;rw[cR1 (aD_ _),cS1];rw[cS1,cR1 (an_ _),cL1 (an_ _)];rw[show o-45-1-1-33=o-80 by omega]
theorem HC_(x:Sto)(o:Nat)(vs:List AV)(h1:80≤o)(h2:o+vs.length≤113):spl (aj_ x) o vs=bm_ x.cfg++(x.latest::(x.eqv::(cpC x.j++(spl (cpC x.f) (o-80) vs++(x.early::(x.orph::(x.nodes::(.int .u64 x.now::(rtc x.boost++[x.tabs]))))))))):=by unfold aj_;rw[pR1 (aD_ _),pS1];rw[pS1,pR1 (an_ _),pL1 (an_ _)];rw[show o-45-1-1-33=o-80 by omega]
theorem wF_(x:Sto):cut (aj_ x) 113 1=[x.early]:=by unfold aj_;rw[cR1 (aD_ _),cS1];rw[cS1,cR1 (an_ _),cR1 (an_ _)];simp only[Nat.reduceSub];all_goals rfl
theorem wI_(x:Sto)(v:AV):spl (aj_ x) 113 [v]=aj_ { x with early:=v }:=by unfold aj_;rw[pR1 (aD_ _),pS1];rw[pS1,pR1 (an_ _),pR1 (an_ _)];simp only[Nat.reduceSub];all_goals rfl
theorem yK_(x:Sto):cut (aj_ x) 114 1=[x.orph]:=by unfold aj_;rw[cR1 (aD_ _),cS1];rw[cS1,cR1 (an_ _)];rw[cR1 (an_ _),cS1];simp only[Nat.reduceSub];all_goals rfl
theorem yM_(x:Sto)(v:AV):spl (aj_ x) 114 [v]=aj_ { x with orph:=v }:=by unfold aj_;rw[pR1 (aD_ _),pS1];rw[pS1,pR1 (an_ _)];rw[pR1 (an_ _),pS1];simp only[Nat.reduceSub];all_goals rfl
theorem wG_(x:Sto):cut (aj_ x) 115 1=[x.nodes]:=by unfold aj_;rw[cR1 (aD_ _),cS1];rw[cS1,cR1 (an_ _)];rw[cR1 (an_ _),cS1,cS1];simp only[Nat.reduceSub];all_goals rfl
theorem wJ_(x:Sto)(v:AV):spl (aj_ x) 115 [v]=aj_ { x with nodes:=v }:=by unfold aj_;rw[pR1 (aD_ _),pS1];rw[pS1,pR1 (an_ _)];rw[pR1 (an_ _),pS1,pS1];simp only[Nat.reduceSub];all_goals rfl
theorem Cy_(x:Sto):cut (aj_ x) 116 1=[.int .u64 x.now]:=by unfold aj_;rw[cR1 (aD_ _),cS1];rw[cS1,cR1 (an_ _)];rw[cR1 (an_ _),cS1];rw[cS1,cS1];simp only[Nat.reduceSub];all_goals rfl
theorem CB_(x:Sto)(v:Int):spl (aj_ x) 116 [.int .u64 v]=aj_ { x with now:=v }:=by unfold aj_;rw[pR1 (aD_ _),pS1];rw[pS1,pR1 (an_ _)];rw[pR1 (an_ _),pS1];rw[pS1,pS1];simp only[Nat.reduceSub];all_goals rfl
theorem wE_(x:Sto)(o n:Nat)(h1:117≤o)(h2:o+n≤149):cut (aj_ x) o n=cut (rtc x.boost) (o-117) n:=by unfold aj_;rw[cR1 (aD_ _),cS1];rw[cS1,cR1 (an_ _)];rw[cR1 (an_ _),cS1];rw[cS1,cS1];rw[cS1,cL1 (ah_ _)];rw[show o-45-1-1-33-33-1-1-1-1=o-117 by omega]
theorem wH_(x:Sto)(o:Nat)(vs:List AV)(h1:117≤o)(h2:o+vs.length≤149):spl (aj_ x) o vs=bm_ x.cfg++(x.latest::(x.eqv::(cpC x.j++(cpC x.f++(x.early::(x.orph::(x.nodes::(.int .u64 x.now::(spl (rtc x.boost) (o-117) vs++[x.tabs]))))))))):=by unfold aj_;rw[pR1 (aD_ _),pS1];rw[pS1,pR1 (an_ _)];rw[pR1 (an_ _),pS1];rw[pS1,pS1];rw[pS1,pL1 (ah_ _)];rw[show o-45-1-1-33-33-1-1-1-1=o-117 by omega]
theorem yL_(x:Sto):cut (aj_ x) 149 1=[x.tabs]:=by unfold aj_;rw[cR1 (aD_ _),cS1];rw[cS1,cR1 (an_ _)];rw[cR1 (an_ _),cS1];rw[cS1,cS1];rw[cS1,cR1 (ah_ _)];simp only[Nat.reduceSub];all_goals rfl
theorem yN_(x:Sto)(v:AV):spl (aj_ x) 149 [v]=aj_ { x with tabs:=v }:=by unfold aj_;rw[pR1 (aD_ _),pS1];rw[pS1,pR1 (an_ _)];rw[pR1 (an_ _),pS1];rw[pS1,pS1];rw[pS1,pR1 (ah_ _)];simp only[Nat.reduceSub];all_goals rfl
theorem nV_(x:Sto):cut (aj_ x) 45 2=x.latest::[x.eqv]:=by unfold aj_;rw[cR1 (aD_ _)];(try simp only[Nat.reduceSub]);rfl
theorem nX_(x:Sto)(y1:AV)(y2:AV):spl (aj_ x) 45 (y1::[y2])=aj_ { x with latest:=y1,eqv:=y2 }:=by unfold aj_;rw[pR1 (aD_ _)];(try simp only[Nat.reduceSub]);rfl
theorem Cx_(x:Sto):cut (aj_ x) 47 66=cpC x.j++(cpC x.f):=by unfold aj_;rw[cR1 (aD_ _),cS1,cS1];(try simp only[Nat.reduceSub]);exact xB_ (by simp) (by simp)
theorem re_(x:Sto)(y3:Cp)(y4:Cp):spl (aj_ x) 47 (cpC y3++(cpC y4))=aj_ { x with j:=y3,f:=y4 }:=by unfold aj_;rw[pR1 (aD_ _),pS1,pS1];(try simp only[Nat.reduceSub]);rw[yx_];all_goals first|rfl|simp
theorem nU_(x:Sto):cut (aj_ x) 113 2=x.early::[x.orph]:=by unfold aj_;rw[cR1 (aD_ _),cS1];rw[cS1,cR1 (an_ _),cR1 (an_ _)];(try simp only[Nat.reduceSub]);rfl
theorem nW_(x:Sto)(y5:AV)(y6:AV):spl (aj_ x) 113 (y5::[y6])=aj_ { x with early:=y5,orph:=y6 }:=by unfold aj_;rw[pR1 (aD_ _),pS1];rw[pS1,pR1 (an_ _),pR1 (an_ _)];(try simp only[Nat.reduceSub]);rfl
def Sto.map(g:AV→AV)(x:Sto):Sto:={ x with cfg:=x.cfg.map g,latest:=g x.latest,eqv:=g x.eqv,early:=g x.early,orph:=g x.orph,nodes:=g x.nodes,tabs:=g x.tabs }
theorem Sto.map_mk(g:AV→AV)(cfg:Cfg)(latest:AV)(eqv:AV)(j:Cp)(f:Cp)(early:AV)(orph:AV)(nodes:AV)(now:Int)(boost:Rt)(tabs:AV):Sto.map g ⟨cfg,latest,eqv,j,f,early,orph,nodes,now,boost,tabs⟩=⟨cfg.map g,g latest,g eqv,j,f,g early,g orph,g nodes,now,boost,g tabs⟩:=rfl
def Sto.good(x:Sto):Bool:=x.cfg.good&&x.latest.cell&&x.eqv.cell&&x.early.cell&&x.orph.cell&&x.nodes.cell&&x.tabs.cell
theorem Sto.good_mk(cfg:Cfg)(latest:AV)(eqv:AV)(j:Cp)(f:Cp)(early:AV)(orph:AV)(nodes:AV)(now:Int)(boost:Rt)(tabs:AV):Sto.good ⟨cfg,latest,eqv,j,f,early,orph,nodes,now,boost,tabs⟩=(cfg.good&&latest.cell&&eqv.cell&&early.cell&&orph.cell&&nodes.cell&&tabs.cell):=rfl
def Sto.Pure(x:Sto):Prop:=x.cfg.Pure∧Pu x.latest∧Pu x.eqv∧Pu x.early∧Pu x.orph∧Pu x.nodes∧Pu x.tabs
theorem oj_(x:Sto):aW_ (aj_ x)=x.good:=by simp[aj_,Sto.good,Bool.and_assoc,aZ_,bk_,bl_,AV.cell,od_,eN_,ct_]
theorem jR_(x:Sto):PuL (aj_ x)↔x.Pure:=by simp[aj_,Sto.Pure,cM_,PuL,Pu,CR_,dv_,cf_]
theorem sb_(ρ:Nat→Nat)(x:Sto):cd_ ρ (aj_ x)=aj_ (x.map (ren ρ)):=by simp only[aj_,Sto.map,hm_,cd_,ren,rY_,qV_,nb_]
theorem DR_(σ:St)(zs:List Nat)(x:Sto):fzL σ zs (aj_ x)=aj_ (x.map (fz σ zs)):=by simp only[aj_,Sto.map,hU_,fzL,fz,DM_,tV_,qG_]
def eS_:Sto:=⟨lz_,.sl 0 true [],.sl 0 true [],cp0,cp0,.sl 0 true [],.sl 0 true [],.sl 0 true [],0,rt0,.sl 0 true []⟩
structure Req where
 tag:Int
 block:Rt
 tries:Int
 due:Int
 deriving Inhabited,DecidableEq
def aL_(x:Req):List AV:=.int .u64 x.tag::(rtc x.block++(.int .i64 x.tries::[.int .u64 x.due]))
@[simp] theorem mS_(x:Req):(aL_ x).length=35:=by simp only[aL_,List.length_cons,List.length_append,List.length_nil,ah_]
theorem KK_(tag:Int)(block:Rt)(tries:Int)(due:Int):.int .u64 tag::(rtc block++(.int .i64 tries::[.int .u64 due]))=aL_ ⟨tag,block,tries,due⟩:=rfl
theorem KL_(x:Req):cut (aL_ x) 0 35=aL_ x:=cu_ (mS_ x)
theorem BS_(x:Req):cut (aL_ x) 0 1=[.int .u64 x.tag]:=by unfold aL_;all_goals rfl
theorem BU_(x:Req)(v:Int):spl (aL_ x) 0 [.int .u64 v]=aL_ { x with tag:=v }:=by unfold aL_;all_goals rfl
theorem wn_(x:Req)(o n:Nat)(h1:1≤o)(h2:o+n≤33):cut (aL_ x) o n=cut (rtc x.block) (o-1) n:=by unfold aL_;rw[cS1,cL1 (ah_ _)];all_goals rfl
theorem wp_(x:Req)(o:Nat)(vs:List AV)(h1:1≤o)(h2:o+vs.length≤33):spl (aL_ x) o vs=.int .u64 x.tag::(spl (rtc x.block) (o-1) vs++(.int .i64 x.tries::[.int .u64 x.due])):=by unfold aL_;rw[pS1,pL1 (ah_ _)];all_goals rfl
theorem wo_(x:Req):cut (aL_ x) 33 1=[.int .i64 x.tries]:=by unfold aL_;rw[cS1,cR1 (ah_ _)];simp only[Nat.reduceSub];all_goals rfl
theorem wq_(x:Req)(v:Int):spl (aL_ x) 33 [.int .i64 v]=aL_ { x with tries:=v }:=by unfold aL_;rw[pS1,pR1 (ah_ _)];simp only[Nat.reduceSub];all_goals rfl
theorem BR_(x:Req):cut (aL_ x) 34 1=[.int .u64 x.due]:=by unfold aL_;rw[cS1,cR1 (ah_ _),cS1];simp only[Nat.reduceSub];all_goals rfl
theorem BT_(x:Req)(v:Int):spl (aL_ x) 34 [.int .u64 v]=aL_ { x with due:=v }:=by unfold aL_;rw[pS1,pR1 (ah_ _),pS1];simp only[Nat.reduceSub];all_goals rfl
theorem wT_(x:Req):aW_ (aL_ x)=true:=by simp[aL_,aZ_,bk_,bl_,AV.cell,ct_]
theorem dW_(x:Req):PuL (aL_ x):=by simp[aL_,cM_,PuL,Pu,cf_]
theorem Ae_(ρ:Nat→Nat)(x:Req):cd_ ρ (aL_ x)=aL_ x:=(dW_ x).ren ρ
theorem MH_(σ:St)(zs:List Nat)(x:Req):fzL σ zs (aL_ x)=aL_ x:=(dW_ x).fz σ zs
theorem Gw_(x:Req):(aL_ x).map cr_=cv_ [(35,1)]:=by simp only[aL_,List.map_cons,List.map_append,List.map_nil,cr_,gB_];decide +kernel
theorem JM_(x:Req):ey_ [(35,1)] (aL_ x)=true:=eb_ (Gw_ x)
theorem IP_(x y:Req):dP_ (aL_ x) (aL_ y)=some (decide (x=y)):=by cases x;cases y;simp[aL_,fg_,dP_,oZ_,ah_,aC_,gQ_,Bool.beq_eq_decide_eq,hV_,Bool.and_assoc,Bool.decide_and]
def pv_:Req:=⟨0,rt0,0,0⟩
structure Cmd where
 head:Rt
 safe:Rt
 fin:Rt
 deriving Inhabited,DecidableEq
def cU_(x:Cmd):List AV:=rtc x.head++(rtc x.safe++(rtc x.fin))
@[simp] theorem di_(x:Cmd):(cU_ x).length=96:=by simp only[cU_,List.length_cons,List.length_append,List.length_nil,ah_]
theorem Ju_(head:Rt)(safe:Rt)(fin:Rt):rtc head++(rtc safe++(rtc fin))=cU_ ⟨head,safe,fin⟩:=rfl
theorem Jv_(x:Cmd):cut (cU_ x) 0 96=cU_ x:=cu_ (di_ x)
theorem xt_(x:Cmd)(o n:Nat)(h1:0≤o)(h2:o+n≤32):cut (cU_ x) o n=cut (rtc x.head) (o-0) n:=by unfold cU_;rw[cL1 (ah_ _)];all_goals rfl
theorem xv_(x:Cmd)(o:Nat)(vs:List AV)(h1:0≤o)(h2:o+vs.length≤32):spl (cU_ x) o vs=spl (rtc x.head) (o-0) vs++(rtc x.safe++(rtc x.fin)):=by unfold cU_;rw[pL1 (ah_ _)];all_goals rfl
theorem xu_(x:Cmd)(o n:Nat)(h1:32≤o)(h2:o+n≤64):cut (cU_ x) o n=cut (rtc x.safe) (o-32) n:=by unfold cU_;rw[cR1 (ah_ _),cL1 (ah_ _)];all_goals rfl
theorem xw_(x:Cmd)(o:Nat)(vs:List AV)(h1:32≤o)(h2:o+vs.length≤64):spl (cU_ x) o vs=rtc x.head++(spl (rtc x.safe) (o-32) vs++(rtc x.fin)):=by unfold cU_;rw[pR1 (ah_ _),pL1 (ah_ _)];all_goals rfl
theorem Ba_(x:Cmd)(o n:Nat)(h1:64≤o)(h2:o+n≤96):cut (cU_ x) o n=cut (rtc x.fin) (o-64) n:=by unfold cU_;rw[cR1 (ah_ _),cR1 (ah_ _)];rw[show o-32-32=o-64 by omega]
theorem Bb_(x:Cmd)(o:Nat)(vs:List AV)(h1:64≤o)(h2:o+vs.length≤96):spl (cU_ x) o vs=rtc x.head++(rtc x.safe++(spl (rtc x.fin) (o-64) vs)):=by unfold cU_;rw[pR1 (ah_ _),pR1 (ah_ _)];rw[show o-32-32=o-64 by omega]
theorem of_(x:Cmd):aW_ (cU_ x)=true:=by simp[cU_,aZ_,bk_,bl_,AV.cell,ct_]
theorem jQ_(x:Cmd):PuL (cU_ x):=by simp[cU_,cM_,PuL,Pu,cf_]
theorem rZ_(ρ:Nat→Nat)(x:Cmd):cd_ ρ (cU_ x)=cU_ x:=(jQ_ x).ren ρ
theorem DO_(σ:St)(zs:List Nat)(x:Cmd):fzL σ zs (cU_ x)=cU_ x:=(jQ_ x).fz σ zs
theorem Gt_(x:Cmd):(cU_ x).map cr_=cv_ [(96,1)]:=by simp only[cU_,List.map_cons,List.map_append,List.map_nil,cr_,gB_];decide +kernel
theorem JI_(x:Cmd):ey_ [(96,1)] (cU_ x)=true:=eb_ (Gt_ x)
theorem IM_(x y:Cmd):dP_ (cU_ x) (cU_ y)=some (decide (x=y)):=by cases x;cases y;simp[cU_,fg_,dP_,oZ_,ah_,aC_,gQ_,Bool.beq_eq_decide_eq,hV_,Bool.and_assoc,Bool.decide_and]
def ru_:Cmd:=⟨rt0,rt0,rt0⟩
structure Sta where
 sto:Sto
 reqs:AV
 rets:AV
 tag:Int
 sent:Bool
 last:Cmd
 over:Bool
 halt:Bool
 deriving Inhabited
def aK_(x:Sta):List AV:=aj_ x.sto++(x.reqs::(x.rets::(.int .u64 x.tag::(.bool x.sent::(cU_ x.last++(.bool x.over::[.bool x.halt]))))))
@[simp] theorem mT_(x:Sta):(aK_ x).length=252:=by simp only[aK_,List.length_cons,List.length_append,List.length_nil,di_,bc_]
theorem Lb_(sto:Sto)(reqs:AV)(rets:AV)(tag:Int)(sent:Bool)(last:Cmd)(over:Bool)(halt:Bool):aj_ sto++(reqs::(rets::(.int .u64 tag::(.bool sent::(cU_ last++(.bool over::[.bool halt]))))))=aK_ ⟨sto,reqs,rets,tag,sent,last,over,halt⟩:=rfl
theorem Lc_(x:Sta):cut (aK_ x) 0 252=aK_ x:=cu_ (mT_ x)
theorem Cp_(x:Sta)(o n:Nat)(h1:0≤o)(h2:o+n≤150):cut (aK_ x) o n=cut (aj_ x.sto) (o-0) n:=by unfold aK_;rw[cL1 (bc_ _)];all_goals rfl
theorem Cr_(x:Sta)(o:Nat)(vs:List AV)(h1:0≤o)(h2:o+vs.length≤150):spl (aK_ x) o vs=spl (aj_ x.sto) (o-0) vs++(x.reqs::(x.rets::(.int .u64 x.tag::(.bool x.sent::(cU_ x.last++(.bool x.over::[.bool x.halt])))))):=by unfold aK_;rw[pL1 (bc_ _)];all_goals rfl
theorem yB_(x:Sta):cut (aK_ x) 150 1=[x.reqs]:=by unfold aK_;rw[cR1 (bc_ _)];simp only[Nat.reduceSub];all_goals rfl
theorem yH_(x:Sta)(v:AV):spl (aK_ x) 150 [v]=aK_ { x with reqs:=v }:=by unfold aK_;rw[pR1 (bc_ _)];simp only[Nat.reduceSub];all_goals rfl
theorem yC_(x:Sta):cut (aK_ x) 151 1=[x.rets]:=by unfold aK_;rw[cR1 (bc_ _),cS1];simp only[Nat.reduceSub];all_goals rfl
theorem yI_(x:Sta)(v:AV):spl (aK_ x) 151 [v]=aK_ { x with rets:=v }:=by unfold aK_;rw[pR1 (bc_ _),pS1];simp only[Nat.reduceSub];all_goals rfl
theorem Cq_(x:Sta):cut (aK_ x) 152 1=[.int .u64 x.tag]:=by unfold aK_;rw[cR1 (bc_ _),cS1,cS1];simp only[Nat.reduceSub];all_goals rfl
theorem Cs_(x:Sta)(v:Int):spl (aK_ x) 152 [.int .u64 v]=aK_ { x with tag:=v }:=by unfold aK_;rw[pR1 (bc_ _),pS1,pS1];simp only[Nat.reduceSub];all_goals rfl
theorem yD_(x:Sta):cut (aK_ x) 153 1=[.bool x.sent]:=by unfold aK_;rw[cR1 (bc_ _),cS1];rw[cS1,cS1];simp only[Nat.reduceSub];all_goals rfl
theorem yJ_(x:Sta)(v:Bool):spl (aK_ x) 153 [.bool v]=aK_ { x with sent:=v }:=by unfold aK_;rw[pR1 (bc_ _),pS1];rw[pS1,pS1];simp only[Nat.reduceSub];all_goals rfl
theorem yz_(x:Sta)(o n:Nat)(h1:154≤o)(h2:o+n≤250):cut (aK_ x) o n=cut (cU_ x.last) (o-154) n:=by unfold aK_;rw[cR1 (bc_ _),cS1];rw[cS1,cS1];rw[cS1,cL1 (di_ _)];rw[show o-150-1-1-1-1=o-154 by omega]
theorem yF_(x:Sta)(o:Nat)(vs:List AV)(h1:154≤o)(h2:o+vs.length≤250):spl (aK_ x) o vs=aj_ x.sto++(x.reqs::(x.rets::(.int .u64 x.tag::(.bool x.sent::(spl (cU_ x.last) (o-154) vs++(.bool x.over::[.bool x.halt])))))):=by unfold aK_;rw[pR1 (bc_ _),pS1];rw[pS1,pS1];rw[pS1,pL1 (di_ _)];rw[show o-150-1-1-1-1=o-154 by omega]
theorem yA_(x:Sta):cut (aK_ x) 250 1=[.bool x.over]:=by unfold aK_;rw[cR1 (bc_ _),cS1];rw[cS1,cS1];rw[cS1,cR1 (di_ _)];simp only[Nat.reduceSub];all_goals rfl
theorem yG_(x:Sta)(v:Bool):spl (aK_ x) 250 [.bool v]=aK_ { x with over:=v }:=by unfold aK_;rw[pR1 (bc_ _),pS1];rw[pS1,pS1];rw[pS1,pR1 (di_ _)];simp only[Nat.reduceSub];all_goals rfl
theorem yy_(x:Sta):cut (aK_ x) 251 1=[.bool x.halt]:=by unfold aK_;rw[cR1 (bc_ _),cS1];rw[cS1,cS1];rw[cS1,cR1 (di_ _),cS1];simp only[Nat.reduceSub];all_goals rfl
theorem yE_(x:Sta)(v:Bool):spl (aK_ x) 251 [.bool v]=aK_ { x with halt:=v }:=by unfold aK_;rw[pR1 (bc_ _),pS1];rw[pS1,pS1];rw[pS1,pR1 (di_ _),pS1];simp only[Nat.reduceSub];all_goals rfl
def Sta.map(g:AV→AV)(x:Sta):Sta:={ x with sto:=x.sto.map g,reqs:=g x.reqs,rets:=g x.rets }
theorem Sta.map_mk(g:AV→AV)(sto:Sto)(reqs:AV)(rets:AV)(tag:Int)(sent:Bool)(last:Cmd)(over:Bool)(halt:Bool):Sta.map g ⟨sto,reqs,rets,tag,sent,last,over,halt⟩=⟨sto.map g,g reqs,g rets,tag,sent,last,over,halt⟩:=rfl
def Sta.good(x:Sta):Bool:=x.sto.good&&x.reqs.cell&&x.rets.cell
theorem Sta.good_mk(sto:Sto)(reqs:AV)(rets:AV)(tag:Int)(sent:Bool)(last:Cmd)(over:Bool)(halt:Bool):Sta.good ⟨sto,reqs,rets,tag,sent,last,over,halt⟩=(sto.good&&reqs.cell&&rets.cell):=rfl
def Sta.Pure(x:Sta):Prop:=x.sto.Pure∧Pu x.reqs∧Pu x.rets
theorem wV_(x:Sta):aW_ (aK_ x)=x.good:=by simp[aK_,Sta.good,Bool.and_assoc,aZ_,bk_,bl_,AV.cell,of_,oj_]
theorem CT_(x:Sta):PuL (aK_ x)↔x.Pure:=by simp[aK_,Sta.Pure,cM_,PuL,Pu,jQ_,jR_]
theorem Ag_(ρ:Nat→Nat)(x:Sta):cd_ ρ (aK_ x)=aK_ (x.map (ren ρ)):=by simp only[aK_,Sta.map,hm_,cd_,ren,rZ_,sb_]
theorem MJ_(σ:St)(zs:List Nat)(x:Sta):fzL σ zs (aK_ x)=aK_ (x.map (fz σ zs)):=by simp only[aK_,Sta.map,hU_,fzL,fz,DO_,DR_]
def lK_:Sta:=⟨eS_,.sl 0 true [],.sl 0 true [],0,false,ru_,false,false⟩
attribute [go_sem] Kf_ bB_ Ke_ yi_ yk_ yj_ yl_ vJ_ vM_ vL_ vO_ vK_ vN_ rO_ rP_ og_ sa_ JJ_ IN_ Jl_ aD_ Jk_ AO_ AS_ AP_ AT_ uC_ uD_ AQ_ AU_ AN_ AR_ xn_ xo_ Cfg.map_mk Cfg.good_mk od_ rY_ LB_ mU_ LA_ CJ_ CK_ Fp_ Fq_ yU_ yV_ wW_ Aj_ JO_ IR_ Kk_ mR_ Kj_ BI_ BJ_ Ej_ Ek_ tA_ tB_ wS_ Ad_ JK_ IO_ Lg_ bc_ Lf_ Cv_ Cz_ tK_ tL_ Cw_ CA_ HB_ HD_ HA_ HC_ wF_ wI_ yK_ yM_ wG_ wJ_ Cy_ CB_ wE_ wH_ yL_ yN_ nV_ nX_ Cx_ re_ nU_ nW_ Sto.map_mk Sto.good_mk oj_ sb_ KL_ mS_ KK_ BS_ BU_ wn_ wp_ wo_ wq_ BR_ BT_ wT_ Ae_ JM_ IP_ Jv_ di_ Ju_ xt_ xv_ xu_ xw_ Ba_ Bb_ of_ rZ_ JI_ IM_ Lc_ mT_ Lb_ Cp_ Cr_ yB_ yH_ yC_ yI_ Cq_ Cs_ yD_ yJ_ yz_ yF_ yA_ yG_ yy_ yE_ Sta.map_mk Sta.good_mk wV_ Ag_ Pc_ lz_ gj_ hz_ eS_ pv_ ru_ lK_ bB_ sa_ DP_ aD_ Cfg.map_mk rY_ DM_ mU_ Aj_ MK_ mR_ Ad_ MF_ bc_ Sto.map_mk sb_ DR_ mS_ Ae_ MH_ di_ rZ_ DO_ mT_ Sta.map_mk Ag_ MJ_
def rows{α:Type}(f:α→List AV)(l:List α):List (List AV):=l.map f
section
variable{α:Type}{f:α→List AV}{l m:List α}
@[simp] theorem Eh_(f:α→List AV)(l:List α):(rows f l).length=l.length:=by simp[rows]
theorem NE_(f:α→List AV):rows f []=[]:=rfl
theorem wr_(f:α→List AV)(l m:List α):rows f l++rows f m=rows f (l++m):=by simp[rows]
theorem bF_(f:α→List AV)(l:List α)(x:α):rows f l++[f x]=rows f (l++[x]):=by simp[rows]
theorem nB_(f:α→List AV)(l:List α)(n:Nat):(rows f l).take n=rows f (l.take n):=by simp[rows]
theorem nA_(f:α→List AV)(l:List α)(n:Nat):(rows f l).drop n=rows f (l.drop n):=by simp[rows]
theorem qW_(f:α→List AV)(l:List α)(n:Nat)(x:α):(rows f l).set n (f x)=rows f (l.set n x):=by simp[rows,List.map_set]
theorem NF_(f:α→List AV)(n:Nat)(x:α):List.replicate n (f x)=rows f (List.replicate n x):=by simp[rows]
theorem aB_{i:Nat}(d:α)(h:i<l.length):(rows f l).getD i []=f (l.getD i d):=by
 simp[rows,List.getD_eq_getElem?_getD,h]
theorem bq_(h:∀x∈l,PuL (f x)):du_ (rows f l):=by
 rw[lM_];intro x hx;obtain⟨y,hy,rfl⟩:=List.mem_map.1 hx;exact h y hy
end
theorem gdn{k:IntKind}{ns:List Int}{i:Nat}(h:i<ns.length):(aq_ k ns).getD i []=[.int k (ns.getD i 0)]:=by
 simp[aq_,List.getD_eq_getElem?_getD,h]
def gS_(b:Bool):List AV:=[.bool b]
theorem IL_(b:Bool):PuL (gS_ b):=by simp[gS_,PuL,Pu]
theorem HH_(h:Bool)(c:Cp):.bool h::cpC c=bg_ ⟨h,c.ep,c.rt⟩:=rfl
attribute [go_sem] HH_
attribute [go_sem] Eh_ NE_
structure aG_ where
 slot:Int
 root:Rt
 target:Cp
 vals:List Int
 deriving Inhabited,DecidableEq
def aG_.a(x:aG_):Att:=⟨x.slot,x.root,x.target,.sl 1 false (aq_ .i64 x.vals)⟩
abbrev aG_.c(x:aG_):List AV:=bi_ x.a
theorem aG_.a_slot(x:aG_):x.a.slot=x.slot:=rfl
theorem aG_.a_root(x:aG_):x.a.root=x.root:=rfl
theorem aG_.a_target(x:aG_):x.a.target=x.target:=rfl
theorem aG_.a_vals(x:aG_):x.a.vals=.sl 1 false (aq_ .i64 x.vals):=rfl
theorem aG_.pure(x:aG_):x.a.Pure:=by
 exact aN_ _ _
theorem aG_.pul(x:aG_):PuL (bi_ x.a):=(et_ _).2 x.pure
theorem aG_.ren_a(ρ:Nat→Nat)(x:aG_):cd_ ρ (bi_ x.a)=bi_ x.a:=x.pul.ren ρ
theorem aG_.fz_a(σ:St)(zs:List Nat)(x:aG_):fzL σ zs (bi_ x.a)=bi_ x.a:=x.pul.fz σ zs
theorem aG_.map_ren(ρ:Nat→Nat)(x:aG_):x.a.map (ren ρ)=x.a:=by
 unfold aG_.a Att.map;simp only[ren,cw_]
theorem aG_.map_fz(σ:St)(zs:List Nat)(x:aG_):x.a.map (fz σ zs)=x.a:=by
 unfold aG_.a Att.map;simp only[fz,dl_]
theorem aG_.good_a(x:aG_):x.a.good=true:=by
 simp[aG_.a,Att.good,AV.cell]
structure au_ where
 cp:Cp
 bals:List Int
 deriving Inhabited,DecidableEq
def au_.a(x:au_):Tab:=⟨x.cp,.sl 1 false (aq_ .u64 x.bals)⟩
abbrev au_.c(x:au_):List AV:=bb_ x.a
theorem au_.a_cp(x:au_):x.a.cp=x.cp:=rfl
theorem au_.a_bals(x:au_):x.a.bals=.sl 1 false (aq_ .u64 x.bals):=rfl
theorem au_.pure(x:au_):x.a.Pure:=by
 exact aN_ _ _
theorem au_.pul(x:au_):PuL (bb_ x.a):=(dX_ _).2 x.pure
theorem au_.ren_a(ρ:Nat→Nat)(x:au_):cd_ ρ (bb_ x.a)=bb_ x.a:=x.pul.ren ρ
theorem au_.fz_a(σ:St)(zs:List Nat)(x:au_):fzL σ zs (bb_ x.a)=bb_ x.a:=x.pul.fz σ zs
theorem au_.map_ren(ρ:Nat→Nat)(x:au_):x.a.map (ren ρ)=x.a:=by
 unfold au_.a Tab.map;simp only[ren,cw_]
theorem au_.map_fz(σ:St)(zs:List Nat)(x:au_):x.a.map (fz σ zs)=x.a:=by
 unfold au_.a Tab.map;simp only[fz,dl_]
theorem au_.good_a(x:au_):x.a.good=true:=by
 simp[au_.a,Tab.good,AV.cell]
structure cZ_ where
 src:Int
 tgt:Int
 root:Rt
 vals:List Int
 deriving Inhabited,DecidableEq
def cZ_.a(x:cZ_):Clm:=⟨x.src,x.tgt,x.root,.sl 1 false (aq_ .i64 x.vals)⟩
abbrev cZ_.c(x:cZ_):List AV:=bO_ x.a
theorem cZ_.a_src(x:cZ_):x.a.src=x.src:=rfl
theorem cZ_.a_tgt(x:cZ_):x.a.tgt=x.tgt:=rfl
theorem cZ_.a_root(x:cZ_):x.a.root=x.root:=rfl
theorem cZ_.a_vals(x:cZ_):x.a.vals=.sl 1 false (aq_ .i64 x.vals):=rfl
theorem cZ_.pure(x:cZ_):x.a.Pure:=by
 exact aN_ _ _
theorem cZ_.pul(x:cZ_):PuL (bO_ x.a):=(jP_ _).2 x.pure
theorem cZ_.ren_a(ρ:Nat→Nat)(x:cZ_):cd_ ρ (bO_ x.a)=bO_ x.a:=x.pul.ren ρ
theorem cZ_.fz_a(σ:St)(zs:List Nat)(x:cZ_):fzL σ zs (bO_ x.a)=bO_ x.a:=x.pul.fz σ zs
theorem cZ_.map_ren(ρ:Nat→Nat)(x:cZ_):x.a.map (ren ρ)=x.a:=by
 unfold cZ_.a Clm.map;simp only[ren,cw_]
theorem cZ_.map_fz(σ:St)(zs:List Nat)(x:cZ_):x.a.map (fz σ zs)=x.a:=by
 unfold cZ_.a Clm.map;simp only[fz,dl_]
theorem cZ_.good_a(x:cZ_):x.a.good=true:=by
 simp[cZ_.a,Clm.good,AV.cell]
structure dm_ where
 fst:cZ_
 snd:cZ_
 deriving Inhabited,DecidableEq
def dm_.a(x:dm_):Slg:=⟨x.fst.a,x.snd.a⟩
abbrev dm_.c(x:dm_):List AV:=cs_ x.a
theorem dm_.a_fst(x:dm_):x.a.fst=x.fst.a:=rfl
theorem dm_.a_snd(x:dm_):x.a.snd=x.snd.a:=rfl
theorem dm_.pure(x:dm_):x.a.Pure:=by
 exact⟨cZ_.pure _,cZ_.pure _⟩
theorem dm_.pul(x:dm_):PuL (cs_ x.a):=(fN_ _).2 x.pure
theorem dm_.ren_a(ρ:Nat→Nat)(x:dm_):cd_ ρ (cs_ x.a)=cs_ x.a:=x.pul.ren ρ
theorem dm_.fz_a(σ:St)(zs:List Nat)(x:dm_):fzL σ zs (cs_ x.a)=cs_ x.a:=x.pul.fz σ zs
theorem dm_.map_ren(ρ:Nat→Nat)(x:dm_):x.a.map (ren ρ)=x.a:=by
 unfold dm_.a Slg.map;simp only[ren,cw_,cZ_.map_ren,cZ_.map_ren]
theorem dm_.map_fz(σ:St)(zs:List Nat)(x:dm_):x.a.map (fz σ zs)=x.a:=by
 unfold dm_.a Slg.map;simp only[fz,dl_,cZ_.map_fz,cZ_.map_fz]
theorem dm_.good_a(x:dm_):x.a.good=true:=by
 simp[dm_.a,Slg.good,AV.cell,cZ_.good_a,cZ_.good_a]
structure bD_ where
 lim:Lim
 spe:Int
 boost:Int
 ttd:Wd
 gen:Rt
 bals:List Int
 deriving Inhabited,DecidableEq
def bD_.a(x:bD_):Cfg:=⟨x.lim,x.spe,x.boost,x.ttd,x.gen,.sl 1 false (aq_ .u64 x.bals)⟩
abbrev bD_.c(x:bD_):List AV:=bm_ x.a
theorem bD_.a_lim(x:bD_):x.a.lim=x.lim:=rfl
theorem bD_.a_spe(x:bD_):x.a.spe=x.spe:=rfl
theorem bD_.a_boost(x:bD_):x.a.boost=x.boost:=rfl
theorem bD_.a_ttd(x:bD_):x.a.ttd=x.ttd:=rfl
theorem bD_.a_gen(x:bD_):x.a.gen=x.gen:=rfl
theorem bD_.a_bals(x:bD_):x.a.bals=.sl 1 false (aq_ .u64 x.bals):=rfl
theorem bD_.pure(x:bD_):x.a.Pure:=by
 exact aN_ _ _
theorem bD_.pul(x:bD_):PuL (bm_ x.a):=(CR_ _).2 x.pure
theorem bD_.ren_a(ρ:Nat→Nat)(x:bD_):cd_ ρ (bm_ x.a)=bm_ x.a:=x.pul.ren ρ
theorem bD_.fz_a(σ:St)(zs:List Nat)(x:bD_):fzL σ zs (bm_ x.a)=bm_ x.a:=x.pul.fz σ zs
theorem bD_.map_ren(ρ:Nat→Nat)(x:bD_):x.a.map (ren ρ)=x.a:=by
 unfold bD_.a Cfg.map;simp only[ren,cw_]
theorem bD_.map_fz(σ:St)(zs:List Nat)(x:bD_):x.a.map (fz σ zs)=x.a:=by
 unfold bD_.a Cfg.map;simp only[fz,dl_]
theorem bD_.good_a(x:bD_):x.a.good=true:=by
 simp[bD_.a,Cfg.good,AV.cell]
structure ai_ where
 cfg:bD_
 latest:List Vot
 eqv:List Int
 j:Cp
 f:Cp
 early:List aG_
 orph:List Blk
 nodes:List Nod
 now:Int
 boost:Rt
 tabs:List au_
 deriving Inhabited,DecidableEq
def ai_.a(x:ai_):Sto:=⟨x.cfg.a,.sl 34 false (rows bg_ x.latest),.sl 1 false (aq_ .i64 x.eqv),x.j,x.f,.sl 67 false (rows aG_.c x.early),.sl 238 false (rows al_ x.orph),.sl 240 false (rows aE_ x.nodes),x.now,x.boost,.sl 34 false (rows au_.c x.tabs)⟩
abbrev ai_.c(x:ai_):List AV:=aj_ x.a
theorem ai_.a_cfg(x:ai_):x.a.cfg=x.cfg.a:=rfl
theorem ai_.a_latest(x:ai_):x.a.latest=.sl 34 false (rows bg_ x.latest):=rfl
theorem ai_.a_eqv(x:ai_):x.a.eqv=.sl 1 false (aq_ .i64 x.eqv):=rfl
theorem ai_.a_j(x:ai_):x.a.j=x.j:=rfl
theorem ai_.a_f(x:ai_):x.a.f=x.f:=rfl
theorem ai_.a_early(x:ai_):x.a.early=.sl 67 false (rows aG_.c x.early):=rfl
theorem ai_.a_orph(x:ai_):x.a.orph=.sl 238 false (rows al_ x.orph):=rfl
theorem ai_.a_nodes(x:ai_):x.a.nodes=.sl 240 false (rows aE_ x.nodes):=rfl
theorem ai_.a_now(x:ai_):x.a.now=x.now:=rfl
theorem ai_.a_boost(x:ai_):x.a.boost=x.boost:=rfl
theorem ai_.a_tabs(x:ai_):x.a.tabs=.sl 34 false (rows au_.c x.tabs):=rfl
theorem ai_.pure(x:ai_):x.a.Pure:=by
 exact⟨bD_.pure _,bq_ fun x _=>il_ x,aN_ _ _,bq_ fun x _=>(et_ _).2 (aG_.pure x),bq_ fun x _=>dI_ x,bq_ fun x _=>ik_ x,bq_ fun x _=>(dX_ _).2 (au_.pure x)⟩
theorem ai_.pul(x:ai_):PuL (aj_ x.a):=(jR_ _).2 x.pure
theorem ai_.ren_a(ρ:Nat→Nat)(x:ai_):cd_ ρ (aj_ x.a)=aj_ x.a:=x.pul.ren ρ
theorem ai_.fz_a(σ:St)(zs:List Nat)(x:ai_):fzL σ zs (aj_ x.a)=aj_ x.a:=x.pul.fz σ zs
theorem ai_.map_ren(ρ:Nat→Nat)(x:ai_):x.a.map (ren ρ)=x.a:=by
 unfold ai_.a Sto.map;simp only[ren,cw_,bD_.map_ren,(bq_ (f:=bg_) (l:=x.latest) fun y _=>il_ y).ren ρ,(bq_ (f:=aG_.c) (l:=x.early) fun y _=>(et_ _).2 (aG_.pure y)).ren ρ,(bq_ (f:=al_) (l:=x.orph) fun y _=>dI_ y).ren ρ,(bq_ (f:=aE_) (l:=x.nodes) fun y _=>ik_ y).ren ρ,(bq_ (f:=au_.c) (l:=x.tabs) fun y _=>(dX_ _).2 (au_.pure y)).ren ρ]
theorem ai_.map_fz(σ:St)(zs:List Nat)(x:ai_):x.a.map (fz σ zs)=x.a:=by
 unfold ai_.a Sto.map;simp only[fz,dl_,bD_.map_fz,(bq_ (f:=bg_) (l:=x.latest) fun y _=>il_ y).fz σ zs,(bq_ (f:=aG_.c) (l:=x.early) fun y _=>(et_ _).2 (aG_.pure y)).fz σ zs,(bq_ (f:=al_) (l:=x.orph) fun y _=>dI_ y).fz σ zs,(bq_ (f:=aE_) (l:=x.nodes) fun y _=>ik_ y).fz σ zs,(bq_ (f:=au_.c) (l:=x.tabs) fun y _=>(dX_ _).2 (au_.pure y)).fz σ zs]
theorem ai_.good_a(x:ai_):x.a.good=true:=by
 simp[ai_.a,Sto.good,AV.cell,bD_.good_a]
structure aH_ where
 sto:ai_
 reqs:List Req
 rets:List Req
 tag:Int
 sent:Bool
 last:Cmd
 over:Bool
 halt:Bool
 deriving Inhabited,DecidableEq
def aH_.a(x:aH_):Sta:=⟨x.sto.a,.sl 35 false (rows aL_ x.reqs),.sl 35 false (rows aL_ x.rets),x.tag,x.sent,x.last,x.over,x.halt⟩
abbrev aH_.c(x:aH_):List AV:=aK_ x.a
theorem aH_.a_sto(x:aH_):x.a.sto=x.sto.a:=rfl
theorem aH_.a_reqs(x:aH_):x.a.reqs=.sl 35 false (rows aL_ x.reqs):=rfl
theorem aH_.a_rets(x:aH_):x.a.rets=.sl 35 false (rows aL_ x.rets):=rfl
theorem aH_.a_tag(x:aH_):x.a.tag=x.tag:=rfl
theorem aH_.a_sent(x:aH_):x.a.sent=x.sent:=rfl
theorem aH_.a_last(x:aH_):x.a.last=x.last:=rfl
theorem aH_.a_over(x:aH_):x.a.over=x.over:=rfl
theorem aH_.a_halt(x:aH_):x.a.halt=x.halt:=rfl
theorem aH_.pure(x:aH_):x.a.Pure:=by
 exact⟨ai_.pure _,bq_ fun x _=>dW_ x,bq_ fun x _=>dW_ x⟩
theorem aH_.pul(x:aH_):PuL (aK_ x.a):=(CT_ _).2 x.pure
theorem aH_.ren_a(ρ:Nat→Nat)(x:aH_):cd_ ρ (aK_ x.a)=aK_ x.a:=x.pul.ren ρ
theorem aH_.fz_a(σ:St)(zs:List Nat)(x:aH_):fzL σ zs (aK_ x.a)=aK_ x.a:=x.pul.fz σ zs
theorem aH_.map_ren(ρ:Nat→Nat)(x:aH_):x.a.map (ren ρ)=x.a:=by
 unfold aH_.a Sta.map;simp only[ren,cw_,ai_.map_ren,(bq_ (f:=aL_) (l:=x.reqs) fun y _=>dW_ y).ren ρ,(bq_ (f:=aL_) (l:=x.rets) fun y _=>dW_ y).ren ρ]
theorem aH_.map_fz(σ:St)(zs:List Nat)(x:aH_):x.a.map (fz σ zs)=x.a:=by
 unfold aH_.a Sta.map;simp only[fz,dl_,ai_.map_fz,(bq_ (f:=aL_) (l:=x.reqs) fun y _=>dW_ y).fz σ zs,(bq_ (f:=aL_) (l:=x.rets) fun y _=>dW_ y).fz σ zs]
theorem aH_.good_a(x:aH_):x.a.good=true:=by
 simp[aH_.a,Sta.good,AV.cell,ai_.good_a]
structure VOp where
 kind:Int
 blk:Blk
 att:aG_
 slg:dm_
 tab:au_
 vdt:Vdt
 write:Int
 keep:Int
 deriving Inhabited,DecidableEq
def VOp.a(x:VOp):SOp:=⟨x.kind,x.blk,x.att.a,x.slg.a,x.tab.a,x.vdt,x.write,x.keep⟩
abbrev VOp.c(x:VOp):List AV:=bJ_ x.a
theorem VOp.a_kind(x:VOp):x.a.kind=x.kind:=rfl
theorem VOp.a_blk(x:VOp):x.a.blk=x.blk:=rfl
theorem VOp.a_att(x:VOp):x.a.att=x.att.a:=rfl
theorem VOp.a_slg(x:VOp):x.a.slg=x.slg.a:=rfl
theorem VOp.a_tab(x:VOp):x.a.tab=x.tab.a:=rfl
theorem VOp.a_vdt(x:VOp):x.a.vdt=x.vdt:=rfl
theorem VOp.a_write(x:VOp):x.a.write=x.write:=rfl
theorem VOp.a_keep(x:VOp):x.a.keep=x.keep:=rfl
theorem VOp.pure(x:VOp):x.a.Pure:=by
 exact⟨aG_.pure _,dm_.pure _,au_.pure _⟩
theorem VOp.pul(x:VOp):PuL (bJ_ x.a):=(ff_ _).2 x.pure
theorem VOp.ren_a(ρ:Nat→Nat)(x:VOp):cd_ ρ (bJ_ x.a)=bJ_ x.a:=x.pul.ren ρ
theorem VOp.fz_a(σ:St)(zs:List Nat)(x:VOp):fzL σ zs (bJ_ x.a)=bJ_ x.a:=x.pul.fz σ zs
theorem VOp.map_ren(ρ:Nat→Nat)(x:VOp):x.a.map (ren ρ)=x.a:=by
 unfold VOp.a SOp.map;simp only[ren,cw_,aG_.map_ren,dm_.map_ren,au_.map_ren]
theorem VOp.map_fz(σ:St)(zs:List Nat)(x:VOp):x.a.map (fz σ zs)=x.a:=by
 unfold VOp.a SOp.map;simp only[fz,dl_,aG_.map_fz,dm_.map_fz,au_.map_fz]
theorem VOp.good_a(x:VOp):x.a.good=true:=by
 simp[VOp.a,SOp.good,AV.cell,aG_.good_a,dm_.good_a,au_.good_a]
theorem dQ_(l:List Rt):du_ (rows rtc l):=bq_ fun x _=>cf_ x
theorem wl_(ρ:Nat→Nat)(l:List Rt):cb_ ρ (rows rtc l)=rows rtc l:=(dQ_ l).ren ρ
theorem yf_(σ:St)(zs:List Nat)(l:List Rt):ez_ σ zs (rows rtc l)=rows rtc l:=(dQ_ l).fz σ zs
theorem gK_(l:List Bool):du_ (rows gS_ l):=bq_ fun x _=>IL_ x
theorem rX_(ρ:Nat→Nat)(l:List Bool):cb_ ρ (rows gS_ l)=rows gS_ l:=(gK_ l).ren ρ
theorem tz_(σ:St)(zs:List Nat)(l:List Bool):ez_ σ zs (rows gS_ l)=rows gS_ l:=(gK_ l).fz σ zs
theorem hR_(l:List Vot):du_ (rows bg_ l):=bq_ fun x _=>il_ x
theorem tI_(ρ:Nat→Nat)(l:List Vot):cb_ ρ (rows bg_ l)=rows bg_ l:=(hR_ l).ren ρ
theorem vv_(σ:St)(zs:List Nat)(l:List Vot):ez_ σ zs (rows bg_ l)=rows bg_ l:=(hR_ l).fz σ zs
theorem hP_(l:List Blk):du_ (rows al_ l):=bq_ fun x _=>dI_ x
theorem tE_(ρ:Nat→Nat)(l:List Blk):cb_ ρ (rows al_ l)=rows al_ l:=(hP_ l).ren ρ
theorem vr_(σ:St)(zs:List Nat)(l:List Blk):ez_ σ zs (rows al_ l)=rows al_ l:=(hP_ l).fz σ zs
theorem eM_(l:List Nod):du_ (rows aE_ l):=bq_ fun x _=>ik_ x
theorem tG_(ρ:Nat→Nat)(l:List Nod):cb_ ρ (rows aE_ l)=rows aE_ l:=(eM_ l).ren ρ
theorem vt_(σ:St)(zs:List Nat)(l:List Nod):ez_ σ zs (rows aE_ l)=rows aE_ l:=(eM_ l).fz σ zs
theorem hQ_(l:List Req):du_ (rows aL_ l):=bq_ fun x _=>dW_ x
theorem tH_(ρ:Nat→Nat)(l:List Req):cb_ ρ (rows aL_ l)=rows aL_ l:=(hQ_ l).ren ρ
theorem vu_(σ:St)(zs:List Nat)(l:List Req):ez_ σ zs (rows aL_ l)=rows aL_ l:=(hQ_ l).fz σ zs
theorem de_(l:List Cmd):du_ (rows cU_ l):=bq_ fun x _=>jQ_ x
theorem tF_(ρ:Nat→Nat)(l:List Cmd):cb_ ρ (rows cU_ l)=rows cU_ l:=(de_ l).ren ρ
theorem vs_(σ:St)(zs:List Nat)(l:List Cmd):ez_ σ zs (rows cU_ l)=rows cU_ l:=(de_ l).fz σ zs
theorem hO_(l:List aG_):du_ (rows aG_.c l):=bq_ fun x _=>aG_.pul x
theorem tC_(ρ:Nat→Nat)(l:List aG_):cb_ ρ (rows aG_.c l)=rows aG_.c l:=(hO_ l).ren ρ
theorem vp_(σ:St)(zs:List Nat)(l:List aG_):ez_ σ zs (rows aG_.c l)=rows aG_.c l:=(hO_ l).fz σ zs
theorem fO_(l:List au_):du_ (rows au_.c l):=bq_ fun x _=>au_.pul x
theorem tD_(ρ:Nat→Nat)(l:List au_):cb_ ρ (rows au_.c l)=rows au_.c l:=(fO_ l).ren ρ
theorem vq_(σ:St)(zs:List Nat)(l:List au_):ez_ σ zs (rows au_.c l)=rows au_.c l:=(fO_ l).fz σ zs
theorem jb_(l:List VOp):du_ (rows VOp.c l):=bq_ fun x _=>VOp.pul x
theorem wk_(ρ:Nat→Nat)(l:List VOp):cb_ ρ (rows VOp.c l)=rows VOp.c l:=(jb_ l).ren ρ
theorem ye_(σ:St)(zs:List Nat)(l:List VOp):ez_ σ zs (rows VOp.c l)=rows VOp.c l:=(jb_ l).fz σ zs
attribute [go_sem] aG_.a_slot aG_.a_root aG_.a_target aG_.a_vals aG_.pul aG_.ren_a aG_.fz_a aG_.map_ren aG_.map_fz aG_.good_a au_.a_cp au_.a_bals au_.pul au_.ren_a au_.fz_a au_.map_ren au_.map_fz au_.good_a cZ_.a_src cZ_.a_tgt cZ_.a_root cZ_.a_vals cZ_.pul cZ_.ren_a cZ_.fz_a cZ_.map_ren cZ_.map_fz cZ_.good_a dm_.a_fst dm_.a_snd dm_.pul dm_.ren_a dm_.fz_a dm_.map_ren dm_.map_fz dm_.good_a bD_.a_lim bD_.a_spe bD_.a_boost bD_.a_ttd bD_.a_gen bD_.a_bals bD_.pul bD_.ren_a bD_.fz_a bD_.map_ren bD_.map_fz bD_.good_a ai_.a_cfg ai_.a_latest ai_.a_eqv ai_.a_j ai_.a_f ai_.a_early ai_.a_orph ai_.a_nodes ai_.a_now ai_.a_boost ai_.a_tabs ai_.pul ai_.ren_a ai_.fz_a ai_.map_ren ai_.map_fz ai_.good_a aH_.a_sto aH_.a_reqs aH_.a_rets aH_.a_tag aH_.a_sent aH_.a_last aH_.a_over aH_.a_halt aH_.pul aH_.ren_a aH_.fz_a aH_.map_ren aH_.map_fz aH_.good_a VOp.a_kind VOp.a_blk VOp.a_att VOp.a_slg VOp.a_tab VOp.a_vdt VOp.a_write VOp.a_keep VOp.pul VOp.ren_a VOp.fz_a VOp.map_ren VOp.map_fz VOp.good_a dQ_ wl_ yf_ gK_ rX_ tz_ hR_ tI_ vv_ hP_ tE_ vr_ eM_ tG_ vt_ hQ_ tH_ vu_ de_ tF_ vs_ hO_ tC_ vp_ fO_ tD_ vq_ jb_ wk_ ye_
end Go.FH
namespace Go.FH
def om(d s:Nat):bn_:=⟨some d,.mv (.t s),none⟩
def oo(d:Nat)(op:AOp):bn_:=⟨some d,op,none⟩
def on(op:AOp):bn_:=⟨none,op,none⟩
def omg(d s t:Nat)(b:Bool):bn_:=⟨some d,.mv (.t s),some (t,b)⟩
def og(d:Nat)(op:AOp)(t:Nat)(b:Bool):bn_:=⟨some d,op,some (t,b)⟩
def ong(op:AOp)(t:Nat)(b:Bool):bn_:=⟨none,op,some (t,b)⟩
def ci(n:Int):Opd:=.c (.int .i64 n)
def cu(n:Int):Opd:=.c (.int .u64 n)
def cb(b:Bool):Opd:=.c (.bool b)
def cf(n:Nat):Opd:=.c (.fn (.func n) [])
def fA(d o x:Nat):bn_:=⟨some d,.fldA o (.t x),none⟩
def lA(d n x:Nat):bn_:=⟨some d,.ld true n (.t x),none⟩
def lF(d n x:Nat):bn_:=⟨some d,.ld false n (.t x),none⟩
def bI(d:Nat)(o:BinOp)(x y:Nat):bn_:=⟨some d,.bin o (.t x) (.t y),none⟩
def bC(d:Nat)(o:BinOp)(x:Nat)(c:Opd):bn_:=⟨some d,.bin o (.t x) c,none⟩
def sO(n x y:Nat):bn_:=⟨none,.sto n (.t x) (.t y),none⟩
def eX(d i x:Nat):bn_:=⟨some d,.ext i (.t x),none⟩
def lN(d x:Nat):bn_:=⟨some d,.len false (.t x),none⟩
def iX(d e x y:Nat):bn_:=⟨some d,.idxS e (.t x) (.t y),none⟩
def kA(d f x:Nat):bn_:=⟨some d,.call (cf f) [.t x],none⟩
def kB(d f x y:Nat):bn_:=⟨some d,.call (cf f) [.t x,.t y],none⟩
def kC(d f x y z:Nat):bn_:=⟨some d,.call (cf f) [.t x,.t y,.t z],none⟩
def sR(l:List bn_)(x:ad_):ad_:=.seq (.reg l) x
def cN(c:Nat)(x y:ad_):ad_:=.cond (.t c) x y
def wA(d o x t:Nat):bn_:=⟨some d,.fldA o (.t x),some (t,false)⟩
def wB(d o x t:Nat):bn_:=⟨some d,.fldA o (.t x),some (t,true)⟩
def wC(d n x t:Nat):bn_:=⟨some d,.ld false n (.t x),some (t,false)⟩
def wD(d n x t:Nat):bn_:=⟨some d,.ld false n (.t x),some (t,true)⟩
def wE(d n x t:Nat):bn_:=⟨some d,.ld true n (.t x),some (t,false)⟩
def wF(d n x t:Nat):bn_:=⟨some d,.ld true n (.t x),some (t,true)⟩
def wG(d s t:Nat):bn_:=⟨some d,.mv (.t s),some (t,false)⟩
def wH(d s t:Nat):bn_:=⟨some d,.mv (.t s),some (t,true)⟩
def wI(d:Nat)(o:BinOp)(x y t:Nat):bn_:=⟨some d,.bin o (.t x) (.t y),some (t,false)⟩
def wJ(d:Nat)(o:BinOp)(x y t:Nat):bn_:=⟨some d,.bin o (.t x) (.t y),some (t,true)⟩
def wK(d:Nat)(o:BinOp)(x:Nat)(c:Opd)(t:Nat):bn_:=⟨some d,.bin o (.t x) c,some (t,false)⟩
def wL(d:Nat)(o:BinOp)(x:Nat)(c:Opd)(t:Nat):bn_:=⟨some d,.bin o (.t x) c,some (t,true)⟩
def wM(d a b:Nat):bn_:=⟨some d,.pick (.t a) (cb true) (.t b),none⟩
def wN(d a b:Nat):bn_:=⟨some d,.pick (.t a) (.t b) (cb false),none⟩
def wO(d x:Nat):bn_:=⟨some d,.un .not (.t x),none⟩
def wP(d x t:Nat):bn_:=⟨some d,.un .not (.t x),some (t,false)⟩
def wQ(d x t:Nat):bn_:=⟨some d,.un .not (.t x),some (t,true)⟩
def wR(d:Nat)(n:Int):bn_:=⟨some d,.mv (ci n),none⟩
def wS(d:Nat)(b:Bool):bn_:=⟨some d,.mv (cb b),none⟩
def wT(d n x i t:Nat):bn_:=⟨some d,.idxS n (.t x) (.t i),some (t,false)⟩
def wU(d n x i t:Nat):bn_:=⟨some d,.idxS n (.t x) (.t i),some (t,true)⟩
def wV(d f x t:Nat):bn_:=⟨some d,.call (cf f) [.t x],some (t,false)⟩
def wW(d f x t:Nat):bn_:=⟨some d,.call (cf f) [.t x],some (t,true)⟩
def wX(d f x y t:Nat):bn_:=⟨some d,.call (cf f) [.t x,.t y],some (t,false)⟩
def wY(d f x y t:Nat):bn_:=⟨some d,.call (cf f) [.t x,.t y],some (t,true)⟩
def wZ(d n x:Nat):bn_:=⟨some d,.box n (.t x),none⟩
section
set_option maxRecDepth 100000
def zlO{r:List AV}(l:List AV)(h:r=l:=by(conv=>rhs;reduce)):{x // x=l}:=⟨r,h⟩
def zO1:=zlO (bJ_ RU_)
def zO2:=zlO (aK_ lK_)
def zO3:=zlO (aj_ eS_)
def zO4:=zlO (aE_ hz_)
def zO5:=zlO (al_ cg_)
def zO6:=zlO (cs_ yw_)
def zO7:=zlO (bi_ wY_)
def zO8:=zlO (bm_ lz_)
def zO9:=zlO (da_ yo_)
def Sg_:=zlO (aL_ pv_)
def Sh_:=zlO (bO_ ON_)
def Si_:=zlO (bb_ rf_)
def Sj_:=zlO (cA_ gH_)
def Sk_:=zlO (bg_ gj_)
def Sl_:=zlO (cpC cp0)
def Sm_:=zlO (cB_ Pc_)
def Sn_:=zlO (rtc rt0)
def So_:=zlO (wdc wd0)
def Sp_:=zlO (cU_ ru_)
def nfO(f:FuncId){P:Program}{n:Nat}{rs:List ep_}{c:ad_} (_h:ar_ P f=some (n,rs,c):=by
 have z1:=zO1.2;have z2:=zO2.2;have z3:=zO3.2;have z4:=zO4.2;have z5:=zO5.2;have z6:=zO6.2;have z7:=zO7.2;have z8:=zO8.2;have z9:=zO9.2;have z10:=Sg_.2;have z11:=Sh_.2;have z12:=Si_.2;have z13:=Sj_.2;have z14:=Sk_.2;have z15:=Sl_.2;have z16:=Sm_.2;have z17:=Sn_.2;have z18:=So_.2;have z19:=Sp_.2;unfold zO1 zlO at z1;unfold zO2 zlO at z2;unfold zO3 zlO at z3;unfold zO4 zlO at z4;unfold zO5 zlO at z5;unfold zO6 zlO at z6;unfold zO7 zlO at z7;unfold zO8 zlO at z8;unfold zO9 zlO at z9;unfold Sg_ zlO at z10;unfold Sh_ zlO at z11;unfold Si_ zlO at z12;unfold Sj_ zlO at z13;unfold Sk_ zlO at z14;unfold Sl_ zlO at z15;unfold Sm_ zlO at z16;unfold Sn_ zlO at z17;unfold So_ zlO at z18;unfold Sp_ zlO at z19;dsimp only at z1 z2 z3 z4 z5 z6 z7 z8 z9 z10 z11 z12 z13 z14 z15 z16 z17 z18 z19;(conv=>lhs;reduce;(try simp only[↓z1,↓z2,↓z3,↓z4,↓z5,↓z6,↓z7,↓z8,↓z9,↓z10,↓z11,↓z12,↓z13,↓z14,↓z15,↓z16,↓z17,↓z18,↓z19]))):ad_:=c
end
theorem bd{p q:Prop}(hq:q)(h:Hid q→p:=by(intro hq;dsimp only[nfO,Int.reduceOfNat,Int.reduceNegSucc,wA,wB,wC,wD,wE,wF,wG,wH,wI,wJ,wK,wL,wM,wN,wO,wP,wQ,wR,wS,wT,wU,wV,wW,wX,wY,wZ,om,oo,on,omg,og,ong,ci,cu,cb,cf,fA,lA,lF,bI,bC,sO,eX,lN,iX,kA,kB,kC,sR,cN];exact hq.out)):p:=h ⟨hq⟩
theorem inT{i n:Nat}(h:i<n):decide ((i:Int)<((n:Nat):Int))=true:=decide_eq_true (by omega)
theorem inF(n:Nat):decide (((n:Nat):Int)<((n:Nat):Int))=false:=decide_eq_false (by omega)
theorem cC_{p q:Prop}(hq:q)(h:Hid q→p:=by(intro hq;(try simp only[bz_,bt_,List.set_cons_zero,List.set_cons_succ]);exact hq.out)):p:=h ⟨hq⟩
theorem puA{p:Prop}(h:p:=by simp[PuL,Pu,du_,aN_,jE_,cf_,gJ_,dv_,pJ_,dI_,ik_,il_,dW_,jQ_,gP_,lN_,ai_.pul,aH_.pul,aG_.pul,au_.pul,dm_.pul,cZ_.pul,bD_.pul,VOp.pul,hR_,hP_,eM_,hQ_,de_,hO_,fO_,jb_,dQ_,gK_]):p:=h
theorem ag_{fr:Fr}{σ:St}{rs:List ep_}{r:AV}{l:List AV}(hl:ci_ fr σ rs=some l:=by first|rfl|exact evd)(hv:fz σ (List.range σ.length) (eD_ l)=r:=by exact evd):
 ∃l,ci_ fr σ rs=some l∧(fz σ (List.range σ.length) (eD_ l)=r∨∃r0,fz σ (List.range σ.length) (eD_ l)=r0∧Pu r0∧Wk r0 r):=⟨l,hl,.inl hv⟩
section
variable{P:Program}{nt k:Nat}{fr:Fr}{σ:St}{c:Opd}{x y:ad_}{Q:Ex→Fr→St→Prop}{q:Prop}
theorem Rn_(hq:q)(hb:c.ev fr=.bool true:=by exact evd)(h:Hid q→Tri P nt k x Q fr σ:=by(intro hq;(try refine aa_ ?_);exact hq.out)):Tri P nt k (.cond c x y) Q fr σ:=ac_ (h ⟨hq⟩) hb
theorem Rm_(hq:q)(hb:c.ev fr=.bool false:=by exact evd)(h:Hid q→Tri P nt k y Q fr σ:=by(intro hq;(try refine aa_ ?_);exact hq.out)):Tri P nt k (.cond c x y) Q fr σ:=ab_ (h ⟨hq⟩) hb
theorem Sv_{f:FuncId}{args caps:List AV}{r:AV}{K:AV→St→Prop}(h:PC P f (args++caps) r)(hq:q)(hk:Hid q→K r σ:=by(intro hq;(try refine aa_ ?_);exact hq.out)):fk_ P (.fn (.func f) caps) args σ K:=ae_ h (hk ⟨hq⟩)
theorem ST_{nv:Nat}{vs vs2:List AV}{ts:List (Nat×AV)}{σ2:St}(zs js:List Nat)(hk:k≤js.length:=by simp)(hfix:js.take k=List.range k:=by rfl)(hnd:js.Nodup:=by simp)(hlt:∀j∈js,j<σ.length:=by simp)(ho:fx_ σ zs (rn js σ.length) js σ2:=by exact evd)
 (hs:gg_ σ zs (rn js σ.length) vs vs2:=by exact evd):GC k ⟨nv,vs,ts⟩ σ ⟨nv,vs2,[]⟩ σ2:=GC.mk' zs js hk hfix hnd hlt ho hs
theorem SM_{rs:List ep_}{r:AV}{σ':St}{l:List AV}{e:Ex}(zs js:List Nat)(he:∀i,e≠.exit i:=by simp)(hl:ci_ fr σ rs=some l:=by first|rfl|exact evd)(hk:k≤js.length:=by simp)(hfix:js.take k=List.range k:=by rfl)(hnd:js.Nodup:=by simp)(hlt:∀j∈js,j<σ.length:=by simp)(ho:fx_ σ zs (rn js σ.length) js σ':=by exact evd)
 (hr:fz σ zs (eD_ l)=ren (rn js σ.length) r:=by exact evd):CP_ rs k σ' r e fr σ:=bw_ zs js e he hl hk hfix hnd hlt ho hr
end
set_option linter.unusedVariables false
open Go Go.RowKit
def aw_{α:Type}(f:Nat→α→α)(a:α):Nat→α
 |0=>a
 |n+1=>f n (aw_ f a n)
theorem HG_{α:Type}(f:Nat→α→α)(a:α):aw_ f a 0=a:=rfl
theorem Ne_(k:IntKind):aq_ k []=[]:=rfl
attribute [go_sem] HG_ Ne_
theorem bA_{α:Type}(f:Nat→α→α)(a:α)(n:Nat):aw_ f a (n+1)=f n (aw_ f a n):=rfl
theorem hr_{α:Type}{f:Nat→α→α}{a:α}(I:Nat→α→Prop)(h0:I 0 a)(n:Nat)(hs:∀i x,i<n→I i x→I (i+1) (f i x)):∀i,i≤n→I i (aw_ f a i)
 |0,_=>h0
 |i+1,hi=>hs i _ (by omega) (hr_ I h0 n hs i (by omega))
theorem kS_{α:Type}{f g:Nat→α→α}{a:α}:∀ {n:Nat},(∀i x,i<n→f i x=g i x)→aw_ f a n=aw_ g a n
 |0,_=>rfl
 |n+1,h=>by rw[bA_,bA_,kS_ fun i x hi=>h i x (by omega),h n _ (by omega)]
theorem hs_{β:Type}{f:Nat→List β→List β}{a:List β}(h:∀i l,(f i l).length≤l.length+1):∀n,(aw_ f a n).length≤a.length+n
 |0=>Nat.le_refl _
 |n+1=>by rw[bA_];have:=h n (aw_ f a n);have:=hs_ h (a:=a) n;omega
def dH_(p:Nat→Bool):Nat→Nat→Option Nat
 |0,_=>none
 |f+1,i=>if p i=true then some i else dH_ p f (i+1)
def ca_(p:Nat→Bool)(n:Nat):Option Nat:=dH_ p n 0
theorem ej_{p:Nat→Bool}{n i:Nat}(hi:i<n)(h:p i=true):dH_ p (n-i) i=some i:=by
 obtain⟨f,hf⟩:∃f,n-i=f+1:=⟨n-i-1,by omega⟩
 rw[hf];show (if p i=true then _ else _)=_;rw[if_pos h]
theorem dU_{p:Nat→Bool}{n i:Nat}(hi:i<n)(h:p i=false):dH_ p (n-i) i=dH_ p (n-(i+1)) (i+1):=by
 obtain⟨f,hf⟩:∃f,n-i=f+1:=⟨n-i-1,by omega⟩
 rw[hf,show n-(i+1)=f by omega];show (if p i=true then _ else _)=_;rw[if_neg (by simp[h])]
theorem fa_(p:Nat→Bool)(n:Nat):dH_ p (n-n) n=none:=by rw[Nat.sub_self];rfl
theorem zy_{p:Nat→Bool}:∀ {f i j:Nat},dH_ p f i=some j→i≤j∧j<i+f∧p j=true∧∀k,i≤k→k<j→p k=false
 |0,_,_,h=>by cases h
 | f + 1, i, j, h => by
   unfold dH_ at h;by_cases hp:p i=true
   ·rw[if_pos hp]at h;cases h;exact⟨Nat.le_refl _,by omega,hp,fun k h1 h2=>by omega⟩
   ·rw[if_neg hp]at h;obtain⟨h1,h2,h3,h4⟩:=zy_ h;refine⟨by omega,by omega,h3,fun k k1 k2=>?_⟩;by_cases hk:k=i
    ·subst hk;simpa using hp
    ·exact h4 k (by omega) k2
theorem zx_{p:Nat→Bool}:∀ {f i:Nat},dH_ p f i=none→∀k,i≤k→k<i+f→p k=false
 |0,_,_,k,h1,h2=>by omega
 | f + 1, i, h, k, h1, h2 => by
   unfold dH_ at h;by_cases hp:p i=true
   ·rw[if_pos hp]at h;cases h
   ·rw[if_neg hp]at h;by_cases hk:k=i
    ·subst hk;simpa using hp
    ·exact zx_ h k (by omega) (by omega)
theorem dt_{p:Nat→Bool}{n j:Nat}(h:ca_ p n=some j):j<n∧p j=true∧∀k,k<j→p k=false:=by
 obtain⟨h1,h2,h3,h4⟩:=zy_ h;exact⟨by omega,h3,fun k hk=>h4 k (Nat.zero_le _) hk⟩
theorem nr_{p:Nat→Bool}{n:Nat}(h:ca_ p n=none):∀k,k<n→p k=false:=fun k hk=>zx_ h k (Nat.zero_le _) (by omega)
def ym_(p:Nat→Bool):Nat→Option Nat
 |0=>none
 |n+1=>if p n=true then some n else ym_ p n
theorem QX_(p:Nat→Bool):ym_ p 0=none:=rfl
theorem QW_{p:Nat→Bool}{n:Nat}(h:p n=true):ym_ p (n+1)=some n:=by unfold ym_;rw[if_pos h]
theorem QV_{p:Nat→Bool}{n:Nat}(h:p n=false):ym_ p (n+1)=ym_ p n:=by rw[ym_,if_neg (by simp[h])]
def lH_(o:Option Nat):Int:=match o with
 |some i=>(i:Int)
 |none=>-1
theorem ie_(i:Nat):lH_ (some i)=(i:Int):=rfl
theorem nt_:lH_ none=-1:=rfl
attribute [go_sem] ie_ nt_
end Go.FH
namespace Go.FH
set_option linter.unusedVariables false
open Go Go.RowKit
def sR_(a b:Int):Int×Int:=if IntKind.u64.wrap (18446744073709551615-b)<a then (0,4)else (IntKind.u64.wrap (a+b),0)
def vT_(a b:Int):Int×Int:=if b≠0∧IntKind.u64.wrap (Int.tdiv 18446744073709551615 b)<a then (0,4)else (IntKind.u64.wrap (a*b),0)
def fr_(l:List Int):Nat→Int×Int
 |0=>(0,0)
 |i+1=>let p:=fr_ l i;if p.2≠0 then p else sR_ p.1 (l.getD i 0)
def sg_(l:List Int):Int×Int:=fr_ l l.length
def iX_(n:Int):Bool:=decide (1≤n)&&decide (n≤64)
def bx_(e per:Int):Int×Int:=if iX_ per=true then vT_ e per else (0,3)
def uH_(a b:Rt):Nat→Nat→Int
 |0,_=>0
 |f+1,i=>if a.1.getD i 0<b.1.getD i 0 then -1 else if b.1.getD i 0<a.1.getD i 0 then 1 else uH_ a b f (i+1)
def sY_(a b:Rt):Int:=uH_ a b 32 0
def sA_(a b:Wd):Nat→Int
 |0=>0
 |f+1=>if a.1.getD f 0<b.1.getD f 0 then -1 else if b.1.getD f 0<a.1.getD f 0 then 1 else sA_ a b f
def xz_(a b:Wd):Int:=sA_ a b 4
def eF_(t:au_)(n:Int):Int:=if (t.bals.length:Int)≠n then 2 else if (sg_ t.bals).2≠0∨4611686018427387904<(sg_ t.bals).1 then 4 else 0
def xy_(a b:Cp):Int:=if a.ep≠b.ep then (if a.ep<b.ep then -1 else 1)else sY_ a.rt b.rt
def tab(l:List au_)(i:Nat):au_:=l.getD i default
def dp_(l:List au_)(c:Cp):Int:=lH_ (ca_ (fun i=>decide ((tab l i).cp=c)) l.length)
def kQ_(l:List au_)(c:Cp):Nat→Nat→Nat
 |0,i=>i
 |f+1,i=>if xy_ (tab l i).cp c<0 then kQ_ l c f (i+1)else i
def lO_(l:List au_)(t:au_):List au_:=let k:=kQ_ l t.cp l.length 0;l.take k++[t]++l.drop k
def iQ_(l:List au_)(t:au_)(n limit:Int):List au_×Int:=
 if eF_ t n≠0 then (l,eF_ t n)else if 0≤dp_ l t.cp then (l,9)else if limit≤l.length then (l,11)else (lO_ l t,0)
def dL_(l:List au_)(e:Int):List au_:=aw_ (fun i o=>if e≤(tab l i).cp.ep then o++[tab l i]else o) [] l.length
def vot(l:List Vot)(i:Nat):Vot:=l.getD i gj_
def jl_(ep:Int)(root:Rt)(l:List Int):Nat→List Vot×Int→List Vot×Int:=fun i p=>
 if (vot p.1 (l.getD i 0).toNat).has=false∨(vot p.1 (l.getD i 0).toNat).ep<ep then (p.1.set (l.getD i 0).toNat ⟨true,ep,root⟩,IntKind.i64.wrap (p.2+1))else p
def uB_(v:List Vot)(ep:Int)(root:Rt)(l:List Int):List Vot×Int:=aw_ (jl_ ep root l) (v,0) l.length
def ud_(latest:List Vot)(eqv bals:List Int)(roots:List Rt):Int:=
 aw_ (fun i n=>if (vot latest i).has=true∧(i:Int)∉eqv∧(vot latest i).root∈roots then IntKind.u64.wrap (n+bals.getD i 0)else n) 0 (min bals.length latest.length)
def nod(t:List Nod)(i:Nat):Nod:=t.getD i hz_
def isN(t:List Nod)(i:Int):Bool:=decide (0≤i)&&decide (i<t.length)
def ak_(t:List Nod)(r:Rt):Int:=lH_ (ca_ (fun i=>decide ((nod t i).blk.root=r)) t.length)
def dM_(t:List Nod)(b:Blk)(status:Int):List Nod×Int:=
 if ¬ (0≤status∧status≤2)then ([],2)else if 0≤ak_ t b.root then ([],9)else if ak_ t b.parent<0 then ([],10)
 else if b.slot≤(nod t (ak_ t b.parent).toNat).blk.slot then ([],14)else if 4096≤t.length then ([],11)else (t++[⟨b,ak_ t b.parent,status⟩],0)
def gr_(t:List Nod)(i:Int):List Int:=if isN t i=true then aw_ (fun k l=>if (nod t k).up=i then l++[(k:Int)]else l) [] t.length else []
def vZ_(t:List Nod):Nat→Int→List Int
 |0,_=>[]
 |f+1,i=>if isN t i=true then (if i=0 then [0]else vZ_ t f (nod t i.toNat).up++[i])else []
def cQ_(t:List Nod):Prop:=∀i,0<i→i<t.length→0≤(nod t i).up∧(nod t i).up<i
theorem Ep_{t:List Nod}(ht:cQ_ t):∀ (n i f g:Nat),i<n→i<f→i<g→vZ_ t f i=vZ_ t g i
 |0,_,_,_,h,_,_=>by omega
 | n + 1, i, f + 1, g + 1, hn, hf, hg => by
   unfold vZ_;by_cases hi:isN t (i:Int)=true
   ·rw[if_pos hi,if_pos hi]
    by_cases h0:(i:Int)=0
    ·rw[if_pos h0,if_pos h0]
    ·rw[if_neg h0,if_neg h0];simp[isN]at hi;obtain⟨u0,u1⟩:=ht i (by omega) hi;obtain⟨u,hu⟩:∃u:Nat,(nod t i).up=u:=⟨_,(Int.toNat_of_nonneg u0).symm⟩
     simp only[Int.toNat_natCast];rw[hu,Ep_ ht n u f g (by omega) (by omega) (by omega)]
   ·rw[if_neg hi,if_neg hi]
def bS_(t:List Nod)(i:Int):List Int:=vZ_ t (t.length+1) i
theorem hY_{t:List Nod}(h:0<t.length):bS_ t 0=[0]:=by
 unfold bS_ vZ_;rw[if_pos (by simp[isN,h]),if_pos rfl]
theorem kP_{t:List Nod}(ht:cQ_ t){i:Nat}(h0:0<i)(hi:i<t.length):bS_ t i=bS_ t (nod t i).up++[(i:Int)]:=by
 obtain⟨u0,u1⟩:=ht i h0 hi;obtain⟨u,hu⟩:∃u:Nat,(nod t i).up=u:=⟨_,(Int.toNat_of_nonneg u0).symm⟩
 have:=Ep_ ht (i+1) u t.length (t.length+1) (by omega) (by omega) (by omega);unfold bS_;rw[hu,←this];show (if isN t (i:Int)=true then _ else _)=_
 rw[if_pos (by simp[isN,hi]),if_neg (by omega),Int.toNat_natCast,hu]
theorem ju_{t:List Nod}{i:Int}(h:isN t i=false):bS_ t i=[]:=by
 unfold bS_ vZ_;rw[if_neg (by simp[h])]
theorem if_{t:List Nod}(ht:cQ_ t):∀ (n i:Nat),i<n→(bS_ t i).length≤i+1
 |0,_,h=>by omega
 | n + 1, i, h => by
   by_cases hi:i<t.length
   ·by_cases h0:i=0
    ·subst h0;rw[show ((0:Nat):Int)=0 from rfl,hY_ hi];simp
    ·obtain⟨u0,u1⟩:=ht i (by omega) hi;obtain⟨u,hu⟩:∃u:Nat,(nod t i).up=u:=⟨_,(Int.toNat_of_nonneg u0).symm⟩
     rw[kP_ ht (by omega) hi,hu];have:=if_ ht n u (by omega);simp;omega
   ·rw[ju_ (by simp[isN];omega)];simp
theorem zU_{t:List Nod}(ht:cQ_ t):∀ (n i:Nat),i<n→∀x∈bS_ t i,0≤x∧x≤i∧x<t.length
 |0,_,h,_,_=>by omega
 | n + 1, i, h, x, hx => by
   by_cases hi:i<t.length
   ·by_cases h0:i=0
    ·subst h0;rw[show ((0:Nat):Int)=0 from rfl,hY_ hi]at hx;simp at hx;omega
    ·obtain⟨u0,u1⟩:=ht i (by omega) hi;obtain⟨u,hu⟩:∃u:Nat,(nod t i).up=u:=⟨_,(Int.toNat_of_nonneg u0).symm⟩
     rw[kP_ ht (by omega) hi,hu,List.mem_append,List.mem_singleton]at hx;rcases hx with hx|hx
     ·have:=zU_ ht n u (by omega) x hx;omega
     ·omega
   ·rw[ju_ (by simp[isN];omega)]at hx;simp at hx
theorem eB_{t:List Nod}(ht:cQ_ t){i x:Int}(hx:x∈bS_ t i):0≤x∧x≤i∧x<t.length:=by
 by_cases h0:0≤i
 ·obtain⟨u,rfl⟩:∃u:Nat,i=u:=⟨_,(Int.toNat_of_nonneg h0).symm⟩
  exact zU_ ht (u+1) u (by omega) x hx
 ·rw[ju_ (by simp[isN];omega)]at hx;simp at hx
theorem iM_{t:List Nod}(ht:cQ_ t)(i:Int):(bS_ t i).length≤t.length:=by
 by_cases h0:isN t i=true
 ·have h1:=h0;simp[isN]at h1;obtain⟨u,rfl⟩:∃u:Nat,i=u:=⟨_,(Int.toNat_of_nonneg h1.1).symm⟩
  have:=if_ ht (u+1) u (by omega);omega
 ·rw[ju_ (by simpa using h0)];simp
def dn_(t:List Nod)(a b:Int):Bool:=decide (a∈bS_ t b)
def atT(t:List Nod)(i slot:Int):Int:=aw_ (fun k at_=>if (nod t ((bS_ t i).getD k 0).toNat).blk.slot≤slot then (bS_ t i).getD k 0 else at_) (-1) (bS_ t i).length
def iC_(t:List Nod)(i:Int):List Int:=aw_ (fun k l=>if dn_ t i k=true then l++[(k:Int)]else l) [] t.length
def tU_(t:List Nod)(latest:List Vot)(eqv bals:List Int):List Int:=
 aw_ (fun i l=>l++[if (nod t i).status≠2 then ud_ latest eqv bals [(nod t i).blk.root]else 0]) [] t.length
def Sa_(t:List Nod)(direct:List Int):List Int:=
 aw_ (fun i l=>l++[aw_ (fun k n=>IntKind.u64.wrap (n+direct.getD ((iC_ t i).getD k 0).toNat 0)) 0 (iC_ t i).length]) [] t.length
def pL_(spe boost total:Int):Int×Int:=
 if spe<1∨64<spe∨100<boost∨4611686018427387904<total then (0,3)
 else (IntKind.u64.wrap (IntKind.u64.wrap (IntKind.u64.wrap (Int.tdiv (IntKind.u64.wrap (Int.tdiv total spe)) 100)*boost)+IntKind.u64.wrap (Int.tdiv (IntKind.u64.wrap (Int.tmod (IntKind.u64.wrap (Int.tdiv total spe)) 100*boost)) 100)),0)
def jV_(t:List Nod)(direct:List Int)(root:Rt)(amount:Int):List Int:=
 if 0≤ak_ t root∧(nod t (ak_ t root).toNat).status≠2∧root≠rt0 then direct.set (ak_ t root).toNat (IntKind.u64.wrap (direct.getD (ak_ t root).toNat 0+amount))else direct
def bW_(t:List Nod)(i:Int)(k:Nat)(p:List Nod×List Int):List Nod×List Int:=
 if dn_ t i k=true then (p.1++[⟨(nod t k).blk,if (k:Int)=i then -1 else p.2.getD (nod t k).up.toNat 0,(nod t k).status⟩],p.2++[(p.1.length:Int)])else (p.1,p.2++[-1])
def em_(t:List Nod)(i:Int):List Nod×List Int:=aw_ (bW_ t i) ([],[]) t.length
def qZ_(l:List Int)(status forbidden:Int)(k:Nat)(o:Option (List Nod)):Option (List Nod):=o.bind fun u=>if (nod u (l.getD k 0).toNat).status=forbidden then none else some (u.set (l.getD k 0).toNat { nod u (l.getD k 0).toNat with status:=status })
def wy_(t:List Nod)(l:List Int)(status forbidden:Int):Option (List Nod):=aw_ (qZ_ l status forbidden) (some t) l.length
theorem Al_{l:List Int}{status forbidden:Int}{o:Option (List Nod)}{k:Nat}(h:aw_ (qZ_ l status forbidden) o k=none):∀n,k≤n→aw_ (qZ_ l status forbidden) o n=none
 |0,hn=>by rw[show 0=k by omega];exact h
 | n + 1, hn => by
   by_cases he:k=n+1
   ·rw[←he];exact h
   ·rw[bA_,Al_ h n (by omega)];rfl
theorem iR_{t:List Nod}{l:List Int}{status forbidden:Int}:∀ {k:Nat} {u:List Nod},aw_ (qZ_ l status forbidden) (some t) k=some u→u.length=t.length
 |0,u,h=>by cases h;rfl
 | k + 1, u, h => by
   rw[bA_]at h;cases h2:aw_ (qZ_ l status forbidden) (some t) k with
   |none=>rw[h2]at h;cases h
   | some v =>
     rw[h2]at h;simp only[qZ_,Option.bind_some]at h;split at h
     ·cases h
     ·cases h;rw[List.length_set,iR_ h2]
def dg_(t:List Nod)(i:Int):List Nod×Int:=if isN t i=true then (match wy_ t (bS_ t i) 1 2 with|some u=>(u,0)|none=>([],21))else ([],10)
def jm_(t:List Nod)(i:Int):List Nod×Int:=if isN t i=true then (match wy_ t (iC_ t i) 2 1 with|some u=>(u,0)|none=>([],21))else ([],10)
theorem Pg_{u:List Nod}{j i:Nat}{n:Nod}:nod (u.set j n) i=if j=i∧i<u.length then n else nod u i:=by
 unfold nod;simp only[List.getD_eq_getElem?_getD,List.getElem?_set];by_cases h:j=i
 ·subst h;by_cases h2:j<u.length
  ·simp[h2]
  ·simp[h2]
 ·simp[h]
theorem ra_{t:List Nod}{l:List Int}{status forbidden:Int}:∀ {k:Nat} {u:List Nod},aw_ (qZ_ l status forbidden) (some t) k=some u→∀i,(nod u i).up=(nod t i).up∧(nod u i).blk=(nod t i).blk
 |0,u,h,i=>by cases h;exact⟨rfl,rfl⟩
 | k + 1, u, h, i => by
   rw[bA_]at h;cases h2:aw_ (qZ_ l status forbidden) (some t) k with
   |none=>rw[h2]at h;cases h
   | some v =>
     rw[h2]at h;simp only[qZ_,Option.bind_some]at h;have ih:=ra_ h2 i;split at h
     ·cases h
     ·cases h;rw[Pg_];split
      ·rename_i hq;rw[←hq.1]at ih ⊢;exact ih
      ·exact ih
theorem cQ_.of_up{t u:List Nod}(ht:cQ_ t)(hl:u.length=t.length)(hu:∀i,(nod u i).up=(nod t i).up):cQ_ u:=fun i h1 h2=>by rw[hu i];exact ht i h1 (by omega)
theorem KC_{t:List Nod}(ht:cQ_ t){i:Int}(h:(dg_ t i).2=0):cQ_ (dg_ t i).1∧(dg_ t i).1.length=t.length∧∀k,(nod (dg_ t i).1 k).blk=(nod t k).blk:=by
 unfold dg_ at *;split at h
 ·rename_i h1;rw[if_pos h1];cases h2:wy_ t (bS_ t i) 1 2 with
  |none=>rw[h2]at h;simp at h
  |some u=>exact⟨ht.of_up (iR_ h2) (fun i=>(ra_ h2 i).1),iR_ h2,fun k=>(ra_ h2 k).2⟩
 ·simp at h
def hA_(t:List Nod)(i:Int)(latest:Rt):Int×Int:=
 if (bS_ t i).length=0 then (-1,-1)
 else if latest=rt0 then (match ca_ (fun k=>decide ((nod t ((bS_ t i).getD k 0).toNat).blk.payload≠rt0)) (bS_ t i).length with
  |some k=>((nod t ((bS_ t i).getD k 0).toNat).up,(bS_ t i).getD k 0)
  |none=>(-1,i))
 else (match ym_ (fun k=>decide ((nod t ((bS_ t i).getD k 0).toNat).blk.payload=latest)) ((bS_ t i).length-1)with
  |some k=>((bS_ t i).getD k 0,(bS_ t i).getD (k+1) 0)
  |none=>(-1,i))
def gA_(t:List Nod)(i:Int)(v:Vdt)(keep:List Int):List Nod×Int:=
 if isN t i=false then ([],10)else if v.kind=1 then dg_ t i else if v.kind=3∨v.kind=4 then (t,0)else if v.kind≠2 then ([],2)
 else if (ca_ (fun k=>dn_ t (hA_ t i v.latest).2 (keep.getD k 0)) keep.length).isSome=true then ([],21)
 else if 0≤(hA_ t i v.latest).1 then (if (dg_ t (hA_ t i v.latest).1).2≠0 then ([],(dg_ t (hA_ t i v.latest).1).2)else jm_ (dg_ t (hA_ t i v.latest).1).1 (hA_ t i v.latest).2)
 else jm_ t (hA_ t i v.latest).2
end Go.FH
namespace Go.FH
set_option linter.unusedVariables false
set_option linter.unusedSimpArgs false
open Go Go.RowKit
def dE_(s p:Int):Int×Int:=if iX_ p=true then (IntKind.u64.wrap (Int.tdiv s p),0)else (0,3)
theorem gG_{n:Int}(h0:0≤n)(h1:n<18446744073709551616):IntKind.u64.wrap n=n:=aF_ h0 h1
def QY_(a b:Int):Int×Int:=if a*b / 18446744073709551616=0 then (IntKind.u64.wrap (a*b),0)else (0,4)
theorem Pe_{a b:Int}(ha:0≤a)(ha2:a<18446744073709551616)(hb:0≤b)(hb2:b<18446744073709551616):QY_ a b=vT_ a b:=by
 unfold QY_ vT_;by_cases h0:b=0
 ·subst h0;simp
 ·have hb1:0<b:=by omega
  have hd:Int.tdiv 18446744073709551615 b=18446744073709551615 / b:=Int.tdiv_eq_ediv_of_nonneg (by decide);have hq0:0≤18446744073709551615 / b:=Int.ediv_nonneg (by decide) hb;have hq1:18446744073709551615 / b≤18446744073709551615:=Int.ediv_le_self _ (by decide);rw[hd,gG_ hq0 (by omega)];have hab:0≤a*b:=Int.mul_nonneg ha hb
  have key:(18446744073709551615 / b<a)↔18446744073709551615<a*b:=by
   rw[Int.ediv_lt_iff_lt_mul hb1]
  by_cases h:18446744073709551615 / b<a
  ·have h2:=key.1 h;rw[if_neg (by omega),if_pos ⟨h0,h⟩]
  ·have h2:¬18446744073709551615<a*b:=fun h3=>h (key.2 h3)
   rw[if_pos (by omega),if_neg (fun h3=>h h3.2)]
theorem QZ_{x0 x1 y0 y1:Int}(hx0:0≤x0)(hx0':x0<4294967296)(hx1:0≤x1)(hx1':x1<4294967296)(hy0:0≤y0)(hy0':y0<4294967296)(hy1:0≤y1)(hy1':y1<4294967296):
 (0≤x0*y0∧x0*y0≤18446744065119617025)∧(0≤x1*y0∧x1*y0≤18446744065119617025)∧(0≤x0*y1∧x0*y1≤18446744065119617025)∧(0≤x1*y1∧x1*y1≤18446744065119617025)∧
  (x1*4294967296+x0)*(y1*4294967296+y0)=x1*y1*18446744073709551616+(x1*y0+x0*y1)*4294967296+x0*y0:=by
 have b:∀ {u v:Int},0≤u→u<4294967296→0≤v→v<4294967296→0≤u*v∧u*v≤18446744065119617025:=by
  intro u v h1 h2 h3 h4;refine⟨Int.mul_nonneg h1 h3,?_⟩;have:=Int.mul_le_mul (show u≤4294967295 by omega) (show v≤4294967295 by omega) h3 (by decide);simpa using this
 refine⟨b hx0 hx0' hy0 hy0',b hx1 hx1' hy0 hy0',b hx0 hx0' hy1 hy1',b hx1 hx1' hy1 hy1',?_⟩;simp only[Int.add_mul,Int.mul_add]
 have e1:x1*4294967296*(y1*4294967296)=x1*y1*18446744073709551616:=by
  rw[Int.mul_comm y1,←Int.mul_assoc,Int.mul_assoc x1 4294967296 4294967296,Int.mul_right_comm];rfl
 have e2:x1*4294967296*y0=x1*y0*4294967296:=Int.mul_right_comm _ _ _;have e3:x0*(y1*4294967296)=x0*y1*4294967296:=(Int.mul_assoc _ _ _).symm;rw[e1,e2,e3];omega
def Mj_(a b:Int):Int:=if a<b then -1 else if b<a then 1 else 0
def orI:List Int→Int
 | []=>0
 |x::r=>if x≠0 then x else orI r
theorem Po_(a b:Cp):orI [Mj_ a.ep b.ep,sY_ a.rt b.rt]=xy_ a b:=by
 unfold xy_ Mj_;by_cases h1:a.ep<b.ep
 ·simp[orI,h1];omega
 ·by_cases h2:b.ep<a.ep
  ·simp[orI,h1,h2];omega
  ·have:a.ep=b.ep:=by omega
   simp[orI,this];intro h;exact h.symm
theorem OO_(a b:Rt):xx_ a.1 b.1=sY_ a b:=by
 have key:∀ (f i:Nat) (x y:List UInt8),x.length=i+f→y.length=i+f→xx_ (x.drop i) (y.drop i)=(fun(x y:List UInt8)=>Nat.rec (motive:=fun _=>Nat→Int) (fun _=>0) (fun _ g i=>if x.getD i 0<y.getD i 0 then -1 else if y.getD i 0<x.getD i 0 then 1 else g (i+1)) f i) x y:=by
  intro f;induction f with
  | zero =>
    intro i x y hx hy;rw[List.drop_of_length_le (by omega),List.drop_of_length_le (by omega)];rfl
  | succ f ih =>
    intro i x y hx hy;rw[List.drop_eq_getElem_cons (show i<x.length by omega),List.drop_eq_getElem_cons (show i<y.length by omega)];have e1:x.getD i 0=x[i]'(by omega):=by simp[List.getD,show i<x.length by omega]
    have e2:y.getD i 0=y[i]'(by omega):=by simp[List.getD,show i<y.length by omega]
    simp only[xx_,e1,e2];rw[ih (i+1) x y (by omega) (by omega)]
 have h:=key 32 0 a.1 b.1 a.2 b.2;simp only[List.drop_zero]at h;rw[h];unfold sY_
 have:∀f i,(Nat.rec (motive:=fun _=>Nat→Int) (fun _=>0) (fun _ g i=>if a.1.getD i 0<b.1.getD i 0 then -1 else if b.1.getD i 0<a.1.getD i 0 then 1 else g (i+1)) f i:Int)=uH_ a b f i:=by
  intro f;induction f with
  |zero=>intro i;rfl
  |succ f ih=>intro i;simp only[uH_,ih]
 exact this 32 0
def tM_:List Int→Int→Int×Bool
 | [],n=>(n,true)
 |x::r,n=>if IntKind.u64.wrap (4611686018427387904-n)<x then (0,false)else tM_ r (IntKind.u64.wrap (n+x))
def iV_:List Int→Int
 | []=>0
 |x::r=>x+iV_ r
theorem CE_:∀ {l:List Int},(∀x∈l,0≤x∧x<18446744073709551616)→0≤iV_ l
 | [],_=>Int.le_refl 0
 | x :: r, h => by
   have:=h x (List.mem_cons_self ..);have:=CE_ (l:=r) fun y hy=>h y (List.mem_cons_of_mem _ hy)
   simp only[iV_];omega
theorem Iz_:∀ {l:List Int} {n:Int},(∀x∈l,0≤x∧x<18446744073709551616)→0≤n→n≤4611686018427387904→(tM_ l n).2=decide (n+iV_ l≤4611686018427387904)
 | [],n,_,h0,h1=>by simp[tM_,iV_,h1]
 | x :: r, n, h, h0, h1 => by
   have hx:=h x (List.mem_cons_self ..);have hr:=fun y hy=>h y (List.mem_cons_of_mem x hy)
   have hn:=CE_ (l:=r) hr;simp only[tM_];rw[gG_ (n:=4611686018427387904-n) (by omega) (by omega)];by_cases hc:4611686018427387904-n<x
   ·rw[if_pos hc];exact(decide_eq_false (by simp only[iV_];omega)).symm
   ·rw[if_neg hc,gG_ (by omega) (by omega),Iz_ hr (by omega) (by omega)];exact decide_eq_decide.2 (by simp only[iV_];constructor<;>intro<;>omega)
theorem Fc_:∀ (l m:List Int),iV_ (l++m)=iV_ l+iV_ m
 | [],m=>by simp[iV_]
 |x::l,m=>by simp only[List.cons_append,iV_,Fc_ l m];omega
theorem Iy_{l:List Int}(h:∀x∈l,0≤x∧x<18446744073709551616):∀i,i≤l.length→(iV_ (l.take i)<18446744073709551616→fr_ l i=(iV_ (l.take i),0))∧(18446744073709551616≤iV_ (l.take i)→(fr_ l i).2≠0)
 |0,_=>⟨fun _=>by simp[fr_,iV_],fun h=>by simp[iV_]at h⟩
 | i + 1, hi => by
   obtain⟨h1,h2⟩:=Iy_ h i (by omega)
   have ht:l.take (i+1)=l.take i++[l.getD i 0]:=by
    rw[List.take_add_one,List.getD_eq_getElem?_getD,List.getElem?_eq_getElem (show i<l.length by omega)];rfl
   have hx:0≤l.getD i 0∧l.getD i 0<18446744073709551616:=by
    rw[List.getD_eq_getElem?_getD,List.getElem?_eq_getElem (show i<l.length by omega)];exact h _ (List.getElem_mem _)
   have hn:=CE_ (l:=l.take i) fun y hy=>h y (List.mem_of_mem_take hy)
   have hs:iV_ (l.take (i+1))=iV_ (l.take i)+l.getD i 0:=by rw[ht,Fc_];simp[iV_]
   rw[hs];simp only[fr_];by_cases hc:iV_ (l.take i)<18446744073709551616
   ·rw[h1 hc]
    simp only[ne_eq,not_true_eq_false,if_false];unfold sR_;rw[gG_ (n:=18446744073709551615-l.getD i 0) (by omega) (by omega)];by_cases hov:18446744073709551615-l.getD i 0<iV_ (l.take i)
    ·rw[if_pos hov];exact⟨fun h=>by omega,fun _=>by decide⟩
    ·rw[if_neg hov,gG_ (by omega) (by omega)];exact⟨fun _=>rfl,fun h=>by omega⟩
   ·have h3:=h2 (by omega);rw[if_pos h3];exact⟨fun h=>by omega,fun _=>h3⟩
theorem LC_{l:List Int}(h:∀x∈l,0≤x∧x<18446744073709551616):((sg_ l).2≠0∨4611686018427387904<(sg_ l).1)↔(tM_ l 0).2=false:=by
 rw[Iz_ h (Int.le_refl 0) (by decide),Int.zero_add];have h1:=Iy_ h l.length (Nat.le_refl _);rw[List.take_length]at h1;unfold sg_;by_cases hc:iV_ l<18446744073709551616
 ·rw[h1.1 hc];simp
 ·have:=h1.2 (by omega);simp only[decide_eq_false_iff_not];exact⟨fun _=>by omega,fun _=>.inl this⟩
def Sm{α:Type}(G F:α→Prop):Prop:=∃r,G r∧F r
section
variable{α:Type}{G:α→Prop}{P:Program}{nt k:Nat}{fr:Fr}{σ:St}
theorem eR_{p q:α→Prop}(h:∀r,q r→p r)(hq:Sm G q):Sm G p:=hq.imp fun r h1=>⟨h1.1,h r h1.2⟩
theorem It_{F:α→Prop}(r:α)(h1:G r)(h2:F r):Sm G F:=⟨r,h1,h2⟩
theorem bu_{p q:α→Prop}(hq:Sm G q) (h:∀r,Hid (q r)→p r:=by
 (intro r hq
  (first|with_reducible (first|refine eU_ ?_|refine fJ_ ?_|refine eT_ ?_|refine ho_ (by simp only[List.length_cons,List.length_nil]) ?_|refine hq_ ?_|refine hp_ ?_|refine jD_ ?_)|(simp only[go_sem,Nat.reduceAdd,Nat.reduceSub,Nat.reduceMul,Nat.reduceLT,Nat.reduceLeDiff,Nat.reduceEqDiff,reduceIte,Int.reduceToNat,Int.reduceLT,Int.reduceLE,Int.reduceEq,Int.reduceNeg,reduceCtorEq,Int.reduceBEq,Int.reduceBNe])|with_reducible refine And.intro (iL_ (by decide)) ?_|(with_reducible refine And.intro ?_ ?_;first|omega|decide|(simp;done)|(simp;omega)))
  repeat(first|with_reducible (first|refine eU_ ?_|refine fJ_ ?_|refine eT_ ?_|refine ho_ (by simp only[List.length_cons,List.length_nil]) ?_|refine hq_ ?_|refine hp_ ?_|refine jD_ ?_)|(simp only[go_sem,Nat.reduceAdd,Nat.reduceSub,Nat.reduceMul,Nat.reduceLT,Nat.reduceLeDiff,Nat.reduceEqDiff,reduceIte,Int.reduceToNat,Int.reduceLT,Int.reduceLE,Int.reduceEq,Int.reduceNeg,reduceCtorEq,Int.reduceBEq,Int.reduceBNe])|with_reducible refine And.intro (iL_ (by decide)) ?_|(with_reducible refine And.intro ?_ ?_;first|omega|decide|(simp;done)|(simp;omega)))
  exact hq.out)):Sm G p:=eR_ (fun r h1=>h r ⟨h1⟩) hq
theorem bQ_{x y:ad_}{Q:α→Ex→Fr→St→Prop}(h:Sm G fun r=>Tri P nt k x (fI_ (Tri P nt k y (Q r)) (Q r)) fr σ):Sm G fun r=>Tri P nt k (.seq x y) (Q r) fr σ:=eR_ (fun r h1=>eU_ h1) h
theorem en_{p q:α→Prop}(hq:Sm G q) (h:∀r,Hid (q r)→p r:=by
 (intro r hq
  (first|with_reducible (first|refine fJ_ ?_|refine eT_ ?_|refine ho_ (by simp only[List.length_cons,List.length_nil]) ?_|refine hq_ ?_|refine hp_ ?_|refine jD_ ?_)|(simp only[go_sem,Nat.reduceAdd,Nat.reduceSub,Nat.reduceMul,Nat.reduceLT,Nat.reduceLeDiff,Nat.reduceEqDiff,reduceIte,Int.reduceToNat,Int.reduceLT,Int.reduceLE,Int.reduceEq,Int.reduceNeg,reduceCtorEq,Int.reduceBEq,Int.reduceBNe])|with_reducible refine And.intro (iL_ (by decide)) ?_|(with_reducible refine And.intro ?_ ?_;first|omega|decide|(simp;done)|(simp;omega)))
  repeat(first|with_reducible (first|refine fJ_ ?_|refine eT_ ?_|refine ho_ (by simp only[List.length_cons,List.length_nil]) ?_|refine hq_ ?_|refine hp_ ?_|refine jD_ ?_)|(simp only[go_sem,Nat.reduceAdd,Nat.reduceSub,Nat.reduceMul,Nat.reduceLT,Nat.reduceLeDiff,Nat.reduceEqDiff,reduceIte,Int.reduceToNat,Int.reduceLT,Int.reduceLE,Int.reduceEq,Int.reduceNeg,reduceCtorEq,Int.reduceBEq,Int.reduceBNe])|with_reducible refine And.intro (iL_ (by decide)) ?_|(with_reducible refine And.intro ?_ ?_;first|omega|decide|(simp;done)|(simp;omega)))
  exact hq.out)):Sm G p:=eR_ (fun r h1=>h r ⟨h1⟩) hq
theorem gs_{p q:α→Prop}(hq:Sm G q) (h:∀r,Hid (q r)→p r:=by
 (intro r hq
  (first|(simp only[go_sem,Nat.reduceAdd,Nat.reduceSub,Nat.reduceMul,Nat.reduceLT,Nat.reduceLeDiff,Nat.reduceEqDiff,reduceIte,Int.reduceToNat,Int.reduceLT,Int.reduceLE,Int.reduceEq,Int.reduceNeg,reduceCtorEq,Int.reduceBEq,Int.reduceBNe])|with_reducible refine And.intro (iL_ (by decide)) ?_|(with_reducible refine And.intro ?_ ?_;first|omega|decide|(simp;done)|(simp;omega)))
  repeat(first|(simp only[go_sem,Nat.reduceAdd,Nat.reduceSub,Nat.reduceMul,Nat.reduceLT,Nat.reduceLeDiff,Nat.reduceEqDiff,reduceIte,Int.reduceToNat,Int.reduceLT,Int.reduceLE,Int.reduceEq,Int.reduceNeg,reduceCtorEq,Int.reduceBEq,Int.reduceBNe])|with_reducible refine And.intro (iL_ (by decide)) ?_|(with_reducible refine And.intro ?_ ?_;first|omega|decide|(simp;done)|(simp;omega)))
  exact hq.out)):Sm G p:=eR_ (fun r h1=>h r ⟨h1⟩) hq
theorem aS_{c:Opd}{x y:ad_}{Q:α→Ex→Fr→St→Prop}{t:Bool}(h1:t=true→Sm G fun r=>Tri P nt k x (Q r) fr σ)(h2:t=false→Sm G fun r=>Tri P nt k y (Q r) fr σ)
 (hb:c.ev fr=.bool t:=by first|rfl|(simp only[go_sem];rfl)):Sm G fun r=>Tri P nt k (.cond c x y) (Q r) fr σ:=by
 cases t with
 |true=>exact eR_ (fun r h=>bL_ hb (fun _=>h) (fun h=>by cases h)) (h1 rfl)
 |false=>exact eR_ (fun r h=>bL_ hb (fun h=>by cases h) (fun _=>h)) (h2 rfl)
theorem cD_{p1 p2:Prop}{A B:α→Prop}(h1:p1→Sm G A)(h2:p2→Sm G B)(hx:p1→p2→False:=by intro h1 h2;first|(rw[h1]at h2;cases h2;done)|exact h2 h1|exact h1 h2|(simp_all;done)|omega)
 (ho:p1∨p2:=by first|exact Classical.em _|exact(Classical.em _).symm|exact Bool.eq_false_or_eq_true _|exact(Bool.eq_false_or_eq_true _).symm|(simp;omega)|omega):Sm G fun r=>(p1→A r)∧(p2→B r):=by
 rcases ho with h|h
 ·exact eR_ (fun r h3=>⟨fun _=>h3,fun h4=>(hx h h4).elim⟩) (h1 h)
 ·exact eR_ (fun r h3=>⟨fun h4=>(hx h4 h).elim,fun _=>h3⟩) (h2 h)
theorem bE_{f:FuncId}{args caps:List AV}{r0:AV}{K:α→AV→St→Prop}(h:PC P f (args++caps) r0)(hk:Sm G fun r=>K r r0 σ):Sm G fun r=>fk_ P (.fn (.func f) caps) args σ (K r):=eR_ (fun r h1=>ae_ h h1) hk
theorem co_{n:Nat}{f:FuncId}{args caps:List AV}{r0:AV}{K:α→AV→List Nat→List Nat→St→Prop}(h:PC P f (args++caps) r0)(hk:Sm G fun r=>K r r0 [] [] σ):
 Sm G fun r=>∃v ft ch σ',oJ_ P n (.fn (.func f) caps) args σ v ft ch σ'∧K r v ft ch σ':=eR_ (fun r h1=>as_ h h1) hk
theorem RW_{c:ad_}{Q:α→Ex→Fr→St→Prop}{fr2:Fr}{σ2:St}(hg:GC k fr σ fr2 σ2)(h:Sm G fun r=>Tri P nt k c (Q r) fr2 σ2):Sm G fun r=>Tri P nt k c (Q r) fr σ:=eR_ (fun r h1=>cH_ hg h1) h
def Ry_(P:Program)(nt k:Nat)(x:ad_)(fr:Fr)(σ:St)(fr2:Fr)(σ2:St):Prop:=∀ (z:ad_) (Q0 Q:Ex→Fr→St→Prop),Tri P nt k z Q0 fr2 σ2→Tri P nt k x (fI_ (Tri P nt k z Q0) Q) fr σ
theorem tW_{x:ad_}{fr2:Fr}{σ2:St}(h:Tri P nt k x (fun e fr σ=>e=.normal∧GC k fr σ fr2 σ2) fr σ):Ry_ P nt k x fr σ fr2 σ2:=fun z Q0 Q hz=>Tri.mono h fun e fr3 σ3 ⟨h1,h2⟩=>by
 subst h1;exact cH_ h2 hz
theorem ks_{c:Opd}{x y z:ad_}{Q0 Q:Ex→Fr→St→Prop}{t:Bool}{nv:Nat}{vs:List AV}{ts:List (Nat×AV)}(us:Bool→List (Nat×AV))(S:Bool→St)
 (hx:t=true→Tri P nt k x (fun e fr σ=>e=.normal∧GC k fr σ ⟨nv,fK_ (us true) vs,[]⟩ (S true)) ⟨nv,vs,ts⟩ σ) (hy:t=false→Tri P nt k y (fun e fr σ=>e=.normal∧GC k fr σ ⟨nv,fK_ (us false) vs,[]⟩ (S false)) ⟨nv,vs,ts⟩ σ)
 (hz:Tri P nt k z Q0 ⟨nv,fK_ (us t) vs,[]⟩ (S t)) (hb:c.ev ⟨nv,vs,ts⟩=.bool t:=by first|rfl|(simp only[go_sem];rfl)):Tri P nt k (.cond c x y) (fI_ (Tri P nt k z Q0) Q) ⟨nv,vs,ts⟩ σ:=by
 cases t with
 |true=>exact bL_ hb (fun _=>tW_ (hx rfl) z Q0 Q hz) (fun h=>by cases h)
 |false=>exact bL_ hb (fun h=>by cases h) (fun _=>tW_ (hy rfl) z Q0 Q hz)
theorem Cl_{β:Type}{x z:ad_}{Q0 Q:α→Ex→Fr→St→Prop}{H:β→Prop}{F:β→Fr}{S:β→St}(h:Sm H fun b=>Tri P nt k x (fun e fr σ=>e=.normal∧GC k fr σ (F b) (S b)) fr σ)
 (hz:∀b,H b→Sm G fun r=>Tri P nt k z (Q0 r) (F b) (S b)):Sm G fun r=>Tri P nt k x (fI_ (Tri P nt k z (Q0 r)) (Q r)) fr σ:=by
 obtain⟨b,h1,h2⟩:=h;exact eR_ (fun r h3=>tW_ h2 z _ _ h3) (hz b h1)
theorem fq_{β:Type}{x z:ad_}{Q0 Q:α→Ex→Fr→St→Prop}{nv:Nat}{vs:List AV}{ts:List (Nat×AV)}(H:β→Prop)(f:β→List AV)(i:Nat)(us:List (Nat×AV))(h:Sm H fun b=>Tri P nt k x (fun e fr' σ'=>e=.normal∧GC k fr' σ' ⟨nv,fK_ us vs,[]⟩ (σ.set i (.var (f b)))) ⟨nv,vs,ts⟩ σ)
 (hz:∀b,H b→Sm G fun r=>Tri P nt k z (Q0 r) ⟨nv,fK_ us vs,[]⟩ (σ.set i (.var (f b)))):Sm G fun r=>Tri P nt k x (fI_ (Tri P nt k z (Q0 r)) (Q r)) ⟨nv,vs,ts⟩ σ:=Cl_ (F:=fun _=>⟨nv,fK_ us vs,[]⟩) (S:=fun b=>σ.set i (.var (f b))) h hz
theorem rb_{β:Type}{x z:ad_}{Q0 Q:α→Ex→Fr→St→Prop}{nv:Nat}{vs:List AV}{ts:List (Nat×AV)}(H:β→Prop)(us:β→List (Nat×AV))(h:Sm H fun b=>Tri P nt k x (fun e fr' σ'=>e=.normal∧GC k fr' σ' ⟨nv,fK_ (us b) vs,[]⟩ σ) ⟨nv,vs,ts⟩ σ)
 (hz:∀b,H b→Sm G fun r=>Tri P nt k z (Q0 r) ⟨nv,fK_ (us b) vs,[]⟩ σ):Sm G fun r=>Tri P nt k x (fI_ (Tri P nt k z (Q0 r)) (Q r)) ⟨nv,vs,ts⟩ σ:=Cl_ (F:=fun b=>⟨nv,fK_ (us b) vs,[]⟩) (S:=fun _=>σ) h hz
theorem wB_{β:Type}{x z:ad_}{Q0 Q:α→Ex→Fr→St→Prop}{nv:Nat}{vs:List AV}{ts:List (Nat×AV)}(H:β→Prop)(us:β→List (Nat×AV))(S:β→St)(h:Sm H fun b=>Tri P nt k x (fun e fr' σ'=>e=.normal∧GC k fr' σ' ⟨nv,fK_ (us b) vs,[]⟩ (S b)) ⟨nv,vs,ts⟩ σ)
 (hz:∀b,H b→Sm G fun r=>Tri P nt k z (Q0 r) ⟨nv,fK_ (us b) vs,[]⟩ (S b)):Sm G fun r=>Tri P nt k x (fI_ (Tri P nt k z (Q0 r)) (Q r)) ⟨nv,vs,ts⟩ σ:=Cl_ (F:=fun b=>⟨nv,fK_ (us b) vs,[]⟩) (S:=S) h hz
theorem eQ_{H:α→Prop}{fr1 fr2:Fr}{σ1:St}{S:α→St}(f:α→List AV)(i:Nat){b:α}(hi:σ1[i]?=some (.var (f b)))(hb:H b)(hg:GC k fr1 σ1 fr2 (S b)):Sm H fun r=>GC k fr1 σ1 fr2 (S r):=⟨b,hb,hg⟩
theorem wA_{rs:List ep_}{F:α→AV}{l:List AV}{b:α}(hl:ci_ fr σ rs=some l)(hv:fz σ (List.range σ.length) (eD_ l)=F b)(hg:G b):Sm G fun r=>PQ rs (F r) .ret fr σ:=⟨b,hg,l,hl,.inl hv⟩
theorem gM_{f:FuncId}{rs:List ep_}{ac:ad_}{args:List AV}{F:α→AV}(nv:Nat)(hf:ar_ P f=some (nt,rs,ac))(ha:args.length≤nt)(hp:PuL args)(hr:∀r,G r→Pu (F r))
 (h:Sm G fun r=>Tri P nt 0 ac (PQ rs (F r)) ⟨nv,args++List.replicate (nv-args.length) .dead,[]⟩ []):Sm G fun r=>PC P f args (F r):=by
 obtain⟨r,h1,h2⟩:=h;exact⟨r,h1,PC.fact nv hf ha hp (hr r h1) h2⟩
end
section
variable{P:Program}{σ:St}
theorem rK_{n:Nat}{loc:Nat→Option Loc}{b:Nat}:¬aA_ (List.replicate n .gone) loc b:=by
 rintro⟨id,o,L,h1,h2,_⟩;rw[List.getElem?_replicate]at h1;split at h1
 ·simp only[Option.some.injEq]at h1;subst h1;cases h2
 ·cases h1
theorem ap_.give{f:FuncId}{args:List AV}{r:AV}(h:PC P f (fzL σ (List.range σ.length) args) r):ap_ P f args σ r (List.replicate σ.length .gone):=by
 refine⟨h.call.1,by simp,fun X loc w vs hr hv=>?_⟩;obtain⟨loc2,g1,g2,g3,g4⟩:=(iE_ σ (List.range σ.length)).rel hr;have hpu:=h.pa
 have hv2:RlS (az_ X loc2 [] w) (fzL σ (List.range σ.length) args) vs:=by
  have key:∀ {xs:List AV} {us:List Value},PuL (fzL σ (List.range σ.length) xs)→RlS (az_ X loc σ w) xs us→RlS (az_ X loc2 [] w) (fzL σ (List.range σ.length) xs) us:=by
   intro xs;induction xs with
   |nil=>intro us _ hv;exact hv
   | cons a xs ih =>
     intro us hp hv;obtain⟨u,us',e,h1,h2⟩:=hv;exact⟨u,us',e,g4 a u h1 _ (hp.1.ren _).symm,ih hp.2 h2⟩
  exact key hpu hv
 refine(h.call.2.2 X loc2 w vs g2 hv2).mono ?_;rintro e w' ⟨v,loc',rfl,ho,_⟩;have hl:loc'=fun _=>none:=funext fun id=>ho.rel.beyond id (Nat.zero_le _)
 have hnl:∀b,¬aA_ [] loc' b:=fun b hd=>by obtain⟨id,o,L,h1,_⟩:=hd;simp at h1
 refine⟨v,loc,rfl,⟨fun _ _ h=>h,⟨fun id o h1 h2=>?_,fun i j a b La Lb _ h1 _ h3=>?_,fun b hb=>⟨Nat.lt_of_lt_of_le (hr.out b hb).1 ho.ev.size,rK_⟩,fun id hid=>hr.beyond id (by simpa using hid)⟩,?_,⟨ho.ev.size,fun b hb hn=>ho.ev.blk b hb (fun hd=>by obtain⟨id,o,L,h1,_⟩:=hd;simp at h1),ho.ev.os,ho.ev.tape,ho.ev.output⟩,fun b hb=>absurd hb rK_⟩,fun _ _=>rfl⟩
 ·rw[List.getElem?_replicate]at h1;split at h1
  ·simp only[Option.some.injEq]at h1;subst h1;cases h2
  ·cases h1
 ·rw[List.getElem?_replicate]at h1;split at h1
  ·simp only[Option.some.injEq]at h1;subst h1;cases h3
  ·cases h1
 ·refine Rl.mono (E:=az_ X loc' [] w') (E':=az_ X loc (List.replicate σ.length .gone) w') ⟨fun id L hL=>?_,Nat.le_refl _,fun b hb hn=>⟨fun(hf:X b∨aA_ _ loc b)=>hn (hf.elim .inl fun hd=>absurd hd rK_),rfl⟩⟩ _ _ ho.val;have hL2:loc' id=some L:=hL;rw[hl]at hL2;cases hL2
end
def On_(σ:St)(zs:List Nat)(ρ:Nat→Nat)(ts:List (Nat×AV)):List (Nat×AV)→Prop
 | []=>True
 |p::r=>fz σ zs (mW_ ts p.1)=ren ρ p.2∧On_ σ zs ρ ts r
theorem On_.get{σ:St}{zs:List Nat}{ρ:Nat→Nat}{ts:List (Nat×AV)}(t:Nat):∀ {ts2:List (Nat×AV)},On_ σ zs ρ ts ts2→mW_ ts2 t=.dead∨fz σ zs (mW_ ts t)=ren ρ (mW_ ts2 t)
 | [],_=>.inl rfl
 | (u, v) :: r, h => by
   rw[show mW_ ((u,v)::r) t=if t=u then v else mW_ r t from rfl];by_cases hu:t=u
   ·subst hu;rw[if_pos rfl];exact .inr h.1
   ·rw[if_neg hu];exact On_.get t h.2
section
variable{k:Nat}{σ:St}
end
attribute [go_sem] On_ mW_
def ad_.tl:Nat→ad_→ad_
 |0,c=>c
 |n+1,.seq _ b=>b.tl n
 |_+1,c=>c
def ad_.hd:ad_→ad_
 |.seq a _=>a
 |c=>c
def flat1:AV→Bool
 |.bool _|.int _ _|.str _=>true
 |_=>false
def flat2:AV→Bool
 |.agg cs=>cs.all flat1
 |v=>flat1 v
def flatR:AV→Bool
 |.tup us=>us.all flat2
 |v=>flat2 v
theorem Rl.flat1{E E':Env}{c:AV}{v:Value}(hc:flat1 c=true)(h:Rl E c v):Rl E' c v:=by
 cases c<;>first|exact h|cases hc
theorem RlC.flat{E E':Env}:∀ {cs:List AV} {vs:List Value},cs.all Go.FH.flat1=true→RlC E cs vs→RlC E' cs vs
 | [],_,_,h=>h
 | c :: cs, _, hc, h => by
   obtain⟨u,us,e,h1,h2,h3⟩:=h;rw[List.all_cons,Bool.and_eq_true]at hc;exact⟨u,us,e,h1,h2.flat1 hc.1,RlC.flat hc.2 h3⟩
theorem Rl.flat2{E E':Env}{c:AV}{v:Value}(hc:flat2 c=true)(h:Rl E c v):Rl E' c v:=by
 cases c<;>first|exact h|cases hc|skip
 obtain⟨vs,e,h1⟩:=h;exact⟨vs,e,h1.flat hc⟩
theorem RlS.flat{E E':Env}:∀ {cs:List AV} {vs:List Value},cs.all Go.FH.flat2=true→RlS E cs vs→RlS E' cs vs
 | [],_,_,h=>h
 | c :: cs, _, hc, h => by
   obtain⟨u,us,e,h2,h3⟩:=h;rw[List.all_cons,Bool.and_eq_true]at hc;exact⟨u,us,e,h2.flat2 hc.1,RlS.flat hc.2 h3⟩
theorem Rl.flatR{E E':Env}{c:AV}{v:Value}(hc:flatR c=true)(h:Rl E c v):Rl E' c v:=by
 cases c<;>first|exact h|cases hc|exact Rl.flat2 hc h|skip
 obtain⟨vs,e,h1⟩:=h;exact⟨vs,e,h1.flat hc⟩
theorem fu_{p q:Prop}(hq:q) (h:Hid q→p:=by
 (intro hq
  (first|with_reducible (first|refine fJ_ ?_|refine eT_ ?_|refine ho_ (by simp only[List.length_cons,List.length_nil]) ?_|refine hq_ ?_|refine hp_ ?_|refine jD_ ?_)|(simp only[go_sem,Nat.reduceAdd,Nat.reduceSub,Nat.reduceMul,Nat.reduceLT,Nat.reduceLeDiff,Nat.reduceEqDiff,reduceIte,Int.reduceToNat,Int.reduceLT,Int.reduceLE,Int.reduceEq,Int.reduceNeg,reduceCtorEq,Int.reduceBEq,Int.reduceBNe])|with_reducible refine And.intro (iL_ (by decide)) ?_|(with_reducible refine And.intro ?_ ?_;first|omega|decide|(simp;done)|(simp;omega)))
  repeat(first|with_reducible (first|refine fJ_ ?_|refine eT_ ?_|refine ho_ (by simp only[List.length_cons,List.length_nil]) ?_|refine hq_ ?_|refine hp_ ?_|refine jD_ ?_)|(simp only[go_sem,Nat.reduceAdd,Nat.reduceSub,Nat.reduceMul,Nat.reduceLT,Nat.reduceLeDiff,Nat.reduceEqDiff,reduceIte,Int.reduceToNat,Int.reduceLT,Int.reduceLE,Int.reduceEq,Int.reduceNeg,reduceCtorEq,Int.reduceBEq,Int.reduceBNe])|with_reducible refine And.intro (iL_ (by decide)) ?_|(with_reducible refine And.intro ?_ ?_;first|omega|decide|(simp;done)|(simp;omega)))
  exact hq.out)):p:=h ⟨hq⟩
section
variable{P:Program}{σ:St}
theorem ap_.lend{f:FuncId}{args:List AV}{r:AV}(hf:flatR r=true)(h:PC P f (fzL σ (List.range σ.length) args) r):ap_ P f args σ r σ:=by
 refine⟨h.call.1,Nat.le_refl _,fun X loc w vs hr hv=>?_⟩;obtain⟨loc2,g1,g2,g3,g4⟩:=(iE_ σ (List.range σ.length)).rel hr;have hpu:=h.pa
 have hv2:RlS (az_ X loc2 [] w) (fzL σ (List.range σ.length) args) vs:=by
  have key:∀ {xs:List AV} {us:List Value},PuL (fzL σ (List.range σ.length) xs)→RlS (az_ X loc σ w) xs us→RlS (az_ X loc2 [] w) (fzL σ (List.range σ.length) xs) us:=by
   intro xs;induction xs with
   |nil=>intro us _ hv;exact hv
   | cons a xs ih =>
     intro us hp hv;obtain⟨u,us',e,h1,h2⟩:=hv;exact⟨u,us',e,g4 a u h1 _ (hp.1.ren _).symm,ih hp.2 h2⟩
  exact key hpu hv
 refine(h.call.2.2 X loc2 w vs g2 hv2).mono ?_;rintro e w' ⟨v,loc',rfl,ho,_⟩;have hnl:∀b,¬aA_ [] loc2 b:=fun b hd=>by obtain⟨id,o,L,h1,_⟩:=hd;simp at h1
 have hev:Ev (aA_ σ loc) w w':=⟨ho.ev.size,fun b hb hn=>ho.ev.blk b hb (hnl b),ho.ev.os,ho.ev.tape,ho.ev.output⟩
 exact⟨v,loc,rfl,⟨fun _ _ h=>h,hr.change (fun _ _ h=>h) hev (fun b hb=>.inl hb) hr.beyond (fun id o h1 h2=>.inl ⟨h1,fun L hL hh=>ho.ev.blk _ (aA_.lt hr ⟨id,o,L,h1,h2,hL,hh,rfl⟩) (hnl _)⟩) hr.apart,
  ho.val.flatR hf,hev,fun b hb=>.inl hb⟩,fun _ _=>rfl⟩
end
section
variable{P:Program}
theorem ap_.forget{f:FuncId}{args:List AV}{r r2:AV}{σ σ' σ2:St}{zs js:List Nat}(h:ap_ P f args σ r σ')(hf:ij_ σ.length σ' zs js σ2)(hr2:fz σ' zs r=ren (rn js σ'.length) r2):ap_ P f args σ r2 σ2:=by
 have hlen:σ.length≤σ2.length:=by
  rw[hf.len];rcases Nat.lt_or_ge js.length σ.length with h1|h1
  ·have:=hf.fix js.length h1;rw[List.getElem?_eq_none (Nat.le_refl _)]at this;cases this
  ·exact h1
 refine⟨h.1,hlen,fun X loc w vs hr hv=>(h.2.2 X loc w vs hr hv).mono ?_⟩;rintro e w' ⟨v,loc',rfl,ho,hk⟩;obtain⟨loc2,g1,g2,g3,g4⟩:=hf.rel ho.rel
 have hid:∀id,id<σ.length→loc2 id=loc' id:=by
  intro id hid;rw[g1];congr 1;have:=hf.fix id hid;simp[rn,List.getD,this]
 refine⟨v,loc2,rfl,⟨fun id L hL=>?_,g2,g4 _ _ ho.val _ hr2,ho.ev,fun b hb=>ho.old b (g3 b hb)⟩,fun id h2=>(hid id h2).trans (hk id h2)⟩;rcases Nat.lt_or_ge id σ.length with h2|h2
 ·rw[hid id h2];exact ho.locs id L hL
 ·rw[hr.beyond id h2]at hL;cases hL
theorem ap_.pc{f:FuncId}{args:List AV}{r r2:AV}{σ':St}(h:ap_ P f args [] r σ')(pa:PuL args)(pr:Pu r2)(hr2:fz σ' (List.range σ'.length) r=r2:=by exact evd):PC P f args r2:=
 ⟨h.forget (iE_ σ' (List.range σ'.length)) (by rw[hr2,pr.ren]),pa,pr⟩
end
theorem KG_(ρ:Nat→Nat):cb_ ρ []=[]:=rfl
theorem wl0:IntKind.i64.wrap ((0:Int)+1)=1:=by decide
theorem wl1:IntKind.i64.wrap ((1:Int)+1)=2:=by decide
theorem wl2:IntKind.i64.wrap ((2:Int)+1)=3:=by decide
theorem wl3:IntKind.i64.wrap ((3:Int)+1)=4:=by decide
theorem wl4:IntKind.i64.wrap ((4:Int)+1)=5:=by decide
theorem wl5:IntKind.i64.wrap ((5:Int)+1)=6:=by decide
theorem wl6:IntKind.i64.wrap ((6:Int)+1)=7:=by decide
theorem rS_(k:IntKind)(ns:List Int)(x:Int):aq_ k ns++[[.int k x]]=aq_ k (ns++[x]):=by simp[aq_]
attribute [go_sem] rS_ KG_ wl0 wl1 wl2 wl3 wl4 wl5 wl6
def Unr(P:Program)(nt k:Nat)(x:ad_)(Q:Ex→Fr→St→Prop):Nat→Fr→St→Prop
 |0,_,_=>False
 |n+1,fr,σ=>Tri P nt k x (fI_ (Unr P nt k x Q n) Q) fr σ
@[congr] theorem Rs_{P:Program}{nt k n:Nat}{c:ad_}{Q:Ex→Fr→St→Prop}{fr fr':Fr}{σ σ':St}(h1:fr=fr')(h2:σ=σ'):Unr P nt k c Q n fr σ=Unr P nt k c Q n fr' σ':=by rw[h1,h2]
section
variable{P:Program}{nt k:Nat}{fr:Fr}{σ:St}
end
theorem wg_{w:World}{b o:Nat}{vs:List Value}(hn:vs≠[])(h:∀j u,vs[j]?=some u→w.cell? ⟨b,o+j,none⟩=some u):range? w b o vs.length=some vs.toArray:=by
 unfold range?
 have h0:∃u,vs[0]?=some u:=by
  cases vs with
  |nil=>exact absurd rfl hn
  |cons u us=>exact⟨u,rfl⟩
 obtain⟨u0,hu0⟩:=h0;have hc0:=h 0 u0 hu0;unfold World.cell? at hc0;split at hc0
 ·rename_i c t f hb
  simp only at hb
  have key:∀j u,vs[j]?=some u→c[o+j]?=some u:=by
   intro j u hj;have:=h j u hj;unfold World.cell? at this;simp only[hb]at this;simpa using this
  rw[hb];simp only
  have hlen:o+vs.length≤c.size:=by
   have hlt:vs.length-1<vs.length:=by
    have:vs.length≠0:=fun hh=>hn (List.eq_nil_of_length_eq_zero hh)
    omega
   have:=key (vs.length-1) _ (List.getElem?_eq_getElem hlt);have:=(Array.getElem?_eq_some_iff.1 this).1;omega
  rw[if_pos hlen];congr 1;apply Array.ext
  ·simp;omega
  ·intro i h1 h2;have hi:i<vs.length:=by simpa using h2
   have:=key i _ (List.getElem?_eq_getElem hi);rw[Array.getElem?_eq_some_iff]at this;obtain⟨h3,h4⟩:=this;simp[h4]
 ·cases hc0
abbrev pF_(w:World):Env:=⟨fun _=>none,fun _=>False,w⟩
theorem PC.top{P:Program}{f:FuncId}{args:List AV}{r:AV}(h:PC P f args r){w:World}{vs:List Value}(hv:RlS (pF_ w) args vs):
 Calls P f vs.toArray w fun e w'=>(∃v,e=.returned v∧Rl (pF_ w') r v)∧Below w.heap.size w w':=by
 have hF:∀w:World,az_ (fun _=>False) (fun _=>none) [] w=pF_ w:=by
  intro w;unfold az_ pF_;congr 1;funext b
  apply propext
  constructor
  ·rintro (h|⟨id,o,L,h1,_⟩)
   ·exact h
   ·simp at h1
  ·exact fun h=>h.elim
 have hr:Rel (fun _=>False) (fun _=>none) [] w:=⟨fun id o h=>by simp at h,fun i j a b La Lb _ h=>by simp at h,fun b h=>h.elim,fun _ _=>rfl⟩;refine(h.call.2.2 _ _ w vs hr (by rw[hF];exact hv)).mono ?_;rintro e w' ⟨v,loc',rfl,ho,_⟩;refine⟨⟨v,rfl,?_⟩,ho.ev.below fun b _ hb=>?_⟩
 ·have hl:loc'=fun _=>none:=funext fun id=>ho.rel.beyond id (Nat.zero_le _)
  have:=ho.val;rw[hl,hF]at this;exact this
 ·obtain⟨id,o,L,h1,_⟩:=hb;simp at h1
theorem PC.law{P:Program}{f:FuncId}{args:List AV}(h:PC P f args (.bool true)){w:World}{vs:List Value}(hv:RlS (pF_ w) args vs):
 Calls P f vs.toArray w fun e w'=>e=.returned (.bool true)∧Below w.heap.size w w':=
 (h.top hv).mono fun e w' ⟨⟨v,h1,h2⟩,h3⟩=>⟨by rw[h1];exact congrArg Ending.returned h2,h3⟩
inductive Sh where
 |bool
 |int (k:IntKind)
 |arr (n:Nat) (s:Sh)
 |sl (s:Sh)
 |st (ss:List Sh)
mutual
def Sh.size:Sh→Nat
 |.bool=>1
 |.int _=>1
 |.sl _=>1
 |.arr n s=>n*s.size
 |.st ss=>Sh.sizes ss
def Sh.sizes:List Sh→Nat
 | []=>0
 |s::ss=>s.size+Sh.sizes ss
end
mutual
inductive Opn:Sh→List AV→Prop
 |bool (b:Bool):Opn .bool [.bool b]
 |int (k:IntKind) (n:Int) (h:(Lit.int k n).wf=true):Opn (.int k) [.int k n]
 |arr (n:Nat) (s:Sh) (xs:List (List AV)) (hl:xs.length=n) (h:∀x∈xs,Opn s x):Opn (.arr n s) xs.flatten
 |sl (s:Sh) (xs:List (List AV)) (hl:xs.length≤maxLen) (h:∀x∈xs,Opn s x):Opn (.sl s) [.sl s.size false xs]
 |st (ss:List Sh) (cs:List AV) (h:ue_ ss cs):Opn (.st ss) cs
inductive ue_:List Sh→List AV→Prop
 |nil:ue_ [] []
 |cons (s:Sh) (ss:List Sh) (a b:List AV) (h:Opn s a) (hs:ue_ ss b):ue_ (s::ss) (a++b)
end
mutual
def vB_(P:Program):Sh→TypeId→Bool
 | .bool, t => match P.underlying t with
   |some .bool=>true
   |_=>false
 | .int k, t => match P.underlying t with
   |some (.int k')=>k==k'
   |_=>false
 | .arr n s, t => match P.underlying t with
   |some (.array m e)=>m==n&&P.cellsOf e==s.size&&P.cellsOf t==n*s.size&&vB_ P s e
   |_=>false
 | .sl s, t => match P.underlying t with
   |some (.slice e)=>P.cellsOf e==s.size&&decide (0<s.size)&&vB_ P s e
   |_=>false
 | .st ss, t => match P.underlying t with
   |some (.struct fs)=>P.cellsOf t==Sh.sizes ss&&zE_ P ss fs.toList 0
   |_=>false
def zE_(P:Program):List Sh→List Field→Nat→Bool
 | [],[],_=>true
 |s::ss,f::fs,o=>f.offset==o&&P.cellsOf f.type==s.size&&vB_ P s f.type&&zE_ P ss fs (o+s.size)
 |_,_,_=>false
end
section
variable{H:Type}{enc:TypeId×Value→H}{P:Program}{w:World}
theorem LO_{s:Sh}{k:Nat}:∀ (n:Nat) (cs:List Value),cs.length=n*k→(∀i,i<n→∃avs,Opn s avs∧RlC (pF_ w) avs ((cs.drop (i*k)).take k))→
 ∃xs:List (List AV),xs.length=n∧(∀x∈xs,Opn s x)∧RlC (pF_ w) xs.flatten cs
 |0,cs,hl,_=>⟨[],rfl,by simp,by have:cs=[]:=List.eq_nil_of_length_eq_zero (by omega);subst this;rfl⟩
 | n + 1, cs, hl, h => by
   have hk:(n+1)*k=k+n*k:=by rw[Nat.succ_mul];omega
   obtain⟨a,ha,hr⟩:=h 0 (by omega)
   obtain⟨xs,h1,h2,h3⟩:=LO_ (s:=s) (k:=k) n (cs.drop k) (by rw[List.length_drop,hl,hk];omega) (fun i hi=>by
    obtain⟨b,hb,hr⟩:=h (i+1) (by omega);refine⟨b,hb,?_⟩;rw[List.drop_drop,show k+i*k=(i+1)*k by rw[Nat.succ_mul];omega];exact hr)
   refine⟨a::xs,by simp[h1],fun x hx=>?_,?_⟩
   ·rcases List.mem_cons.1 hx with rfl|hx
    ·exact ha
    ·exact h2 x hx
   ·have e:cs=cs.take k++cs.drop k:=(List.take_append_drop k cs).symm;rw[e];simp only[Nat.zero_mul,List.drop_zero]at hr;exact RlC.app hr h3
theorem Qv_{s:Sh}{k:Nat}{b off:Nat}:∀ (n:Nat) (o:Nat),(∀i,i<n→∃avs us,Opn s avs∧RlC (pF_ w) avs us∧us.length=k∧∀j,j<k→w.cell? ⟨b,off+(o+i*k+j),none⟩=us[j]?)→
 ∃ (xs:List (List AV)) (vs:List Value),xs.length=n∧(∀x∈xs,Opn s x)∧vs.length=n*k∧RlE (pF_ w) k xs vs∧∀j,j<n*k→w.cell? ⟨b,off+(o+j),none⟩=vs[j]?
 |0,o,_=>⟨[],[],rfl,by simp,by simp,rfl,fun j hj=>by omega⟩
 | n + 1, o, h => by
   obtain⟨a,us,ha,hr,hl,hc⟩:=h 0 (by omega)
   obtain⟨xs,vs,h1,h2,h3,h4,h5⟩:=Qv_ n (o+k) (fun i hi=>by
    obtain⟨a,us,ha,hr,hl,hc⟩:=h (i+1) (by omega);refine⟨a,us,ha,hr,hl,fun j hj=>?_⟩;have:=hc j hj;rwa [show off+(o+(i+1)*k+j)=off+(o+k+i*k+j)by rw[Nat.succ_mul];omega]at this)
   refine⟨a::xs,us++vs,by simp[h1],fun x hx=>?_,?_,⟨us,vs,rfl,hl,hr,h4⟩,fun j hj=>?_⟩
   ·rcases List.mem_cons.1 hx with rfl|hx
    ·exact ha
    ·exact h2 x hx
   ·rw[List.length_append,hl,h3,Nat.succ_mul];omega
   ·by_cases hjk:j<k
    ·have:=hc j hjk;rw[List.getElem?_append_left (by omega)];simpa using this
    ·have:=h5 (j-k) (by rw[Nat.succ_mul]at hj;omega);rw[List.getElem?_append_right (by omega),hl,←this];congr 2;omega
mutual
theorem BK_:∀ (s:Sh) (t:TypeId) (fuel:Nat) (cs:List Value) (x:DataW H×List MemPlace),vB_ P s t=true→DataW.trod enc P w 0 (fun _=>true) true fuel t cs=some x→∃avs,Opn s avs∧RlC (pF_ w) avs cs
 | .bool, t, fuel, cs, x, hs, h => by
   unfold vB_ at hs;split at hs<;>try cases hs
   rename_i ht;cases fuel with
   |zero=>simp[DataW.trod]at h
   | succ n =>
     unfold DataW.trod at h;rw[ht]at h;split at h<;>simp_all
     exact⟨_,.bool _,_,[],rfl,rfl,rfl,rfl⟩
 | .int k, t, fuel, cs, x, hs, h => by
   unfold vB_ at hs;split at hs<;>try cases hs
   rename_i k' ht;obtain⟨n,rfl,_,hw⟩:=DataW.trod_int ht h;have:k=k':=by simpa using hs
   subst this;exact⟨_,.int _ _ hw,_,[],rfl,rfl,rfl,rfl⟩
 | .arr n s, t, fuel, cs, x, hs, h => by
   unfold vB_ at hs;split at hs<;>try cases hs
   rename_i m e ht;simp only[Bool.and_eq_true,beq_iff_eq]at hs;obtain⟨⟨⟨rfl,hc⟩,hct⟩,hi⟩:=hs;obtain⟨xs,fl,rfl,rfl,hl,hx,he⟩:=DataW.trod_array ht h;rw[hct]at hl
   obtain⟨xs,h1,h2,h3⟩:=LO_ (s:=s) (w:=w) m cs hl (fun i hin=>by
    have h1:=he i hin;rw[hc,List.getElem?_eq_getElem (by omega)]at h1;exact BK_ s e _ _ _ hi h1)
   exact⟨_,.arr _ _ _ h1 h2,h3⟩
 | .sl s, t, fuel, cs, x, hs, h => by
   unfold vB_ at hs;split at hs<;>try cases hs
   rename_i e ht;simp only[Bool.and_eq_true,beq_iff_eq,decide_eq_true_eq]at hs;obtain⟨⟨hc,hp⟩,hi⟩:=hs;rcases DataW.trod_slice ht h with⟨rfl,_⟩|⟨a,len,cap,elems,rest,n,_,rfl,rfl,hb,hl,hm,hlen,hel,hsp,hns⟩
   ·exact⟨_,.sl s [] (by simp) (by simp),_,[],rfl,rfl,⟨none,0,0,rfl,rfl,Nat.le_refl _,by simp[maxLen],fun _=>rfl,fun _=>rfl,.inl rfl⟩,rfl⟩
   ·by_cases h0:len=0
    ·subst h0;exact⟨_,.sl s [] (by simp) (by simp),_,[],rfl,rfl,⟨some a,0,cap,rfl,rfl,hl,hm,(fun h=>Bool.noConfusion h),(fun h=>by cases h),.inl rfl⟩,rfl⟩
    have each:∀i,i<len→∃avs us,Opn s avs∧RlC (pF_ w) avs us∧us.length=s.size∧∀j,j<s.size→w.cell? ((a.add (i*s.size)).add j)=us[j]?:=by
     intro i hin;have h1:=hel i hin;rw[hc,List.getElem?_eq_getElem (by omega),Option.bind_eq_some_iff]at h1;obtain⟨us,h2,h3⟩:=h1;obtain⟨_,h5,h6⟩:=World.cells?_some h2;obtain⟨avs,h7,h8⟩:=BK_ s e _ _ _ hi h3;exact⟨avs,us,h7,h8,h5,h6⟩
    obtain⟨b,off,spot⟩:=a;obtain⟨_,us,_,_,hul,hcc⟩:=each 0 (by omega);have hc0:=hcc 0 hp;rw[List.getElem?_eq_getElem (by omega)]at hc0;have hspot:spot=none:=by simpa[Addr.add]using World.cell?_spot hc0
    subst hspot
    obtain⟨xs,vs,h1,h2,h3,h4,h5⟩:=Qv_ (s:=s) (w:=w) (k:=s.size) (b:=b) (off:=off) len 0 (fun i hin=>by
     obtain⟨avs,us,g1,g2,g3,g4⟩:=each i hin;refine⟨avs,us,g1,g2,g3,fun j hj=>?_⟩;rw[←g4 j hj,WideShapes.add_plain,WideShapes.add_plain];congr 2;omega)
    have hne:vs≠[]:=by
     intro hh;subst hh;simp only[List.length_nil]at h3;have:=Nat.mul_pos (Nat.pos_of_ne_zero h0) hp;omega
    have hrange:=wg_ (w:=w) (b:=b) (o:=off) hne (fun j u hj=>by
     have hjl:=(List.getElem?_eq_some_iff.1 hj).1;rw[←hj,←h5 j (by omega)];congr 2;omega)
    rw[h3]at hrange
    have hblk:b<w.heap.size:=by
     rw[WideShapes.add_plain,WideShapes.add_plain]at hc0;exact World.block_lt_of_cell? w _ hc0
    exact⟨_,.sl s xs (by omega) h2,_,[],rfl,rfl,⟨_,len,cap,rfl,h1.symm,hl,hm,(fun h=>Bool.noConfusion h),(fun h=>by cases h),.inr ⟨b,off,vs,rfl,hblk,fun hf=>hf,hrange,h4⟩⟩,rfl⟩
 | .st ss, t, fuel, cs, x, hs, h => by
   unfold vB_ at hs;split at hs<;>try cases hs
   rename_i fs ht;simp only[Bool.and_eq_true,beq_iff_eq]at hs;obtain⟨hc,hi⟩:=hs;obtain⟨xs,n,rfl,_,hl,hxs,he⟩:=DataW.trod_struct ht h
   obtain⟨avs,h1,h2⟩:=Ii_ ss fs.toList 0 cs hi (fun f hf=>by
    obtain⟨i,hi⟩:=List.getElem?_of_mem hf;have h1:=he i f (by simpa using hi);have hil:=(List.getElem?_eq_some_iff.1 hi).1;rw[Array.length_toList]at hil;rw[List.getElem?_eq_getElem (by omega)]at h1;exact⟨_,_,h1⟩) (by omega)
   exact⟨avs,.st _ _ h1,h2⟩
theorem Ii_:∀ (ss:List Sh) (fs:List Field) (o:Nat) (cs:List Value),zE_ P ss fs o=true→
 (∀f∈fs,∃ (fuel:Nat) (x:DataW H×List MemPlace),DataW.trod enc P w 0 (fun _=>true) true fuel f.type ((cs.drop f.offset).take (P.cellsOf f.type))=some x)→cs.length=o+Sh.sizes ss→∃avs,ue_ ss avs∧RlC (pF_ w) avs (cs.drop o)
 | [],[],o,cs,_,_,hl=>⟨[],.nil,by rw[List.drop_of_length_le (by simp[Sh.sizes]at hl;omega)];rfl⟩
 | [],_::_,o,cs,hs,_,_=>by simp[zE_]at hs
 |_::_,[],o,cs,hs,_,_=>by simp[zE_]at hs
 | s :: ss, f :: fs, o, cs, hs, hf, hl => by
   simp only[zE_,Bool.and_eq_true,beq_iff_eq]at hs;obtain⟨⟨⟨rfl,hc⟩,hi⟩,hr⟩:=hs;simp only[Sh.sizes]at hl;obtain⟨fuel,x,hx⟩:=hf f (by simp);obtain⟨a,ha,hra⟩:=BK_ s f.type fuel _ x hi hx;obtain⟨b,hb,hrb⟩:=Ii_ ss fs (f.offset+s.size) cs hr (fun g hg=>hf g (by simp[hg])) (by omega);refine⟨a++b,.cons _ _ _ _ ha hb,?_⟩;have e:cs.drop f.offset=(cs.drop f.offset).take s.size++cs.drop (f.offset+s.size):=by rw[←List.drop_drop,List.take_append_drop]
   rw[e];rw[hc]at hra;exact RlC.app hra hrb
end
theorem Nl_{t e:TypeId}{v:Value}{d:DataW H}{p:List MemPlace}{r:Reach}{base:Nat}(s:Sh)(hs:vB_ P (.sl s) t=true)(hv:Value.okWide P w r base t v)(hd:DataW.Trod enc P w 0 (fun _=>true) true t v d p)
 (ht:P.underlying t=some (.slice e)):∃xs,xs.length≤maxLen∧(∀x∈xs,Opn s x)∧Rl (pF_ w) (.sl s.size false xs) v:=by
 obtain⟨fuel,hf⟩:=hd;obtain⟨b,l,c,rfl⟩:=WideShapes.okWide_slice ht hv;obtain⟨avs,h1,h2⟩:=BK_ _ t fuel _ _ hs hf;cases h1 with
 | sl s xs hl h =>
   obtain⟨u,us,h3,_,h4,h5⟩:=h2;simp only[Value.cells,List.cons.injEq]at h3;obtain⟨rfl,rfl⟩:=h3;exact⟨xs,hl,h,h4⟩
theorem zS_{t:TypeId}{v:Value}{d:DataW H}{p:List MemPlace}{r:Reach}{base:Nat}(k:IntKind)(ht:P.underlying t=some (.int k))(hv:Value.okWide P w r base t v)(hd:DataW.Trod enc P w 0 (fun _=>true) true t v d p):
 ∃n,(Lit.int k n).wf=true∧Rl (pF_ w) (.int k n) v:=by
 obtain⟨n,rfl,_,_,hw⟩:=ChangeShapes.open_int ht hv hd;exact⟨n,hw,rfl⟩
end
theorem Opn.ints{k:IntKind}:∀ {xs:List (List AV)},(∀x∈xs,Opn (.int k) x)→∃ns:List Int,xs=aq_ k ns∧∀n∈ns,(Lit.int k n).wf=true
 | [],_=>⟨[],rfl,by simp⟩
 | x :: xs, h => by
   obtain⟨ns,rfl,h2⟩:=Opn.ints (xs:=xs) (fun y hy=>h y (by simp[hy]));cases h x (by simp)with
   | int k n hw =>
     refine⟨n::ns,rfl,fun m hm=>?_⟩;rcases List.mem_cons.1 hm with rfl|hm
     ·exact hw
     ·exact h2 m hm
theorem Ie_:∀ {ns:List Int},(∀n∈ns,(Lit.int .u8 n).wf=true)→∃bs:List UInt8,aq_ .u8 ns=bts bs∧bs.length=ns.length
 | [],_=>⟨[],rfl,rfl⟩
 | n :: ns, h => by
   obtain⟨bs,h1,h2⟩:=Ie_ (ns:=ns) (fun m hm=>h m (by simp[hm]));have hb:=bounds_u8 (h n (by simp));refine⟨UInt8.ofNat n.toNat::bs,?_,by simp[h2]⟩;have e:((UInt8.ofNat n.toNat).toNat:Int)=n:=by rw[UInt8.toNat_ofNat'];omega
   rw[LY_,e,←h1];rfl
theorem Opn.rt{cs:List AV}(h:Opn (.arr 32 (.int .u8)) cs):∃r:Rt,cs=rtc r:=by
 cases h with
 | arr n s xs hl h =>
   obtain⟨ns,rfl,hw⟩:=Opn.ints h;obtain⟨bs,h1,h2⟩:=Ie_ hw;rw[hj_]at hl;exact⟨⟨bs,by omega⟩,by rw[h1,sF_];rfl⟩
theorem Opn.wd{cs:List AV}(h:Opn (.arr 4 (.int .u64)) cs):∃a:Wd,cs=wdc a∧∀n∈a.1,0≤n∧n<18446744073709551616:=by
 cases h with
 | arr n s xs hl h =>
   obtain⟨ns,rfl,hw⟩:=Opn.ints h;rw[hj_]at hl;refine⟨⟨ns,hl⟩,?_,fun n hn=>?_⟩
   ·show _=ns.map _
    clear hl hw h;induction ns with
    |nil=>rfl
    |cons n ns ih=>simp only[aq_,List.map_cons,List.flatten_cons]at ih ⊢;rw[ih];rfl
   ·have:=bounds_u64 (hw n hn);omega
theorem Opn.inv_st{ss:List Sh}{cs:List AV}(h:Opn (.st ss) cs):ue_ ss cs:=by
 cases h with
 |st _ _ h=>exact h
theorem ue_.inv_cons{s:Sh}{ss:List Sh}{cs:List AV}(h:ue_ (s::ss) cs):∃a b,cs=a++b∧Opn s a∧ue_ ss b:=by
 cases h with
 |cons _ _ a b h hs=>exact⟨a,b,rfl,h,hs⟩
theorem ue_.inv_nil{cs:List AV}(h:ue_ [] cs):cs=[]:=by
 cases h;rfl
theorem Opn.inv_int{k:IntKind}{cs:List AV}(h:Opn (.int k) cs):∃n,(Lit.int k n).wf=true∧cs=[.int k n]:=by
 cases h with
 |int _ n h=>exact⟨n,h,rfl⟩
theorem Opn.inv_bool{cs:List AV}(h:Opn .bool cs):∃b,cs=[.bool b]:=by
 cases h with
 |bool b=>exact⟨b,rfl⟩
theorem Opn.inv_nums{k:IntKind}{cs:List AV}(h:Opn (.sl (.int k)) cs):∃ns:List Int,ns.length≤maxLen∧(∀n∈ns,(Lit.int k n).wf=true)∧cs=[.sl 1 false (aq_ k ns)]:=by
 cases h with
 | sl _ xs hl h =>
   obtain⟨ns,rfl,hw⟩:=Opn.ints h;exact⟨ns,by rwa [hj_]at hl,hw,rfl⟩
section
variable{H:Type}{enc:TypeId×Value→H}{P:Program}{w:World}
theorem zT_{t e:TypeId}{v:Value}{d:DataW H}{p:List MemPlace}{r:Reach}{base:Nat}(k:IntKind)(hs:vB_ P (.sl (.int k)) t=true)(hv:Value.okWide P w r base t v)(hd:DataW.Trod enc P w 0 (fun _=>true) true t v d p)
 (ht:P.underlying t=some (.slice e)):∃ns:List Int,ns.length≤maxLen∧(∀n∈ns,(Lit.int k n).wf=true)∧Rl (pF_ w) (.sl 1 false (aq_ k ns)) v:=by
 obtain⟨xs,hl,h,hr⟩:=Nl_ (.int k) hs hv hd ht;obtain⟨ns,rfl,hw⟩:=Opn.ints h;exact⟨ns,by rwa [hj_]at hl,hw,hr⟩
end
structure Cp.Ok(x:Cp):Prop where
 ep:(Lit.int .u64 x.ep).wf=true
abbrev cpS:Sh:=.st [.int .u64,.arr 32 (.int .u8)]
theorem Opn.cp{cs:List AV}(h:Opn cpS cs):∃x:Cp,cs=cpC x∧x.Ok:=by
 have h:=h.inv_st;obtain⟨a0,b0,rfl,h0,h⟩:=h.inv_cons;obtain⟨a1,b1,rfl,h1,h⟩:=h.inv_cons;have h:=h.inv_nil;subst h;obtain⟨n0,w0,rfl⟩:=h0.inv_int;obtain⟨n1,rfl⟩:=h1.rt;exact⟨⟨n0,n1⟩,by simp only[cpC,List.cons_append,List.nil_append,List.append_nil,List.append_assoc],⟨w0⟩⟩
structure Pul.Ok(x:Pul):Prop where
 j:x.j.Ok
 f:x.f.Ok
abbrev RS_:Sh:=.st [cpS,cpS]
theorem Opn.pul{cs:List AV}(h:Opn RS_ cs):∃x:Pul,cs=da_ x∧x.Ok:=by
 have h:=h.inv_st;obtain⟨a0,b0,rfl,h0,h⟩:=h.inv_cons;obtain⟨a1,b1,rfl,h1,h⟩:=h.inv_cons;have h:=h.inv_nil;subst h;obtain⟨n0,rfl,w0⟩:=h0.cp;obtain⟨n1,rfl,w1⟩:=h1.cp;exact⟨⟨n0,n1⟩,by simp only[da_,List.cons_append,List.nil_append,List.append_nil,List.append_assoc],⟨w0,w1⟩⟩
structure Blk.Ok(x:Blk):Prop where
 pul:x.pul.Ok
 slot:(Lit.int .u64 x.slot).wf=true
 diff:∀n∈x.diff.1,0≤n∧n<18446744073709551616
 pdiff:∀n∈x.pdiff.1,0≤n∧n<18446744073709551616
 just:x.just.Ok
 fin:x.fin.Ok
abbrev SE_:Sh:=.st [RS_,.int .u64,.arr 32 (.int .u8),.arr 32 (.int .u8),.arr 32 (.int .u8),.arr 4 (.int .u64),.arr 4 (.int .u64),cpS,cpS,.bool]
theorem Opn.blk{cs:List AV}(h:Opn SE_ cs):∃x:Blk,cs=al_ x∧x.Ok:=by
 have h:=h.inv_st;obtain⟨a0,b0,rfl,h0,h⟩:=h.inv_cons;obtain⟨a1,b1,rfl,h1,h⟩:=h.inv_cons;obtain⟨a2,b2,rfl,h2,h⟩:=h.inv_cons;obtain⟨a3,b3,rfl,h3,h⟩:=h.inv_cons;obtain⟨a4,b4,rfl,h4,h⟩:=h.inv_cons;obtain⟨a5,b5,rfl,h5,h⟩:=h.inv_cons;obtain⟨a6,b6,rfl,h6,h⟩:=h.inv_cons;obtain⟨a7,b7,rfl,h7,h⟩:=h.inv_cons;obtain⟨a8,b8,rfl,h8,h⟩:=h.inv_cons;obtain⟨a9,b9,rfl,h9,h⟩:=h.inv_cons;have h:=h.inv_nil;subst h;obtain⟨n0,rfl,w0⟩:=h0.pul;obtain⟨n1,w1,rfl⟩:=h1.inv_int;obtain⟨n2,rfl⟩:=h2.rt;obtain⟨n3,rfl⟩:=h3.rt;obtain⟨n4,rfl⟩:=h4.rt;obtain⟨n5,rfl,w5⟩:=h5.wd;obtain⟨n6,rfl,w6⟩:=h6.wd;obtain⟨n7,rfl,w7⟩:=h7.cp;obtain⟨n8,rfl,w8⟩:=h8.cp;obtain⟨n9,rfl⟩:=h9.inv_bool;exact⟨⟨n0,n1,n2,n3,n4,n5,n6,n7,n8,n9⟩,by simp only[al_,List.cons_append,List.nil_append,List.append_nil,List.append_assoc],⟨w0,w1,w5,w6,w7,w8⟩⟩
structure Att.Ok(x:Att):Prop where
 slot:(Lit.int .u64 x.slot).wf=true
 target:x.target.Ok
 vals:∃ns:List Int,x.vals=.sl 1 false (aq_ .i64 ns)∧ns.length≤maxLen∧∀n∈ns,(Lit.int .i64 n).wf=true
abbrev rq_:Sh:=.st [.int .u64,.arr 32 (.int .u8),cpS,.sl (.int .i64)]
theorem Opn.att{cs:List AV}(h:Opn rq_ cs):∃x:Att,cs=bi_ x∧x.Ok:=by
 have h:=h.inv_st;obtain⟨a0,b0,rfl,h0,h⟩:=h.inv_cons;obtain⟨a1,b1,rfl,h1,h⟩:=h.inv_cons;obtain⟨a2,b2,rfl,h2,h⟩:=h.inv_cons;obtain⟨a3,b3,rfl,h3,h⟩:=h.inv_cons;have h:=h.inv_nil;subst h;obtain⟨n0,w0,rfl⟩:=h0.inv_int;obtain⟨n1,rfl⟩:=h1.rt;obtain⟨n2,rfl,w2⟩:=h2.cp;obtain⟨n3,l3,w3,rfl⟩:=h3.inv_nums;exact⟨⟨n0,n1,n2,_⟩,by simp only[bi_,List.cons_append,List.nil_append,List.append_nil,List.append_assoc],⟨w0,w2,⟨n3,rfl,l3,w3⟩⟩⟩
structure Clm.Ok(x:Clm):Prop where
 src:(Lit.int .u64 x.src).wf=true
 tgt:(Lit.int .u64 x.tgt).wf=true
 vals:∃ns:List Int,x.vals=.sl 1 false (aq_ .i64 ns)∧ns.length≤maxLen∧∀n∈ns,(Lit.int .i64 n).wf=true
abbrev QS_:Sh:=.st [.int .u64,.int .u64,.arr 32 (.int .u8),.sl (.int .i64)]
theorem Opn.clm{cs:List AV}(h:Opn QS_ cs):∃x:Clm,cs=bO_ x∧x.Ok:=by
 have h:=h.inv_st;obtain⟨a0,b0,rfl,h0,h⟩:=h.inv_cons;obtain⟨a1,b1,rfl,h1,h⟩:=h.inv_cons;obtain⟨a2,b2,rfl,h2,h⟩:=h.inv_cons;obtain⟨a3,b3,rfl,h3,h⟩:=h.inv_cons;have h:=h.inv_nil;subst h;obtain⟨n0,w0,rfl⟩:=h0.inv_int;obtain⟨n1,w1,rfl⟩:=h1.inv_int;obtain⟨n2,rfl⟩:=h2.rt;obtain⟨n3,l3,w3,rfl⟩:=h3.inv_nums;exact⟨⟨n0,n1,n2,_⟩,by simp only[bO_,List.cons_append,List.nil_append,List.append_nil,List.append_assoc],⟨w0,w1,⟨n3,rfl,l3,w3⟩⟩⟩
structure Slg.Ok(x:Slg):Prop where
 fst:x.fst.Ok
 snd:x.snd.Ok
abbrev SO_:Sh:=.st [QS_,QS_]
theorem Opn.slg{cs:List AV}(h:Opn SO_ cs):∃x:Slg,cs=cs_ x∧x.Ok:=by
 have h:=h.inv_st;obtain⟨a0,b0,rfl,h0,h⟩:=h.inv_cons;obtain⟨a1,b1,rfl,h1,h⟩:=h.inv_cons;have h:=h.inv_nil;subst h;obtain⟨n0,rfl,w0⟩:=h0.clm;obtain⟨n1,rfl,w1⟩:=h1.clm;exact⟨⟨n0,n1⟩,by simp only[cs_,List.cons_append,List.nil_append,List.append_nil,List.append_assoc],⟨w0,w1⟩⟩
structure Tab.Ok(x:Tab):Prop where
 cp:x.cp.Ok
 bals:∃ns:List Int,x.bals=.sl 1 false (aq_ .u64 ns)∧ns.length≤maxLen∧∀n∈ns,(Lit.int .u64 n).wf=true
abbrev SR_:Sh:=.st [cpS,.sl (.int .u64)]
theorem Opn.tab{cs:List AV}(h:Opn SR_ cs):∃x:Tab,cs=bb_ x∧x.Ok:=by
 have h:=h.inv_st;obtain⟨a0,b0,rfl,h0,h⟩:=h.inv_cons;obtain⟨a1,b1,rfl,h1,h⟩:=h.inv_cons;have h:=h.inv_nil;subst h;obtain⟨n0,rfl,w0⟩:=h0.cp;obtain⟨n1,l1,w1,rfl⟩:=h1.inv_nums;exact⟨⟨n0,_⟩,by simp only[bb_,List.cons_append,List.nil_append,List.append_nil,List.append_assoc],⟨w0,⟨n1,rfl,l1,w1⟩⟩⟩
structure Vdt.Ok(x:Vdt):Prop where
 tag:(Lit.int .u64 x.tag).wf=true
 kind:(Lit.int .i64 x.kind).wf=true
abbrev SS_:Sh:=.st [.st [.int .u64],.int .i64,.arr 32 (.int .u8)]
theorem Opn.vdt{cs:List AV}(h:Opn SS_ cs):∃x:Vdt,cs=cA_ x∧x.Ok:=by
 have h:=h.inv_st;obtain⟨a0,b0,rfl,h0,h⟩:=h.inv_cons;obtain⟨a1,b1,rfl,h1,h⟩:=h.inv_cons;obtain⟨a2,b2,rfl,h2,h⟩:=h.inv_cons;have h:=h.inv_nil;subst h;obtain⟨y0,z0,rfl,g0,q0⟩:=h0.inv_st.inv_cons;have q0:=q0.inv_nil;subst q0;obtain⟨n0,w0,rfl⟩:=g0.inv_int;obtain⟨n1,w1,rfl⟩:=h1.inv_int;obtain⟨n2,rfl⟩:=h2.rt;exact⟨⟨n0,n1,n2⟩,by simp only[cA_,List.cons_append,List.nil_append,List.append_nil,List.append_assoc],⟨w0,w1⟩⟩
structure SOp.Ok(x:SOp):Prop where
 kind:(Lit.int .i64 x.kind).wf=true
 blk:x.blk.Ok
 att:x.att.Ok
 slg:x.slg.Ok
 tab:x.tab.Ok
 vdt:x.vdt.Ok
 write:(Lit.int .i64 x.write).wf=true
 keep:(Lit.int .i64 x.keep).wf=true
end Go.FH
