/-
 My texts Bp, Bq, Br, Bs, By, Ja, Jb, Jc, Jd, Je, Pb, Jh, Bw, Bx, Ji, Jk, Bv, Bo, Bt, Bu, joined.
-/
import Derived.Test.YtkgimpdgncakjaaW2
import Derived.OpenShut
import Derived.ChangeMaps
namespace Go.FH
set_option linter.unusedVariables false
set_option linter.unusedSimpArgs false
open Go Go.RowKit
def Ck_(σ:St)(zs:List Nat)(fr:Fr):Fr:=⟨fr.nv,fr.vs.map (fz σ zs),[]⟩
def tw_(σ:St)(zs:List Nat):St:=(List.range σ.length).map fun i=>if zs.contains i then .gone else fzO σ zs (σ.getD i .gone)
theorem evZ:(∀σ zs nv vs ts,Ck_ σ zs ⟨nv,vs,ts⟩=⟨nv,vs.map (fz σ zs),[]⟩):=fun _ _ _ _ _=>rfl
section
variable{P:Program}{nt k:Nat}{fr:Fr}{σ:St}
theorem BC_{c:ah_}{Q:Ex→Fr→St→Prop}(zs:List Nat)(h:Tri P nt k c Q (Ck_ σ zs fr) (tw_ σ zs)):Tri P nt k c Q fr σ:=by
 intro fx code hc C loc a w hs;have hk:=hs.klen
 have hf:fv_ k σ zs (List.range σ.length) (tw_ σ zs):=by
  refine⟨fun i hi=>List.getElem?_range (by omega),List.nodup_range,fun j hj=>List.mem_range.1 hj,by simp[tw_],fun i o ho=>?_⟩
  have hi:i<σ.length:=by
   have:=(List.getElem?_eq_some_iff.1 ho).1;simpa[tw_]using this
  unfold tw_ at ho;rw[List.getElem?_map,List.getElem?_range hi]at ho;simp only[Option.map_some,Option.some.injEq]at ho;split at ho
  ·exact .inl ho.symm
  ·rename_i hz;refine .inr ⟨i,List.getElem?_range hi,by simpa using hz,?_⟩;rw[ub_,CC_,←ho,List.getElem?_eq_getElem hi,List.getD_eq_getElem?_getD,List.getElem?_eq_getElem hi];rfl
 refine oy_ zs (List.range σ.length) (Ck_ σ zs fr) (tw_ σ zs) hf (by simpa using hk) (fun t=>?_) h fx code hc C loc a w hs;rw[ub_,AT_];unfold Fr.get Ck_;simp only;split
 ·right
  rw[List.getD_eq_getElem?_getD,List.getD_eq_getElem?_getD,List.getElem?_map];cases fr.vs[t]?<;>rfl
 ·exact .inl rfl
def Sc(v:AV):Prop:=∀E E' u,Rl E v u→Rl E' v u
theorem Sc.int(k:IntKind)(n:Int):Sc (.int k n):=fun _ _ _ h=>h
theorem Sc.bool(b:Bool):Sc (.bool b):=fun _ _ _ h=>h
theorem Sc.str(s:List UInt8):Sc (.str s):=fun _ _ _ h=>h
end
theorem bp_{a:List AV}{n:Nat}(h:a.length=n):cut a 0 n=a:=by
 unfold cut;rw[List.drop_zero,←h,List.take_length]
theorem DE_(x:AV)(b:List AV)(o n:Nat)(h:1≤o):cut (x::b) o n=cut b (o-1) n:=by
 obtain⟨k,rfl⟩:∃k,o=k+1:=⟨o-1,by omega⟩
 rfl
theorem DD_(a b:List AV)(o n:Nat)(h:a.length≤o):cut (a++b) o n=cut b (o-a.length) n:=by
 unfold cut;rw[List.drop_append,List.drop_eq_nil_of_le h,List.nil_append]
theorem DC_(a b:List AV)(o n:Nat)(h:o+n≤a.length):cut (a++b) o n=cut a o n:=by
 unfold cut;rw[List.drop_append,List.take_append_of_le_length (by rw[List.length_drop];omega)]
theorem EW_(x:AV)(b:List AV)(n:Nat)(h:0<n):cut (x::b) 0 n=x::cut b 0 (n-1):=by
 obtain⟨k,rfl⟩:∃k,n=k+1:=⟨n-1,by omega⟩
 rfl
theorem EV_(b:List AV)(o:Nat):cut b o 0=[]:=by simp[cut]
theorem ug_{a:List AV}{vs:List AV}(h:vs.length=a.length):spl a 0 vs=vs:=by
 unfold spl;rw[h];simp
theorem DO_(x:AV)(b:List AV)(o:Nat)(vs:List AV)(h:1≤o):spl (x::b) o vs=x::spl b (o-1) vs:=by
 obtain⟨k,rfl⟩:∃k,o=k+1:=⟨o-1,by omega⟩
 unfold spl;simp[Nat.add_right_comm]
theorem DN_(a b:List AV)(o:Nat)(vs:List AV)(h:a.length≤o):spl (a++b) o vs=a++spl b (o-a.length) vs:=by
 unfold spl;rw[List.take_append,List.drop_append,List.take_of_length_le h,List.drop_eq_nil_of_le (by omega),List.nil_append,show o+vs.length-a.length=o-a.length+vs.length by omega];simp
theorem DM_(a b:List AV)(o:Nat)(vs:List AV)(h:o+vs.length≤a.length):spl (a++b) o vs=spl a o vs++b:=by
 unfold spl;rw[List.take_append_of_le_length (by omega),List.drop_append_of_le_length h];simp
theorem cS1{x:AV}{b:List AV}{o n:Nat}(h:1≤o:=by omega):cut (x::b) o n=cut b (o-1) n:=DE_ x b o n h
theorem cR1{a b:List AV}{k:Nat}(hk:a.length=k){o n:Nat}(h:k≤o:=by omega):cut (a++b) o n=cut b (o-k) n:=by subst hk;exact DD_ a b o n h
theorem cL1{a b:List AV}{k:Nat}(hk:a.length=k){o n:Nat}(h:o+n≤k:=by omega):cut (a++b) o n=cut a o n:=by subst hk;exact DC_ a b o n h
theorem pS1{x:AV}{b:List AV}{o:Nat}{vs:List AV}(h:1≤o:=by omega):spl (x::b) o vs=x::spl b (o-1) vs:=DO_ x b o vs h
theorem pR1{a b:List AV}{k:Nat}(hk:a.length=k){o:Nat}{vs:List AV}(h:k≤o:=by omega):spl (a++b) o vs=a++spl b (o-k) vs:=by subst hk;exact DN_ a b o vs h
theorem pL1{a b:List AV}{k:Nat}(hk:a.length=k){o:Nat}{vs:List AV}(h:o+vs.length≤k:=by omega):spl (a++b) o vs=spl a o vs++b:=by subst hk;exact DM_ a b o vs h
theorem Fz_(x:AV)(b:List AV)(v:AV)(vs:List AV):spl (x::b) 0 (v::vs)=v::spl b 0 vs:=by
 unfold spl;simp
theorem FA_(b:List AV):spl b 0 []=b:=by simp[spl]
theorem fo_(a b:Int):(a==b)=decide (a=b):=by rw[Bool.eq_iff_iff];simp
theorem aN_:aC_ []=true:=rfl
theorem aG_(x:AV)(b:List AV):aC_ (x::b)=(x.cell&&aC_ b):=rfl
theorem aM_(a b:List AV):aC_ (a++b)=(aC_ a&&aC_ b):=by simp[aC_]
theorem bS_(a b:List AV):PuL (a++b)↔PuL a∧PuL b:=by
 simp only[mB_,List.mem_append];exact⟨fun h=>⟨fun c hc=>h c (.inl hc),fun c hc=>h c (.inr hc)⟩,fun h c hc=>hc.elim (h.1 c) (h.2 c)⟩
theorem eO_(ρ:Nat→Nat)(a b:List AV):bh_ ρ (a++b)=bh_ ρ a++bh_ ρ b:=by simp[ob_]
theorem fn_(σ:St)(zs:List Nat):∀a b,fzL σ zs (a++b)=fzL σ zs a++fzL σ zs b
 | [],b=>rfl
 |x::a,b=>by simp only[List.cons_append,fzL,fn_ σ zs a b]
theorem dt_:∀ {a b:List AV} (x y:List AV),a.length=b.length→cu_ (a++x) (b++y)=(match cu_ a b,cu_ x y with|some p,some q=>some (p&&q)|_,_=>none)
 | [],[],x,y,_=>by simp only[List.nil_append,cu_];cases cu_ x y<;>simp
 | u :: a, v :: b, x, y, h => by
   have ih:=dt_ (a:=a) (b:=b) x y (by simpa using h);simp only[List.cons_append,cu_,ih];cases jI_ u v<;>cases cu_ a b<;>cases cu_ x y<;>simp[Bool.and_assoc]
 | [],_::_,_,_,h|_::_,[],_,_,h=>by simp at h
theorem cF_:∀ {ks:List (Nat×Nat)} {cs:List AV},cs.map bm_=bq_ ks→cZ_ ks cs=true
 | [],cs,h=>by simp only[bq_,List.map_eq_nil_iff]at h;subst h;rfl
 | (n, k) :: ks, cs, h => by
   simp only[bq_]at h;have hl:n≤cs.length:=by have:=congrArg List.length h;simp at this;omega
   have h1:(cs.take n).map bm_=List.replicate n k:=by rw[List.map_take,h];simp
   have h2:(cs.drop n).map bm_=bq_ ks:=by rw[List.map_drop,h];simp
   simp only[cZ_,cF_ h2,Bool.and_true,Bool.and_eq_true,List.all_eq_true,beq_iff_eq];refine⟨by rw[List.length_take];omega,fun x hx=>?_⟩;have:bm_ x∈(cs.take n).map bm_:=List.mem_map_of_mem hx;rw[h1]at this;exact(List.mem_replicate.1 this).2
def byc(bs:List UInt8):List AV:=bs.map fun b=>.int .u8 (b.toNat:Int)
@[simp] theorem vu_(bs:List UInt8):(byc bs).length=bs.length:=by simp[byc]
theorem BT_(bs:List UInt8):PuL (byc bs):=by
 rw[mB_];intro x hx;obtain⟨b,_,rfl⟩:=List.mem_map.1 hx;trivial
theorem ra_(bs:List UInt8):aC_ (byc bs)=true:=by simp[aC_,byc,AV.cell]
theorem sJ_:∀ {a b:List UInt8},a.length=b.length→cu_ (byc a) (byc b)=some (decide (a=b))
 | [],[],_=>rfl
 | x :: a, y :: b, h => by
   have ih:=sJ_ (a:=a) (b:=b) (by simpa using h)
   have e:(((x.toNat:Int))==(y.toNat:Int))=decide (x=y):=by
    rw[Bool.eq_iff_iff];simp;exact⟨fun h=>UInt8.toNat_inj.1 (by omega),fun h=>by rw[h]⟩
   simp only[byc,List.map_cons,cu_,jI_,if_true]at ih ⊢;rw[ih,e];simp[List.cons.injEq]
 | [],_::_,h|_::_,[],h=>by simp at h
theorem ql_:∀ (bs:List UInt8) (n:Nat),bs.length=n→chunk 1 n (byc bs)=bts bs
 | [],_,rfl=>rfl
 | b :: bs, _, rfl => by
   simp only[List.length_cons,chunk,byc,List.map_cons,bts];have:=ql_ bs _ rfl;simp only[byc,bts]at this;simp[this]
theorem Dk_(bs:List UInt8){j:Nat}(h:j<bs.length)(b:UInt8):spl (byc bs) j [.int .u8 (b.toNat:Int)]=byc (bs.set j b):=by
 unfold spl byc;rw[←List.map_take,List.length_singleton,←List.map_drop,List.set_eq_take_append_cons_drop,if_pos h];simp
theorem ya_(bs:List UInt8):(byc bs).map bm_=List.replicate bs.length 1:=by
 rw[List.eq_replicate_iff];refine⟨by simp,fun b hb=>?_⟩;obtain⟨c,hc,rfl⟩:=List.mem_map.1 hb;obtain⟨d,_,rfl⟩:=List.mem_map.1 hc;rfl
theorem lL_(bs:List UInt8):(bts bs).flatten=byc bs:=by
 induction bs with
 |nil=>rfl
 |cons b bs ih=>simp only[bts,byc,List.map_cons,List.flatten_cons]at ih ⊢;rw[ih];rfl
abbrev Rt:={b:List UInt8 // b.length=32}
def rtc(r:Rt):List AV:=byc r.1
@[simp] theorem ad_(r:Rt):(rtc r).length=32:=by rw[rtc,vu_,r.2]
theorem AY_(r:Rt):cut (rtc r) 0 32=rtc r:=bp_ (ad_ r)
theorem xy_(r:Rt):chunk 1 32 (rtc r)=bts r.1:=ql_ _ _ r.2
theorem bT_(r:Rt):PuL (rtc r):=BT_ _
theorem ir_(ρ:Nat→Nat)(r:Rt):bh_ ρ (rtc r)=rtc r:=(bT_ r).ren ρ
theorem kB_(σ:St)(zs:List Nat)(r:Rt):fzL σ zs (rtc r)=rtc r:=(bT_ r).fz σ zs
theorem bo_(r:Rt):aC_ (rtc r)=true:=ra_ _
theorem ez_(r s:Rt):cu_ (rtc r) (rtc s)=some (decide (r=s)):=by
 rw[rtc,rtc,sJ_ (by rw[r.2,s.2])];congr 1;rw[decide_eq_decide];exact Subtype.ext_iff.symm
theorem er_(r:Rt):(rtc r).map bm_=List.replicate 32 1:=by rw[rtc,ya_,r.2]
theorem tg_(r:Rt):cZ_ [(32,1)] (rtc r)=true:=cF_ (by rw[er_];rfl)
def Rt.set(r:Rt)(j:Nat)(b:UInt8):Rt:=⟨r.1.set j b,by rw[List.length_set,r.2]⟩
theorem si_(r:Rt){j:Nat}(h:j<32)(b:UInt8):spl (rtc r) j [.int .u8 (b.toNat:Int)]=rtc (r.set j b):=Dk_ _ (by rw[r.2];exact h) b
def rt0:Rt:=⟨List.replicate 32 0,rfl⟩
instance:Inhabited Rt:=⟨rt0⟩
abbrev Wd:={l:List Int // l.length=4}
def wdc(a:Wd):List AV:=a.1.map (.int .u64)
@[simp] theorem aq_(a:Wd):(wdc a).length=4:=by rw[wdc,List.length_map,a.2]
theorem BL_(a:Wd):cut (wdc a) 0 4=wdc a:=bp_ (aq_ a)
theorem gO_(a:Wd):PuL (wdc a):=by
 rw[mB_];intro x hx;obtain⟨b,_,rfl⟩:=List.mem_map.1 hx;trivial
theorem tX_(ρ:Nat→Nat)(r:Wd):bh_ ρ (wdc r)=wdc r:=(gO_ r).ren ρ
theorem wz_(σ:St)(zs:List Nat)(r:Wd):fzL σ zs (wdc r)=wdc r:=(gO_ r).fz σ zs
theorem gR_(r:Wd):aC_ (wdc r)=true:=by simp[aC_,wdc,AV.cell]
theorem qh_:∀ {a b:List Int},a.length=b.length→cu_ (a.map (.int .u64)) (b.map (.int .u64))=some (decide (a=b))
 | [],[],_=>rfl
 | x :: a, y :: b, h => by
   have ih:=qh_ (a:=a) (b:=b) (by simpa using h);have e:(x==y)=decide (x=y):=by rw[Bool.eq_iff_iff];simp
   simp only[List.map_cons,cu_,jI_,if_true]at ih ⊢;rw[ih,e];simp[List.cons.injEq]
 | [],_::_,h|_::_,[],h=>by simp at h
theorem sK_(r s:Wd):cu_ (wdc r) (wdc s)=some (decide (r=s)):=by
 rw[wdc,wdc,qh_ (by rw[r.2,s.2])];congr 1;rw[decide_eq_decide];exact Subtype.ext_iff.symm
theorem qu_(r:Wd):(wdc r).map bm_=List.replicate 4 1:=by
 rw[wdc,List.map_map,List.eq_replicate_iff];refine⟨by rw[List.length_map,r.2],fun b hb=>?_⟩;obtain⟨c,hc,rfl⟩:=List.mem_map.1 hb;rfl
theorem Ad_(r:Wd):cZ_ [(4,1)] (wdc r)=true:=cF_ (by rw[qu_];rfl)
def Wd.set(r:Wd)(j:Nat)(x:Int):Wd:=⟨r.1.set j x,by rw[List.length_set,r.2]⟩
theorem sj_(r:Wd){j:Nat}(h:j<4)(x:Int):spl (wdc r) j [.int .u64 x]=wdc (r.set j x):=by
 have h2:j<r.1.length:=by rw[r.2];exact h
 unfold spl wdc Wd.set;simp only;rw[←List.map_take,List.length_singleton,←List.map_drop,List.set_eq_take_append_cons_drop,if_pos h2];simp
def wd0:Wd:=⟨List.replicate 4 0,rfl⟩
instance:Inhabited Wd:=⟨wd0⟩
structure Cp where
 ep:Int
 rt:Rt
 deriving Inhabited,DecidableEq
def cpC(x:Cp):List AV:=.int .u64 x.ep::(rtc x.rt)
@[simp] theorem af_(x:Cp):(cpC x).length=33:=by simp only[cpC,List.length_cons,List.length_append,List.length_nil,ad_]
theorem zU_(ep:Int)(rt:Rt):.int .u64 ep::(rtc rt)=cpC ⟨ep,rt⟩:=rfl
theorem zV_(x:Cp):cut (cpC x) 0 33=cpC x:=bp_ (af_ x)
theorem uR_(x:Cp):cut (cpC x) 0 1=[.int .u64 x.ep]:=by unfold cpC;all_goals rfl
theorem uT_(x:Cp)(v:Int):spl (cpC x) 0 [.int .u64 v]=cpC { x with ep:=v }:=by unfold cpC;all_goals rfl
theorem uS_(x:Cp)(o n:Nat)(h1:1≤o)(h2:o+n≤33):cut (cpC x) o n=cut (rtc x.rt) (o-1) n:=by unfold cpC;rw[cS1];all_goals rfl
theorem uU_(x:Cp)(o:Nat)(vs:List AV)(h1:1≤o)(h2:o+vs.length≤33):spl (cpC x) o vs=.int .u64 x.ep::(spl (rtc x.rt) (o-1) vs):=by unfold cpC;rw[pS1];all_goals rfl
theorem df_(x:Cp):aC_ (cpC x)=true:=by simp[cpC,aG_,aM_,aN_,AV.cell,bo_]
theorem cO_(x:Cp):PuL (cpC x):=by simp[cpC,bS_,PuL,Pu,bT_]
theorem kM_(ρ:Nat→Nat)(x:Cp):bh_ ρ (cpC x)=cpC x:=(cO_ x).ren ρ
theorem mF_(σ:St)(zs:List Nat)(x:Cp):fzL σ zs (cpC x)=cpC x:=(cO_ x).fz σ zs
theorem lj_(x:Cp):(cpC x).map bm_=bq_ [(33,1)]:=by simp only[cpC,List.map_cons,List.map_append,List.map_nil,bm_,er_];decide +kernel
theorem Ac_(x:Cp):cZ_ [(33,1)] (cpC x)=true:=cF_ (lj_ x)
theorem mQ_(x y:Cp):cu_ (cpC x) (cpC y)=some (decide (x=y)):=by cases x;cases y;simp[cpC,dt_,cu_,jI_,ad_,aq_,ez_,Bool.beq_eq_decide_eq,fo_,Bool.and_assoc,Bool.decide_and]
def cp0:Cp:=⟨0,rt0⟩
structure Pul where
 j:Cp
 f:Cp
 deriving Inhabited,DecidableEq
def cc_(x:Pul):List AV:=cpC x.j++(cpC x.f)
@[simp] theorem aF_(x:Pul):(cc_ x).length=66:=by simp only[cc_,List.length_cons,List.length_append,List.length_nil,af_]
theorem yo_(j:Cp)(f:Cp):cpC j++(cpC f)=cc_ ⟨j,f⟩:=rfl
theorem yp_(x:Pul):cut (cc_ x) 0 66=cc_ x:=bp_ (aF_ x)
theorem vP_(x:Pul)(o n:Nat)(h1:0≤o)(h2:o+n≤33):cut (cc_ x) o n=cut (cpC x.j) (o-0) n:=by unfold cc_;rw[cL1 (af_ _)];all_goals rfl
theorem vR_(x:Pul)(o:Nat)(vs:List AV)(h1:0≤o)(h2:o+vs.length≤33):spl (cc_ x) o vs=spl (cpC x.j) (o-0) vs++(cpC x.f):=by unfold cc_;rw[pL1 (af_ _)];all_goals rfl
theorem vO_(x:Pul)(o n:Nat)(h1:33≤o)(h2:o+n≤66):cut (cc_ x) o n=cut (cpC x.f) (o-33) n:=by unfold cc_;rw[cR1 (af_ _)];all_goals rfl
theorem vQ_(x:Pul)(o:Nat)(vs:List AV)(h1:33≤o)(h2:o+vs.length≤66):spl (cc_ x) o vs=cpC x.j++(spl (cpC x.f) (o-33) vs):=by unfold cc_;rw[pR1 (af_ _)];all_goals rfl
theorem jj_(x:Pul):aC_ (cc_ x)=true:=by simp[cc_,aG_,aM_,aN_,AV.cell,df_]
theorem kf_(x:Pul):PuL (cc_ x):=by simp[cc_,bS_,PuL,Pu,cO_]
theorem yy_(ρ:Nat→Nat)(x:Pul):bh_ ρ (cc_ x)=cc_ x:=(kf_ x).ren ρ
theorem Aj_(σ:St)(zs:List Nat)(x:Pul):fzL σ zs (cc_ x)=cc_ x:=(kf_ x).fz σ zs
theorem nE_(x:Pul):(cc_ x).map bm_=bq_ [(66,1)]:=by simp only[cc_,List.map_cons,List.map_append,List.map_nil,bm_,lj_];decide +kernel
theorem xQ_(x:Pul):cZ_ [(66,1)] (cc_ x)=true:=cF_ (nE_ x)
theorem qi_(x y:Pul):cu_ (cc_ x) (cc_ y)=some (decide (x=y)):=by cases x;cases y;simp[cc_,dt_,cu_,jI_,ad_,aq_,mQ_,Bool.beq_eq_decide_eq,fo_,Bool.and_assoc,Bool.decide_and]
def tU_:Pul:=⟨cp0,cp0⟩
structure Blk where
 pul:Pul
 slot:Int
 root:Rt
 parent:Rt
 payload:Rt
 diff:Wd
 pdiff:Wd
 just:Cp
 fin:Cp
 timely:Bool
 deriving Inhabited,DecidableEq
def aw_(x:Blk):List AV:=cc_ x.pul++(.int .u64 x.slot::(rtc x.root++(rtc x.parent++(rtc x.payload++(wdc x.diff++(wdc x.pdiff++(cpC x.just++(cpC x.fin++[.bool x.timely]))))))))
@[simp] theorem aD_(x:Blk):(aw_ x).length=238:=by simp only[aw_,List.length_cons,List.length_append,List.length_nil,af_,aF_,ad_,aq_]
theorem xn_(pul:Pul)(slot:Int)(root:Rt)(parent:Rt)(payload:Rt)(diff:Wd)(pdiff:Wd)(just:Cp)(fin:Cp)(timely:Bool):cc_ pul++(.int .u64 slot::(rtc root++(rtc parent++(rtc payload++(wdc diff++(wdc pdiff++(cpC just++(cpC fin++[.bool timely]))))))))=aw_ ⟨pul,slot,root,parent,payload,diff,pdiff,just,fin,timely⟩:=rfl
theorem xo_(x:Blk):cut (aw_ x) 0 238=aw_ x:=bp_ (aD_ x)
theorem rh_(x:Blk)(o n:Nat)(h1:0≤o)(h2:o+n≤66):cut (aw_ x) o n=cut (cc_ x.pul) (o-0) n:=by unfold aw_;rw[cL1 (aF_ _)];all_goals rfl
theorem rj_(x:Blk)(o:Nat)(vs:List AV)(h1:0≤o)(h2:o+vs.length≤66):spl (aw_ x) o vs=spl (cc_ x.pul) (o-0) vs++(.int .u64 x.slot::(rtc x.root++(rtc x.parent++(rtc x.payload++(wdc x.diff++(wdc x.pdiff++(cpC x.just++(cpC x.fin++[.bool x.timely])))))))):=by unfold aw_;rw[pL1 (aF_ _)];all_goals rfl
theorem oS_(x:Blk):cut (aw_ x) 66 1=[.int .u64 x.slot]:=by unfold aw_;rw[cR1 (aF_ _)];simp only[Nat.reduceSub];all_goals rfl
theorem oW_(x:Blk)(v:Int):spl (aw_ x) 66 [.int .u64 v]=aw_ { x with slot:=v }:=by unfold aw_;rw[pR1 (aF_ _)];simp only[Nat.reduceSub];all_goals rfl
theorem oR_(x:Blk)(o n:Nat)(h1:67≤o)(h2:o+n≤99):cut (aw_ x) o n=cut (rtc x.root) (o-67) n:=by unfold aw_;rw[cR1 (aF_ _),cS1,cL1 (ad_ _)];rw[show o-66-1=o-67 by omega]
theorem oV_(x:Blk)(o:Nat)(vs:List AV)(h1:67≤o)(h2:o+vs.length≤99):spl (aw_ x) o vs=cc_ x.pul++(.int .u64 x.slot::(spl (rtc x.root) (o-67) vs++(rtc x.parent++(rtc x.payload++(wdc x.diff++(wdc x.pdiff++(cpC x.just++(cpC x.fin++[.bool x.timely])))))))):=by unfold aw_;rw[pR1 (aF_ _),pS1,pL1 (ad_ _)];rw[show o-66-1=o-67 by omega]
theorem lV_(x:Blk)(o n:Nat)(h1:99≤o)(h2:o+n≤131):cut (aw_ x) o n=cut (rtc x.parent) (o-99) n:=by unfold aw_;rw[cR1 (aF_ _),cS1];rw[cR1 (ad_ _),cL1 (ad_ _)];rw[show o-66-1-32=o-99 by omega]
theorem lX_(x:Blk)(o:Nat)(vs:List AV)(h1:99≤o)(h2:o+vs.length≤131):spl (aw_ x) o vs=cc_ x.pul++(.int .u64 x.slot::(rtc x.root++(spl (rtc x.parent) (o-99) vs++(rtc x.payload++(wdc x.diff++(wdc x.pdiff++(cpC x.just++(cpC x.fin++[.bool x.timely])))))))):=by unfold aw_;rw[pR1 (aF_ _),pS1];rw[pR1 (ad_ _),pL1 (ad_ _)];rw[show o-66-1-32=o-99 by omega]
theorem kV_(x:Blk)(o n:Nat)(h1:131≤o)(h2:o+n≤163):cut (aw_ x) o n=cut (rtc x.payload) (o-131) n:=by unfold aw_;rw[cR1 (aF_ _),cS1];rw[cR1 (ad_ _),cR1 (ad_ _),cL1 (ad_ _)];rw[show o-66-1-32-32=o-131 by omega]
theorem kW_(x:Blk)(o:Nat)(vs:List AV)(h1:131≤o)(h2:o+vs.length≤163):spl (aw_ x) o vs=cc_ x.pul++(.int .u64 x.slot::(rtc x.root++(rtc x.parent++(spl (rtc x.payload) (o-131) vs++(wdc x.diff++(wdc x.pdiff++(cpC x.just++(cpC x.fin++[.bool x.timely])))))))):=by unfold aw_;rw[pR1 (aF_ _),pS1];rw[pR1 (ad_ _),pR1 (ad_ _),pL1 (ad_ _)];rw[show o-66-1-32-32=o-131 by omega]
theorem oP_(x:Blk)(o n:Nat)(h1:163≤o)(h2:o+n≤167):cut (aw_ x) o n=cut (wdc x.diff) (o-163) n:=by unfold aw_;rw[cR1 (aF_ _),cS1];rw[cR1 (ad_ _),cR1 (ad_ _)];rw[cR1 (ad_ _),cL1 (aq_ _)];rw[show o-66-1-32-32-32=o-163 by omega]
theorem oT_(x:Blk)(o:Nat)(vs:List AV)(h1:163≤o)(h2:o+vs.length≤167):spl (aw_ x) o vs=cc_ x.pul++(.int .u64 x.slot::(rtc x.root++(rtc x.parent++(rtc x.payload++(spl (wdc x.diff) (o-163) vs++(wdc x.pdiff++(cpC x.just++(cpC x.fin++[.bool x.timely])))))))):=by unfold aw_;rw[pR1 (aF_ _),pS1];rw[pR1 (ad_ _),pR1 (ad_ _)];rw[pR1 (ad_ _),pL1 (aq_ _)];rw[show o-66-1-32-32-32=o-163 by omega]
theorem mT_(x:Blk)(o n:Nat)(h1:167≤o)(h2:o+n≤171):cut (aw_ x) o n=cut (wdc x.pdiff) (o-167) n:=by unfold aw_;rw[cR1 (aF_ _),cS1];rw[cR1 (ad_ _),cR1 (ad_ _)];rw[cR1 (ad_ _),cR1 (aq_ _),cL1 (aq_ _)];rw[show o-66-1-32-32-32-4=o-167 by omega]
theorem mU_(x:Blk)(o:Nat)(vs:List AV)(h1:167≤o)(h2:o+vs.length≤171):spl (aw_ x) o vs=cc_ x.pul++(.int .u64 x.slot::(rtc x.root++(rtc x.parent++(rtc x.payload++(wdc x.diff++(spl (wdc x.pdiff) (o-167) vs++(cpC x.just++(cpC x.fin++[.bool x.timely])))))))):=by unfold aw_;rw[pR1 (aF_ _),pS1];rw[pR1 (ad_ _),pR1 (ad_ _)];rw[pR1 (ad_ _),pR1 (aq_ _),pL1 (aq_ _)];rw[show o-66-1-32-32-32-4=o-167 by omega]
theorem oQ_(x:Blk)(o n:Nat)(h1:171≤o)(h2:o+n≤204):cut (aw_ x) o n=cut (cpC x.just) (o-171) n:=by unfold aw_;rw[cR1 (aF_ _),cS1];rw[cR1 (ad_ _),cR1 (ad_ _)];rw[cR1 (ad_ _),cR1 (aq_ _)];rw[cR1 (aq_ _),cL1 (af_ _)];rw[show o-66-1-32-32-32-4-4=o-171 by omega]
theorem oU_(x:Blk)(o:Nat)(vs:List AV)(h1:171≤o)(h2:o+vs.length≤204):spl (aw_ x) o vs=cc_ x.pul++(.int .u64 x.slot::(rtc x.root++(rtc x.parent++(rtc x.payload++(wdc x.diff++(wdc x.pdiff++(spl (cpC x.just) (o-171) vs++(cpC x.fin++[.bool x.timely])))))))):=by unfold aw_;rw[pR1 (aF_ _),pS1];rw[pR1 (ad_ _),pR1 (ad_ _)];rw[pR1 (ad_ _),pR1 (aq_ _)];rw[pR1 (aq_ _),pL1 (af_ _)];rw[show o-66-1-32-32-32-4-4=o-171 by omega]
theorem rg_(x:Blk)(o n:Nat)(h1:204≤o)(h2:o+n≤237):cut (aw_ x) o n=cut (cpC x.fin) (o-204) n:=by unfold aw_;rw[cR1 (aF_ _),cS1];rw[cR1 (ad_ _),cR1 (ad_ _)];rw[cR1 (ad_ _),cR1 (aq_ _)];rw[cR1 (aq_ _),cR1 (af_ _),cL1 (af_ _)];rw[show o-66-1-32-32-32-4-4-33=o-204 by omega]
theorem ri_(x:Blk)(o:Nat)(vs:List AV)(h1:204≤o)(h2:o+vs.length≤237):spl (aw_ x) o vs=cc_ x.pul++(.int .u64 x.slot::(rtc x.root++(rtc x.parent++(rtc x.payload++(wdc x.diff++(wdc x.pdiff++(cpC x.just++(spl (cpC x.fin) (o-204) vs++[.bool x.timely])))))))):=by unfold aw_;rw[pR1 (aF_ _),pS1];rw[pR1 (ad_ _),pR1 (ad_ _)];rw[pR1 (ad_ _),pR1 (aq_ _)];rw[pR1 (aq_ _),pR1 (af_ _),pL1 (af_ _)];rw[show o-66-1-32-32-32-4-4-33=o-204 by omega]
theorem lW_(x:Blk):cut (aw_ x) 237 1=[.bool x.timely]:=by unfold aw_;rw[cR1 (aF_ _),cS1];rw[cR1 (ad_ _),cR1 (ad_ _)];rw[cR1 (ad_ _),cR1 (aq_ _)];rw[cR1 (aq_ _),cR1 (af_ _),cR1 (af_ _)];simp only[Nat.reduceSub];all_goals rfl
theorem lY_(x:Blk)(v:Bool):spl (aw_ x) 237 [.bool v]=aw_ { x with timely:=v }:=by unfold aw_;rw[pR1 (aF_ _),pS1];rw[pR1 (ad_ _),pR1 (ad_ _)];rw[pR1 (ad_ _),pR1 (aq_ _)];rw[pR1 (aq_ _),pR1 (af_ _),pR1 (af_ _)];simp only[Nat.reduceSub];all_goals rfl
theorem gp_(x:Blk):aC_ (aw_ x)=true:=by simp[aw_,aG_,aM_,aN_,AV.cell,df_,jj_,bo_,gR_]
theorem cR_(x:Blk):PuL (aw_ x):=by simp[aw_,bS_,PuL,Pu,cO_,kf_,bT_,gO_]
theorem qE_(ρ:Nat→Nat)(x:Blk):bh_ ρ (aw_ x)=aw_ x:=(cR_ x).ren ρ
theorem tn_(σ:St)(zs:List Nat)(x:Blk):fzL σ zs (aw_ x)=aw_ x:=(cR_ x).fz σ zs
theorem nD_(x:Blk):(aw_ x).map bm_=bq_ [(237,1),(1,0)]:=by simp only[aw_,List.map_cons,List.map_append,List.map_nil,bm_,lj_,nE_,er_,qu_];decide +kernel
theorem xM_(x:Blk):cZ_ [(237,1),(1,0)] (aw_ x)=true:=cF_ (nD_ x)
theorem qg_(x y:Blk):cu_ (aw_ x) (aw_ y)=some (decide (x=y)):=by cases x;cases y;simp[aw_,dt_,cu_,jI_,ad_,aq_,mQ_,qi_,ez_,sK_,Bool.beq_eq_decide_eq,fo_,Bool.and_assoc,Bool.decide_and]
def eW_:Blk:=⟨tU_,0,rt0,rt0,rt0,wd0,wd0,cp0,cp0,false⟩
structure Att where
 slot:Int
 root:Rt
 target:Cp
 vals:AV
 deriving Inhabited
def bg_(x:Att):List AV:=.int .u64 x.slot::(rtc x.root++(cpC x.target++[x.vals]))
@[simp] theorem bb_(x:Att):(bg_ x).length=67:=by simp only[bg_,List.length_cons,List.length_append,List.length_nil,af_,ad_]
theorem xh_(slot:Int)(root:Rt)(target:Cp)(vals:AV):.int .u64 slot::(rtc root++(cpC target++[vals]))=bg_ ⟨slot,root,target,vals⟩:=rfl
theorem xi_(x:Att):cut (bg_ x) 0 67=bg_ x:=bp_ (bb_ x)
theorem oK_(x:Att):cut (bg_ x) 0 1=[.int .u64 x.slot]:=by unfold bg_;all_goals rfl
theorem oN_(x:Att)(v:Int):spl (bg_ x) 0 [.int .u64 v]=bg_ { x with slot:=v }:=by unfold bg_;all_goals rfl
theorem oJ_(x:Att)(o n:Nat)(h1:1≤o)(h2:o+n≤33):cut (bg_ x) o n=cut (rtc x.root) (o-1) n:=by unfold bg_;rw[cS1,cL1 (ad_ _)];all_goals rfl
theorem oM_(x:Att)(o:Nat)(vs:List AV)(h1:1≤o)(h2:o+vs.length≤33):spl (bg_ x) o vs=.int .u64 x.slot::(spl (rtc x.root) (o-1) vs++(cpC x.target++[x.vals])):=by unfold bg_;rw[pS1,pL1 (ad_ _)];all_goals rfl
theorem lT_(x:Att)(o n:Nat)(h1:33≤o)(h2:o+n≤66):cut (bg_ x) o n=cut (cpC x.target) (o-33) n:=by unfold bg_;rw[cS1,cR1 (ad_ _),cL1 (af_ _)];rw[show o-1-32=o-33 by omega]
theorem lU_(x:Att)(o:Nat)(vs:List AV)(h1:33≤o)(h2:o+vs.length≤66):spl (bg_ x) o vs=.int .u64 x.slot::(rtc x.root++(spl (cpC x.target) (o-33) vs++[x.vals])):=by unfold bg_;rw[pS1,pR1 (ad_ _),pL1 (af_ _)];rw[show o-1-32=o-33 by omega]
theorem oL_(x:Att):cut (bg_ x) 66 1=[x.vals]:=by unfold bg_;rw[cS1,cR1 (ad_ _),cR1 (af_ _)];simp only[Nat.reduceSub];all_goals rfl
theorem oO_(x:Att)(v:AV):spl (bg_ x) 66 [v]=bg_ { x with vals:=v }:=by unfold bg_;rw[pS1,pR1 (ad_ _),pR1 (af_ _)];simp only[Nat.reduceSub];all_goals rfl
def Att.map(g:AV→AV)(x:Att):Att:={ x with vals:=g x.vals }
theorem Att.map_mk(g:AV→AV)(slot:Int)(root:Rt)(target:Cp)(vals:AV):Att.map g ⟨slot,root,target,vals⟩=⟨slot,root,target,g vals⟩:=rfl
def Att.good(x:Att):Bool:=x.vals.cell
theorem Att.good_mk(slot:Int)(root:Rt)(target:Cp)(vals:AV):Att.good ⟨slot,root,target,vals⟩=(vals.cell):=rfl
def Att.Pure(x:Att):Prop:=Pu x.vals
theorem je_(x:Att):aC_ (bg_ x)=x.good:=by simp[bg_,Att.good,Bool.and_assoc,aG_,aM_,aN_,AV.cell,df_,bo_]
theorem fw_(x:Att):PuL (bg_ x)↔x.Pure:=by simp[bg_,Att.Pure,bS_,PuL,Pu,cO_,bT_]
theorem qD_(ρ:Nat→Nat)(x:Att):bh_ ρ (bg_ x)=bg_ (x.map (ren ρ)):=by simp only[bg_,Att.map,eO_,bh_,ren,kM_,ir_]
theorem tm_(σ:St)(zs:List Nat)(x:Att):fzL σ zs (bg_ x)=bg_ (x.map (fz σ zs)):=by simp only[bg_,Att.map,fn_,fzL,fz,mF_,kB_]
def DY_:Att:=⟨0,rt0,cp0,.sl 0 true []⟩
structure Clm where
 src:Int
 tgt:Int
 root:Rt
 vals:AV
 deriving Inhabited
def bH_(x:Clm):List AV:=.int .u64 x.src::(.int .u64 x.tgt::(rtc x.root++[x.vals]))
@[simp] theorem da_(x:Clm):(bH_ x).length=35:=by simp only[bH_,List.length_cons,List.length_append,List.length_nil,ad_]
theorem xz_(src:Int)(tgt:Int)(root:Rt)(vals:AV):.int .u64 src::(.int .u64 tgt::(rtc root++[vals]))=bH_ ⟨src,tgt,root,vals⟩:=rfl
theorem xA_(x:Clm):cut (bH_ x) 0 35=bH_ x:=bp_ (da_ x)
theorem rs_(x:Clm):cut (bH_ x) 0 1=[.int .u64 x.src]:=by unfold bH_;all_goals rfl
theorem ru_(x:Clm)(v:Int):spl (bH_ x) 0 [.int .u64 v]=bH_ { x with src:=v }:=by unfold bH_;all_goals rfl
theorem rt_(x:Clm):cut (bH_ x) 1 1=[.int .u64 x.tgt]:=by unfold bH_;rw[cS1];simp only[Nat.reduceSub];all_goals rfl
theorem rv_(x:Clm)(v:Int):spl (bH_ x) 1 [.int .u64 v]=bH_ { x with tgt:=v }:=by unfold bH_;rw[pS1];simp only[Nat.reduceSub];all_goals rfl
theorem oZ_(x:Clm)(o n:Nat)(h1:2≤o)(h2:o+n≤34):cut (bH_ x) o n=cut (rtc x.root) (o-2) n:=by unfold bH_;rw[cS1,cS1,cL1 (ad_ _)];rw[show o-1-1=o-2 by omega]
theorem pb_(x:Clm)(o:Nat)(vs:List AV)(h1:2≤o)(h2:o+vs.length≤34):spl (bH_ x) o vs=.int .u64 x.src::(.int .u64 x.tgt::(spl (rtc x.root) (o-2) vs++[x.vals])):=by unfold bH_;rw[pS1,pS1,pL1 (ad_ _)];rw[show o-1-1=o-2 by omega]
theorem pa_(x:Clm):cut (bH_ x) 34 1=[x.vals]:=by unfold bH_;rw[cS1,cS1,cR1 (ad_ _)];simp only[Nat.reduceSub];all_goals rfl
theorem pc_(x:Clm)(v:AV):spl (bH_ x) 34 [v]=bH_ { x with vals:=v }:=by unfold bH_;rw[pS1,pS1,pR1 (ad_ _)];simp only[Nat.reduceSub];all_goals rfl
def Clm.map(g:AV→AV)(x:Clm):Clm:={ x with vals:=g x.vals }
theorem Clm.map_mk(g:AV→AV)(src:Int)(tgt:Int)(root:Rt)(vals:AV):Clm.map g ⟨src,tgt,root,vals⟩=⟨src,tgt,root,g vals⟩:=rfl
def Clm.good(x:Clm):Bool:=x.vals.cell
theorem Clm.good_mk(src:Int)(tgt:Int)(root:Rt)(vals:AV):Clm.good ⟨src,tgt,root,vals⟩=(vals.cell):=rfl
def Clm.Pure(x:Clm):Prop:=Pu x.vals
theorem jg_(x:Clm):aC_ (bH_ x)=x.good:=by simp[bH_,Clm.good,Bool.and_assoc,aG_,aM_,aN_,AV.cell,bo_]
theorem sH_(x:Clm):PuL (bH_ x)↔x.Pure:=by simp[bH_,Clm.Pure,bS_,PuL,Pu,bT_]
theorem qF_(ρ:Nat→Nat)(x:Clm):bh_ ρ (bH_ x)=bH_ (x.map (ren ρ)):=by simp only[bH_,Clm.map,eO_,bh_,ren,ir_]
theorem tp_(σ:St)(zs:List Nat)(x:Clm):fzL σ zs (bH_ x)=bH_ (x.map (fz σ zs)):=by simp only[bH_,Clm.map,fn_,fzL,fz,kB_]
def Ce_:Clm:=⟨0,0,rt0,.sl 0 true []⟩
structure Slg where
 fst:Clm
 snd:Clm
 deriving Inhabited
def cw_(x:Slg):List AV:=bH_ x.fst++(bH_ x.snd)
@[simp] theorem bk_(x:Slg):(cw_ x).length=70:=by simp only[cw_,List.length_cons,List.length_append,List.length_nil,da_]
theorem yH_(fst:Clm)(snd:Clm):bH_ fst++(bH_ snd)=cw_ ⟨fst,snd⟩:=rfl
theorem yI_(x:Slg):cut (cw_ x) 0 70=cw_ x:=bp_ (bk_ x)
theorem sc_(x:Slg)(o n:Nat)(h1:0≤o)(h2:o+n≤35):cut (cw_ x) o n=cut (bH_ x.fst) (o-0) n:=by unfold cw_;rw[cL1 (da_ _)];all_goals rfl
theorem se_(x:Slg)(o:Nat)(vs:List AV)(h1:0≤o)(h2:o+vs.length≤35):spl (cw_ x) o vs=spl (bH_ x.fst) (o-0) vs++(bH_ x.snd):=by unfold cw_;rw[pL1 (da_ _)];all_goals rfl
theorem sd_(x:Slg)(o n:Nat)(h1:35≤o)(h2:o+n≤70):cut (cw_ x) o n=cut (bH_ x.snd) (o-35) n:=by unfold cw_;rw[cR1 (da_ _)];all_goals rfl
theorem sf_(x:Slg)(o:Nat)(vs:List AV)(h1:35≤o)(h2:o+vs.length≤70):spl (cw_ x) o vs=bH_ x.fst++(spl (bH_ x.snd) (o-35) vs):=by unfold cw_;rw[pR1 (da_ _)];all_goals rfl
def Slg.map(g:AV→AV)(x:Slg):Slg:={ x with fst:=x.fst.map g,snd:=x.snd.map g }
theorem Slg.map_mk(g:AV→AV)(fst:Clm)(snd:Clm):Slg.map g ⟨fst,snd⟩=⟨fst.map g,snd.map g⟩:=rfl
def Slg.good(x:Slg):Bool:=x.fst.good&&x.snd.good
theorem Slg.good_mk(fst:Clm)(snd:Clm):Slg.good ⟨fst,snd⟩=(fst.good&&snd.good):=rfl
def Slg.Pure(x:Slg):Prop:=x.fst.Pure∧x.snd.Pure
theorem jk_(x:Slg):aC_ (cw_ x)=x.good:=by simp[cw_,Slg.good,Bool.and_assoc,aG_,aM_,aN_,AV.cell,jg_]
theorem sI_(x:Slg):PuL (cw_ x)↔x.Pure:=by simp[cw_,Slg.Pure,bS_,PuL,Pu,sH_]
theorem qI_(ρ:Nat→Nat)(x:Slg):bh_ ρ (cw_ x)=cw_ (x.map (ren ρ)):=by simp only[cw_,Slg.map,eO_,bh_,ren,qF_]
theorem ts_(σ:St)(zs:List Nat)(x:Slg):fzL σ zs (cw_ x)=cw_ (x.map (fz σ zs)):=by simp only[cw_,Slg.map,fn_,fzL,fz,tp_]
def Et_:Slg:=⟨Ce_,Ce_⟩
structure Tab where
 cp:Cp
 bals:AV
 deriving Inhabited
def bj_(x:Tab):List AV:=cpC x.cp++[x.bals]
@[simp] theorem bK_(x:Tab):(bj_ x).length=34:=by simp only[bj_,List.length_cons,List.length_append,List.length_nil,af_]
theorem yR_(cp:Cp)(bals:AV):cpC cp++[bals]=bj_ ⟨cp,bals⟩:=rfl
theorem yS_(x:Tab):cut (bj_ x) 0 34=bj_ x:=bp_ (bK_ x)
theorem un_(x:Tab)(o n:Nat)(h1:0≤o)(h2:o+n≤33):cut (bj_ x) o n=cut (cpC x.cp) (o-0) n:=by unfold bj_;rw[cL1 (af_ _)];all_goals rfl
theorem uo_(x:Tab)(o:Nat)(vs:List AV)(h1:0≤o)(h2:o+vs.length≤33):spl (bj_ x) o vs=spl (cpC x.cp) (o-0) vs++[x.bals]:=by unfold bj_;rw[pL1 (af_ _)];all_goals rfl
theorem pV_(x:Tab):cut (bj_ x) 33 1=[x.bals]:=by unfold bj_;rw[cR1 (af_ _)];simp only[Nat.reduceSub];all_goals rfl
theorem pW_(x:Tab)(v:AV):spl (bj_ x) 33 [v]=bj_ { x with bals:=v }:=by unfold bj_;rw[pR1 (af_ _)];simp only[Nat.reduceSub];all_goals rfl
def Tab.map(g:AV→AV)(x:Tab):Tab:={ x with bals:=g x.bals }
theorem Tab.map_mk(g:AV→AV)(cp:Cp)(bals:AV):Tab.map g ⟨cp,bals⟩=⟨cp,g bals⟩:=rfl
def Tab.good(x:Tab):Bool:=x.bals.cell
theorem Tab.good_mk(cp:Cp)(bals:AV):Tab.good ⟨cp,bals⟩=(bals.cell):=rfl
def Tab.Pure(x:Tab):Prop:=Pu x.bals
theorem jm_(x:Tab):aC_ (bj_ x)=x.good:=by simp[bj_,Tab.good,Bool.and_assoc,aG_,aM_,aN_,AV.cell,df_]
theorem dR_(x:Tab):PuL (bj_ x)↔x.Pure:=by simp[bj_,Tab.Pure,bS_,PuL,Pu,cO_]
theorem qK_(ρ:Nat→Nat)(x:Tab):bh_ ρ (bj_ x)=bj_ (x.map (ren ρ)):=by simp only[bj_,Tab.map,eO_,bh_,ren,kM_]
theorem tu_(σ:St)(zs:List Nat)(x:Tab):fzL σ zs (bj_ x)=bj_ (x.map (fz σ zs)):=by simp only[bj_,Tab.map,fn_,fzL,fz,mF_]
def wg_:Tab:=⟨cp0,.sl 0 true []⟩
structure Vdt where
 tag:Int
 kind:Int
 latest:Rt
 deriving Inhabited,DecidableEq
def cm_(x:Vdt):List AV:=.int .u64 x.tag::(.int .i64 x.kind::(rtc x.latest))
@[simp] theorem ck_(x:Vdt):(cm_ x).length=34:=by simp only[cm_,List.length_cons,List.length_append,List.length_nil,ad_]
theorem zh_(tag:Int)(kind:Int)(latest:Rt):.int .u64 tag::(.int .i64 kind::(rtc latest))=cm_ ⟨tag,kind,latest⟩:=rfl
theorem zi_(x:Vdt):cut (cm_ x) 0 34=cm_ x:=bp_ (ck_ x)
theorem sz_(x:Vdt):cut (cm_ x) 0 1=[.int .u64 x.tag]:=by unfold cm_;all_goals rfl
theorem sA_(x:Vdt)(v:Int):spl (cm_ x) 0 [.int .u64 v]=cm_ { x with tag:=v }:=by unfold cm_;all_goals rfl
theorem pY_(x:Vdt):cut (cm_ x) 1 1=[.int .i64 x.kind]:=by unfold cm_;rw[cS1];simp only[Nat.reduceSub];all_goals rfl
theorem pZ_(x:Vdt)(v:Int):spl (cm_ x) 1 [.int .i64 v]=cm_ { x with kind:=v }:=by unfold cm_;rw[pS1];simp only[Nat.reduceSub];all_goals rfl
theorem mz_(x:Vdt)(o n:Nat)(h1:2≤o)(h2:o+n≤34):cut (cm_ x) o n=cut (rtc x.latest) (o-2) n:=by unfold cm_;rw[cS1,cS1];rw[show o-1-1=o-2 by omega]
theorem mA_(x:Vdt)(o:Nat)(vs:List AV)(h1:2≤o)(h2:o+vs.length≤34):spl (cm_ x) o vs=.int .u64 x.tag::(.int .i64 x.kind::(spl (rtc x.latest) (o-2) vs)):=by unfold cm_;rw[pS1,pS1];rw[show o-1-1=o-2 by omega]
theorem jn_(x:Vdt):aC_ (cm_ x)=true:=by simp[cm_,aG_,aM_,aN_,AV.cell,bo_]
theorem kh_(x:Vdt):PuL (cm_ x):=by simp[cm_,bS_,PuL,Pu,bT_]
theorem qL_(ρ:Nat→Nat)(x:Vdt):bh_ ρ (cm_ x)=cm_ x:=(kh_ x).ren ρ
theorem tv_(σ:St)(zs:List Nat)(x:Vdt):fzL σ zs (cm_ x)=cm_ x:=(kh_ x).fz σ zs
theorem vp_(x:Vdt):(cm_ x).map bm_=bq_ [(34,1)]:=by simp only[cm_,List.map_cons,List.map_append,List.map_nil,bm_,er_];decide +kernel
theorem xS_(x:Vdt):cZ_ [(34,1)] (cm_ x)=true:=cF_ (vp_ x)
theorem xf_(x y:Vdt):cu_ (cm_ x) (cm_ y)=some (decide (x=y)):=by cases x;cases y;simp[cm_,dt_,cu_,jI_,ad_,aq_,ez_,Bool.beq_eq_decide_eq,fo_,Bool.and_assoc,Bool.decide_and]
def Dw_:Vdt:=⟨0,0,rt0⟩
structure SOp where
 kind:Int
 blk:Blk
 att:Att
 slg:Slg
 tab:Tab
 vdt:Vdt
 write:Int
 keep:Int
 deriving Inhabited
def bu_(x:SOp):List AV:=.int .i64 x.kind::(aw_ x.blk++(bg_ x.att++(cw_ x.slg++(bj_ x.tab++(cm_ x.vdt++(.int .i64 x.write::[.int .i64 x.keep]))))))
@[simp] theorem lN_(x:SOp):(bu_ x).length=446:=by simp only[bu_,List.length_cons,List.length_append,List.length_nil,bb_,aD_,bk_,bK_,ck_]
theorem yC_(kind:Int)(blk:Blk)(att:Att)(slg:Slg)(tab:Tab)(vdt:Vdt)(write:Int)(keep:Int):.int .i64 kind::(aw_ blk++(bg_ att++(cw_ slg++(bj_ tab++(cm_ vdt++(.int .i64 write::[.int .i64 keep]))))))=bu_ ⟨kind,blk,att,slg,tab,vdt,write,keep⟩:=rfl
theorem yD_(x:SOp):cut (bu_ x) 0 446=bu_ x:=bp_ (lN_ x)
theorem py_(x:SOp):cut (bu_ x) 0 1=[.int .i64 x.kind]:=by unfold bu_;all_goals rfl
theorem pA_(x:SOp)(v:Int):spl (bu_ x) 0 [.int .i64 v]=bu_ { x with kind:=v }:=by unfold bu_;all_goals rfl
theorem rS_(x:SOp)(o n:Nat)(h1:1≤o)(h2:o+n≤239):cut (bu_ x) o n=cut (aw_ x.blk) (o-1) n:=by unfold bu_;rw[cS1,cL1 (aD_ _)];all_goals rfl
theorem rX_(x:SOp)(o:Nat)(vs:List AV)(h1:1≤o)(h2:o+vs.length≤239):spl (bu_ x) o vs=.int .i64 x.kind::(spl (aw_ x.blk) (o-1) vs++(bg_ x.att++(cw_ x.slg++(bj_ x.tab++(cm_ x.vdt++(.int .i64 x.write::[.int .i64 x.keep])))))):=by unfold bu_;rw[pS1,pL1 (aD_ _)];all_goals rfl
theorem rR_(x:SOp)(o n:Nat)(h1:239≤o)(h2:o+n≤306):cut (bu_ x) o n=cut (bg_ x.att) (o-239) n:=by unfold bu_;rw[cS1,cR1 (aD_ _),cL1 (bb_ _)];rw[show o-1-238=o-239 by omega]
theorem rW_(x:SOp)(o:Nat)(vs:List AV)(h1:239≤o)(h2:o+vs.length≤306):spl (bu_ x) o vs=.int .i64 x.kind::(aw_ x.blk++(spl (bg_ x.att) (o-239) vs++(cw_ x.slg++(bj_ x.tab++(cm_ x.vdt++(.int .i64 x.write::[.int .i64 x.keep])))))):=by unfold bu_;rw[pS1,pR1 (aD_ _),pL1 (bb_ _)];rw[show o-1-238=o-239 by omega]
theorem rT_(x:SOp)(o n:Nat)(h1:306≤o)(h2:o+n≤376):cut (bu_ x) o n=cut (cw_ x.slg) (o-306) n:=by unfold bu_;rw[cS1,cR1 (aD_ _)];rw[cR1 (bb_ _),cL1 (bk_ _)];rw[show o-1-238-67=o-306 by omega]
theorem rY_(x:SOp)(o:Nat)(vs:List AV)(h1:306≤o)(h2:o+vs.length≤376):spl (bu_ x) o vs=.int .i64 x.kind::(aw_ x.blk++(bg_ x.att++(spl (cw_ x.slg) (o-306) vs++(bj_ x.tab++(cm_ x.vdt++(.int .i64 x.write::[.int .i64 x.keep])))))):=by unfold bu_;rw[pS1,pR1 (aD_ _)];rw[pR1 (bb_ _),pL1 (bk_ _)];rw[show o-1-238-67=o-306 by omega]
theorem rU_(x:SOp)(o n:Nat)(h1:376≤o)(h2:o+n≤410):cut (bu_ x) o n=cut (bj_ x.tab) (o-376) n:=by unfold bu_;rw[cS1,cR1 (aD_ _)];rw[cR1 (bb_ _),cR1 (bk_ _),cL1 (bK_ _)];rw[show o-1-238-67-70=o-376 by omega]
theorem rZ_(x:SOp)(o:Nat)(vs:List AV)(h1:376≤o)(h2:o+vs.length≤410):spl (bu_ x) o vs=.int .i64 x.kind::(aw_ x.blk++(bg_ x.att++(cw_ x.slg++(spl (bj_ x.tab) (o-376) vs++(cm_ x.vdt++(.int .i64 x.write::[.int .i64 x.keep])))))):=by unfold bu_;rw[pS1,pR1 (aD_ _)];rw[pR1 (bb_ _),pR1 (bk_ _),pL1 (bK_ _)];rw[show o-1-238-67-70=o-376 by omega]
theorem rV_(x:SOp)(o n:Nat)(h1:410≤o)(h2:o+n≤444):cut (bu_ x) o n=cut (cm_ x.vdt) (o-410) n:=by unfold bu_;rw[cS1,cR1 (aD_ _)];rw[cR1 (bb_ _),cR1 (bk_ _)];rw[cR1 (bK_ _),cL1 (ck_ _)];rw[show o-1-238-67-70-34=o-410 by omega]
theorem sa_(x:SOp)(o:Nat)(vs:List AV)(h1:410≤o)(h2:o+vs.length≤444):spl (bu_ x) o vs=.int .i64 x.kind::(aw_ x.blk++(bg_ x.att++(cw_ x.slg++(bj_ x.tab++(spl (cm_ x.vdt) (o-410) vs++(.int .i64 x.write::[.int .i64 x.keep])))))):=by unfold bu_;rw[pS1,pR1 (aD_ _)];rw[pR1 (bb_ _),pR1 (bk_ _)];rw[pR1 (bK_ _),pL1 (ck_ _)];rw[show o-1-238-67-70-34=o-410 by omega]
theorem oi_(x:SOp):cut (bu_ x) 444 1=[.int .i64 x.write]:=by unfold bu_;rw[cS1,cR1 (aD_ _)];rw[cR1 (bb_ _),cR1 (bk_ _)];rw[cR1 (bK_ _),cR1 (ck_ _)];simp only[Nat.reduceSub];all_goals rfl
theorem oj_(x:SOp)(v:Int):spl (bu_ x) 444 [.int .i64 v]=bu_ { x with write:=v }:=by unfold bu_;rw[pS1,pR1 (aD_ _)];rw[pR1 (bb_ _),pR1 (bk_ _)];rw[pR1 (bK_ _),pR1 (ck_ _)];simp only[Nat.reduceSub];all_goals rfl
theorem px_(x:SOp):cut (bu_ x) 445 1=[.int .i64 x.keep]:=by unfold bu_;rw[cS1,cR1 (aD_ _)];rw[cR1 (bb_ _),cR1 (bk_ _)];rw[cR1 (bK_ _),cR1 (ck_ _),cS1];simp only[Nat.reduceSub];all_goals rfl
theorem pz_(x:SOp)(v:Int):spl (bu_ x) 445 [.int .i64 v]=bu_ { x with keep:=v }:=by unfold bu_;rw[pS1,pR1 (aD_ _)];rw[pR1 (bb_ _),pR1 (bk_ _)];rw[pR1 (bK_ _),pR1 (ck_ _),pS1];simp only[Nat.reduceSub];all_goals rfl
def SOp.map(g:AV→AV)(x:SOp):SOp:={ x with att:=x.att.map g,slg:=x.slg.map g,tab:=x.tab.map g }
theorem SOp.map_mk(g:AV→AV)(kind:Int)(blk:Blk)(att:Att)(slg:Slg)(tab:Tab)(vdt:Vdt)(write:Int)(keep:Int):SOp.map g ⟨kind,blk,att,slg,tab,vdt,write,keep⟩=⟨kind,blk,att.map g,slg.map g,tab.map g,vdt,write,keep⟩:=rfl
def SOp.good(x:SOp):Bool:=x.att.good&&x.slg.good&&x.tab.good
theorem SOp.good_mk(kind:Int)(blk:Blk)(att:Att)(slg:Slg)(tab:Tab)(vdt:Vdt)(write:Int)(keep:Int):SOp.good ⟨kind,blk,att,slg,tab,vdt,write,keep⟩=(att.good&&slg.good&&tab.good):=rfl
def SOp.Pure(x:SOp):Prop:=x.att.Pure∧x.slg.Pure∧x.tab.Pure
theorem oF_(x:SOp):aC_ (bu_ x)=x.good:=by simp[bu_,SOp.good,Bool.and_assoc,aG_,aM_,aN_,AV.cell,je_,gp_,jk_,jm_,jn_]
theorem zr_(x:SOp):PuL (bu_ x)↔x.Pure:=by simp[bu_,SOp.Pure,bS_,PuL,Pu,fw_,cR_,sI_,dR_,kh_]
theorem yz_(ρ:Nat→Nat)(x:SOp):bh_ ρ (bu_ x)=bu_ (x.map (ren ρ)):=by simp only[bu_,SOp.map,eO_,bh_,ren,qD_,qE_,qI_,qK_,qL_]
theorem Al_(σ:St)(zs:List Nat)(x:SOp):fzL σ zs (bu_ x)=bu_ (x.map (fz σ zs)):=by simp only[bu_,SOp.map,fn_,fzL,fz,tm_,tn_,ts_,tu_,tv_]
def Fu_:SOp:=⟨0,eW_,DY_,Et_,wg_,Dw_,0,0⟩
end Go.FH
namespace Go.FH
open Go Go.RowKit
set_option linter.unusedVariables false
theorem Go_(P:Program)(nv:Nat)(vs:List AV)(ts:List (Nat×AV))(σ:St)(K:AV→St→Prop):type_of% (evO P ⟨nv,vs,ts⟩ σ K):=evO P ⟨nv,vs,ts⟩ σ K
theorem Gp_(P:Program)(nv:Nat)(vs:List AV)(ts:List (Nat×AV))(σ:St)(K:AV→St→Prop):type_of% (evM P ⟨nv,vs,ts⟩ σ K):=evM P ⟨nv,vs,ts⟩ σ K
theorem Gq_(P:Program)(nv:Nat)(vs:List AV)(ts:List (Nat×AV))(σ:St)(K:AV→St→Prop):type_of% (evA P ⟨nv,vs,ts⟩ σ K):=evA P ⟨nv,vs,ts⟩ σ K
theorem Gr_(P:Program)(nv:Nat)(vs:List AV)(ts:List (Nat×AV))(σ:St)(n:Nat)(K:AV→List Nat→List Nat→St→Prop):type_of% (Fa_ P σ n nv vs ts K):=Fa_ P σ n nv vs ts K
theorem Gs_(P:Program)(nv:Nat)(vs:List AV)(ts:List (Nat×AV))(σ:St)(K:AV→St→Prop):type_of% (Fb_ P σ K nv vs ts):=Fb_ P σ K nv vs ts
attribute [go_sem] Gr_ Gs_ Gm_ Gn_
attribute [go_sem] Go_ Gp_ Gq_ evF evQ evR evL evD opF evH evK vz_ vy_ Eq_ Ep_ Er_ uH_ Ay_ eY_ iN_ AOp.allocs vt_ eL_ List.length_set List.length_append List.length_cons List.length_nil List.map_cons List.map_nil List.set_cons_zero List.set_cons_succ List.getElem?_cons_zero List.getElem?_cons_succ List.getElem?_nil List.nil_append List.cons_append List.append_nil if_true if_false true_and and_true true_or or_true Bool.false_eq_true not_false_eq_true not_true_eq_false Int.toNat_natCast Bool.not_true Bool.not_false cond_true cond_false Int.natCast_nonneg forall_const false_implies implies_true Nat.sub_zero Nat.zero_add Nat.add_zero List.drop_zero decide_true decide_false ky_ jR_ tf_ iK_ DE_ DD_ DC_ EW_ EV_ ug_ DO_ DN_ DM_ Fz_ FA_ AY_ BL_ ad_ aq_ bo_ gR_ ir_ tX_ ez_ sK_ tg_ Ad_ xy_ lL_ zV_ af_ zU_ uR_ uT_ uS_ uU_ df_ kM_ Ac_ mQ_ yp_ aF_ yo_ vP_ vR_ vO_ vQ_ jj_ yy_ xQ_ qi_ xo_ aD_ xn_ rh_ rj_ oS_ oW_ oR_ oV_ lV_ lX_ kV_ kW_ oP_ oT_ mT_ mU_ oQ_ oU_ rg_ ri_ lW_ lY_ gp_ qE_ xM_ qg_ xi_ bb_ xh_ oK_ oN_ oJ_ oM_ lT_ lU_ oL_ oO_ Att.map_mk Att.good_mk je_ qD_ xA_ da_ xz_ rs_ ru_ rt_ rv_ oZ_ pb_ pa_ pc_ Clm.map_mk Clm.good_mk jg_ qF_ yI_ bk_ yH_ sc_ se_ sd_ sf_ Slg.map_mk Slg.good_mk jk_ qI_ yS_ bK_ yR_ un_ uo_ pV_ pW_ Tab.map_mk Tab.good_mk jm_ qK_ zi_ ck_ zh_ sz_ sA_ pY_ pZ_ mz_ mA_ jn_ qL_ xS_ xf_ yD_ lN_ yC_ py_ pA_ rS_ rX_ rR_ rW_ rT_ rY_ rU_ rZ_ rV_ sa_ oi_ oj_ px_ pz_ SOp.map_mk SOp.good_mk oF_ yz_ cp0 tU_ eW_ DY_ Ce_ Et_ wg_ Dw_ Fu_ aN_ aG_ aM_ AV.cell List.all_cons List.all_nil Bool.and_true Bool.true_and List.replicate_succ List.replicate_zero beq_self_eq_true ne_eq bh_ ren rdS ff_ List.flatten_cons List.flatten_nil zH_ Ca_ zI_ zG_ List.take_of_length_le Nat.le_refl fM_ gy_ List.isEmpty_nil List.isEmpty_cons List.filter_cons List.filter_nil decide_eq_true_eq bne_self_eq_false Bool.bne_false Bool.bne_true Option.isNone_some Option.isNone_none Bool.and_false Bool.false_and Bool.not_eq_true Bool.not_eq_false eq_self zK_ Bool.true_eq_false forall_eq
attribute [go_sem] vW_ tZ_ tY_ jV_ Option.map_some
attribute [go_sem] kB_ wz_ mF_ Aj_ tn_ tm_ tp_ ts_ tu_ tv_ Al_ gs_ es_ fr_ aj_ eg_ rn dA_ yu_ bx_ fz fzL fzO Af_ cf_ fe_ List.getD_cons_zero List.getD_cons_succ List.getD_nil List.take_zero List.take_succ_cons List.take_nil List.drop_succ_cons List.drop_nil List.getElem?_cons_zero List.getElem?_cons_succ List.getElem?_nil Option.map_none and_self List.mem_cons List.not_mem_nil or_false false_or or_self List.range_zero List.range_succ List.mem_append List.mem_singleton List.contains_eq_mem List.mem_range Nat.sub_self dx_
structure Hid(q:Prop):Prop where
 out:q
theorem evd{p:Prop}(h:p:=by((try simp only[go_sem,Nat.reduceAdd,Nat.reduceSub,Nat.reduceMul,Nat.reduceLT,Nat.reduceLeDiff,Nat.reduceEqDiff,reduceIte,Int.reduceToNat,Int.reduceLT,Int.reduceLE,Int.reduceEq,Int.reduceNeg,reduceCtorEq,Int.reduceBEq,Int.reduceBNe]);try rfl)):p:=h
theorem evg{p q:Prop}(hq:q)(h:Hid q→p:=by(intro hq;(try simp only[go_sem,Nat.reduceAdd,Nat.reduceSub,Nat.reduceMul,Nat.reduceLT,Nat.reduceLeDiff,Nat.reduceEqDiff,reduceIte,Int.reduceToNat,Int.reduceLT,Int.reduceLE,Int.reduceEq,Int.reduceNeg,reduceCtorEq,Int.reduceBEq,Int.reduceBNe]);exact hq.out)):p:=h ⟨hq⟩
theorem aa_{p q:Prop}(hq:q) (h:Hid q→p:=by
 (intro hq
  (first|with_reducible (first|refine ex_ ?_|refine dP_ ?_|refine dk_ ?_|refine eR_ (by simp only[List.length_cons,List.length_nil]) ?_|refine eT_ ?_|refine eS_ ?_|refine go_ ?_)|(simp only[go_sem,Nat.reduceAdd,Nat.reduceSub,Nat.reduceMul,Nat.reduceLT,Nat.reduceLeDiff,Nat.reduceEqDiff,reduceIte,Int.reduceToNat,Int.reduceLT,Int.reduceLE,Int.reduceEq,Int.reduceNeg,reduceCtorEq,Int.reduceBEq,Int.reduceBNe])|with_reducible refine And.intro (fL_ (by decide)) ?_|(with_reducible refine And.intro ?_ ?_;first|omega|decide|(simp;done)|(simp;omega)))
  repeat(first|with_reducible (first|refine ex_ ?_|refine dP_ ?_|refine dk_ ?_|refine eR_ (by simp only[List.length_cons,List.length_nil]) ?_|refine eT_ ?_|refine eS_ ?_|refine go_ ?_)|(simp only[go_sem,Nat.reduceAdd,Nat.reduceSub,Nat.reduceMul,Nat.reduceLT,Nat.reduceLeDiff,Nat.reduceEqDiff,reduceIte,Int.reduceToNat,Int.reduceLT,Int.reduceLE,Int.reduceEq,Int.reduceNeg,reduceCtorEq,Int.reduceBEq,Int.reduceBNe])|with_reducible refine And.intro (fL_ (by decide)) ?_|(with_reducible refine And.intro ?_ ?_;first|omega|decide|(simp;done)|(simp;omega)))
  exact hq.out)):p:=h ⟨hq⟩
theorem uh_{p q:Prop}(hq:q) (h:Hid q→p:=by
 (intro hq
  repeat(first|(simp only[go_sem,Nat.reduceAdd,Nat.reduceSub,Nat.reduceMul,Nat.reduceLT,Nat.reduceLeDiff,Nat.reduceEqDiff,reduceIte,Int.reduceToNat,Int.reduceLT,Int.reduceLE,Int.reduceEq,Int.reduceNeg,reduceCtorEq,Int.reduceBEq,Int.reduceBNe])|with_reducible refine And.intro (fL_ (by decide)) ?_|(with_reducible refine And.intro ?_ ?_;first|omega|decide|(simp;done)|(simp;omega)))
  exact hq.out)):p:=h ⟨hq⟩
section
variable{P:Program}{nt k:Nat}{fr:Fr}{σ:St}{c:Opd}{x y:ah_}{Q:Ex→Fr→St→Prop}
theorem ab_(h:Tri P nt k x Q fr σ)(hb:c.ev fr=.bool true:=by((try simp only[go_sem,Nat.reduceAdd,Nat.reduceSub,Nat.reduceMul,Nat.reduceLT,Nat.reduceLeDiff,Nat.reduceEqDiff,reduceIte,Int.reduceToNat,Int.reduceLT,Int.reduceLE,Int.reduceEq,Int.reduceNeg,reduceCtorEq,Int.reduceBEq,Int.reduceBNe]);try rfl)):Tri P nt k (.cond c x y) Q fr σ:=dC_ hb (fun _=>h) (fun h=>by cases h)
theorem ac_(h:Tri P nt k y Q fr σ)(hb:c.ev fr=.bool false:=by((try simp only[go_sem,Nat.reduceAdd,Nat.reduceSub,Nat.reduceMul,Nat.reduceLT,Nat.reduceLeDiff,Nat.reduceEqDiff,reduceIte,Int.reduceToNat,Int.reduceLT,Int.reduceLE,Int.reduceEq,Int.reduceNeg,reduceCtorEq,Int.reduceBEq,Int.reduceBNe]);try rfl)):Tri P nt k (.cond c x y) Q fr σ:=dC_ hb (fun h=>by cases h) (fun _=>h)
end
end Go.FH
namespace Go.FH
open Go Go.RowKit
set_option linter.unusedVariables false
set_option linter.unusedSimpArgs false
theorem evP:
 (∀n σ K,eM_ n σ K .mkm []=K (.mp n) [n] true (σ.set n (.map [])))∧
 (∀n σ K kk z ok id k,eM_ n σ K (.lkp kk z ok) [.mp id,k]=(gJ_ kk k=true∧match σ[id]? with
  | some (.map es) => (match hA_ kk k es with
    |some (some j)=>K (if ok then .tup [(es.getD j []).getD 1 .dead,.bool true]else (es.getD j []).getD 1 .dead) [id] false σ
    |some none=>K (if ok then .tup [z,.bool false]else z) [id] false σ
    |none=>False)
  |_=>False))∧
 (∀n σ K kk id k v,eM_ n σ K (.upd kk) [.mp id,k,v]=(gJ_ kk k=true∧match σ[id]? with
  | some (.map es) => (match hA_ kk k es with
    |some (some j)=>K (.tup []) [id] true (σ.set id (.map (es.set j [k,v])))
    |some none=>K (.tup []) [id] true (σ.set id (.map (es++[[k,v]])))
    |none=>False)
  |_=>False))∧
 (∀n σ K id,eM_ n σ K .rng [.mp id]=(match σ[id]? with
  |some (.map es)=>K (.ptr n 0) [n,id] true (σ.set n (.iter id es.length []))
  |_=>False))∧
 (∀n σ K id,eM_ n σ K .ent [.ptr id 0]=(match σ[id]? with
  | some (.iter m N seen) => (match seen.getLast?, σ[m]? with
    |some i,some (.map es)=>es.length=N∧i<N∧K (.tup (es.getD i [])) [id,m] false σ
    |_,_=>False)
  |_=>False))∧
 (∀id σ K,hh_ (.ptr id 0) σ K=(match σ[id]? with
  | some (.iter m N seen) => (match σ[m]? with
    |some (.map es)=>id≠m∧es.length=N∧(∀i,i<N→i∉seen→K (.tup (.bool true::es.getD i [])) (σ.set id (.iter m N (seen++[i]))))∧((∀i,i<N→i∈seen)→K (.tup [.bool false]) σ)
    |_=>False)
  |_=>False))∧
 (∀k n,gJ_ none (.int k n)=true)∧(∀n cs,gJ_ (some n) (.agg cs)=cZ_ [(n,1)] cs)∧
 (∀id,AV.cellsOf (.mp id)=[.mp id])∧(∀σ zs id,fz σ zs (.mp id)=.mp id)∧(∀ρ id,ren ρ (.mp id)=.mp (ρ id)):=
 ⟨fun _ _ _=>rfl,fun _ _ _ _ _ _ _ _=>rfl,fun _ _ _ _ _ _ _=>rfl,fun _ _ _ _=>rfl,fun _ _ _ _=>rfl,fun _ _ _=>rfl,fun _ _=>rfl,fun _ _=>rfl,fun _=>rfl,fun _ _ _=>rfl,fun _ _=>rfl⟩
attribute [go_sem] evP List.getLast?_concat List.getLast?_singleton
end Go.FH
namespace Go.FH
set_option linter.unusedVariables false
set_option linter.unusedSimpArgs false
open Go Go.RowKit
section
variable{P:Program}{C:Cx}{nt k:Nat}{fr:Fr}{σ:St}{loc:Nat→Option Loc}{a:Act}{w:World}
theorem SR.own(h:SR C nt k fr σ loc a w)(e:Nat):SR C nt k fr (σ++[.vec e []]) (dp_ loc σ.length ⟨false,0,0,0⟩) a w:=by
 have hg:loc σ.length=none:=h.rel.beyond _ (Nat.le_refl _);have hp:=h.pad 1;obtain⟨k1,k2⟩:=hp.rel.add (n:=σ.length) (by simp) hg (.vec e []) ⟨false,0,0,0⟩ w (Ev.refl _ _) (σ++List.replicate 1 .gone) (fun _ _ h _=>h) rfl (fun id o' L' _ _ _ _=>⟨(fun h=>by cases h),rfl⟩) (fun h=>by cases h) (fun E _ _=>.inl ⟨rfl,rfl⟩);have hs:(σ++List.replicate 1 aJ_.gone).set σ.length (.vec e [])=σ++[.vec e []]:=iM_ σ _;rw[hs]at k1 k2;have hle:=eJ_ (X:=C.X) hp.rel (bZ_ hg _) (Ev.refl _ _) k2;refine⟨k1,fun t=>Rl.mono hle _ _ (hp.frm t),h.size,h.dfr,h.ev,fun b hb=>(k2 b hb).elim (hp.old b) fun h1=>.inr (Nat.le_trans (h.ev.size) h1),fun id hid=>?_,by simp;have:=h.klen;omega⟩;rw[bw_ _ _ _ (by have:=h.klen;omega)];exact h.pre id hid
theorem AK_{E:Env}{e e0 id:Nat}{v:Value}(hl:E.loc id=some ⟨false,0,0,0⟩)(h:Rl E (.sl e0 true []) v):Rl E (.hs e id 0 0) v:=by
 obtain⟨ad,n,cap,h1,h2,h3,h4,h5,h6,h7⟩:=h;have hn:n=0:=by simpa using h2
 have hc:cap=n:=h5 rfl;subst hn;subst hc;exact⟨ad,0,_,h1,Nat.le_refl _,h4,fun _=>rfl,hl,.inl ⟨rfl,fun h=>(by cases h)⟩⟩
theorem gn_{c:ah_}{Q:Ex→Fr→St→Prop}(t e:Nat){e0:Nat}(hq:Tri P nt k c Q (fr.put t (.hs e σ.length 0 0)) (σ++[.vec e []]))(h0:fr.get t=.sl e0 true []:=by first|rfl|(simp only[go_sem];rfl)):Tri P nt k c Q fr σ:=by
 intro fx code hc C loc a w hs;have h1:=hs.own e;refine hq fx code hc C _ a w (h1.putSame t _ (AK_ (e0:=e0) (bl_ _ _ _) ?_));have:=h1.frm t;rwa [h0]at this
theorem wm_{E:Env}{c:AV}:∀ {cs:List AV} {vs:List Value} (i:Nat),RlC E cs vs→c.cell=true→(∀v,Rl E (cs.getD i .dead) v→Rl E c v)→RlC E (cs.set i c) vs
 | [],_,_,h,_,_=>by simpa using h
 | x :: cs, _, 0, h, hc, hi => by
   obtain⟨u,us,rfl,h2,h3,h4⟩:=h;exact⟨u,us,rfl,hc,hi u (by simpa using h3),h4⟩
 | x :: cs, _, i + 1, h, hc, hi => by
   obtain⟨u,us,rfl,h2,h3,h4⟩:=h;exact⟨u,us,rfl,h2,h3,wm_ i h4 hc (fun v hv=>hi v (by simpa using hv))⟩
theorem oz_{c:ah_}{Q:Ex→Fr→St→Prop}(id i e:Nat){e0:Nat}{cs:List AV}(hq:Tri P nt k c Q fr (σ.set id (.var (cs.set i (.hs e σ.length 0 0)))++[.vec e []]))(ho:σ[id]?=some (.var cs):=by first|rfl|(simp only[go_sem];rfl))(h0:cs.getD i .dead=.sl e0 true []:=by first|rfl|(simp only[go_sem];rfl)):Tri P nt k c Q fr σ:=by
 intro fx code hc C loc a w hs;have h1:=hs.own e;have hid:id<σ.length:=(List.getElem?_eq_some_iff.1 ho).1;have ho2:(σ++[aJ_.vec e []])[id]?=some (.var cs):=by rw[List.getElem?_append_left hid];exact ho
 have hset:(σ++[aJ_.vec e []]).set id (.var (cs.set i (.hs e σ.length 0 0)))=σ.set id (.var (cs.set i (.hs e σ.length 0 0)))++[.vec e []]:=List.set_append_left _ _ hid;refine hq fx code hc C (dp_ loc σ.length ⟨false,0,0,0⟩) a w ?_;rw[←hset]
 have hl:∀b,an_ ((σ++[aJ_.vec e []]).set id (.var (cs.set i (.hs e σ.length 0 0)))) (dp_ loc σ.length ⟨false,0,0,0⟩) b↔an_ (σ++[aJ_.vec e []]) (dp_ loc σ.length ⟨false,0,0,0⟩) b:=by
  intro b;constructor
  ·rintro⟨j,oj,L,g1,g2,g3,g4⟩;rcases bO_ _ id j _ g1 with⟨rfl,rfl,_⟩|⟨g5,g6⟩
   ·exact⟨_,_,L,ho2,rfl,g3,g4⟩
   ·exact⟨j,oj,L,g6,g2,g3,g4⟩
  ·rintro⟨j,oj,L,g1,g2,g3,g4⟩
   by_cases hj:j=id
   ·subst hj;refine⟨j,.var (cs.set i (.hs e σ.length 0 0)),L,?_,rfl,g3,g4⟩;rw[List.getElem?_set_self (List.getElem?_eq_some_iff.1 g1).1]
   ·exact⟨j,oj,L,by rw[List.getElem?_set_ne (Ne.symm hj)];exact g1,g2,g3,g4⟩
 have hF:cz_ C.X ((σ++[aJ_.vec e []]).set id (.var (cs.set i (.hs e σ.length 0 0)))) (dp_ loc σ.length ⟨false,0,0,0⟩)=cz_ C.X (σ++[aJ_.vec e []]) (dp_ loc σ.length ⟨false,0,0,0⟩):=by
  funext b;unfold cz_;rw[hl b]
 have hget:∀ (j:Nat) (o:aJ_),((σ++[aJ_.vec e []]).set id (.var (cs.set i (.hs e σ.length 0 0))))[j]?=some o→o.live=true→∃o',(σ++[aJ_.vec e []])[j]?=some o'∧o'.live=true:=by
  intro j o g1 g2;rcases bO_ _ id j _ g1 with⟨rfl,rfl,_⟩|⟨g5,g6⟩
  ·exact⟨_,ho2,rfl⟩
  ·exact⟨o,g6,g2⟩
 refine⟨⟨fun j o g1 g2=>?_,fun i' j x y La Lb hij g1 g2 g3 g4=>?_,fun b hb=>?_,fun j hj=>h1.rel.beyond j (by simpa using hj)⟩,fun t=>?_,h1.size,h1.dfr,h1.ev,fun b hb=>h1.old b ((hl b).1 hb),h1.pre,by simp;have:=hs.klen;omega⟩
 ·show ∃L,_∧dr_ ⟨_,cz_ C.X _ _,w⟩ L o
  rw[hF];rcases bO_ _ id j _ g1 with⟨rfl,rfl,_⟩|⟨g5,g6⟩
  ·obtain⟨L,m1,m2,m3,vs,t,m4,m5⟩:=h1.rel.obj _ _ ho2 rfl;exact⟨L,m1,m2,m3,vs,t,m4,wm_ i m5 rfl fun v hv=>AK_ (e0:=e0) (bl_ _ _ _) (by rwa [h0]at hv)⟩
  ·exact h1.rel.obj j o g6 g2
 ·obtain⟨x',k1,k2⟩:=hget i' x g1 g3;obtain⟨y',k3,k4⟩:=hget j y g2 g4;exact h1.rel.apart i' j x' y' La Lb hij k1 k3 k2 k4
 ·rw[hl b];exact h1.rel.out b hb
 ·show Rl ⟨_,cz_ C.X _ _,w⟩ _ _
  rw[hF];exact h1.frm t
theorem PC.weak{f:FuncId}{args:List AV}{r r':AV}(h:PC P f args r)(hw:Wk r r')(hr:Pu r'):PC P f args r':=
 ⟨⟨h.call.1,h.call.2.1,fun X loc w vs hrel hv=>(h.call.2.2 X loc w vs hrel hv).mono fun e w' ⟨v,loc',h1,h2,h3⟩=>⟨v,loc',h1,⟨h2.locs,h2.rel,hw _ _ h2.val,h2.ev,h2.old⟩,h3⟩⟩,h.pa,hr⟩
def ly_(us:List (Nat×AV))(vs:List AV):List AV:=us.foldl (fun l p=>l.set p.1 p.2) vs
theorem aE_{ι:Type}{x:ah_}{Q:Ex→Fr→St→Prop}{nv:Nat}{vs:List AV}{ts:List (Nat×AV)}(us:ι→List (Nat×AV))(S:ι→St)(μ:ι→Nat)(ok:ι→Prop)(x0:ι)(h0:ok x0)(hgc:GC k ⟨nv,vs,ts⟩ σ ⟨nv,ly_ (us x0) vs,[]⟩ (S x0))
 (round:∀i,ok i→Tri P nt k x (eQ_ (fun fr σ=>∃j,ok j∧μ j<μ i∧GC k fr σ ⟨nv,ly_ (us j) vs,[]⟩ (S j)) Q) ⟨nv,ly_ (us i) vs,[]⟩ (S i)):Tri P nt k (.loop x) Q ⟨nv,vs,ts⟩ σ:=
 za_ (fun i=>⟨nv,ly_ (us i) vs,[]⟩) S μ ok x0 h0 hgc round
theorem om_(vs:List AV):ly_ [] vs=vs:=rfl
theorem qO_(p:Nat×AV)(us:List (Nat×AV))(vs:List AV):ly_ (p::us) vs=ly_ us (vs.set p.1 p.2):=rfl
attribute [go_sem] om_ qO_
theorem lB_{c:Opd}{x y:ah_}{Q:Ex→Fr→St→Prop}{t:Bool}(h1:t=true→Tri P nt k x Q fr σ)(h2:t=false→Tri P nt k y Q fr σ)(hb:c.ev fr=.bool t:=by first|rfl|(simp only[go_sem];rfl)):Tri P nt k (.cond c x y) Q fr σ:=dC_ hb h1 h2
end
theorem pi_{a b c:List AV}(ha:a.length=33)(hb:b.length=33):cut (a++(b++c)) 0 66=a++b:=by
 unfold cut;rw[List.drop_zero,←List.append_assoc,show 66=(a++b).length by simp[ha,hb],List.take_left]
theorem pC_{a b c x y:List AV}(ha:a.length+b.length=x.length+y.length):spl (a++(b++c)) 0 (x++y)=x++(y++c):=by
 unfold spl;simp only[List.take_zero,List.nil_append,Nat.zero_add,List.append_assoc];rw[←List.append_assoc a b c,List.drop_left' (by simp;omega)]
structure Lim where
 node:Int
 orph:Int
 early:Int
 table:Int
 retry:Int
 backoff:Int
 deriving Inhabited,DecidableEq
def br_(x:Lim):List AV:=.int .i64 x.node::(.int .i64 x.orph::(.int .i64 x.early::(.int .i64 x.table::(.int .i64 x.retry::[.int .u64 x.backoff]))))
@[simp] theorem aS_(x:Lim):(br_ x).length=6:=by simp only[br_,List.length_cons,List.length_append,List.length_nil]
theorem yb_(node:Int)(orph:Int)(early:Int)(table:Int)(retry:Int)(backoff:Int):.int .i64 node::(.int .i64 orph::(.int .i64 early::(.int .i64 table::(.int .i64 retry::[.int .u64 backoff]))))=br_ ⟨node,orph,early,table,retry,backoff⟩:=rfl
theorem yc_(x:Lim):cut (br_ x) 0 6=br_ x:=bp_ (aS_ x)
theorem ps_(x:Lim):cut (br_ x) 0 1=[.int .i64 x.node]:=by unfold br_;all_goals rfl
theorem pu_(x:Lim)(v:Int):spl (br_ x) 0 [.int .i64 v]=br_ { x with node:=v }:=by unfold br_;all_goals rfl
theorem pt_(x:Lim):cut (br_ x) 1 1=[.int .i64 x.orph]:=by unfold br_;rw[cS1];simp only[Nat.reduceSub];all_goals rfl
theorem pv_(x:Lim)(v:Int):spl (br_ x) 1 [.int .i64 v]=br_ { x with orph:=v }:=by unfold br_;rw[pS1];simp only[Nat.reduceSub];all_goals rfl
theorem nI_(x:Lim):cut (br_ x) 2 1=[.int .i64 x.early]:=by unfold br_;rw[cS1,cS1];simp only[Nat.reduceSub];all_goals rfl
theorem nL_(x:Lim)(v:Int):spl (br_ x) 2 [.int .i64 v]=br_ { x with early:=v }:=by unfold br_;rw[pS1,pS1];simp only[Nat.reduceSub];all_goals rfl
theorem nK_(x:Lim):cut (br_ x) 3 1=[.int .i64 x.table]:=by unfold br_;rw[cS1,cS1,cS1];simp only[Nat.reduceSub];all_goals rfl
theorem nN_(x:Lim)(v:Int):spl (br_ x) 3 [.int .i64 v]=br_ { x with table:=v }:=by unfold br_;rw[pS1,pS1,pS1];simp only[Nat.reduceSub];all_goals rfl
theorem nJ_(x:Lim):cut (br_ x) 4 1=[.int .i64 x.retry]:=by unfold br_;rw[cS1,cS1];rw[cS1,cS1];simp only[Nat.reduceSub];all_goals rfl
theorem nM_(x:Lim)(v:Int):spl (br_ x) 4 [.int .i64 v]=br_ { x with retry:=v }:=by unfold br_;rw[pS1,pS1];rw[pS1,pS1];simp only[Nat.reduceSub];all_goals rfl
theorem lk_(x:Lim):cut (br_ x) 5 1=[.int .u64 x.backoff]:=by unfold br_;rw[cS1,cS1];rw[cS1,cS1,cS1];simp only[Nat.reduceSub];all_goals rfl
theorem ll_(x:Lim)(v:Int):spl (br_ x) 5 [.int .u64 v]=br_ { x with backoff:=v }:=by unfold br_;rw[pS1,pS1];rw[pS1,pS1,pS1];simp only[Nat.reduceSub];all_goals rfl
theorem ji_(x:Lim):aC_ (br_ x)=true:=by simp[br_,aG_,aM_,aN_,AV.cell]
theorem gv_(x:Lim):PuL (br_ x):=by simp[br_,bS_,PuL,Pu]
theorem lu_(ρ:Nat→Nat)(x:Lim):bh_ ρ (br_ x)=br_ x:=(gv_ x).ren ρ
theorem tr_(σ:St)(zs:List Nat)(x:Lim):fzL σ zs (br_ x)=br_ x:=(gv_ x).fz σ zs
theorem vm_(x:Lim):(br_ x).map bm_=bq_ [(6,1)]:=by simp only[br_,List.map_cons,List.map_append,List.map_nil,bm_];decide +kernel
theorem xO_(x:Lim):cZ_ [(6,1)] (br_ x)=true:=cF_ (vm_ x)
theorem xc_(x y:Lim):cu_ (br_ x) (br_ y)=some (decide (x=y)):=by cases x;cases y;simp[br_,dt_,cu_,jI_,ad_,aq_,Bool.beq_eq_decide_eq,fo_,Bool.and_assoc,Bool.decide_and]
def Cq_:Lim:=⟨0,0,0,0,0,0⟩
structure Cfg where
 lim:Lim
 spe:Int
 boost:Int
 ttd:Wd
 gen:Rt
 bals:AV
 deriving Inhabited
def aU_(x:Cfg):List AV:=br_ x.lim++(.int .u64 x.spe::(.int .u64 x.boost::(wdc x.ttd++(rtc x.gen++[x.bals]))))
@[simp] theorem ar_(x:Cfg):(aU_ x).length=45:=by simp only[aU_,List.length_cons,List.length_append,List.length_nil,aS_,ad_,aq_]
theorem xt_(lim:Lim)(spe:Int)(boost:Int)(ttd:Wd)(gen:Rt)(bals:AV):br_ lim++(.int .u64 spe::(.int .u64 boost::(wdc ttd++(rtc gen++[bals]))))=aU_ ⟨lim,spe,boost,ttd,gen,bals⟩:=rfl
theorem xu_(x:Cfg):cut (aU_ x) 0 45=aU_ x:=bp_ (ar_ x)
theorem rl_(x:Cfg)(o n:Nat)(h1:0≤o)(h2:o+n≤6):cut (aU_ x) o n=cut (br_ x.lim) (o-0) n:=by unfold aU_;rw[cL1 (aS_ _)];all_goals rfl
theorem rp_(x:Cfg)(o:Nat)(vs:List AV)(h1:0≤o)(h2:o+vs.length≤6):spl (aU_ x) o vs=spl (br_ x.lim) (o-0) vs++(.int .u64 x.spe::(.int .u64 x.boost::(wdc x.ttd++(rtc x.gen++[x.bals])))):=by unfold aU_;rw[pL1 (aS_ _)];all_goals rfl
theorem rm_(x:Cfg):cut (aU_ x) 6 1=[.int .u64 x.spe]:=by unfold aU_;rw[cR1 (aS_ _)];simp only[Nat.reduceSub];all_goals rfl
theorem rq_(x:Cfg)(v:Int):spl (aU_ x) 6 [.int .u64 v]=aU_ { x with spe:=v }:=by unfold aU_;rw[pR1 (aS_ _)];simp only[Nat.reduceSub];all_goals rfl
theorem na_(x:Cfg):cut (aU_ x) 7 1=[.int .u64 x.boost]:=by unfold aU_;rw[cR1 (aS_ _),cS1];simp only[Nat.reduceSub];all_goals rfl
theorem nb_(x:Cfg)(v:Int):spl (aU_ x) 7 [.int .u64 v]=aU_ { x with boost:=v }:=by unfold aU_;rw[pR1 (aS_ _),pS1];simp only[Nat.reduceSub];all_goals rfl
theorem rn_(x:Cfg)(o n:Nat)(h1:8≤o)(h2:o+n≤12):cut (aU_ x) o n=cut (wdc x.ttd) (o-8) n:=by unfold aU_;rw[cR1 (aS_ _),cS1];rw[cS1,cL1 (aq_ _)];rw[show o-6-1-1=o-8 by omega]
theorem rr_(x:Cfg)(o:Nat)(vs:List AV)(h1:8≤o)(h2:o+vs.length≤12):spl (aU_ x) o vs=br_ x.lim++(.int .u64 x.spe::(.int .u64 x.boost::(spl (wdc x.ttd) (o-8) vs++(rtc x.gen++[x.bals])))):=by unfold aU_;rw[pR1 (aS_ _),pS1];rw[pS1,pL1 (aq_ _)];rw[show o-6-1-1=o-8 by omega]
theorem rk_(x:Cfg)(o n:Nat)(h1:12≤o)(h2:o+n≤44):cut (aU_ x) o n=cut (rtc x.gen) (o-12) n:=by unfold aU_;rw[cR1 (aS_ _),cS1];rw[cS1,cR1 (aq_ _),cL1 (ad_ _)];rw[show o-6-1-1-4=o-12 by omega]
theorem ro_(x:Cfg)(o:Nat)(vs:List AV)(h1:12≤o)(h2:o+vs.length≤44):spl (aU_ x) o vs=br_ x.lim++(.int .u64 x.spe::(.int .u64 x.boost::(wdc x.ttd++(spl (rtc x.gen) (o-12) vs++[x.bals])))):=by unfold aU_;rw[pR1 (aS_ _),pS1];rw[pS1,pR1 (aq_ _),pL1 (ad_ _)];rw[show o-6-1-1-4=o-12 by omega]
theorem oX_(x:Cfg):cut (aU_ x) 44 1=[x.bals]:=by unfold aU_;rw[cR1 (aS_ _),cS1];rw[cS1,cR1 (aq_ _),cR1 (ad_ _)];simp only[Nat.reduceSub];all_goals rfl
theorem oY_(x:Cfg)(v:AV):spl (aU_ x) 44 [v]=aU_ { x with bals:=v }:=by unfold aU_;rw[pR1 (aS_ _),pS1];rw[pS1,pR1 (aq_ _),pR1 (ad_ _)];simp only[Nat.reduceSub];all_goals rfl
def Cfg.map(g:AV→AV)(x:Cfg):Cfg:={ x with bals:=g x.bals }
theorem Cfg.map_mk(g:AV→AV)(lim:Lim)(spe:Int)(boost:Int)(ttd:Wd)(gen:Rt)(bals:AV):Cfg.map g ⟨lim,spe,boost,ttd,gen,bals⟩=⟨lim,spe,boost,ttd,gen,g bals⟩:=rfl
def Cfg.good(x:Cfg):Bool:=x.bals.cell
theorem Cfg.good_mk(lim:Lim)(spe:Int)(boost:Int)(ttd:Wd)(gen:Rt)(bals:AV):Cfg.good ⟨lim,spe,boost,ttd,gen,bals⟩=(bals.cell):=rfl
def Cfg.Pure(x:Cfg):Prop:=Pu x.bals
theorem jf_(x:Cfg):aC_ (aU_ x)=x.good:=by simp[aU_,Cfg.good,Bool.and_assoc,aG_,aM_,aN_,AV.cell,ji_,bo_,gR_]
theorem sG_(x:Cfg):PuL (aU_ x)↔x.Pure:=by simp[aU_,Cfg.Pure,bS_,PuL,Pu,gv_,bT_,gO_]
theorem ls_(ρ:Nat→Nat)(x:Cfg):bh_ ρ (aU_ x)=aU_ (x.map (ren ρ)):=by simp only[aU_,Cfg.map,eO_,bh_,ren,lu_,ir_,tX_]
theorem to_(σ:St)(zs:List Nat)(x:Cfg):fzL σ zs (aU_ x)=aU_ (x.map (fz σ zs)):=by simp only[aU_,Cfg.map,fn_,fzL,fz,tr_,kB_,wz_]
def mZ_:Cfg:=⟨Cq_,0,0,wd0,rt0,.sl 0 true []⟩
structure Vot where
 has:Bool
 ep:Int
 root:Rt
 deriving Inhabited,DecidableEq
def aV_(x:Vot):List AV:=.bool x.has::(.int .u64 x.ep::(rtc x.root))
@[simp] theorem ij_(x:Vot):(aV_ x).length=34:=by simp only[aV_,List.length_cons,List.length_append,List.length_nil,ad_]
theorem zj_(has:Bool)(ep:Int)(root:Rt):.bool has::(.int .u64 ep::(rtc root))=aV_ ⟨has,ep,root⟩:=rfl
theorem zk_(x:Vot):cut (aV_ x) 0 34=aV_ x:=bp_ (ij_ x)
theorem sB_(x:Vot):cut (aV_ x) 0 1=[.bool x.has]:=by unfold aV_;all_goals rfl
theorem sC_(x:Vot)(v:Bool):spl (aV_ x) 0 [.bool v]=aV_ { x with has:=v }:=by unfold aV_;all_goals rfl
theorem ux_(x:Vot):cut (aV_ x) 1 1=[.int .u64 x.ep]:=by unfold aV_;rw[cS1];simp only[Nat.reduceSub];all_goals rfl
theorem uy_(x:Vot)(v:Int):spl (aV_ x) 1 [.int .u64 v]=aV_ { x with ep:=v }:=by unfold aV_;rw[pS1];simp only[Nat.reduceSub];all_goals rfl
theorem qb_(x:Vot)(o n:Nat)(h1:2≤o)(h2:o+n≤34):cut (aV_ x) o n=cut (rtc x.root) (o-2) n:=by unfold aV_;rw[cS1,cS1];rw[show o-1-1=o-2 by omega]
theorem qc_(x:Vot)(o:Nat)(vs:List AV)(h1:2≤o)(h2:o+vs.length≤34):spl (aV_ x) o vs=.bool x.has::(.int .u64 x.ep::(spl (rtc x.root) (o-2) vs)):=by unfold aV_;rw[pS1,pS1];rw[show o-1-1=o-2 by omega]
theorem oH_(x:Vot):aC_ (aV_ x)=true:=by simp[aV_,aG_,aM_,aN_,AV.cell,bo_]
theorem fy_(x:Vot):PuL (aV_ x):=by simp[aV_,bS_,PuL,Pu,bT_]
theorem qM_(ρ:Nat→Nat)(x:Vot):bh_ ρ (aV_ x)=aV_ x:=(fy_ x).ren ρ
theorem An_(σ:St)(zs:List Nat)(x:Vot):fzL σ zs (aV_ x)=aV_ x:=(fy_ x).fz σ zs
theorem vq_(x:Vot):(aV_ x).map bm_=bq_ [(1,0),(33,1)]:=by simp only[aV_,List.map_cons,List.map_append,List.map_nil,bm_,er_];decide +kernel
theorem xT_(x:Vot):cZ_ [(1,0),(33,1)] (aV_ x)=true:=cF_ (vq_ x)
theorem xg_(x y:Vot):cu_ (aV_ x) (aV_ y)=some (decide (x=y)):=by cases x;cases y;simp[aV_,dt_,cu_,jI_,ad_,aq_,ez_,Bool.beq_eq_decide_eq,fo_,Bool.and_assoc,Bool.decide_and]
def eu_:Vot:=⟨false,0,rt0⟩
structure Nod where
 blk:Blk
 up:Int
 status:Int
 deriving Inhabited,DecidableEq
def av_(x:Nod):List AV:=aw_ x.blk++(.int .i64 x.up::[.int .i64 x.status])
@[simp] theorem ig_(x:Nod):(av_ x).length=240:=by simp only[av_,List.length_cons,List.length_append,List.length_nil,aD_]
theorem ye_(blk:Blk)(up:Int)(status:Int):aw_ blk++(.int .i64 up::[.int .i64 status])=av_ ⟨blk,up,status⟩:=rfl
theorem yf_(x:Nod):cut (av_ x) 0 240=av_ x:=bp_ (ig_ x)
theorem rJ_(x:Nod)(o n:Nat)(h1:0≤o)(h2:o+n≤238):cut (av_ x) o n=cut (aw_ x.blk) (o-0) n:=by unfold av_;rw[cL1 (aD_ _)];all_goals rfl
theorem rK_(x:Nod)(o:Nat)(vs:List AV)(h1:0≤o)(h2:o+vs.length≤238):spl (av_ x) o vs=spl (aw_ x.blk) (o-0) vs++(.int .i64 x.up::[.int .i64 x.status]):=by unfold av_;rw[pL1 (aD_ _)];all_goals rfl
theorem tG_(x:Nod):cut (av_ x) 238 1=[.int .i64 x.up]:=by unfold av_;rw[cR1 (aD_ _)];simp only[Nat.reduceSub];all_goals rfl
theorem tH_(x:Nod)(v:Int):spl (av_ x) 238 [.int .i64 v]=av_ { x with up:=v }:=by unfold av_;rw[pR1 (aD_ _)];simp only[Nat.reduceSub];all_goals rfl
theorem mm_(x:Nod):cut (av_ x) 239 1=[.int .i64 x.status]:=by unfold av_;rw[cR1 (aD_ _),cS1];simp only[Nat.reduceSub];all_goals rfl
theorem mn_(x:Nod)(v:Int):spl (av_ x) 239 [.int .i64 v]=av_ { x with status:=v }:=by unfold av_;rw[pR1 (aD_ _),pS1];simp only[Nat.reduceSub];all_goals rfl
theorem oD_(x:Nod):aC_ (av_ x)=true:=by simp[av_,aG_,aM_,aN_,AV.cell,gp_]
theorem fx_(x:Nod):PuL (av_ x):=by simp[av_,bS_,PuL,Pu,cR_]
theorem qG_(ρ:Nat→Nat)(x:Nod):bh_ ρ (av_ x)=av_ x:=(fx_ x).ren ρ
theorem Ai_(σ:St)(zs:List Nat)(x:Nod):fzL σ zs (av_ x)=av_ x:=(fx_ x).fz σ zs
theorem vn_(x:Nod):(av_ x).map bm_=bq_ [(237,1),(1,0),(2,1)]:=by simp only[av_,List.map_cons,List.map_append,List.map_nil,bm_,nD_];decide +kernel
theorem xP_(x:Nod):cZ_ [(237,1),(1,0),(2,1)] (av_ x)=true:=cF_ (vn_ x)
theorem xd_(x y:Nod):cu_ (av_ x) (av_ y)=some (decide (x=y)):=by cases x;cases y;simp[av_,dt_,cu_,jI_,ad_,aq_,qg_,Bool.beq_eq_decide_eq,fo_,Bool.and_assoc,Bool.decide_and]
def fX_:Nod:=⟨eW_,0,0⟩
structure Sto where
 cfg:Cfg
 latest:AV
 eqv:AV
 j:Cp
 f:Cp
 early:AV
 orph:AV
 nodes:AV
 now:Int
 boost:Rt
 tabs:AV
 deriving Inhabited
def ak_(x:Sto):List AV:=aU_ x.cfg++(x.latest::(x.eqv::(cpC x.j++(cpC x.f++(x.early::(x.orph::(x.nodes::(.int .u64 x.now::(rtc x.boost++[x.tabs])))))))))
@[simp] theorem aO_(x:Sto):(ak_ x).length=150:=by simp only[ak_,List.length_cons,List.length_append,List.length_nil,ar_,af_,ad_]
theorem yO_(cfg:Cfg)(latest:AV)(eqv:AV)(j:Cp)(f:Cp)(early:AV)(orph:AV)(nodes:AV)(now:Int)(boost:Rt)(tabs:AV):aU_ cfg++(latest::(eqv::(cpC j++(cpC f++(early::(orph::(nodes::(.int .u64 now::(rtc boost++[tabs])))))))))=ak_ ⟨cfg,latest,eqv,j,f,early,orph,nodes,now,boost,tabs⟩:=rfl
theorem yP_(x:Sto):cut (ak_ x) 0 150=ak_ x:=bp_ (aO_ x)
theorem sq_(x:Sto)(o n:Nat)(h1:0≤o)(h2:o+n≤45):cut (ak_ x) o n=cut (aU_ x.cfg) (o-0) n:=by unfold ak_;rw[cL1 (ar_ _)];all_goals rfl
theorem su_(x:Sto)(o:Nat)(vs:List AV)(h1:0≤o)(h2:o+vs.length≤45):spl (ak_ x) o vs=spl (aU_ x.cfg) (o-0) vs++(x.latest::(x.eqv::(cpC x.j++(cpC x.f++(x.early::(x.orph::(x.nodes::(.int .u64 x.now::(rtc x.boost++[x.tabs]))))))))):=by unfold ak_;rw[pL1 (ar_ _)];all_goals rfl
theorem mv_(x:Sto):cut (ak_ x) 45 1=[x.latest]:=by unfold ak_;rw[cR1 (ar_ _)];simp only[Nat.reduceSub];all_goals rfl
theorem mw_(x:Sto)(v:AV):spl (ak_ x) 45 [v]=ak_ { x with latest:=v }:=by unfold ak_;rw[pR1 (ar_ _)];simp only[Nat.reduceSub];all_goals rfl
theorem sr_(x:Sto):cut (ak_ x) 46 1=[x.eqv]:=by unfold ak_;rw[cR1 (ar_ _),cS1];simp only[Nat.reduceSub];all_goals rfl
theorem sv_(x:Sto)(v:AV):spl (ak_ x) 46 [v]=ak_ { x with eqv:=v }:=by unfold ak_;rw[pR1 (ar_ _),pS1];simp only[Nat.reduceSub];all_goals rfl
theorem wd_(x:Sto)(o n:Nat)(h1:47≤o)(h2:o+n≤80):cut (ak_ x) o n=cut (cpC x.j) (o-47) n:=by unfold ak_;rw[cR1 (ar_ _),cS1];rw[cS1,cL1 (af_ _)];rw[show o-45-1-1=o-47 by omega]
theorem wf_(x:Sto)(o:Nat)(vs:List AV)(h1:47≤o)(h2:o+vs.length≤80):spl (ak_ x) o vs=aU_ x.cfg++(x.latest::(x.eqv::(spl (cpC x.j) (o-47) vs++(cpC x.f++(x.early::(x.orph::(x.nodes::(.int .u64 x.now::(rtc x.boost++[x.tabs]))))))))):=by unfold ak_;rw[pR1 (ar_ _),pS1];rw[pS1,pL1 (af_ _)];rw[show o-45-1-1=o-47 by omega]
theorem wc_(x:Sto)(o n:Nat)(h1:80≤o)(h2:o+n≤113):cut (ak_ x) o n=cut (cpC x.f) (o-80) n:=by unfold ak_;rw[cR1 (ar_ _),cS1];rw[cS1,cR1 (af_ _),cL1 (af_ _)];rw[show o-45-1-1-33=o-80 by omega]
theorem we_(x:Sto)(o:Nat)(vs:List AV)(h1:80≤o)(h2:o+vs.length≤113):spl (ak_ x) o vs=aU_ x.cfg++(x.latest::(x.eqv::(cpC x.j++(spl (cpC x.f) (o-80) vs++(x.early::(x.orph::(x.nodes::(.int .u64 x.now::(rtc x.boost++[x.tabs]))))))))):=by unfold ak_;rw[pR1 (ar_ _),pS1];rw[pS1,pR1 (af_ _),pL1 (af_ _)];rw[show o-45-1-1-33=o-80 by omega]
theorem oq_(x:Sto):cut (ak_ x) 113 1=[x.early]:=by unfold ak_;rw[cR1 (ar_ _),cS1];rw[cS1,cR1 (af_ _),cR1 (af_ _)];simp only[Nat.reduceSub];all_goals rfl
theorem ot_(x:Sto)(v:AV):spl (ak_ x) 113 [v]=ak_ { x with early:=v }:=by unfold ak_;rw[pR1 (ar_ _),pS1];rw[pS1,pR1 (af_ _),pR1 (af_ _)];simp only[Nat.reduceSub];all_goals rfl
theorem pP_(x:Sto):cut (ak_ x) 114 1=[x.orph]:=by unfold ak_;rw[cR1 (ar_ _),cS1];rw[cS1,cR1 (af_ _)];rw[cR1 (af_ _),cS1];simp only[Nat.reduceSub];all_goals rfl
theorem pR_(x:Sto)(v:AV):spl (ak_ x) 114 [v]=ak_ { x with orph:=v }:=by unfold ak_;rw[pR1 (ar_ _),pS1];rw[pS1,pR1 (af_ _)];rw[pR1 (af_ _),pS1];simp only[Nat.reduceSub];all_goals rfl
theorem or_(x:Sto):cut (ak_ x) 115 1=[x.nodes]:=by unfold ak_;rw[cR1 (ar_ _),cS1];rw[cS1,cR1 (af_ _)];rw[cR1 (af_ _),cS1,cS1];simp only[Nat.reduceSub];all_goals rfl
theorem ou_(x:Sto)(v:AV):spl (ak_ x) 115 [v]=ak_ { x with nodes:=v }:=by unfold ak_;rw[pR1 (ar_ _),pS1];rw[pS1,pR1 (af_ _)];rw[pR1 (af_ _),pS1,pS1];simp only[Nat.reduceSub];all_goals rfl
theorem st_(x:Sto):cut (ak_ x) 116 1=[.int .u64 x.now]:=by unfold ak_;rw[cR1 (ar_ _),cS1];rw[cS1,cR1 (af_ _)];rw[cR1 (af_ _),cS1];rw[cS1,cS1];simp only[Nat.reduceSub];all_goals rfl
theorem sw_(x:Sto)(v:Int):spl (ak_ x) 116 [.int .u64 v]=ak_ { x with now:=v }:=by unfold ak_;rw[pR1 (ar_ _),pS1];rw[pS1,pR1 (af_ _)];rw[pR1 (af_ _),pS1];rw[pS1,pS1];simp only[Nat.reduceSub];all_goals rfl
theorem op_(x:Sto)(o n:Nat)(h1:117≤o)(h2:o+n≤149):cut (ak_ x) o n=cut (rtc x.boost) (o-117) n:=by unfold ak_;rw[cR1 (ar_ _),cS1];rw[cS1,cR1 (af_ _)];rw[cR1 (af_ _),cS1];rw[cS1,cS1];rw[cS1,cL1 (ad_ _)];rw[show o-45-1-1-33-33-1-1-1-1=o-117 by omega]
theorem os_(x:Sto)(o:Nat)(vs:List AV)(h1:117≤o)(h2:o+vs.length≤149):spl (ak_ x) o vs=aU_ x.cfg++(x.latest::(x.eqv::(cpC x.j++(cpC x.f++(x.early::(x.orph::(x.nodes::(.int .u64 x.now::(spl (rtc x.boost) (o-117) vs++[x.tabs]))))))))):=by unfold ak_;rw[pR1 (ar_ _),pS1];rw[pS1,pR1 (af_ _)];rw[pR1 (af_ _),pS1];rw[pS1,pS1];rw[pS1,pL1 (ad_ _)];rw[show o-45-1-1-33-33-1-1-1-1=o-117 by omega]
theorem pQ_(x:Sto):cut (ak_ x) 149 1=[x.tabs]:=by unfold ak_;rw[cR1 (ar_ _),cS1];rw[cS1,cR1 (af_ _)];rw[cR1 (af_ _),cS1];rw[cS1,cS1];rw[cS1,cR1 (ad_ _)];simp only[Nat.reduceSub];all_goals rfl
theorem pS_(x:Sto)(v:AV):spl (ak_ x) 149 [v]=ak_ { x with tabs:=v }:=by unfold ak_;rw[pR1 (ar_ _),pS1];rw[pS1,pR1 (af_ _)];rw[pR1 (af_ _),pS1];rw[pS1,pS1];rw[pS1,pR1 (ad_ _)];simp only[Nat.reduceSub];all_goals rfl
theorem iW_(x:Sto):cut (ak_ x) 45 2=x.latest::[x.eqv]:=by unfold ak_;rw[cR1 (ar_ _)];(try simp only[Nat.reduceSub]);rfl
theorem iY_(x:Sto)(y1:AV)(y2:AV):spl (ak_ x) 45 (y1::[y2])=ak_ { x with latest:=y1,eqv:=y2 }:=by unfold ak_;rw[pR1 (ar_ _)];(try simp only[Nat.reduceSub]);rfl
theorem ss_(x:Sto):cut (ak_ x) 47 66=cpC x.j++(cpC x.f):=by unfold ak_;rw[cR1 (ar_ _),cS1,cS1];(try simp only[Nat.reduceSub]);exact pi_ (by simp) (by simp)
theorem kR_(x:Sto)(y3:Cp)(y4:Cp):spl (ak_ x) 47 (cpC y3++(cpC y4))=ak_ { x with j:=y3,f:=y4 }:=by unfold ak_;rw[pR1 (ar_ _),pS1,pS1];(try simp only[Nat.reduceSub]);rw[pC_];all_goals first|rfl|simp
theorem iV_(x:Sto):cut (ak_ x) 113 2=x.early::[x.orph]:=by unfold ak_;rw[cR1 (ar_ _),cS1];rw[cS1,cR1 (af_ _),cR1 (af_ _)];(try simp only[Nat.reduceSub]);rfl
theorem iX_(x:Sto)(y5:AV)(y6:AV):spl (ak_ x) 113 (y5::[y6])=ak_ { x with early:=y5,orph:=y6 }:=by unfold ak_;rw[pR1 (ar_ _),pS1];rw[pS1,pR1 (af_ _),pR1 (af_ _)];(try simp only[Nat.reduceSub]);rfl
def Sto.map(g:AV→AV)(x:Sto):Sto:={ x with cfg:=x.cfg.map g,latest:=g x.latest,eqv:=g x.eqv,early:=g x.early,orph:=g x.orph,nodes:=g x.nodes,tabs:=g x.tabs }
theorem Sto.map_mk(g:AV→AV)(cfg:Cfg)(latest:AV)(eqv:AV)(j:Cp)(f:Cp)(early:AV)(orph:AV)(nodes:AV)(now:Int)(boost:Rt)(tabs:AV):Sto.map g ⟨cfg,latest,eqv,j,f,early,orph,nodes,now,boost,tabs⟩=⟨cfg.map g,g latest,g eqv,j,f,g early,g orph,g nodes,now,boost,g tabs⟩:=rfl
def Sto.good(x:Sto):Bool:=x.cfg.good&&x.latest.cell&&x.eqv.cell&&x.early.cell&&x.orph.cell&&x.nodes.cell&&x.tabs.cell
theorem Sto.good_mk(cfg:Cfg)(latest:AV)(eqv:AV)(j:Cp)(f:Cp)(early:AV)(orph:AV)(nodes:AV)(now:Int)(boost:Rt)(tabs:AV):Sto.good ⟨cfg,latest,eqv,j,f,early,orph,nodes,now,boost,tabs⟩=(cfg.good&&latest.cell&&eqv.cell&&early.cell&&orph.cell&&nodes.cell&&tabs.cell):=rfl
def Sto.Pure(x:Sto):Prop:=x.cfg.Pure∧Pu x.latest∧Pu x.eqv∧Pu x.early∧Pu x.orph∧Pu x.nodes∧Pu x.tabs
theorem jl_(x:Sto):aC_ (ak_ x)=x.good:=by simp[ak_,Sto.good,Bool.and_assoc,aG_,aM_,aN_,AV.cell,jf_,df_,bo_]
theorem kg_(x:Sto):PuL (ak_ x)↔x.Pure:=by simp[ak_,Sto.Pure,bS_,PuL,Pu,sG_,cO_,bT_]
theorem lv_(ρ:Nat→Nat)(x:Sto):bh_ ρ (ak_ x)=ak_ (x.map (ren ρ)):=by simp only[ak_,Sto.map,eO_,bh_,ren,ls_,kM_,ir_]
theorem tt_(σ:St)(zs:List Nat)(x:Sto):fzL σ zs (ak_ x)=ak_ (x.map (fz σ zs)):=by simp only[ak_,Sto.map,fn_,fzL,fz,to_,mF_,kB_]
def kQ_:Sto:=⟨mZ_,.sl 0 true [],.sl 0 true [],cp0,cp0,.sl 0 true [],.sl 0 true [],.sl 0 true [],0,rt0,.sl 0 true []⟩
structure Req where
 tag:Int
 block:Rt
 tries:Int
 due:Int
 deriving Inhabited,DecidableEq
def bM_(x:Req):List AV:=.int .u64 x.tag::(rtc x.block++(.int .i64 x.tries::[.int .u64 x.due]))
@[simp] theorem ih_(x:Req):(bM_ x).length=35:=by simp only[bM_,List.length_cons,List.length_append,List.length_nil,ad_]
theorem yA_(tag:Int)(block:Rt)(tries:Int)(due:Int):.int .u64 tag::(rtc block++(.int .i64 tries::[.int .u64 due]))=bM_ ⟨tag,block,tries,due⟩:=rfl
theorem yB_(x:Req):cut (bM_ x) 0 35=bM_ x:=bp_ (ih_ x)
theorem rO_(x:Req):cut (bM_ x) 0 1=[.int .u64 x.tag]:=by unfold bM_;all_goals rfl
theorem rQ_(x:Req)(v:Int):spl (bM_ x) 0 [.int .u64 v]=bM_ { x with tag:=v }:=by unfold bM_;all_goals rfl
theorem oc_(x:Req)(o n:Nat)(h1:1≤o)(h2:o+n≤33):cut (bM_ x) o n=cut (rtc x.block) (o-1) n:=by unfold bM_;rw[cS1,cL1 (ad_ _)];all_goals rfl
theorem oe_(x:Req)(o:Nat)(vs:List AV)(h1:1≤o)(h2:o+vs.length≤33):spl (bM_ x) o vs=.int .u64 x.tag::(spl (rtc x.block) (o-1) vs++(.int .i64 x.tries::[.int .u64 x.due])):=by unfold bM_;rw[pS1,pL1 (ad_ _)];all_goals rfl
theorem od_(x:Req):cut (bM_ x) 33 1=[.int .i64 x.tries]:=by unfold bM_;rw[cS1,cR1 (ad_ _)];simp only[Nat.reduceSub];all_goals rfl
theorem of_(x:Req)(v:Int):spl (bM_ x) 33 [.int .i64 v]=bM_ { x with tries:=v }:=by unfold bM_;rw[pS1,pR1 (ad_ _)];simp only[Nat.reduceSub];all_goals rfl
theorem rN_(x:Req):cut (bM_ x) 34 1=[.int .u64 x.due]:=by unfold bM_;rw[cS1,cR1 (ad_ _),cS1];simp only[Nat.reduceSub];all_goals rfl
theorem rP_(x:Req)(v:Int):spl (bM_ x) 34 [.int .u64 v]=bM_ { x with due:=v }:=by unfold bM_;rw[pS1,pR1 (ad_ _),pS1];simp only[Nat.reduceSub];all_goals rfl
theorem oE_(x:Req):aC_ (bM_ x)=true:=by simp[bM_,aG_,aM_,aN_,AV.cell,bo_]
theorem ds_(x:Req):PuL (bM_ x):=by simp[bM_,bS_,PuL,Pu,bT_]
theorem qH_(ρ:Nat→Nat)(x:Req):bh_ ρ (bM_ x)=bM_ x:=(ds_ x).ren ρ
theorem Ak_(σ:St)(zs:List Nat)(x:Req):fzL σ zs (bM_ x)=bM_ x:=(ds_ x).fz σ zs
theorem vo_(x:Req):(bM_ x).map bm_=bq_ [(35,1)]:=by simp only[bM_,List.map_cons,List.map_append,List.map_nil,bm_,er_];decide +kernel
theorem xR_(x:Req):cZ_ [(35,1)] (bM_ x)=true:=cF_ (vo_ x)
theorem xe_(x y:Req):cu_ (bM_ x) (bM_ y)=some (decide (x=y)):=by cases x;cases y;simp[bM_,dt_,cu_,jI_,ad_,aq_,ez_,Bool.beq_eq_decide_eq,fo_,Bool.and_assoc,Bool.decide_and]
def CD_:Req:=⟨0,rt0,0,0⟩
structure Cmd where
 head:Rt
 safe:Rt
 fin:Rt
 deriving Inhabited,DecidableEq
def cp_(x:Cmd):List AV:=rtc x.head++(rtc x.safe++(rtc x.fin))
@[simp] theorem bX_(x:Cmd):(cp_ x).length=96:=by simp only[cp_,List.length_cons,List.length_append,List.length_nil,ad_]
theorem xD_(head:Rt)(safe:Rt)(fin:Rt):rtc head++(rtc safe++(rtc fin))=cp_ ⟨head,safe,fin⟩:=rfl
theorem xE_(x:Cmd):cut (cp_ x) 0 96=cp_ x:=bp_ (bX_ x)
theorem pd_(x:Cmd)(o n:Nat)(h1:0≤o)(h2:o+n≤32):cut (cp_ x) o n=cut (rtc x.head) (o-0) n:=by unfold cp_;rw[cL1 (ad_ _)];all_goals rfl
theorem pf_(x:Cmd)(o:Nat)(vs:List AV)(h1:0≤o)(h2:o+vs.length≤32):spl (cp_ x) o vs=spl (rtc x.head) (o-0) vs++(rtc x.safe++(rtc x.fin)):=by unfold cp_;rw[pL1 (ad_ _)];all_goals rfl
theorem pe_(x:Cmd)(o n:Nat)(h1:32≤o)(h2:o+n≤64):cut (cp_ x) o n=cut (rtc x.safe) (o-32) n:=by unfold cp_;rw[cR1 (ad_ _),cL1 (ad_ _)];all_goals rfl
theorem pg_(x:Cmd)(o:Nat)(vs:List AV)(h1:32≤o)(h2:o+vs.length≤64):spl (cp_ x) o vs=rtc x.head++(spl (rtc x.safe) (o-32) vs++(rtc x.fin)):=by unfold cp_;rw[pR1 (ad_ _),pL1 (ad_ _)];all_goals rfl
theorem rw_(x:Cmd)(o n:Nat)(h1:64≤o)(h2:o+n≤96):cut (cp_ x) o n=cut (rtc x.fin) (o-64) n:=by unfold cp_;rw[cR1 (ad_ _),cR1 (ad_ _)];rw[show o-32-32=o-64 by omega]
theorem rx_(x:Cmd)(o:Nat)(vs:List AV)(h1:64≤o)(h2:o+vs.length≤96):spl (cp_ x) o vs=rtc x.head++(rtc x.safe++(spl (rtc x.fin) (o-64) vs)):=by unfold cp_;rw[pR1 (ad_ _),pR1 (ad_ _)];rw[show o-32-32=o-64 by omega]
theorem jh_(x:Cmd):aC_ (cp_ x)=true:=by simp[cp_,aG_,aM_,aN_,AV.cell,bo_]
theorem hD_(x:Cmd):PuL (cp_ x):=by simp[cp_,bS_,PuL,Pu,bT_]
theorem lt_(ρ:Nat→Nat)(x:Cmd):bh_ ρ (cp_ x)=cp_ x:=(hD_ x).ren ρ
theorem tq_(σ:St)(zs:List Nat)(x:Cmd):fzL σ zs (cp_ x)=cp_ x:=(hD_ x).fz σ zs
theorem vl_(x:Cmd):(cp_ x).map bm_=bq_ [(96,1)]:=by simp only[cp_,List.map_cons,List.map_append,List.map_nil,bm_,er_];decide +kernel
theorem xN_(x:Cmd):cZ_ [(96,1)] (cp_ x)=true:=cF_ (vl_ x)
theorem xb_(x y:Cmd):cu_ (cp_ x) (cp_ y)=some (decide (x=y)):=by cases x;cases y;simp[cp_,dt_,cu_,jI_,ad_,aq_,ez_,Bool.beq_eq_decide_eq,fo_,Bool.and_assoc,Bool.decide_and]
def Cf_:Cmd:=⟨rt0,rt0,rt0⟩
structure Sta where
 sto:Sto
 reqs:AV
 rets:AV
 tag:Int
 sent:Bool
 last:Cmd
 over:Bool
 halt:Bool
 deriving Inhabited
def bn_(x:Sta):List AV:=ak_ x.sto++(x.reqs::(x.rets::(.int .u64 x.tag::(.bool x.sent::(cp_ x.last++(.bool x.over::[.bool x.halt]))))))
@[simp] theorem ii_(x:Sta):(bn_ x).length=252:=by simp only[bn_,List.length_cons,List.length_append,List.length_nil,bX_,aO_]
theorem yL_(sto:Sto)(reqs:AV)(rets:AV)(tag:Int)(sent:Bool)(last:Cmd)(over:Bool)(halt:Bool):ak_ sto++(reqs::(rets::(.int .u64 tag::(.bool sent::(cp_ last++(.bool over::[.bool halt]))))))=bn_ ⟨sto,reqs,rets,tag,sent,last,over,halt⟩:=rfl
theorem yM_(x:Sta):cut (bn_ x) 0 252=bn_ x:=bp_ (ii_ x)
theorem sm_(x:Sta)(o n:Nat)(h1:0≤o)(h2:o+n≤150):cut (bn_ x) o n=cut (ak_ x.sto) (o-0) n:=by unfold bn_;rw[cL1 (aO_ _)];all_goals rfl
theorem so_(x:Sta)(o:Nat)(vs:List AV)(h1:0≤o)(h2:o+vs.length≤150):spl (bn_ x) o vs=spl (ak_ x.sto) (o-0) vs++(x.reqs::(x.rets::(.int .u64 x.tag::(.bool x.sent::(cp_ x.last++(.bool x.over::[.bool x.halt])))))):=by unfold bn_;rw[pL1 (aO_ _)];all_goals rfl
theorem pG_(x:Sta):cut (bn_ x) 150 1=[x.reqs]:=by unfold bn_;rw[cR1 (aO_ _)];simp only[Nat.reduceSub];all_goals rfl
theorem pM_(x:Sta)(v:AV):spl (bn_ x) 150 [v]=bn_ { x with reqs:=v }:=by unfold bn_;rw[pR1 (aO_ _)];simp only[Nat.reduceSub];all_goals rfl
theorem pH_(x:Sta):cut (bn_ x) 151 1=[x.rets]:=by unfold bn_;rw[cR1 (aO_ _),cS1];simp only[Nat.reduceSub];all_goals rfl
theorem pN_(x:Sta)(v:AV):spl (bn_ x) 151 [v]=bn_ { x with rets:=v }:=by unfold bn_;rw[pR1 (aO_ _),pS1];simp only[Nat.reduceSub];all_goals rfl
theorem sn_(x:Sta):cut (bn_ x) 152 1=[.int .u64 x.tag]:=by unfold bn_;rw[cR1 (aO_ _),cS1,cS1];simp only[Nat.reduceSub];all_goals rfl
theorem sp_(x:Sta)(v:Int):spl (bn_ x) 152 [.int .u64 v]=bn_ { x with tag:=v }:=by unfold bn_;rw[pR1 (aO_ _),pS1,pS1];simp only[Nat.reduceSub];all_goals rfl
theorem pI_(x:Sta):cut (bn_ x) 153 1=[.bool x.sent]:=by unfold bn_;rw[cR1 (aO_ _),cS1];rw[cS1,cS1];simp only[Nat.reduceSub];all_goals rfl
theorem pO_(x:Sta)(v:Bool):spl (bn_ x) 153 [.bool v]=bn_ { x with sent:=v }:=by unfold bn_;rw[pR1 (aO_ _),pS1];rw[pS1,pS1];simp only[Nat.reduceSub];all_goals rfl
theorem pE_(x:Sta)(o n:Nat)(h1:154≤o)(h2:o+n≤250):cut (bn_ x) o n=cut (cp_ x.last) (o-154) n:=by unfold bn_;rw[cR1 (aO_ _),cS1];rw[cS1,cS1];rw[cS1,cL1 (bX_ _)];rw[show o-150-1-1-1-1=o-154 by omega]
theorem pK_(x:Sta)(o:Nat)(vs:List AV)(h1:154≤o)(h2:o+vs.length≤250):spl (bn_ x) o vs=ak_ x.sto++(x.reqs::(x.rets::(.int .u64 x.tag::(.bool x.sent::(spl (cp_ x.last) (o-154) vs++(.bool x.over::[.bool x.halt])))))):=by unfold bn_;rw[pR1 (aO_ _),pS1];rw[pS1,pS1];rw[pS1,pL1 (bX_ _)];rw[show o-150-1-1-1-1=o-154 by omega]
theorem pF_(x:Sta):cut (bn_ x) 250 1=[.bool x.over]:=by unfold bn_;rw[cR1 (aO_ _),cS1];rw[cS1,cS1];rw[cS1,cR1 (bX_ _)];simp only[Nat.reduceSub];all_goals rfl
theorem pL_(x:Sta)(v:Bool):spl (bn_ x) 250 [.bool v]=bn_ { x with over:=v }:=by unfold bn_;rw[pR1 (aO_ _),pS1];rw[pS1,pS1];rw[pS1,pR1 (bX_ _)];simp only[Nat.reduceSub];all_goals rfl
theorem pD_(x:Sta):cut (bn_ x) 251 1=[.bool x.halt]:=by unfold bn_;rw[cR1 (aO_ _),cS1];rw[cS1,cS1];rw[cS1,cR1 (bX_ _),cS1];simp only[Nat.reduceSub];all_goals rfl
theorem pJ_(x:Sta)(v:Bool):spl (bn_ x) 251 [.bool v]=bn_ { x with halt:=v }:=by unfold bn_;rw[pR1 (aO_ _),pS1];rw[pS1,pS1];rw[pS1,pR1 (bX_ _),pS1];simp only[Nat.reduceSub];all_goals rfl
def Sta.map(g:AV→AV)(x:Sta):Sta:={ x with sto:=x.sto.map g,reqs:=g x.reqs,rets:=g x.rets }
theorem Sta.map_mk(g:AV→AV)(sto:Sto)(reqs:AV)(rets:AV)(tag:Int)(sent:Bool)(last:Cmd)(over:Bool)(halt:Bool):Sta.map g ⟨sto,reqs,rets,tag,sent,last,over,halt⟩=⟨sto.map g,g reqs,g rets,tag,sent,last,over,halt⟩:=rfl
def Sta.good(x:Sta):Bool:=x.sto.good&&x.reqs.cell&&x.rets.cell
theorem Sta.good_mk(sto:Sto)(reqs:AV)(rets:AV)(tag:Int)(sent:Bool)(last:Cmd)(over:Bool)(halt:Bool):Sta.good ⟨sto,reqs,rets,tag,sent,last,over,halt⟩=(sto.good&&reqs.cell&&rets.cell):=rfl
def Sta.Pure(x:Sta):Prop:=x.sto.Pure∧Pu x.reqs∧Pu x.rets
theorem oG_(x:Sta):aC_ (bn_ x)=x.good:=by simp[bn_,Sta.good,Bool.and_assoc,aG_,aM_,aN_,AV.cell,jh_,jl_]
theorem zs_(x:Sta):PuL (bn_ x)↔x.Pure:=by simp[bn_,Sta.Pure,bS_,PuL,Pu,hD_,kg_]
theorem qJ_(ρ:Nat→Nat)(x:Sta):bh_ ρ (bn_ x)=bn_ (x.map (ren ρ)):=by simp only[bn_,Sta.map,eO_,bh_,ren,lt_,lv_]
theorem Am_(σ:St)(zs:List Nat)(x:Sta):fzL σ zs (bn_ x)=bn_ (x.map (fz σ zs)):=by simp only[bn_,Sta.map,fn_,fzL,fz,tq_,tt_]
def FB_:Sta:=⟨kQ_,.sl 0 true [],.sl 0 true [],0,false,Cf_,false,false⟩
attribute [go_sem] yc_ aS_ yb_ ps_ pu_ pt_ pv_ nI_ nL_ nK_ nN_ nJ_ nM_ lk_ ll_ ji_ lu_ xO_ xc_ xu_ ar_ xt_ rl_ rp_ rm_ rq_ na_ nb_ rn_ rr_ rk_ ro_ oX_ oY_ Cfg.map_mk Cfg.good_mk jf_ ls_ zk_ ij_ zj_ sB_ sC_ ux_ uy_ qb_ qc_ oH_ qM_ xT_ xg_ yf_ ig_ ye_ rJ_ rK_ tG_ tH_ mm_ mn_ oD_ qG_ xP_ xd_ yP_ aO_ yO_ sq_ su_ mv_ mw_ sr_ sv_ wd_ wf_ wc_ we_ oq_ ot_ pP_ pR_ or_ ou_ st_ sw_ op_ os_ pQ_ pS_ iW_ iY_ ss_ kR_ iV_ iX_ Sto.map_mk Sto.good_mk jl_ lv_ yB_ ih_ yA_ rO_ rQ_ oc_ oe_ od_ of_ rN_ rP_ oE_ qH_ xR_ xe_ xE_ bX_ xD_ pd_ pf_ pe_ pg_ rw_ rx_ jh_ lt_ xN_ xb_ yM_ ii_ yL_ sm_ so_ pG_ pM_ pH_ pN_ sn_ sp_ pI_ pO_ pE_ pK_ pF_ pL_ pD_ pJ_ Sta.map_mk Sta.good_mk oG_ qJ_ Cq_ mZ_ eu_ fX_ kQ_ CD_ Cf_ FB_ aS_ lu_ tr_ ar_ Cfg.map_mk ls_ to_ ij_ qM_ An_ ig_ qG_ Ai_ aO_ Sto.map_mk lv_ tt_ ih_ qH_ Ak_ bX_ lt_ tq_ ii_ Sta.map_mk qJ_ Am_
def rows{α:Type}(f:α→List AV)(l:List α):List (List AV):=l.map f
section
variable{α:Type}{f:α→List AV}{l m:List α}
@[simp] theorem tD_(f:α→List AV)(l:List α):(rows f l).length=l.length:=by simp[rows]
theorem AV_(f:α→List AV):rows f []=[]:=rfl
theorem lw_(f:α→List AV)(l:List α)(x:α):rows f l++[f x]=rows f (l++[x]):=by simp[rows]
theorem AX_(f:α→List AV)(l:List α)(n:Nat)(x:α):(rows f l).set n (f x)=rows f (l.set n x):=by simp[rows,List.map_set]
theorem AW_(f:α→List AV)(n:Nat)(x:α):List.replicate n (f x)=rows f (List.replicate n x):=by simp[rows]
theorem aR_{i:Nat}(d:α)(h:i<l.length):(rows f l).getD i []=f (l.getD i d):=by
 simp[rows,List.getD_eq_getElem?_getD,h]
theorem aT_(h:∀x∈l,PuL (f x)):cy_ (rows f l):=by
 rw[hC_];intro x hx;obtain⟨y,hy,rfl⟩:=List.mem_map.1 hx;exact h y hy
end
theorem gdn{k:IntKind}{ns:List Int}{i:Nat}(h:i<ns.length):(au_ k ns).getD i []=[.int k (ns.getD i 0)]:=by
 simp[au_,List.getD_eq_getElem?_getD,h]
def mV_(b:Bool):List AV:=[.bool b]
theorem xa_(b:Bool):PuL (mV_ b):=by simp[mV_,PuL,Pu]
theorem wk_(h:Bool)(c:Cp):.bool h::cpC c=aV_ ⟨h,c.ep,c.rt⟩:=rfl
attribute [go_sem] wk_
attribute [go_sem] tD_ AV_
structure aB_ where
 slot:Int
 root:Rt
 target:Cp
 vals:List Int
 deriving Inhabited,DecidableEq
def aB_.a(x:aB_):Att:=⟨x.slot,x.root,x.target,.sl 1 false (au_ .i64 x.vals)⟩
abbrev aB_.c(x:aB_):List AV:=bg_ x.a
theorem aB_.a_slot(x:aB_):x.a.slot=x.slot:=rfl
theorem aB_.a_root(x:aB_):x.a.root=x.root:=rfl
theorem aB_.a_target(x:aB_):x.a.target=x.target:=rfl
theorem aB_.a_vals(x:aB_):x.a.vals=.sl 1 false (au_ .i64 x.vals):=rfl
theorem aB_.pure(x:aB_):x.a.Pure:=by
 exact bU_ _ _
theorem aB_.pul(x:aB_):PuL (bg_ x.a):=(fw_ _).2 x.pure
theorem aB_.ren_a(ρ:Nat→Nat)(x:aB_):bh_ ρ (bg_ x.a)=bg_ x.a:=x.pul.ren ρ
theorem aB_.fz_a(σ:St)(zs:List Nat)(x:aB_):fzL σ zs (bg_ x.a)=bg_ x.a:=x.pul.fz σ zs
theorem aB_.map_ren(ρ:Nat→Nat)(x:aB_):x.a.map (ren ρ)=x.a:=by
 unfold aB_.a Att.map;simp only[ren,bx_]
theorem aB_.map_fz(σ:St)(zs:List Nat)(x:aB_):x.a.map (fz σ zs)=x.a:=by
 unfold aB_.a Att.map;simp only[fz,cf_]
theorem aB_.good_a(x:aB_):x.a.good=true:=by
 simp[aB_.a,Att.good,AV.cell]
structure as_ where
 cp:Cp
 bals:List Int
 deriving Inhabited,DecidableEq
def as_.a(x:as_):Tab:=⟨x.cp,.sl 1 false (au_ .u64 x.bals)⟩
abbrev as_.c(x:as_):List AV:=bj_ x.a
theorem as_.a_cp(x:as_):x.a.cp=x.cp:=rfl
theorem as_.a_bals(x:as_):x.a.bals=.sl 1 false (au_ .u64 x.bals):=rfl
theorem as_.pure(x:as_):x.a.Pure:=by
 exact bU_ _ _
theorem as_.pul(x:as_):PuL (bj_ x.a):=(dR_ _).2 x.pure
theorem as_.ren_a(ρ:Nat→Nat)(x:as_):bh_ ρ (bj_ x.a)=bj_ x.a:=x.pul.ren ρ
theorem as_.fz_a(σ:St)(zs:List Nat)(x:as_):fzL σ zs (bj_ x.a)=bj_ x.a:=x.pul.fz σ zs
theorem as_.map_ren(ρ:Nat→Nat)(x:as_):x.a.map (ren ρ)=x.a:=by
 unfold as_.a Tab.map;simp only[ren,bx_]
theorem as_.map_fz(σ:St)(zs:List Nat)(x:as_):x.a.map (fz σ zs)=x.a:=by
 unfold as_.a Tab.map;simp only[fz,cf_]
theorem as_.good_a(x:as_):x.a.good=true:=by
 simp[as_.a,Tab.good,AV.cell]
structure bP_ where
 src:Int
 tgt:Int
 root:Rt
 vals:List Int
 deriving Inhabited,DecidableEq
def bP_.a(x:bP_):Clm:=⟨x.src,x.tgt,x.root,.sl 1 false (au_ .i64 x.vals)⟩
abbrev bP_.c(x:bP_):List AV:=bH_ x.a
theorem bP_.a_src(x:bP_):x.a.src=x.src:=rfl
theorem bP_.a_tgt(x:bP_):x.a.tgt=x.tgt:=rfl
theorem bP_.a_root(x:bP_):x.a.root=x.root:=rfl
theorem bP_.a_vals(x:bP_):x.a.vals=.sl 1 false (au_ .i64 x.vals):=rfl
theorem bP_.pure(x:bP_):x.a.Pure:=by
 exact bU_ _ _
theorem bP_.pul(x:bP_):PuL (bH_ x.a):=(sH_ _).2 x.pure
theorem bP_.ren_a(ρ:Nat→Nat)(x:bP_):bh_ ρ (bH_ x.a)=bH_ x.a:=x.pul.ren ρ
theorem bP_.fz_a(σ:St)(zs:List Nat)(x:bP_):fzL σ zs (bH_ x.a)=bH_ x.a:=x.pul.fz σ zs
theorem bP_.map_ren(ρ:Nat→Nat)(x:bP_):x.a.map (ren ρ)=x.a:=by
 unfold bP_.a Clm.map;simp only[ren,bx_]
theorem bP_.map_fz(σ:St)(zs:List Nat)(x:bP_):x.a.map (fz σ zs)=x.a:=by
 unfold bP_.a Clm.map;simp only[fz,cf_]
theorem bP_.good_a(x:bP_):x.a.good=true:=by
 simp[bP_.a,Clm.good,AV.cell]
structure cn_ where
 fst:bP_
 snd:bP_
 deriving Inhabited,DecidableEq
def cn_.a(x:cn_):Slg:=⟨x.fst.a,x.snd.a⟩
abbrev cn_.c(x:cn_):List AV:=cw_ x.a
theorem cn_.a_fst(x:cn_):x.a.fst=x.fst.a:=rfl
theorem cn_.a_snd(x:cn_):x.a.snd=x.snd.a:=rfl
theorem cn_.pure(x:cn_):x.a.Pure:=by
 exact⟨bP_.pure _,bP_.pure _⟩
theorem cn_.pul(x:cn_):PuL (cw_ x.a):=(sI_ _).2 x.pure
theorem cn_.ren_a(ρ:Nat→Nat)(x:cn_):bh_ ρ (cw_ x.a)=cw_ x.a:=x.pul.ren ρ
theorem cn_.fz_a(σ:St)(zs:List Nat)(x:cn_):fzL σ zs (cw_ x.a)=cw_ x.a:=x.pul.fz σ zs
theorem cn_.map_ren(ρ:Nat→Nat)(x:cn_):x.a.map (ren ρ)=x.a:=by
 unfold cn_.a Slg.map;simp only[ren,bx_,bP_.map_ren,bP_.map_ren]
theorem cn_.map_fz(σ:St)(zs:List Nat)(x:cn_):x.a.map (fz σ zs)=x.a:=by
 unfold cn_.a Slg.map;simp only[fz,cf_,bP_.map_fz,bP_.map_fz]
theorem cn_.good_a(x:cn_):x.a.good=true:=by
 simp[cn_.a,Slg.good,AV.cell,bP_.good_a,bP_.good_a]
structure aX_ where
 lim:Lim
 spe:Int
 boost:Int
 ttd:Wd
 gen:Rt
 bals:List Int
 deriving Inhabited,DecidableEq
def aX_.a(x:aX_):Cfg:=⟨x.lim,x.spe,x.boost,x.ttd,x.gen,.sl 1 false (au_ .u64 x.bals)⟩
abbrev aX_.c(x:aX_):List AV:=aU_ x.a
theorem aX_.a_lim(x:aX_):x.a.lim=x.lim:=rfl
theorem aX_.a_spe(x:aX_):x.a.spe=x.spe:=rfl
theorem aX_.a_boost(x:aX_):x.a.boost=x.boost:=rfl
theorem aX_.a_ttd(x:aX_):x.a.ttd=x.ttd:=rfl
theorem aX_.a_gen(x:aX_):x.a.gen=x.gen:=rfl
theorem aX_.a_bals(x:aX_):x.a.bals=.sl 1 false (au_ .u64 x.bals):=rfl
theorem aX_.pure(x:aX_):x.a.Pure:=by
 exact bU_ _ _
theorem aX_.pul(x:aX_):PuL (aU_ x.a):=(sG_ _).2 x.pure
theorem aX_.ren_a(ρ:Nat→Nat)(x:aX_):bh_ ρ (aU_ x.a)=aU_ x.a:=x.pul.ren ρ
theorem aX_.fz_a(σ:St)(zs:List Nat)(x:aX_):fzL σ zs (aU_ x.a)=aU_ x.a:=x.pul.fz σ zs
theorem aX_.map_ren(ρ:Nat→Nat)(x:aX_):x.a.map (ren ρ)=x.a:=by
 unfold aX_.a Cfg.map;simp only[ren,bx_]
theorem aX_.map_fz(σ:St)(zs:List Nat)(x:aX_):x.a.map (fz σ zs)=x.a:=by
 unfold aX_.a Cfg.map;simp only[fz,cf_]
theorem aX_.good_a(x:aX_):x.a.good=true:=by
 simp[aX_.a,Cfg.good,AV.cell]
structure ag_ where
 cfg:aX_
 latest:List Vot
 eqv:List Int
 j:Cp
 f:Cp
 early:List aB_
 orph:List Blk
 nodes:List Nod
 now:Int
 boost:Rt
 tabs:List as_
 deriving Inhabited,DecidableEq
def ag_.a(x:ag_):Sto:=⟨x.cfg.a,.sl 34 false (rows aV_ x.latest),.sl 1 false (au_ .i64 x.eqv),x.j,x.f,.sl 67 false (rows aB_.c x.early),.sl 238 false (rows aw_ x.orph),.sl 240 false (rows av_ x.nodes),x.now,x.boost,.sl 34 false (rows as_.c x.tabs)⟩
abbrev ag_.c(x:ag_):List AV:=ak_ x.a
theorem ag_.a_cfg(x:ag_):x.a.cfg=x.cfg.a:=rfl
theorem ag_.a_latest(x:ag_):x.a.latest=.sl 34 false (rows aV_ x.latest):=rfl
theorem ag_.a_eqv(x:ag_):x.a.eqv=.sl 1 false (au_ .i64 x.eqv):=rfl
theorem ag_.a_j(x:ag_):x.a.j=x.j:=rfl
theorem ag_.a_f(x:ag_):x.a.f=x.f:=rfl
theorem ag_.a_early(x:ag_):x.a.early=.sl 67 false (rows aB_.c x.early):=rfl
theorem ag_.a_orph(x:ag_):x.a.orph=.sl 238 false (rows aw_ x.orph):=rfl
theorem ag_.a_nodes(x:ag_):x.a.nodes=.sl 240 false (rows av_ x.nodes):=rfl
theorem ag_.a_now(x:ag_):x.a.now=x.now:=rfl
theorem ag_.a_boost(x:ag_):x.a.boost=x.boost:=rfl
theorem ag_.a_tabs(x:ag_):x.a.tabs=.sl 34 false (rows as_.c x.tabs):=rfl
theorem ag_.pure(x:ag_):x.a.Pure:=by
 exact⟨aX_.pure _,aT_ fun x _=>fy_ x,bU_ _ _,aT_ fun x _=>(fw_ _).2 (aB_.pure x),aT_ fun x _=>cR_ x,aT_ fun x _=>fx_ x,aT_ fun x _=>(dR_ _).2 (as_.pure x)⟩
theorem ag_.pul(x:ag_):PuL (ak_ x.a):=(kg_ _).2 x.pure
theorem ag_.ren_a(ρ:Nat→Nat)(x:ag_):bh_ ρ (ak_ x.a)=ak_ x.a:=x.pul.ren ρ
theorem ag_.fz_a(σ:St)(zs:List Nat)(x:ag_):fzL σ zs (ak_ x.a)=ak_ x.a:=x.pul.fz σ zs
theorem ag_.map_ren(ρ:Nat→Nat)(x:ag_):x.a.map (ren ρ)=x.a:=by
 unfold ag_.a Sto.map;simp only[ren,bx_,aX_.map_ren,(aT_ (f:=aV_) (l:=x.latest) fun y _=>fy_ y).ren ρ,(aT_ (f:=aB_.c) (l:=x.early) fun y _=>(fw_ _).2 (aB_.pure y)).ren ρ,(aT_ (f:=aw_) (l:=x.orph) fun y _=>cR_ y).ren ρ,(aT_ (f:=av_) (l:=x.nodes) fun y _=>fx_ y).ren ρ,(aT_ (f:=as_.c) (l:=x.tabs) fun y _=>(dR_ _).2 (as_.pure y)).ren ρ]
theorem ag_.map_fz(σ:St)(zs:List Nat)(x:ag_):x.a.map (fz σ zs)=x.a:=by
 unfold ag_.a Sto.map;simp only[fz,cf_,aX_.map_fz,(aT_ (f:=aV_) (l:=x.latest) fun y _=>fy_ y).fz σ zs,(aT_ (f:=aB_.c) (l:=x.early) fun y _=>(fw_ _).2 (aB_.pure y)).fz σ zs,(aT_ (f:=aw_) (l:=x.orph) fun y _=>cR_ y).fz σ zs,(aT_ (f:=av_) (l:=x.nodes) fun y _=>fx_ y).fz σ zs,(aT_ (f:=as_.c) (l:=x.tabs) fun y _=>(dR_ _).2 (as_.pure y)).fz σ zs]
theorem ag_.good_a(x:ag_):x.a.good=true:=by
 simp[ag_.a,Sto.good,AV.cell,aX_.good_a]
structure aI_ where
 sto:ag_
 reqs:List Req
 rets:List Req
 tag:Int
 sent:Bool
 last:Cmd
 over:Bool
 halt:Bool
 deriving Inhabited,DecidableEq
def aI_.a(x:aI_):Sta:=⟨x.sto.a,.sl 35 false (rows bM_ x.reqs),.sl 35 false (rows bM_ x.rets),x.tag,x.sent,x.last,x.over,x.halt⟩
abbrev aI_.c(x:aI_):List AV:=bn_ x.a
theorem aI_.a_sto(x:aI_):x.a.sto=x.sto.a:=rfl
theorem aI_.a_reqs(x:aI_):x.a.reqs=.sl 35 false (rows bM_ x.reqs):=rfl
theorem aI_.a_rets(x:aI_):x.a.rets=.sl 35 false (rows bM_ x.rets):=rfl
theorem aI_.a_tag(x:aI_):x.a.tag=x.tag:=rfl
theorem aI_.a_sent(x:aI_):x.a.sent=x.sent:=rfl
theorem aI_.a_last(x:aI_):x.a.last=x.last:=rfl
theorem aI_.a_over(x:aI_):x.a.over=x.over:=rfl
theorem aI_.a_halt(x:aI_):x.a.halt=x.halt:=rfl
theorem aI_.pure(x:aI_):x.a.Pure:=by
 exact⟨ag_.pure _,aT_ fun x _=>ds_ x,aT_ fun x _=>ds_ x⟩
theorem aI_.pul(x:aI_):PuL (bn_ x.a):=(zs_ _).2 x.pure
theorem aI_.ren_a(ρ:Nat→Nat)(x:aI_):bh_ ρ (bn_ x.a)=bn_ x.a:=x.pul.ren ρ
theorem aI_.fz_a(σ:St)(zs:List Nat)(x:aI_):fzL σ zs (bn_ x.a)=bn_ x.a:=x.pul.fz σ zs
theorem aI_.map_ren(ρ:Nat→Nat)(x:aI_):x.a.map (ren ρ)=x.a:=by
 unfold aI_.a Sta.map;simp only[ren,bx_,ag_.map_ren,(aT_ (f:=bM_) (l:=x.reqs) fun y _=>ds_ y).ren ρ,(aT_ (f:=bM_) (l:=x.rets) fun y _=>ds_ y).ren ρ]
theorem aI_.map_fz(σ:St)(zs:List Nat)(x:aI_):x.a.map (fz σ zs)=x.a:=by
 unfold aI_.a Sta.map;simp only[fz,cf_,ag_.map_fz,(aT_ (f:=bM_) (l:=x.reqs) fun y _=>ds_ y).fz σ zs,(aT_ (f:=bM_) (l:=x.rets) fun y _=>ds_ y).fz σ zs]
theorem aI_.good_a(x:aI_):x.a.good=true:=by
 simp[aI_.a,Sta.good,AV.cell,ag_.good_a]
structure VOp where
 kind:Int
 blk:Blk
 att:aB_
 slg:cn_
 tab:as_
 vdt:Vdt
 write:Int
 keep:Int
 deriving Inhabited,DecidableEq
def VOp.a(x:VOp):SOp:=⟨x.kind,x.blk,x.att.a,x.slg.a,x.tab.a,x.vdt,x.write,x.keep⟩
abbrev VOp.c(x:VOp):List AV:=bu_ x.a
theorem VOp.a_kind(x:VOp):x.a.kind=x.kind:=rfl
theorem VOp.a_blk(x:VOp):x.a.blk=x.blk:=rfl
theorem VOp.a_att(x:VOp):x.a.att=x.att.a:=rfl
theorem VOp.a_slg(x:VOp):x.a.slg=x.slg.a:=rfl
theorem VOp.a_tab(x:VOp):x.a.tab=x.tab.a:=rfl
theorem VOp.a_vdt(x:VOp):x.a.vdt=x.vdt:=rfl
theorem VOp.a_write(x:VOp):x.a.write=x.write:=rfl
theorem VOp.a_keep(x:VOp):x.a.keep=x.keep:=rfl
theorem VOp.pure(x:VOp):x.a.Pure:=by
 exact⟨aB_.pure _,cn_.pure _,as_.pure _⟩
theorem VOp.pul(x:VOp):PuL (bu_ x.a):=(zr_ _).2 x.pure
theorem VOp.ren_a(ρ:Nat→Nat)(x:VOp):bh_ ρ (bu_ x.a)=bu_ x.a:=x.pul.ren ρ
theorem VOp.fz_a(σ:St)(zs:List Nat)(x:VOp):fzL σ zs (bu_ x.a)=bu_ x.a:=x.pul.fz σ zs
theorem VOp.map_ren(ρ:Nat→Nat)(x:VOp):x.a.map (ren ρ)=x.a:=by
 unfold VOp.a SOp.map;simp only[ren,bx_,aB_.map_ren,cn_.map_ren,as_.map_ren]
theorem VOp.map_fz(σ:St)(zs:List Nat)(x:VOp):x.a.map (fz σ zs)=x.a:=by
 unfold VOp.a SOp.map;simp only[fz,cf_,aB_.map_fz,cn_.map_fz,as_.map_fz]
theorem VOp.good_a(x:VOp):x.a.good=true:=by
 simp[VOp.a,SOp.good,AV.cell,aB_.good_a,cn_.good_a,as_.good_a]
theorem ga_(l:List Rt):cy_ (rows rtc l):=aT_ fun x _=>bT_ x
theorem oa_(ρ:Nat→Nat)(l:List Rt):bi_ ρ (rows rtc l)=rows rtc l:=(ga_ l).ren ρ
theorem pq_(σ:St)(zs:List Nat)(l:List Rt):dx_ σ zs (rows rtc l)=rows rtc l:=(ga_ l).fz σ zs
theorem ev_(l:List Bool):cy_ (rows mV_ l):=aT_ fun x _=>xa_ x
theorem lr_(ρ:Nat→Nat)(l:List Bool):bi_ ρ (rows mV_ l)=rows mV_ l:=(ev_ l).ren ρ
theorem mj_(σ:St)(zs:List Nat)(l:List Bool):dx_ σ zs (rows mV_ l)=rows mV_ l:=(ev_ l).fz σ zs
theorem fl_(l:List Vot):cy_ (rows aV_ l):=aT_ fun x _=>fy_ x
theorem mu_(ρ:Nat→Nat)(l:List Vot):bi_ ρ (rows aV_ l)=rows aV_ l:=(fl_ l).ren ρ
theorem ny_(σ:St)(zs:List Nat)(l:List Vot):dx_ σ zs (rows aV_ l)=rows aV_ l:=(fl_ l).fz σ zs
theorem fi_(l:List Blk):cy_ (rows aw_ l):=aT_ fun x _=>cR_ x
theorem mq_(ρ:Nat→Nat)(l:List Blk):bi_ ρ (rows aw_ l)=rows aw_ l:=(fi_ l).ren ρ
theorem nu_(σ:St)(zs:List Nat)(l:List Blk):dx_ σ zs (rows aw_ l)=rows aw_ l:=(fi_ l).fz σ zs
theorem de_(l:List Nod):cy_ (rows av_ l):=aT_ fun x _=>fx_ x
theorem ms_(ρ:Nat→Nat)(l:List Nod):bi_ ρ (rows av_ l)=rows av_ l:=(de_ l).ren ρ
theorem nw_(σ:St)(zs:List Nat)(l:List Nod):dx_ σ zs (rows av_ l)=rows av_ l:=(de_ l).fz σ zs
theorem fk_(l:List Req):cy_ (rows bM_ l):=aT_ fun x _=>ds_ x
theorem mt_(ρ:Nat→Nat)(l:List Req):bi_ ρ (rows bM_ l)=rows bM_ l:=(fk_ l).ren ρ
theorem nx_(σ:St)(zs:List Nat)(l:List Req):dx_ σ zs (rows bM_ l)=rows bM_ l:=(fk_ l).fz σ zs
theorem fj_(l:List Cmd):cy_ (rows cp_ l):=aT_ fun x _=>hD_ x
theorem mr_(ρ:Nat→Nat)(l:List Cmd):bi_ ρ (rows cp_ l)=rows cp_ l:=(fj_ l).ren ρ
theorem nv_(σ:St)(zs:List Nat)(l:List Cmd):dx_ σ zs (rows cp_ l)=rows cp_ l:=(fj_ l).fz σ zs
theorem fh_(l:List aB_):cy_ (rows aB_.c l):=aT_ fun x _=>aB_.pul x
theorem mo_(ρ:Nat→Nat)(l:List aB_):bi_ ρ (rows aB_.c l)=rows aB_.c l:=(fh_ l).ren ρ
theorem ns_(σ:St)(zs:List Nat)(l:List aB_):dx_ σ zs (rows aB_.c l)=rows aB_.c l:=(fh_ l).fz σ zs
theorem dS_(l:List as_):cy_ (rows as_.c l):=aT_ fun x _=>as_.pul x
theorem mp_(ρ:Nat→Nat)(l:List as_):bi_ ρ (rows as_.c l)=rows as_.c l:=(dS_ l).ren ρ
theorem nt_(σ:St)(zs:List Nat)(l:List as_):dx_ σ zs (rows as_.c l)=rows as_.c l:=(dS_ l).fz σ zs
theorem fZ_(l:List VOp):cy_ (rows VOp.c l):=aT_ fun x _=>VOp.pul x
theorem nZ_(ρ:Nat→Nat)(l:List VOp):bi_ ρ (rows VOp.c l)=rows VOp.c l:=(fZ_ l).ren ρ
theorem pp_(σ:St)(zs:List Nat)(l:List VOp):dx_ σ zs (rows VOp.c l)=rows VOp.c l:=(fZ_ l).fz σ zs
attribute [go_sem] aB_.a_slot aB_.a_root aB_.a_target aB_.a_vals aB_.pul aB_.ren_a aB_.fz_a aB_.map_ren aB_.map_fz aB_.good_a as_.a_cp as_.a_bals as_.pul as_.ren_a as_.fz_a as_.map_ren as_.map_fz as_.good_a bP_.a_src bP_.a_tgt bP_.a_root bP_.a_vals bP_.pul bP_.ren_a bP_.fz_a bP_.map_ren bP_.map_fz bP_.good_a cn_.a_fst cn_.a_snd cn_.pul cn_.ren_a cn_.fz_a cn_.map_ren cn_.map_fz cn_.good_a aX_.a_lim aX_.a_spe aX_.a_boost aX_.a_ttd aX_.a_gen aX_.a_bals aX_.pul aX_.ren_a aX_.fz_a aX_.map_ren aX_.map_fz aX_.good_a ag_.a_cfg ag_.a_latest ag_.a_eqv ag_.a_j ag_.a_f ag_.a_early ag_.a_orph ag_.a_nodes ag_.a_now ag_.a_boost ag_.a_tabs ag_.pul ag_.ren_a ag_.fz_a ag_.map_ren ag_.map_fz ag_.good_a aI_.a_sto aI_.a_reqs aI_.a_rets aI_.a_tag aI_.a_sent aI_.a_last aI_.a_over aI_.a_halt aI_.pul aI_.ren_a aI_.fz_a aI_.map_ren aI_.map_fz aI_.good_a VOp.a_kind VOp.a_blk VOp.a_att VOp.a_slg VOp.a_tab VOp.a_vdt VOp.a_write VOp.a_keep VOp.pul VOp.ren_a VOp.fz_a VOp.map_ren VOp.map_fz VOp.good_a ga_ oa_ pq_ ev_ lr_ mj_ fl_ mu_ ny_ fi_ mq_ nu_ de_ ms_ nw_ fk_ mt_ nx_ fj_ mr_ nv_ fh_ mo_ ns_ dS_ mp_ nt_ fZ_ nZ_ pp_
end Go.FH
namespace Go.FH
def om(d s:Nat):aP_:=⟨some d,.mv (.t s),none⟩
def oo(d:Nat)(op:AOp):aP_:=⟨some d,op,none⟩
def on(op:AOp):aP_:=⟨none,op,none⟩
def omg(d s t:Nat)(b:Bool):aP_:=⟨some d,.mv (.t s),some (t,b)⟩
def og(d:Nat)(op:AOp)(t:Nat)(b:Bool):aP_:=⟨some d,op,some (t,b)⟩
def ong(op:AOp)(t:Nat)(b:Bool):aP_:=⟨none,op,some (t,b)⟩
def ci(n:Int):Opd:=.c (.int .i64 n)
def cu(n:Int):Opd:=.c (.int .u64 n)
def cb(b:Bool):Opd:=.c (.bool b)
def cf(n:Nat):Opd:=.c (.fn (.func n) [])
def fA(d o x:Nat):aP_:=⟨some d,.fldA o (.t x),none⟩
def lA(d n x:Nat):aP_:=⟨some d,.ld true n (.t x),none⟩
def lF(d n x:Nat):aP_:=⟨some d,.ld false n (.t x),none⟩
def bI(d:Nat)(o:BinOp)(x y:Nat):aP_:=⟨some d,.bin o (.t x) (.t y),none⟩
def bC(d:Nat)(o:BinOp)(x:Nat)(c:Opd):aP_:=⟨some d,.bin o (.t x) c,none⟩
def sO(n x y:Nat):aP_:=⟨none,.sto n (.t x) (.t y),none⟩
def eX(d i x:Nat):aP_:=⟨some d,.ext i (.t x),none⟩
def lN(d x:Nat):aP_:=⟨some d,.len false (.t x),none⟩
def iX(d e x y:Nat):aP_:=⟨some d,.idxS e (.t x) (.t y),none⟩
def kA(d f x:Nat):aP_:=⟨some d,.call (cf f) [.t x],none⟩
def kB(d f x y:Nat):aP_:=⟨some d,.call (cf f) [.t x,.t y],none⟩
def kC(d f x y z:Nat):aP_:=⟨some d,.call (cf f) [.t x,.t y,.t z],none⟩
def sR(l:List aP_)(x:ah_):ah_:=.seq (.reg l) x
def cN(c:Nat)(x y:ah_):ah_:=.cond (.t c) x y
def wA(d o x t:Nat):aP_:=⟨some d,.fldA o (.t x),some (t,false)⟩
def wB(d o x t:Nat):aP_:=⟨some d,.fldA o (.t x),some (t,true)⟩
def wC(d n x t:Nat):aP_:=⟨some d,.ld false n (.t x),some (t,false)⟩
def wD(d n x t:Nat):aP_:=⟨some d,.ld false n (.t x),some (t,true)⟩
def wE(d n x t:Nat):aP_:=⟨some d,.ld true n (.t x),some (t,false)⟩
def wF(d n x t:Nat):aP_:=⟨some d,.ld true n (.t x),some (t,true)⟩
def wG(d s t:Nat):aP_:=⟨some d,.mv (.t s),some (t,false)⟩
def wH(d s t:Nat):aP_:=⟨some d,.mv (.t s),some (t,true)⟩
def wI(d:Nat)(o:BinOp)(x y t:Nat):aP_:=⟨some d,.bin o (.t x) (.t y),some (t,false)⟩
def wJ(d:Nat)(o:BinOp)(x y t:Nat):aP_:=⟨some d,.bin o (.t x) (.t y),some (t,true)⟩
def wK(d:Nat)(o:BinOp)(x:Nat)(c:Opd)(t:Nat):aP_:=⟨some d,.bin o (.t x) c,some (t,false)⟩
def wL(d:Nat)(o:BinOp)(x:Nat)(c:Opd)(t:Nat):aP_:=⟨some d,.bin o (.t x) c,some (t,true)⟩
def wM(d a b:Nat):aP_:=⟨some d,.pick (.t a) (cb true) (.t b),none⟩
def wN(d a b:Nat):aP_:=⟨some d,.pick (.t a) (.t b) (cb false),none⟩
def wO(d x:Nat):aP_:=⟨some d,.un .not (.t x),none⟩
def wP(d x t:Nat):aP_:=⟨some d,.un .not (.t x),some (t,false)⟩
def wQ(d x t:Nat):aP_:=⟨some d,.un .not (.t x),some (t,true)⟩
def wR(d:Nat)(n:Int):aP_:=⟨some d,.mv (ci n),none⟩
def wS(d:Nat)(b:Bool):aP_:=⟨some d,.mv (cb b),none⟩
def wT(d n x i t:Nat):aP_:=⟨some d,.idxS n (.t x) (.t i),some (t,false)⟩
def wU(d n x i t:Nat):aP_:=⟨some d,.idxS n (.t x) (.t i),some (t,true)⟩
def wV(d f x t:Nat):aP_:=⟨some d,.call (cf f) [.t x],some (t,false)⟩
def wW(d f x t:Nat):aP_:=⟨some d,.call (cf f) [.t x],some (t,true)⟩
def wX(d f x y t:Nat):aP_:=⟨some d,.call (cf f) [.t x,.t y],some (t,false)⟩
def wY(d f x y t:Nat):aP_:=⟨some d,.call (cf f) [.t x,.t y],some (t,true)⟩
def wZ(d n x:Nat):aP_:=⟨some d,.box n (.t x),none⟩
section
set_option maxRecDepth 100000
def zlO{r:List AV}(l:List AV)(h:r=l:=by(conv=>rhs;reduce)):{x // x=l}:=⟨r,h⟩
def zO1:=zlO (bu_ Fu_)
def zO2:=zlO (bn_ FB_)
def zO3:=zlO (ak_ kQ_)
def zO4:=zlO (av_ fX_)
def zO5:=zlO (aw_ eW_)
def zO6:=zlO (cw_ Et_)
def zO7:=zlO (bg_ DY_)
def zO8:=zlO (aU_ mZ_)
def zO9:=zlO (cc_ tU_)
def FJ_:=zlO (bM_ CD_)
def FK_:=zlO (bH_ Ce_)
def FL_:=zlO (bj_ wg_)
def FM_:=zlO (cm_ Dw_)
def FN_:=zlO (aV_ eu_)
def FO_:=zlO (cpC cp0)
def FP_:=zlO (br_ Cq_)
def FQ_:=zlO (rtc rt0)
def FR_:=zlO (wdc wd0)
def FS_:=zlO (cp_ Cf_)
def nfO(f:FuncId){P:Program}{n:Nat}{rs:List dd_}{c:ah_} (_h:aK_ P f=some (n,rs,c):=by
 have z1:=zO1.2;have z2:=zO2.2;have z3:=zO3.2;have z4:=zO4.2;have z5:=zO5.2;have z6:=zO6.2;have z7:=zO7.2;have z8:=zO8.2;have z9:=zO9.2;have z10:=FJ_.2;have z11:=FK_.2;have z12:=FL_.2;have z13:=FM_.2;have z14:=FN_.2;have z15:=FO_.2;have z16:=FP_.2;have z17:=FQ_.2;have z18:=FR_.2;have z19:=FS_.2;unfold zO1 zlO at z1;unfold zO2 zlO at z2;unfold zO3 zlO at z3;unfold zO4 zlO at z4;unfold zO5 zlO at z5;unfold zO6 zlO at z6;unfold zO7 zlO at z7;unfold zO8 zlO at z8;unfold zO9 zlO at z9;unfold FJ_ zlO at z10;unfold FK_ zlO at z11;unfold FL_ zlO at z12;unfold FM_ zlO at z13;unfold FN_ zlO at z14;unfold FO_ zlO at z15;unfold FP_ zlO at z16;unfold FQ_ zlO at z17;unfold FR_ zlO at z18;unfold FS_ zlO at z19;dsimp only at z1 z2 z3 z4 z5 z6 z7 z8 z9 z10 z11 z12 z13 z14 z15 z16 z17 z18 z19;(conv=>lhs;reduce;(try simp only[↓z1,↓z2,↓z3,↓z4,↓z5,↓z6,↓z7,↓z8,↓z9,↓z10,↓z11,↓z12,↓z13,↓z14,↓z15,↓z16,↓z17,↓z18,↓z19]))):ah_:=c
end
theorem bd{p q:Prop}(hq:q)(h:Hid q→p:=by(intro hq;dsimp only[nfO,Int.reduceOfNat,Int.reduceNegSucc,wA,wB,wC,wD,wE,wF,wG,wH,wI,wJ,wK,wL,wM,wN,wO,wP,wQ,wR,wS,wT,wU,wV,wW,wX,wY,wZ,om,oo,on,omg,og,ong,ci,cu,cb,cf,fA,lA,lF,bI,bC,sO,eX,lN,iX,kA,kB,kC,sR,cN];exact hq.out)):p:=h ⟨hq⟩
theorem inT{i n:Nat}(h:i<n):decide ((i:Int)<((n:Nat):Int))=true:=decide_eq_true (by omega)
theorem inF(n:Nat):decide (((n:Nat):Int)<((n:Nat):Int))=false:=decide_eq_false (by omega)
theorem eP_{p q:Prop}(hq:q)(h:Hid q→p:=by(intro hq;(try simp only[qO_,om_,List.set_cons_zero,List.set_cons_succ]);exact hq.out)):p:=h ⟨hq⟩
theorem puA{p:Prop}(h:p:=by simp[PuL,Pu,cy_,bU_,uC_,bT_,gO_,cO_,kf_,cR_,fx_,fy_,ds_,hD_,gv_,kh_,ag_.pul,aI_.pul,aB_.pul,as_.pul,cn_.pul,bP_.pul,aX_.pul,VOp.pul,fl_,fi_,de_,fk_,fj_,fh_,dS_,fZ_,ga_,ev_]):p:=h
theorem am_{fr:Fr}{σ:St}{rs:List dd_}{r:AV}{l:List AV}(hl:bW_ fr σ rs=some l:=by first|rfl|exact evd)(hv:fz σ (List.range σ.length) (fe_ l)=r:=by exact evd):
 ∃l,bW_ fr σ rs=some l∧(fz σ (List.range σ.length) (fe_ l)=r∨∃r0,fz σ (List.range σ.length) (fe_ l)=r0∧Pu r0∧Wk r0 r):=⟨l,hl,.inl hv⟩
section
variable{P:Program}{nt k:Nat}{fr:Fr}{σ:St}{c:Opd}{x y:ah_}{Q:Ex→Fr→St→Prop}{q:Prop}
theorem EB_(hq:q)(hb:c.ev fr=.bool true:=by exact evd)(h:Hid q→Tri P nt k x Q fr σ:=by(intro hq;(try refine aa_ ?_);exact hq.out)):Tri P nt k (.cond c x y) Q fr σ:=ab_ (h ⟨hq⟩) hb
theorem EA_(hq:q)(hb:c.ev fr=.bool false:=by exact evd)(h:Hid q→Tri P nt k y Q fr σ:=by(intro hq;(try refine aa_ ?_);exact hq.out)):Tri P nt k (.cond c x y) Q fr σ:=ac_ (h ⟨hq⟩) hb
theorem FZ_{f:FuncId}{args caps:List AV}{r:AV}{K:AV→St→Prop}(h:PC P f (args++caps) r)(hq:q)(hk:Hid q→K r σ:=by(intro hq;(try refine aa_ ?_);exact hq.out)):dw_ P (.fn (.func f) caps) args σ K:=aA_ h (hk ⟨hq⟩)
theorem GH_{nv:Nat}{vs vs2:List AV}{ts:List (Nat×AV)}{σ2:St}(zs js:List Nat)(hk:k≤js.length:=by simp)(hfix:js.take k=List.range k:=by rfl)(hnd:js.Nodup:=by simp)(hlt:∀j∈js,j<σ.length:=by simp)(ho:es_ σ zs (rn js σ.length) js σ2:=by exact evd)
 (hs:fr_ σ zs (rn js σ.length) vs vs2:=by exact evd):GC k ⟨nv,vs,ts⟩ σ ⟨nv,vs2,[]⟩ σ2:=GC.mk' zs js hk hfix hnd hlt ho hs
theorem Gt_{rs:List dd_}{r:AV}{σ':St}{l:List AV}{e:Ex}(zs js:List Nat)(he:∀i,e≠.exit i:=by simp)(hl:bW_ fr σ rs=some l:=by first|rfl|exact evd)(hk:k≤js.length:=by simp)(hfix:js.take k=List.range k:=by rfl)(hnd:js.Nodup:=by simp)(hlt:∀j∈js,j<σ.length:=by simp)(ho:es_ σ zs (rn js σ.length) js σ':=by exact evd)
 (hr:fz σ zs (fe_ l)=ren (rn js σ.length) r:=by exact evd):sE_ rs k σ' r e fr σ:=bE_ zs js e he hl hk hfix hnd hlt ho hr
end
set_option linter.unusedVariables false
open Go Go.RowKit
def bd_{α:Type}(f:Nat→α→α)(a:α):Nat→α
 |0=>a
 |n+1=>f n (bd_ f a n)
theorem BH_{α:Type}(f:Nat→α→α)(a:α):bd_ f a 0=a:=rfl
theorem AD_(k:IntKind):au_ k []=[]:=rfl
attribute [go_sem] BH_ AD_
theorem dq_{α:Type}(f:Nat→α→α)(a:α)(n:Nat):bd_ f a (n+1)=f n (bd_ f a n):=rfl
theorem fU_{α:Type}{f:Nat→α→α}{a:α}(I:Nat→α→Prop)(h0:I 0 a)(n:Nat)(hs:∀i x,i<n→I i x→I (i+1) (f i x)):∀i,i≤n→I i (bd_ f a i)
 |0,_=>h0
 |i+1,hi=>hs i _ (by omega) (fU_ I h0 n hs i (by omega))
theorem hi_{α:Type}{f g:Nat→α→α}{a:α}:∀ {n:Nat},(∀i x,i<n→f i x=g i x)→bd_ f a n=bd_ g a n
 |0,_=>rfl
 |n+1,h=>by rw[dq_,dq_,hi_ fun i x hi=>h i x (by omega),h n _ (by omega)]
theorem oB_{β:Type}{f:Nat→List β→List β}{a:List β}(h:∀i l,(f i l).length≤l.length+1):∀n,(bd_ f a n).length≤a.length+n
 |0=>Nat.le_refl _
 |n+1=>by rw[dq_];have:=h n (bd_ f a n);have:=oB_ h (a:=a) n;omega
def gI_(p:Nat→Bool):Nat→Nat→Option Nat
 |0,_=>none
 |f+1,i=>if p i=true then some i else gI_ p f (i+1)
def cb_(p:Nat→Bool)(n:Nat):Option Nat:=gI_ p n 0
theorem nr_{p:Nat→Bool}{n i:Nat}(hi:i<n)(h:p i=true):gI_ p (n-i) i=some i:=by
 obtain⟨f,hf⟩:∃f,n-i=f+1:=⟨n-i-1,by omega⟩
 rw[hf];show (if p i=true then _ else _)=_;rw[if_pos h]
theorem nq_{p:Nat→Bool}{n i:Nat}(hi:i<n)(h:p i=false):gI_ p (n-i) i=gI_ p (n-(i+1)) (i+1):=by
 obtain⟨f,hf⟩:∃f,n-i=f+1:=⟨n-i-1,by omega⟩
 rw[hf,show n-(i+1)=f by omega];show (if p i=true then _ else _)=_;rw[if_neg (by simp[h])]
theorem np_(p:Nat→Bool)(n:Nat):gI_ p (n-n) n=none:=by rw[Nat.sub_self];rfl
theorem qq_{p:Nat→Bool}:∀ {f i j:Nat},gI_ p f i=some j→i≤j∧j<i+f∧p j=true∧∀k,i≤k→k<j→p k=false
 |0,_,_,h=>by cases h
 | f + 1, i, j, h => by
   unfold gI_ at h;by_cases hp:p i=true
   ·rw[if_pos hp]at h;cases h;exact⟨Nat.le_refl _,by omega,hp,fun k h1 h2=>by omega⟩
   ·rw[if_neg hp]at h;obtain⟨h1,h2,h3,h4⟩:=qq_ h;refine⟨by omega,by omega,h3,fun k k1 k2=>?_⟩;by_cases hk:k=i
    ·subst hk;simpa using hp
    ·exact h4 k (by omega) k2
theorem qp_{p:Nat→Bool}:∀ {f i:Nat},gI_ p f i=none→∀k,i≤k→k<i+f→p k=false
 |0,_,_,k,h1,h2=>by omega
 | f + 1, i, h, k, h1, h2 => by
   unfold gI_ at h;by_cases hp:p i=true
   ·rw[if_pos hp]at h;cases h
   ·rw[if_neg hp]at h;by_cases hk:k=i
    ·subst hk;simpa using hp
    ·exact qp_ h k (by omega) (by omega)
theorem dj_{p:Nat→Bool}{n j:Nat}(h:cb_ p n=some j):j<n∧p j=true∧∀k,k<j→p k=false:=by
 obtain⟨h1,h2,h3,h4⟩:=qq_ h;exact⟨by omega,h3,fun k hk=>h4 k (Nat.zero_le _) hk⟩
theorem lg_{p:Nat→Bool}{n:Nat}(h:cb_ p n=none):∀k,k<n→p k=false:=fun k hk=>qp_ h k (Nat.zero_le _) (by omega)
def Fm_(p:Nat→Bool):Nat→Option Nat
 |0=>none
 |n+1=>if p n=true then some n else Fm_ p n
def mk_(o:Option Nat):Int:=match o with
 |some i=>(i:Int)
 |none=>-1
theorem fs_(i:Nat):mk_ (some i)=(i:Int):=rfl
theorem iH_:mk_ none=-1:=rfl
attribute [go_sem] fs_ iH_
end Go.FH
namespace Go.FH
set_option linter.unusedVariables false
open Go Go.RowKit
def lS_(a b:Int):Int×Int:=if IntKind.u64.wrap (18446744073709551615-b)<a then (0,4)else (IntKind.u64.wrap (a+b),0)
def vB_(a b:Int):Int×Int:=if b≠0∧IntKind.u64.wrap (Int.tdiv 18446744073709551615 b)<a then (0,4)else (IntKind.u64.wrap (a*b),0)
def dB_(l:List Int):Nat→Int×Int
 |0=>(0,0)
 |i+1=>let p:=dB_ l i;if p.2≠0 then p else lS_ p.1 (l.getD i 0)
def mx_(l:List Int):Int×Int:=dB_ l l.length
def gX_(n:Int):Bool:=decide (1≤n)&&decide (n≤64)
def bL_(e per:Int):Int×Int:=if gX_ per=true then vB_ e per else (0,3)
def wp_(a b:Rt):Nat→Nat→Int
 |0,_=>0
 |f+1,i=>if a.1.getD i 0<b.1.getD i 0 then -1 else if b.1.getD i 0<a.1.getD i 0 then 1 else wp_ a b f (i+1)
def sT_(a b:Rt):Int:=wp_ a b 32 0
def DB_(a b:Wd):Nat→Int
 |0=>0
 |f+1=>if a.1.getD f 0<b.1.getD f 0 then -1 else if b.1.getD f 0<a.1.getD f 0 then 1 else DB_ a b f
def EU_(a b:Wd):Int:=DB_ a b 4
def dD_(t:as_)(n:Int):Int:=if (t.bals.length:Int)≠n then 2 else if (mx_ t.bals).2≠0∨4611686018427387904<(mx_ t.bals).1 then 4 else 0
def uN_(a b:Cp):Int:=if a.ep≠b.ep then (if a.ep<b.ep then -1 else 1)else sT_ a.rt b.rt
def tab(l:List as_)(i:Nat):as_:=l.getD i default
def kA_(l:List as_)(c:Cp):Int:=mk_ (cb_ (fun i=>decide ((tab l i).cp=c)) l.length)
def AP_(l:List as_)(c:Cp):Nat→Nat→Nat
 |0,i=>i
 |f+1,i=>if uN_ (tab l i).cp c<0 then AP_ l c f (i+1)else i
def mP_(l:List as_)(t:as_):List as_:=let k:=AP_ l t.cp l.length 0;l.take k++[t]++l.drop k
def jU_(l:List as_)(t:as_)(n limit:Int):List as_×Int:=
 if dD_ t n≠0 then (l,dD_ t n)else if 0≤kA_ l t.cp then (l,9)else if limit≤l.length then (l,11)else (mP_ l t,0)
def cW_(l:List as_)(e:Int):List as_:=bd_ (fun i o=>if e≤(tab l i).cp.ep then o++[tab l i]else o) [] l.length
def vot(l:List Vot)(i:Nat):Vot:=l.getD i eu_
def kq_(ep:Int)(root:Rt)(l:List Int):Nat→List Vot×Int→List Vot×Int:=fun i p=>
 if (vot p.1 (l.getD i 0).toNat).has=false∨(vot p.1 (l.getD i 0).toNat).ep<ep then (p.1.set (l.getD i 0).toNat ⟨true,ep,root⟩,IntKind.i64.wrap (p.2+1))else p
def Dz_(v:List Vot)(ep:Int)(root:Rt)(l:List Int):List Vot×Int:=bd_ (kq_ ep root l) (v,0) l.length
def Dx_(latest:List Vot)(eqv bals:List Int)(roots:List Rt):Int:=
 bd_ (fun i n=>if (vot latest i).has=true∧(i:Int)∉eqv∧(vot latest i).root∈roots then IntKind.u64.wrap (n+bals.getD i 0)else n) 0 (min bals.length latest.length)
def nod(t:List Nod)(i:Nat):Nod:=t.getD i fX_
def isN(t:List Nod)(i:Int):Bool:=decide (0≤i)&&decide (i<t.length)
def al_(t:List Nod)(r:Rt):Int:=mk_ (cb_ (fun i=>decide ((nod t i).blk.root=r)) t.length)
def lh_(t:List Nod)(b:Blk)(status:Int):List Nod×Int:=
 if ¬ (0≤status∧status≤2)then ([],2)else if 0≤al_ t b.root then ([],9)else if al_ t b.parent<0 then ([],10)
 else if b.slot≤(nod t (al_ t b.parent).toNat).blk.slot then ([],14)else if 4096≤t.length then ([],11)else (t++[⟨b,al_ t b.parent,status⟩],0)
def Aw_(t:List Nod)(i:Int):List Int:=if isN t i=true then bd_ (fun k l=>if (nod t k).up=i then l++[(k:Int)]else l) [] t.length else []
def nT_(t:List Nod):Nat→Int→List Int
 |0,_=>[]
 |f+1,i=>if isN t i=true then (if i=0 then [0]else nT_ t f (nod t i.toNat).up++[i])else []
def hE_(t:List Nod):Prop:=∀i,0<i→i<t.length→0≤(nod t i).up∧(nod t i).up<i
theorem tM_{t:List Nod}(ht:hE_ t):∀ (n i f g:Nat),i<n→i<f→i<g→nT_ t f i=nT_ t g i
 |0,_,_,_,h,_,_=>by omega
 | n + 1, i, f + 1, g + 1, hn, hf, hg => by
   unfold nT_;by_cases hi:isN t (i:Int)=true
   ·rw[if_pos hi,if_pos hi]
    by_cases h0:(i:Int)=0
    ·rw[if_pos h0,if_pos h0]
    ·rw[if_neg h0,if_neg h0];simp[isN]at hi;obtain⟨u0,u1⟩:=ht i (by omega) hi;obtain⟨u,hu⟩:∃u:Nat,(nod t i).up=u:=⟨_,(Int.toNat_of_nonneg u0).symm⟩
     simp only[Int.toNat_natCast];rw[hu,tM_ ht n u f g (by omega) (by omega) (by omega)]
   ·rw[if_neg hi,if_neg hi]
def cr_(t:List Nod)(i:Int):List Int:=nT_ t (t.length+1) i
theorem mG_{t:List Nod}(h:0<t.length):cr_ t 0=[0]:=by
 unfold cr_ nT_;rw[if_pos (by simp[isN,h]),if_pos rfl]
theorem mH_{t:List Nod}(ht:hE_ t){i:Nat}(h0:0<i)(hi:i<t.length):cr_ t i=cr_ t (nod t i).up++[(i:Int)]:=by
 obtain⟨u0,u1⟩:=ht i h0 hi;obtain⟨u,hu⟩:∃u:Nat,(nod t i).up=u:=⟨_,(Int.toNat_of_nonneg u0).symm⟩
 have:=tM_ ht (i+1) u t.length (t.length+1) (by omega) (by omega) (by omega);unfold cr_;rw[hu,←this];show (if isN t (i:Int)=true then _ else _)=_
 rw[if_pos (by simp[isN,hi]),if_neg (by omega),Int.toNat_natCast,hu]
theorem kK_{t:List Nod}{i:Int}(h:isN t i=false):cr_ t i=[]:=by
 unfold cr_ nT_;rw[if_neg (by simp[h])]
theorem qy_{t:List Nod}(ht:hE_ t):∀ (n i:Nat),i<n→∀x∈cr_ t i,0≤x∧x≤i∧x<t.length
 |0,_,h,_,_=>by omega
 | n + 1, i, h, x, hx => by
   by_cases hi:i<t.length
   ·by_cases h0:i=0
    ·subst h0;rw[show ((0:Nat):Int)=0 from rfl,mG_ hi]at hx;simp at hx;omega
    ·obtain⟨u0,u1⟩:=ht i (by omega) hi;obtain⟨u,hu⟩:∃u:Nat,(nod t i).up=u:=⟨_,(Int.toNat_of_nonneg u0).symm⟩
     rw[mH_ ht (by omega) hi,hu,List.mem_append,List.mem_singleton]at hx;rcases hx with hx|hx
     ·have:=qy_ ht n u (by omega) x hx;omega
     ·omega
   ·rw[kK_ (by simp[isN];omega)]at hx;simp at hx
theorem jS_{t:List Nod}(ht:hE_ t){i x:Int}(hx:x∈cr_ t i):0≤x∧x≤i∧x<t.length:=by
 by_cases h0:0≤i
 ·obtain⟨u,rfl⟩:∃u:Nat,i=u:=⟨_,(Int.toNat_of_nonneg h0).symm⟩
  exact qy_ ht (u+1) u (by omega) x hx
 ·rw[kK_ (by simp[isN];omega)]at hx;simp at hx
def dg_(t:List Nod)(a b:Int):Bool:=decide (a∈cr_ t b)
def atT(t:List Nod)(i slot:Int):Int:=bd_ (fun k at_=>if (nod t ((cr_ t i).getD k 0).toNat).blk.slot≤slot then (cr_ t i).getD k 0 else at_) (-1) (cr_ t i).length
def wx_(t:List Nod)(i:Int):List Int:=bd_ (fun k l=>if dg_ t i k=true then l++[(k:Int)]else l) [] t.length
def Ch_(t:List Nod)(latest:List Vot)(eqv bals:List Int):List Int:=
 bd_ (fun i l=>l++[if (nod t i).status≠2 then Dx_ latest eqv bals [(nod t i).blk.root]else 0]) [] t.length
def GA_(t:List Nod)(direct:List Int):List Int:=
 bd_ (fun i l=>l++[bd_ (fun k n=>IntKind.u64.wrap (n+direct.getD ((wx_ t i).getD k 0).toNat 0)) 0 (wx_ t i).length]) [] t.length
def BU_(spe boost total:Int):Int×Int:=
 if spe<1∨64<spe∨100<boost∨4611686018427387904<total then (0,3)
 else (IntKind.u64.wrap (IntKind.u64.wrap (IntKind.u64.wrap (Int.tdiv (IntKind.u64.wrap (Int.tdiv total spe)) 100)*boost)+IntKind.u64.wrap (Int.tdiv (IntKind.u64.wrap (Int.tmod (IntKind.u64.wrap (Int.tdiv total spe)) 100*boost)) 100)),0)
def zD_(t:List Nod)(direct:List Int)(root:Rt)(amount:Int):List Int:=
 if 0≤al_ t root∧(nod t (al_ t root).toNat).status≠2∧root≠rt0 then direct.set (al_ t root).toNat (IntKind.u64.wrap (direct.getD (al_ t root).toNat 0+amount))else direct
def bt_(t:List Nod)(i:Int)(k:Nat)(p:List Nod×List Int):List Nod×List Int:=
 if dg_ t i k=true then (p.1++[⟨(nod t k).blk,if (k:Int)=i then -1 else p.2.getD (nod t k).up.toNat 0,(nod t k).status⟩],p.2++[(p.1.length:Int)])else (p.1,p.2++[-1])
def ef_(t:List Nod)(i:Int):List Nod×List Int:=bd_ (bt_ t i) ([],[]) t.length
def vY_(l:List Int)(status forbidden:Int)(k:Nat)(o:Option (List Nod)):Option (List Nod):=o.bind fun u=>if (nod u (l.getD k 0).toNat).status=forbidden then none else some (u.set (l.getD k 0).toNat { nod u (l.getD k 0).toNat with status:=status })
def CI_(t:List Nod)(l:List Int)(status forbidden:Int):Option (List Nod):=bd_ (vY_ l status forbidden) (some t) l.length
theorem ol_{t:List Nod}{l:List Int}{status forbidden:Int}:∀ {k:Nat} {u:List Nod},bd_ (vY_ l status forbidden) (some t) k=some u→u.length=t.length
 |0,u,h=>by cases h;rfl
 | k + 1, u, h => by
   rw[dq_]at h;cases h2:bd_ (vY_ l status forbidden) (some t) k with
   |none=>rw[h2]at h;cases h
   | some v =>
     rw[h2]at h;simp only[vY_,Option.bind_some]at h;split at h
     ·cases h
     ·cases h;rw[List.length_set,ol_ h2]
def gt_(t:List Nod)(i:Int):List Nod×Int:=if isN t i=true then (match CI_ t (cr_ t i) 1 2 with|some u=>(u,0)|none=>([],21))else ([],10)
def nc_(t:List Nod)(i:Int):List Nod×Int:=if isN t i=true then (match CI_ t (wx_ t i) 2 1 with|some u=>(u,0)|none=>([],21))else ([],10)
theorem Cu_{u:List Nod}{j i:Nat}{n:Nod}:nod (u.set j n) i=if j=i∧i<u.length then n else nod u i:=by
 unfold nod;simp only[List.getD_eq_getElem?_getD,List.getElem?_set];by_cases h:j=i
 ·subst h;by_cases h2:j<u.length
  ·simp[h2]
  ·simp[h2]
 ·simp[h]
theorem sb_{t:List Nod}{l:List Int}{status forbidden:Int}:∀ {k:Nat} {u:List Nod},bd_ (vY_ l status forbidden) (some t) k=some u→∀i,(nod u i).up=(nod t i).up∧(nod u i).blk=(nod t i).blk
 |0,u,h,i=>by cases h;exact⟨rfl,rfl⟩
 | k + 1, u, h, i => by
   rw[dq_]at h;cases h2:bd_ (vY_ l status forbidden) (some t) k with
   |none=>rw[h2]at h;cases h
   | some v =>
     rw[h2]at h;simp only[vY_,Option.bind_some]at h;have ih:=sb_ h2 i;split at h
     ·cases h
     ·cases h;rw[Cu_];split
      ·rename_i hq;rw[←hq.1]at ih ⊢;exact ih
      ·exact ih
theorem hE_.of_up{t u:List Nod}(ht:hE_ t)(hl:u.length=t.length)(hu:∀i,(nod u i).up=(nod t i).up):hE_ u:=fun i h1 h2=>by rw[hu i];exact ht i h1 (by omega)
def iq_(t:List Nod)(i:Int)(latest:Rt):Int×Int:=
 if (cr_ t i).length=0 then (-1,-1)
 else if latest=rt0 then (match cb_ (fun k=>decide ((nod t ((cr_ t i).getD k 0).toNat).blk.payload≠rt0)) (cr_ t i).length with
  |some k=>((nod t ((cr_ t i).getD k 0).toNat).up,(cr_ t i).getD k 0)
  |none=>(-1,i))
 else (match Fm_ (fun k=>decide ((nod t ((cr_ t i).getD k 0).toNat).blk.payload=latest)) ((cr_ t i).length-1)with
  |some k=>((cr_ t i).getD k 0,(cr_ t i).getD (k+1) 0)
  |none=>(-1,i))
def jQ_(t:List Nod)(i:Int)(v:Vdt)(keep:List Int):List Nod×Int:=
 if isN t i=false then ([],10)else if v.kind=1 then gt_ t i else if v.kind=3∨v.kind=4 then (t,0)else if v.kind≠2 then ([],2)
 else if (cb_ (fun k=>dg_ t (iq_ t i v.latest).2 (keep.getD k 0)) keep.length).isSome=true then ([],21)
 else if 0≤(iq_ t i v.latest).1 then (if (gt_ t (iq_ t i v.latest).1).2≠0 then ([],(gt_ t (iq_ t i v.latest).1).2)else nc_ (gt_ t (iq_ t i v.latest).1).1 (iq_ t i v.latest).2)
 else nc_ t (iq_ t i v.latest).2
end Go.FH
namespace Go.FH
set_option linter.unusedVariables false
set_option linter.unusedSimpArgs false
open Go Go.RowKit
def cM_(s p:Int):Int×Int:=if gX_ p=true then (IntKind.u64.wrap (Int.tdiv s p),0)else (0,3)
theorem et_{n:Int}(h0:0≤n)(h1:n<18446744073709551616):IntKind.u64.wrap n=n:=aW_ h0 h1
def El_(a b:Int):Int×Int:=if a*b / 18446744073709551616=0 then (IntKind.u64.wrap (a*b),0)else (0,4)
theorem Cs_{a b:Int}(ha:0≤a)(ha2:a<18446744073709551616)(hb:0≤b)(hb2:b<18446744073709551616):El_ a b=vB_ a b:=by
 unfold El_ vB_;by_cases h0:b=0
 ·subst h0;simp
 ·have hb1:0<b:=by omega
  have hd:Int.tdiv 18446744073709551615 b=18446744073709551615 / b:=Int.tdiv_eq_ediv_of_nonneg (by decide);have hq0:0≤18446744073709551615 / b:=Int.ediv_nonneg (by decide) hb;have hq1:18446744073709551615 / b≤18446744073709551615:=Int.ediv_le_self _ (by decide);rw[hd,et_ hq0 (by omega)];have hab:0≤a*b:=Int.mul_nonneg ha hb
  have key:(18446744073709551615 / b<a)↔18446744073709551615<a*b:=by
   rw[Int.ediv_lt_iff_lt_mul hb1]
  by_cases h:18446744073709551615 / b<a
  ·have h2:=key.1 h;rw[if_neg (by omega),if_pos ⟨h0,h⟩]
  ·have h2:¬18446744073709551615<a*b:=fun h3=>h (key.2 h3)
   rw[if_pos (by omega),if_neg (fun h3=>h h3.2)]
theorem Em_{x0 x1 y0 y1:Int}(hx0:0≤x0)(hx0':x0<4294967296)(hx1:0≤x1)(hx1':x1<4294967296)(hy0:0≤y0)(hy0':y0<4294967296)(hy1:0≤y1)(hy1':y1<4294967296):
 (0≤x0*y0∧x0*y0≤18446744065119617025)∧(0≤x1*y0∧x1*y0≤18446744065119617025)∧(0≤x0*y1∧x0*y1≤18446744065119617025)∧(0≤x1*y1∧x1*y1≤18446744065119617025)∧
  (x1*4294967296+x0)*(y1*4294967296+y0)=x1*y1*18446744073709551616+(x1*y0+x0*y1)*4294967296+x0*y0:=by
 have b:∀ {u v:Int},0≤u→u<4294967296→0≤v→v<4294967296→0≤u*v∧u*v≤18446744065119617025:=by
  intro u v h1 h2 h3 h4;refine⟨Int.mul_nonneg h1 h3,?_⟩;have:=Int.mul_le_mul (show u≤4294967295 by omega) (show v≤4294967295 by omega) h3 (by decide);simpa using this
 refine⟨b hx0 hx0' hy0 hy0',b hx1 hx1' hy0 hy0',b hx0 hx0' hy1 hy1',b hx1 hx1' hy1 hy1',?_⟩;simp only[Int.add_mul,Int.mul_add]
 have e1:x1*4294967296*(y1*4294967296)=x1*y1*18446744073709551616:=by
  rw[Int.mul_comm y1,←Int.mul_assoc,Int.mul_assoc x1 4294967296 4294967296,Int.mul_right_comm];rfl
 have e2:x1*4294967296*y0=x1*y0*4294967296:=Int.mul_right_comm _ _ _;have e3:x0*(y1*4294967296)=x0*y1*4294967296:=(Int.mul_assoc _ _ _).symm;rw[e1,e2,e3];omega
def zQ_(a b:Int):Int:=if a<b then -1 else if b<a then 1 else 0
def orI:List Int→Int
 | []=>0
 |x::r=>if x≠0 then x else orI r
theorem Cv_(a b:Cp):orI [zQ_ a.ep b.ep,sT_ a.rt b.rt]=uN_ a b:=by
 unfold uN_ zQ_;by_cases h1:a.ep<b.ep
 ·simp[orI,h1];omega
 ·by_cases h2:b.ep<a.ep
  ·simp[orI,h1,h2];omega
  ·have:a.ep=b.ep:=by omega
   simp[orI,this];intro h;exact h.symm
theorem Cg_(a b:Rt):ph_ a.1 b.1=sT_ a b:=by
 have key:∀ (f i:Nat) (x y:List UInt8),x.length=i+f→y.length=i+f→ph_ (x.drop i) (y.drop i)=(fun(x y:List UInt8)=>Nat.rec (motive:=fun _=>Nat→Int) (fun _=>0) (fun _ g i=>if x.getD i 0<y.getD i 0 then -1 else if y.getD i 0<x.getD i 0 then 1 else g (i+1)) f i) x y:=by
  intro f;induction f with
  | zero =>
    intro i x y hx hy;rw[List.drop_of_length_le (by omega),List.drop_of_length_le (by omega)];rfl
  | succ f ih =>
    intro i x y hx hy;rw[List.drop_eq_getElem_cons (show i<x.length by omega),List.drop_eq_getElem_cons (show i<y.length by omega)];have e1:x.getD i 0=x[i]'(by omega):=by simp[List.getD,show i<x.length by omega]
    have e2:y.getD i 0=y[i]'(by omega):=by simp[List.getD,show i<y.length by omega]
    simp only[ph_,e1,e2];rw[ih (i+1) x y (by omega) (by omega)]
 have h:=key 32 0 a.1 b.1 a.2 b.2;simp only[List.drop_zero]at h;rw[h];unfold sT_
 have:∀f i,(Nat.rec (motive:=fun _=>Nat→Int) (fun _=>0) (fun _ g i=>if a.1.getD i 0<b.1.getD i 0 then -1 else if b.1.getD i 0<a.1.getD i 0 then 1 else g (i+1)) f i:Int)=wp_ a b f i:=by
  intro f;induction f with
  |zero=>intro i;rfl
  |succ f ih=>intro i;simp only[wp_,ih]
 exact this 32 0
def my_:List Int→Int→Int×Bool
 | [],n=>(n,true)
 |x::r,n=>if IntKind.u64.wrap (4611686018427387904-n)<x then (0,false)else my_ r (IntKind.u64.wrap (n+x))
def fS_:List Int→Int
 | []=>0
 |x::r=>x+fS_ r
theorem sx_:∀ {l:List Int},(∀x∈l,0≤x∧x<18446744073709551616)→0≤fS_ l
 | [],_=>Int.le_refl 0
 | x :: r, h => by
   have:=h x (List.mem_cons_self ..);have:=sx_ (l:=r) fun y hy=>h y (List.mem_cons_of_mem _ hy)
   simp only[fS_];omega
theorem wV_:∀ {l:List Int} {n:Int},(∀x∈l,0≤x∧x<18446744073709551616)→0≤n→n≤4611686018427387904→(my_ l n).2=decide (n+fS_ l≤4611686018427387904)
 | [],n,_,h0,h1=>by simp[my_,fS_,h1]
 | x :: r, n, h, h0, h1 => by
   have hx:=h x (List.mem_cons_self ..);have hr:=fun y hy=>h y (List.mem_cons_of_mem x hy)
   have hn:=sx_ (l:=r) hr;simp only[my_];rw[et_ (n:=4611686018427387904-n) (by omega) (by omega)];by_cases hc:4611686018427387904-n<x
   ·rw[if_pos hc];exact(decide_eq_false (by simp only[fS_];omega)).symm
   ·rw[if_neg hc,et_ (by omega) (by omega),wV_ hr (by omega) (by omega)];exact decide_eq_decide.2 (by simp only[fS_];constructor<;>intro<;>omega)
theorem um_:∀ (l m:List Int),fS_ (l++m)=fS_ l+fS_ m
 | [],m=>by simp[fS_]
 |x::l,m=>by simp only[List.cons_append,fS_,um_ l m];omega
theorem wU_{l:List Int}(h:∀x∈l,0≤x∧x<18446744073709551616):∀i,i≤l.length→(fS_ (l.take i)<18446744073709551616→dB_ l i=(fS_ (l.take i),0))∧(18446744073709551616≤fS_ (l.take i)→(dB_ l i).2≠0)
 |0,_=>⟨fun _=>by simp[dB_,fS_],fun h=>by simp[fS_]at h⟩
 | i + 1, hi => by
   obtain⟨h1,h2⟩:=wU_ h i (by omega)
   have ht:l.take (i+1)=l.take i++[l.getD i 0]:=by
    rw[List.take_add_one,List.getD_eq_getElem?_getD,List.getElem?_eq_getElem (show i<l.length by omega)];rfl
   have hx:0≤l.getD i 0∧l.getD i 0<18446744073709551616:=by
    rw[List.getD_eq_getElem?_getD,List.getElem?_eq_getElem (show i<l.length by omega)];exact h _ (List.getElem_mem _)
   have hn:=sx_ (l:=l.take i) fun y hy=>h y (List.mem_of_mem_take hy)
   have hs:fS_ (l.take (i+1))=fS_ (l.take i)+l.getD i 0:=by rw[ht,um_];simp[fS_]
   rw[hs];simp only[dB_];by_cases hc:fS_ (l.take i)<18446744073709551616
   ·rw[h1 hc]
    simp only[ne_eq,not_true_eq_false,if_false];unfold lS_;rw[et_ (n:=18446744073709551615-l.getD i 0) (by omega) (by omega)];by_cases hov:18446744073709551615-l.getD i 0<fS_ (l.take i)
    ·rw[if_pos hov];exact⟨fun h=>by omega,fun _=>by decide⟩
    ·rw[if_neg hov,et_ (by omega) (by omega)];exact⟨fun _=>rfl,fun h=>by omega⟩
   ·have h3:=h2 (by omega);rw[if_pos h3];exact⟨fun h=>by omega,fun _=>h3⟩
theorem zl_{l:List Int}(h:∀x∈l,0≤x∧x<18446744073709551616):((mx_ l).2≠0∨4611686018427387904<(mx_ l).1)↔(my_ l 0).2=false:=by
 rw[wV_ h (Int.le_refl 0) (by decide),Int.zero_add];have h1:=wU_ h l.length (Nat.le_refl _);rw[List.take_length]at h1;unfold mx_;by_cases hc:fS_ l<18446744073709551616
 ·rw[h1.1 hc];simp
 ·have:=h1.2 (by omega);simp only[decide_eq_false_iff_not];exact⟨fun _=>by omega,fun _=>.inl this⟩
def Sm{α:Type}(G F:α→Prop):Prop:=∃r,G r∧F r
section
variable{α:Type}{G:α→Prop}{P:Program}{nt k:Nat}{fr:Fr}{σ:St}
theorem dE_{p q:α→Prop}(h:∀r,q r→p r)(hq:Sm G q):Sm G p:=hq.imp fun r h1=>⟨h1.1,h r h1.2⟩
theorem Bl_{F:α→Prop}(r:α)(h1:G r)(h2:F r):Sm G F:=⟨r,h1,h2⟩
theorem jA_{p q:α→Prop}(hq:Sm G q) (h:∀r,Hid (q r)→p r:=by
 (intro r hq
  (first|with_reducible (first|refine ex_ ?_|refine dP_ ?_|refine dk_ ?_|refine eR_ (by simp only[List.length_cons,List.length_nil]) ?_|refine eT_ ?_|refine eS_ ?_|refine go_ ?_)|(simp only[go_sem,Nat.reduceAdd,Nat.reduceSub,Nat.reduceMul,Nat.reduceLT,Nat.reduceLeDiff,Nat.reduceEqDiff,reduceIte,Int.reduceToNat,Int.reduceLT,Int.reduceLE,Int.reduceEq,Int.reduceNeg,reduceCtorEq,Int.reduceBEq,Int.reduceBNe])|with_reducible refine And.intro (fL_ (by decide)) ?_|(with_reducible refine And.intro ?_ ?_;first|omega|decide|(simp;done)|(simp;omega)))
  repeat(first|with_reducible (first|refine ex_ ?_|refine dP_ ?_|refine dk_ ?_|refine eR_ (by simp only[List.length_cons,List.length_nil]) ?_|refine eT_ ?_|refine eS_ ?_|refine go_ ?_)|(simp only[go_sem,Nat.reduceAdd,Nat.reduceSub,Nat.reduceMul,Nat.reduceLT,Nat.reduceLeDiff,Nat.reduceEqDiff,reduceIte,Int.reduceToNat,Int.reduceLT,Int.reduceLE,Int.reduceEq,Int.reduceNeg,reduceCtorEq,Int.reduceBEq,Int.reduceBNe])|with_reducible refine And.intro (fL_ (by decide)) ?_|(with_reducible refine And.intro ?_ ?_;first|omega|decide|(simp;done)|(simp;omega)))
  exact hq.out)):Sm G p:=dE_ (fun r h1=>h r ⟨h1⟩) hq
theorem wa_{x y:ah_}{Q:α→Ex→Fr→St→Prop}(h:Sm G fun r=>Tri P nt k x (eQ_ (Tri P nt k y (Q r)) (Q r)) fr σ):Sm G fun r=>Tri P nt k (.seq x y) (Q r) fr σ:=dE_ (fun r h1=>ex_ h1) h
theorem Bm_{p q:α→Prop}(hq:Sm G q) (h:∀r,Hid (q r)→p r:=by
 (intro r hq
  (first|with_reducible (first|refine dP_ ?_|refine dk_ ?_|refine eR_ (by simp only[List.length_cons,List.length_nil]) ?_|refine eT_ ?_|refine eS_ ?_|refine go_ ?_)|(simp only[go_sem,Nat.reduceAdd,Nat.reduceSub,Nat.reduceMul,Nat.reduceLT,Nat.reduceLeDiff,Nat.reduceEqDiff,reduceIte,Int.reduceToNat,Int.reduceLT,Int.reduceLE,Int.reduceEq,Int.reduceNeg,reduceCtorEq,Int.reduceBEq,Int.reduceBNe])|with_reducible refine And.intro (fL_ (by decide)) ?_|(with_reducible refine And.intro ?_ ?_;first|omega|decide|(simp;done)|(simp;omega)))
  repeat(first|with_reducible (first|refine dP_ ?_|refine dk_ ?_|refine eR_ (by simp only[List.length_cons,List.length_nil]) ?_|refine eT_ ?_|refine eS_ ?_|refine go_ ?_)|(simp only[go_sem,Nat.reduceAdd,Nat.reduceSub,Nat.reduceMul,Nat.reduceLT,Nat.reduceLeDiff,Nat.reduceEqDiff,reduceIte,Int.reduceToNat,Int.reduceLT,Int.reduceLE,Int.reduceEq,Int.reduceNeg,reduceCtorEq,Int.reduceBEq,Int.reduceBNe])|with_reducible refine And.intro (fL_ (by decide)) ?_|(with_reducible refine And.intro ?_ ?_;first|omega|decide|(simp;done)|(simp;omega)))
  exact hq.out)):Sm G p:=dE_ (fun r h1=>h r ⟨h1⟩) hq
theorem jB_{p q:α→Prop}(hq:Sm G q) (h:∀r,Hid (q r)→p r:=by
 (intro r hq
  (first|(simp only[go_sem,Nat.reduceAdd,Nat.reduceSub,Nat.reduceMul,Nat.reduceLT,Nat.reduceLeDiff,Nat.reduceEqDiff,reduceIte,Int.reduceToNat,Int.reduceLT,Int.reduceLE,Int.reduceEq,Int.reduceNeg,reduceCtorEq,Int.reduceBEq,Int.reduceBNe])|with_reducible refine And.intro (fL_ (by decide)) ?_|(with_reducible refine And.intro ?_ ?_;first|omega|decide|(simp;done)|(simp;omega)))
  repeat(first|(simp only[go_sem,Nat.reduceAdd,Nat.reduceSub,Nat.reduceMul,Nat.reduceLT,Nat.reduceLeDiff,Nat.reduceEqDiff,reduceIte,Int.reduceToNat,Int.reduceLT,Int.reduceLE,Int.reduceEq,Int.reduceNeg,reduceCtorEq,Int.reduceBEq,Int.reduceBNe])|with_reducible refine And.intro (fL_ (by decide)) ?_|(with_reducible refine And.intro ?_ ?_;first|omega|decide|(simp;done)|(simp;omega)))
  exact hq.out)):Sm G p:=dE_ (fun r h1=>h r ⟨h1⟩) hq
theorem fP_{c:Opd}{x y:ah_}{Q:α→Ex→Fr→St→Prop}{t:Bool}(h1:t=true→Sm G fun r=>Tri P nt k x (Q r) fr σ)(h2:t=false→Sm G fun r=>Tri P nt k y (Q r) fr σ)
 (hb:c.ev fr=.bool t:=by first|rfl|(simp only[go_sem];rfl)):Sm G fun r=>Tri P nt k (.cond c x y) (Q r) fr σ:=by
 cases t with
 |true=>exact dE_ (fun r h=>dC_ hb (fun _=>h) (fun h=>by cases h)) (h1 rfl)
 |false=>exact dE_ (fun r h=>dC_ hb (fun h=>by cases h) (fun _=>h)) (h2 rfl)
theorem oo_{p1 p2:Prop}{A B:α→Prop}(h1:p1→Sm G A)(h2:p2→Sm G B)(hx:p1→p2→False:=by intro h1 h2;first|(rw[h1]at h2;cases h2;done)|exact h2 h1|exact h1 h2|(simp_all;done)|omega)
 (ho:p1∨p2:=by first|exact Classical.em _|exact(Classical.em _).symm|exact Bool.eq_false_or_eq_true _|exact(Bool.eq_false_or_eq_true _).symm|(simp;omega)|omega):Sm G fun r=>(p1→A r)∧(p2→B r):=by
 rcases ho with h|h
 ·exact dE_ (fun r h3=>⟨fun _=>h3,fun h4=>(hx h h4).elim⟩) (h1 h)
 ·exact dE_ (fun r h3=>⟨fun h4=>(hx h4 h).elim,fun _=>h3⟩) (h2 h)
theorem iw_{f:FuncId}{args caps:List AV}{r0:AV}{K:α→AV→St→Prop}(h:PC P f (args++caps) r0)(hk:Sm G fun r=>K r r0 σ):Sm G fun r=>dw_ P (.fn (.func f) caps) args σ (K r):=dE_ (fun r h1=>aA_ h h1) hk
theorem cg_{n:Nat}{f:FuncId}{args caps:List AV}{r0:AV}{K:α→AV→List Nat→List Nat→St→Prop}(h:PC P f (args++caps) r0)(hk:Sm G fun r=>K r r0 [] [] σ):
 Sm G fun r=>∃v ft ch σ',kp_ P n (.fn (.func f) caps) args σ v ft ch σ'∧K r v ft ch σ':=dE_ (fun r h1=>co_ h h1) hk
theorem Fy_{c:ah_}{Q:α→Ex→Fr→St→Prop}{fr2:Fr}{σ2:St}(hg:GC k fr σ fr2 σ2)(h:Sm G fun r=>Tri P nt k c (Q r) fr2 σ2):Sm G fun r=>Tri P nt k c (Q r) fr σ:=dE_ (fun r h1=>cC_ hg h1) h
def Ga_(P:Program)(nt k:Nat)(x:ah_)(fr:Fr)(σ:St)(fr2:Fr)(σ2:St):Prop:=∀ (z:ah_) (Q0 Q:Ex→Fr→St→Prop),Tri P nt k z Q0 fr2 σ2→Tri P nt k x (eQ_ (Tri P nt k z Q0) Q) fr σ
theorem rF_{x:ah_}{fr2:Fr}{σ2:St}(h:Tri P nt k x (fun e fr σ=>e=.normal∧GC k fr σ fr2 σ2) fr σ):Ga_ P nt k x fr σ fr2 σ2:=fun z Q0 Q hz=>Tri.mono h fun e fr3 σ3 ⟨h1,h2⟩=>by
 subst h1;exact cC_ h2 hz
theorem yZ_{c:Opd}{x y z:ah_}{Q0 Q:Ex→Fr→St→Prop}{t:Bool}{nv:Nat}{vs:List AV}{ts:List (Nat×AV)}(us:Bool→List (Nat×AV))(S:Bool→St)
 (hx:t=true→Tri P nt k x (fun e fr σ=>e=.normal∧GC k fr σ ⟨nv,ly_ (us true) vs,[]⟩ (S true)) ⟨nv,vs,ts⟩ σ) (hy:t=false→Tri P nt k y (fun e fr σ=>e=.normal∧GC k fr σ ⟨nv,ly_ (us false) vs,[]⟩ (S false)) ⟨nv,vs,ts⟩ σ)
 (hz:Tri P nt k z Q0 ⟨nv,ly_ (us t) vs,[]⟩ (S t)) (hb:c.ev ⟨nv,vs,ts⟩=.bool t:=by first|rfl|(simp only[go_sem];rfl)):Tri P nt k (.cond c x y) (eQ_ (Tri P nt k z Q0) Q) ⟨nv,vs,ts⟩ σ:=by
 cases t with
 |true=>exact dC_ hb (fun _=>rF_ (hx rfl) z Q0 Q hz) (fun h=>by cases h)
 |false=>exact dC_ hb (fun h=>by cases h) (fun _=>rF_ (hy rfl) z Q0 Q hz)
theorem CK_{β:Type}{x z:ah_}{Q0 Q:α→Ex→Fr→St→Prop}{H:β→Prop}{F:β→Fr}{S:β→St}(h:Sm H fun b=>Tri P nt k x (fun e fr σ=>e=.normal∧GC k fr σ (F b) (S b)) fr σ)
 (hz:∀b,H b→Sm G fun r=>Tri P nt k z (Q0 r) (F b) (S b)):Sm G fun r=>Tri P nt k x (eQ_ (Tri P nt k z (Q0 r)) (Q r)) fr σ:=by
 obtain⟨b,h1,h2⟩:=h;exact dE_ (fun r h3=>rF_ h2 z _ _ h3) (hz b h1)
theorem Bn_{β:Type}{x z:ah_}{Q0 Q:α→Ex→Fr→St→Prop}{nv:Nat}{vs:List AV}{ts:List (Nat×AV)}(H:β→Prop)(us:β→List (Nat×AV))(S:β→St)(h:Sm H fun b=>Tri P nt k x (fun e fr' σ'=>e=.normal∧GC k fr' σ' ⟨nv,ly_ (us b) vs,[]⟩ (S b)) ⟨nv,vs,ts⟩ σ)
 (hz:∀b,H b→Sm G fun r=>Tri P nt k z (Q0 r) ⟨nv,ly_ (us b) vs,[]⟩ (S b)):Sm G fun r=>Tri P nt k x (eQ_ (Tri P nt k z (Q0 r)) (Q r)) ⟨nv,vs,ts⟩ σ:=CK_ (F:=fun b=>⟨nv,ly_ (us b) vs,[]⟩) (S:=S) h hz
theorem Eu_{rs:List dd_}{F:α→AV}{l:List AV}{b:α}(hl:bW_ fr σ rs=some l)(hv:fz σ (List.range σ.length) (fe_ l)=F b)(hg:G b):Sm G fun r=>PQ rs (F r) .ret fr σ:=⟨b,hg,l,hl,.inl hv⟩
theorem wQ_{f:FuncId}{rs:List dd_}{ac:ah_}{args:List AV}{F:α→AV}(nv:Nat)(hf:aK_ P f=some (nt,rs,ac))(ha:args.length≤nt)(hp:PuL args)(hr:∀r,G r→Pu (F r))
 (h:Sm G fun r=>Tri P nt 0 ac (PQ rs (F r)) ⟨nv,args++List.replicate (nv-args.length) .dead,[]⟩ []):Sm G fun r=>PC P f args (F r):=by
 obtain⟨r,h1,h2⟩:=h;exact⟨r,h1,PC.fact nv hf ha hp (hr r h1) h2⟩
end
section
variable{P:Program}{σ:St}
end
def BD_(σ:St)(zs:List Nat)(ρ:Nat→Nat)(ts:List (Nat×AV)):List (Nat×AV)→Prop
 | []=>True
 |p::r=>fz σ zs (il_ ts p.1)=ren ρ p.2∧BD_ σ zs ρ ts r
theorem BD_.get{σ:St}{zs:List Nat}{ρ:Nat→Nat}{ts:List (Nat×AV)}(t:Nat):∀ {ts2:List (Nat×AV)},BD_ σ zs ρ ts ts2→il_ ts2 t=.dead∨fz σ zs (il_ ts t)=ren ρ (il_ ts2 t)
 | [],_=>.inl rfl
 | (u, v) :: r, h => by
   rw[show il_ ((u,v)::r) t=if t=u then v else il_ r t from rfl];by_cases hu:t=u
   ·subst hu;rw[if_pos rfl];exact .inr h.1
   ·rw[if_neg hu];exact BD_.get t h.2
section
variable{k:Nat}{σ:St}
end
attribute [go_sem] BD_ il_
def ah_.tl:Nat→ah_→ah_
 |0,c=>c
 |n+1,.seq _ b=>b.tl n
 |_+1,c=>c
def ah_.hd:ah_→ah_
 |.seq a _=>a
 |c=>c
def flat1:AV→Bool
 |.bool _|.int _ _|.str _=>true
 |_=>false
def flat2:AV→Bool
 |.agg cs=>cs.all flat1
 |v=>flat1 v
def flatR:AV→Bool
 |.tup us=>us.all flat2
 |v=>flat2 v
theorem Rl.flat1{E E':Env}{c:AV}{v:Value}(hc:flat1 c=true)(h:Rl E c v):Rl E' c v:=by
 cases c<;>first|exact h|cases hc
theorem RlC.flat{E E':Env}:∀ {cs:List AV} {vs:List Value},cs.all Go.FH.flat1=true→RlC E cs vs→RlC E' cs vs
 | [],_,_,h=>h
 | c :: cs, _, hc, h => by
   obtain⟨u,us,e,h1,h2,h3⟩:=h;rw[List.all_cons,Bool.and_eq_true]at hc;exact⟨u,us,e,h1,h2.flat1 hc.1,RlC.flat hc.2 h3⟩
theorem Rl.flat2{E E':Env}{c:AV}{v:Value}(hc:flat2 c=true)(h:Rl E c v):Rl E' c v:=by
 cases c<;>first|exact h|cases hc|skip
 obtain⟨vs,e,h1⟩:=h;exact⟨vs,e,h1.flat hc⟩
theorem RlS.flat{E E':Env}:∀ {cs:List AV} {vs:List Value},cs.all Go.FH.flat2=true→RlS E cs vs→RlS E' cs vs
 | [],_,_,h=>h
 | c :: cs, _, hc, h => by
   obtain⟨u,us,e,h2,h3⟩:=h;rw[List.all_cons,Bool.and_eq_true]at hc;exact⟨u,us,e,h2.flat2 hc.1,RlS.flat hc.2 h3⟩
theorem Rl.flatR{E E':Env}{c:AV}{v:Value}(hc:flatR c=true)(h:Rl E c v):Rl E' c v:=by
 cases c<;>first|exact h|cases hc|exact Rl.flat2 hc h|skip
 obtain⟨vs,e,h1⟩:=h;exact⟨vs,e,h1.flat hc⟩
theorem Ei_{p q:Prop}(hq:q) (h:Hid q→p:=by
 (intro hq
  (first|with_reducible (first|refine dP_ ?_|refine dk_ ?_|refine eR_ (by simp only[List.length_cons,List.length_nil]) ?_|refine eT_ ?_|refine eS_ ?_|refine go_ ?_)|(simp only[go_sem,Nat.reduceAdd,Nat.reduceSub,Nat.reduceMul,Nat.reduceLT,Nat.reduceLeDiff,Nat.reduceEqDiff,reduceIte,Int.reduceToNat,Int.reduceLT,Int.reduceLE,Int.reduceEq,Int.reduceNeg,reduceCtorEq,Int.reduceBEq,Int.reduceBNe])|with_reducible refine And.intro (fL_ (by decide)) ?_|(with_reducible refine And.intro ?_ ?_;first|omega|decide|(simp;done)|(simp;omega)))
  repeat(first|with_reducible (first|refine dP_ ?_|refine dk_ ?_|refine eR_ (by simp only[List.length_cons,List.length_nil]) ?_|refine eT_ ?_|refine eS_ ?_|refine go_ ?_)|(simp only[go_sem,Nat.reduceAdd,Nat.reduceSub,Nat.reduceMul,Nat.reduceLT,Nat.reduceLeDiff,Nat.reduceEqDiff,reduceIte,Int.reduceToNat,Int.reduceLT,Int.reduceLE,Int.reduceEq,Int.reduceNeg,reduceCtorEq,Int.reduceBEq,Int.reduceBNe])|with_reducible refine And.intro (fL_ (by decide)) ?_|(with_reducible refine And.intro ?_ ?_;first|omega|decide|(simp;done)|(simp;omega)))
  exact hq.out)):p:=h ⟨hq⟩
section
variable{P:Program}{σ:St}
theorem ao_.lend{f:FuncId}{args:List AV}{r:AV}(hf:flatR r=true)(h:PC P f (fzL σ (List.range σ.length) args) r):ao_ P f args σ r σ:=by
 refine⟨h.call.1,Nat.le_refl _,fun X loc w vs hr hv=>?_⟩;obtain⟨loc2,g1,g2,g3,g4⟩:=(hd_ σ (List.range σ.length)).rel hr;have hpu:=h.pa
 have hv2:RlS (ap_ X loc2 [] w) (fzL σ (List.range σ.length) args) vs:=by
  have key:∀ {xs:List AV} {us:List Value},PuL (fzL σ (List.range σ.length) xs)→RlS (ap_ X loc σ w) xs us→RlS (ap_ X loc2 [] w) (fzL σ (List.range σ.length) xs) us:=by
   intro xs;induction xs with
   |nil=>intro us _ hv;exact hv
   | cons a xs ih =>
     intro us hp hv;obtain⟨u,us',e,h1,h2⟩:=hv;exact⟨u,us',e,g4 a u h1 _ (hp.1.ren _).symm,ih hp.2 h2⟩
  exact key hpu hv
 refine(h.call.2.2 X loc2 w vs g2 hv2).mono ?_;rintro e w' ⟨v,loc',rfl,ho,_⟩;have hnl:∀b,¬an_ [] loc2 b:=fun b hd=>by obtain⟨id,o,L,h1,_⟩:=hd;simp at h1
 have hev:Ev (an_ σ loc) w w':=⟨ho.ev.size,fun b hb hn=>ho.ev.blk b hb (hnl b),ho.ev.os,ho.ev.tape,ho.ev.output⟩
 exact⟨v,loc,rfl,⟨fun _ _ h=>h,hr.change (fun _ _ h=>h) hev (fun b hb=>.inl hb) hr.beyond (fun id o h1 h2=>.inl ⟨h1,fun L hL hh=>ho.ev.blk _ (an_.lt hr ⟨id,o,L,h1,h2,hL,hh,rfl⟩) (hnl _)⟩) hr.apart,
  ho.val.flatR hf,hev,fun b hb=>.inl hb⟩,fun _ _=>rfl⟩
end
section
variable{P:Program}
theorem ao_.forget{f:FuncId}{args:List AV}{r r2:AV}{σ σ' σ2:St}{zs js:List Nat}(h:ao_ P f args σ r σ')(hf:fv_ σ.length σ' zs js σ2)(hr2:fz σ' zs r=ren (rn js σ'.length) r2):ao_ P f args σ r2 σ2:=by
 have hlen:σ.length≤σ2.length:=by
  rw[hf.len];rcases Nat.lt_or_ge js.length σ.length with h1|h1
  ·have:=hf.fix js.length h1;rw[List.getElem?_eq_none (Nat.le_refl _)]at this;cases this
  ·exact h1
 refine⟨h.1,hlen,fun X loc w vs hr hv=>(h.2.2 X loc w vs hr hv).mono ?_⟩;rintro e w' ⟨v,loc',rfl,ho,hk⟩;obtain⟨loc2,g1,g2,g3,g4⟩:=hf.rel ho.rel
 have hid:∀id,id<σ.length→loc2 id=loc' id:=by
  intro id hid;rw[g1];congr 1;have:=hf.fix id hid;simp[rn,List.getD,this]
 refine⟨v,loc2,rfl,⟨fun id L hL=>?_,g2,g4 _ _ ho.val _ hr2,ho.ev,fun b hb=>ho.old b (g3 b hb)⟩,fun id h2=>(hid id h2).trans (hk id h2)⟩;rcases Nat.lt_or_ge id σ.length with h2|h2
 ·rw[hid id h2];exact ho.locs id L hL
 ·rw[hr.beyond id h2]at hL;cases hL
theorem ao_.pc{f:FuncId}{args:List AV}{r r2:AV}{σ':St}(h:ao_ P f args [] r σ')(pa:PuL args)(pr:Pu r2)(hr2:fz σ' (List.range σ'.length) r=r2:=by exact evd):PC P f args r2:=
 ⟨h.forget (hd_ σ' (List.range σ'.length)) (by rw[hr2,pr.ren]),pa,pr⟩
end
theorem yx_(ρ:Nat→Nat):bi_ ρ []=[]:=rfl
theorem wl0:IntKind.i64.wrap ((0:Int)+1)=1:=by decide
theorem wl1:IntKind.i64.wrap ((1:Int)+1)=2:=by decide
theorem wl2:IntKind.i64.wrap ((2:Int)+1)=3:=by decide
theorem wl3:IntKind.i64.wrap ((3:Int)+1)=4:=by decide
theorem wl4:IntKind.i64.wrap ((4:Int)+1)=5:=by decide
theorem wl5:IntKind.i64.wrap ((5:Int)+1)=6:=by decide
theorem wl6:IntKind.i64.wrap ((6:Int)+1)=7:=by decide
theorem yg_(k:IntKind)(ns:List Int)(x:Int):au_ k ns++[[.int k x]]=au_ k (ns++[x]):=by simp[au_]
attribute [go_sem] yg_ yx_ wl0 wl1 wl2 wl3 wl4 wl5 wl6
def Unr(P:Program)(nt k:Nat)(x:ah_)(Q:Ex→Fr→St→Prop):Nat→Fr→St→Prop
 |0,_,_=>False
 |n+1,fr,σ=>Tri P nt k x (eQ_ (Unr P nt k x Q n) Q) fr σ
@[congr] theorem EH_{P:Program}{nt k n:Nat}{c:ah_}{Q:Ex→Fr→St→Prop}{fr fr':Fr}{σ σ':St}(h1:fr=fr')(h2:σ=σ'):Unr P nt k c Q n fr σ=Unr P nt k c Q n fr' σ':=by rw[h1,h2]
section
variable{P:Program}{nt k:Nat}{fr:Fr}{σ:St}
end
theorem nX_{w:World}{b o:Nat}{vs:List Value}(hn:vs≠[])(h:∀j u,vs[j]?=some u→w.cell? ⟨b,o+j,none⟩=some u):range? w b o vs.length=some vs.toArray:=by
 unfold range?
 have h0:∃u,vs[0]?=some u:=by
  cases vs with
  |nil=>exact absurd rfl hn
  |cons u us=>exact⟨u,rfl⟩
 obtain⟨u0,hu0⟩:=h0;have hc0:=h 0 u0 hu0;unfold World.cell? at hc0;split at hc0
 ·rename_i c t f hb
  simp only at hb
  have key:∀j u,vs[j]?=some u→c[o+j]?=some u:=by
   intro j u hj;have:=h j u hj;unfold World.cell? at this;simp only[hb]at this;simpa using this
  rw[hb];simp only
  have hlen:o+vs.length≤c.size:=by
   have hlt:vs.length-1<vs.length:=by
    have:vs.length≠0:=fun hh=>hn (List.eq_nil_of_length_eq_zero hh)
    omega
   have:=key (vs.length-1) _ (List.getElem?_eq_getElem hlt);have:=(Array.getElem?_eq_some_iff.1 this).1;omega
  rw[if_pos hlen];congr 1;apply Array.ext
  ·simp;omega
  ·intro i h1 h2;have hi:i<vs.length:=by simpa using h2
   have:=key i _ (List.getElem?_eq_getElem hi);rw[Array.getElem?_eq_some_iff]at this;obtain⟨h3,h4⟩:=this;simp[h4]
 ·cases hc0
abbrev iZ_(w:World):Env:=⟨fun _=>none,fun _=>False,w⟩
theorem PC.top{P:Program}{f:FuncId}{args:List AV}{r:AV}(h:PC P f args r){w:World}{vs:List Value}(hv:RlS (iZ_ w) args vs):
 Calls P f vs.toArray w fun e w'=>(∃v,e=.returned v∧Rl (iZ_ w') r v)∧Below w.heap.size w w':=by
 have hF:∀w:World,ap_ (fun _=>False) (fun _=>none) [] w=iZ_ w:=by
  intro w;unfold ap_ iZ_;congr 1;funext b
  apply propext
  constructor
  ·rintro (h|⟨id,o,L,h1,_⟩)
   ·exact h
   ·simp at h1
  ·exact fun h=>h.elim
 have hr:Rel (fun _=>False) (fun _=>none) [] w:=⟨fun id o h=>by simp at h,fun i j a b La Lb _ h=>by simp at h,fun b h=>h.elim,fun _ _=>rfl⟩;refine(h.call.2.2 _ _ w vs hr (by rw[hF];exact hv)).mono ?_;rintro e w' ⟨v,loc',rfl,ho,_⟩;refine⟨⟨v,rfl,?_⟩,ho.ev.below fun b _ hb=>?_⟩
 ·have hl:loc'=fun _=>none:=funext fun id=>ho.rel.beyond id (Nat.zero_le _)
  have:=ho.val;rw[hl,hF]at this;exact this
 ·obtain⟨id,o,L,h1,_⟩:=hb;simp at h1
theorem PC.law{P:Program}{f:FuncId}{args:List AV}(h:PC P f args (.bool true)){w:World}{vs:List Value}(hv:RlS (iZ_ w) args vs):
 Calls P f vs.toArray w fun e w'=>e=.returned (.bool true)∧Below w.heap.size w w':=
 (h.top hv).mono fun e w' ⟨⟨v,h1,h2⟩,h3⟩=>⟨by rw[h1];exact congrArg Ending.returned h2,h3⟩
inductive Sh where
 |bool
 |int (k:IntKind)
 |arr (n:Nat) (s:Sh)
 |sl (s:Sh)
 |st (ss:List Sh)
mutual
def Sh.size:Sh→Nat
 |.bool=>1
 |.int _=>1
 |.sl _=>1
 |.arr n s=>n*s.size
 |.st ss=>Sh.sizes ss
def Sh.sizes:List Sh→Nat
 | []=>0
 |s::ss=>s.size+Sh.sizes ss
end
mutual
inductive Opn:Sh→List AV→Prop
 |bool (b:Bool):Opn .bool [.bool b]
 |int (k:IntKind) (n:Int) (h:(Lit.int k n).wf=true):Opn (.int k) [.int k n]
 |arr (n:Nat) (s:Sh) (xs:List (List AV)) (hl:xs.length=n) (h:∀x∈xs,Opn s x):Opn (.arr n s) xs.flatten
 |sl (s:Sh) (xs:List (List AV)) (hl:xs.length≤maxLen) (h:∀x∈xs,Opn s x):Opn (.sl s) [.sl s.size false xs]
 |st (ss:List Sh) (cs:List AV) (h:mL_ ss cs):Opn (.st ss) cs
inductive mL_:List Sh→List AV→Prop
 |nil:mL_ [] []
 |cons (s:Sh) (ss:List Sh) (a b:List AV) (h:Opn s a) (hs:mL_ ss b):mL_ (s::ss) (a++b)
end
mutual
def ml_(P:Program):Sh→TypeId→Bool
 | .bool, t => match P.underlying t with
   |some .bool=>true
   |_=>false
 | .int k, t => match P.underlying t with
   |some (.int k')=>k==k'
   |_=>false
 | .arr n s, t => match P.underlying t with
   |some (.array m e)=>m==n&&P.cellsOf e==s.size&&P.cellsOf t==n*s.size&&ml_ P s e
   |_=>false
 | .sl s, t => match P.underlying t with
   |some (.slice e)=>P.cellsOf e==s.size&&decide (0<s.size)&&ml_ P s e
   |_=>false
 | .st ss, t => match P.underlying t with
   |some (.struct fs)=>P.cellsOf t==Sh.sizes ss&&qt_ P ss fs.toList 0
   |_=>false
def qt_(P:Program):List Sh→List Field→Nat→Bool
 | [],[],_=>true
 |s::ss,f::fs,o=>f.offset==o&&P.cellsOf f.type==s.size&&ml_ P s f.type&&qt_ P ss fs (o+s.size)
 |_,_,_=>false
end
section
variable{H:Type}{enc:TypeId×Value→H}{P:Program}{w:World}
theorem zy_{s:Sh}{k:Nat}:∀ (n:Nat) (cs:List Value),cs.length=n*k→(∀i,i<n→∃avs,Opn s avs∧RlC (iZ_ w) avs ((cs.drop (i*k)).take k))→
 ∃xs:List (List AV),xs.length=n∧(∀x∈xs,Opn s x)∧RlC (iZ_ w) xs.flatten cs
 |0,cs,hl,_=>⟨[],rfl,by simp,by have:cs=[]:=List.eq_nil_of_length_eq_zero (by omega);subst this;rfl⟩
 | n + 1, cs, hl, h => by
   have hk:(n+1)*k=k+n*k:=by rw[Nat.succ_mul];omega
   obtain⟨a,ha,hr⟩:=h 0 (by omega)
   obtain⟨xs,h1,h2,h3⟩:=zy_ (s:=s) (k:=k) n (cs.drop k) (by rw[List.length_drop,hl,hk];omega) (fun i hi=>by
    obtain⟨b,hb,hr⟩:=h (i+1) (by omega);refine⟨b,hb,?_⟩;rw[List.drop_drop,show k+i*k=(i+1)*k by rw[Nat.succ_mul];omega];exact hr)
   refine⟨a::xs,by simp[h1],fun x hx=>?_,?_⟩
   ·rcases List.mem_cons.1 hx with rfl|hx
    ·exact ha
    ·exact h2 x hx
   ·have e:cs=cs.take k++cs.drop k:=(List.take_append_drop k cs).symm;rw[e];simp only[Nat.zero_mul,List.drop_zero]at hr;exact RlC.app hr h3
theorem DL_{s:Sh}{k:Nat}{b off:Nat}:∀ (n:Nat) (o:Nat),(∀i,i<n→∃avs us,Opn s avs∧RlC (iZ_ w) avs us∧us.length=k∧∀j,j<k→w.cell? ⟨b,off+(o+i*k+j),none⟩=us[j]?)→
 ∃ (xs:List (List AV)) (vs:List Value),xs.length=n∧(∀x∈xs,Opn s x)∧vs.length=n*k∧RlE (iZ_ w) k xs vs∧∀j,j<n*k→w.cell? ⟨b,off+(o+j),none⟩=vs[j]?
 |0,o,_=>⟨[],[],rfl,by simp,by simp,rfl,fun j hj=>by omega⟩
 | n + 1, o, h => by
   obtain⟨a,us,ha,hr,hl,hc⟩:=h 0 (by omega)
   obtain⟨xs,vs,h1,h2,h3,h4,h5⟩:=DL_ n (o+k) (fun i hi=>by
    obtain⟨a,us,ha,hr,hl,hc⟩:=h (i+1) (by omega);refine⟨a,us,ha,hr,hl,fun j hj=>?_⟩;have:=hc j hj;rwa [show off+(o+(i+1)*k+j)=off+(o+k+i*k+j)by rw[Nat.succ_mul];omega]at this)
   refine⟨a::xs,us++vs,by simp[h1],fun x hx=>?_,?_,⟨us,vs,rfl,hl,hr,h4⟩,fun j hj=>?_⟩
   ·rcases List.mem_cons.1 hx with rfl|hx
    ·exact ha
    ·exact h2 x hx
   ·rw[List.length_append,hl,h3,Nat.succ_mul];omega
   ·by_cases hjk:j<k
    ·have:=hc j hjk;rw[List.getElem?_append_left (by omega)];simpa using this
    ·have:=h5 (j-k) (by rw[Nat.succ_mul]at hj;omega);rw[List.getElem?_append_right (by omega),hl,←this];congr 2;omega
mutual
theorem nS_:∀ (s:Sh) (t:TypeId) (fuel:Nat) (cs:List Value) (x:DataW H×List MemPlace),ml_ P s t=true→DataW.trod enc P w 0 (fun _=>true) true fuel t cs=some x→∃avs,Opn s avs∧RlC (iZ_ w) avs cs
 | .bool, t, fuel, cs, x, hs, h => by
   unfold ml_ at hs;split at hs<;>try cases hs
   rename_i ht;cases fuel with
   |zero=>simp[DataW.trod]at h
   | succ n =>
     unfold DataW.trod at h;rw[ht]at h;split at h<;>simp_all
     exact⟨_,.bool _,_,[],rfl,rfl,rfl,rfl⟩
 | .int k, t, fuel, cs, x, hs, h => by
   unfold ml_ at hs;split at hs<;>try cases hs
   rename_i k' ht;obtain⟨n,rfl,_,hw⟩:=DataW.trod_int ht h;have:k=k':=by simpa using hs
   subst this;exact⟨_,.int _ _ hw,_,[],rfl,rfl,rfl,rfl⟩
 | .arr n s, t, fuel, cs, x, hs, h => by
   unfold ml_ at hs;split at hs<;>try cases hs
   rename_i m e ht;simp only[Bool.and_eq_true,beq_iff_eq]at hs;obtain⟨⟨⟨rfl,hc⟩,hct⟩,hi⟩:=hs;obtain⟨xs,fl,rfl,rfl,hl,hx,he⟩:=DataW.trod_array ht h;rw[hct]at hl
   obtain⟨xs,h1,h2,h3⟩:=zy_ (s:=s) (w:=w) m cs hl (fun i hin=>by
    have h1:=he i hin;rw[hc,List.getElem?_eq_getElem (by omega)]at h1;exact nS_ s e _ _ _ hi h1)
   exact⟨_,.arr _ _ _ h1 h2,h3⟩
 | .sl s, t, fuel, cs, x, hs, h => by
   unfold ml_ at hs;split at hs<;>try cases hs
   rename_i e ht;simp only[Bool.and_eq_true,beq_iff_eq,decide_eq_true_eq]at hs;obtain⟨⟨hc,hp⟩,hi⟩:=hs;rcases DataW.trod_slice ht h with⟨rfl,_⟩|⟨a,len,cap,elems,rest,n,_,rfl,rfl,hb,hl,hm,hlen,hel,hsp,hns⟩
   ·exact⟨_,.sl s [] (by simp) (by simp),_,[],rfl,rfl,⟨none,0,0,rfl,rfl,Nat.le_refl _,by simp[maxLen],fun _=>rfl,fun _=>rfl,.inl rfl⟩,rfl⟩
   ·by_cases h0:len=0
    ·subst h0;exact⟨_,.sl s [] (by simp) (by simp),_,[],rfl,rfl,⟨some a,0,cap,rfl,rfl,hl,hm,(fun h=>Bool.noConfusion h),(fun h=>by cases h),.inl rfl⟩,rfl⟩
    have each:∀i,i<len→∃avs us,Opn s avs∧RlC (iZ_ w) avs us∧us.length=s.size∧∀j,j<s.size→w.cell? ((a.add (i*s.size)).add j)=us[j]?:=by
     intro i hin;have h1:=hel i hin;rw[hc,List.getElem?_eq_getElem (by omega),Option.bind_eq_some_iff]at h1;obtain⟨us,h2,h3⟩:=h1;obtain⟨_,h5,h6⟩:=World.cells?_some h2;obtain⟨avs,h7,h8⟩:=nS_ s e _ _ _ hi h3;exact⟨avs,us,h7,h8,h5,h6⟩
    obtain⟨b,off,spot⟩:=a;obtain⟨_,us,_,_,hul,hcc⟩:=each 0 (by omega);have hc0:=hcc 0 hp;rw[List.getElem?_eq_getElem (by omega)]at hc0;have hspot:spot=none:=by simpa[Addr.add]using World.cell?_spot hc0
    subst hspot
    obtain⟨xs,vs,h1,h2,h3,h4,h5⟩:=DL_ (s:=s) (w:=w) (k:=s.size) (b:=b) (off:=off) len 0 (fun i hin=>by
     obtain⟨avs,us,g1,g2,g3,g4⟩:=each i hin;refine⟨avs,us,g1,g2,g3,fun j hj=>?_⟩;rw[←g4 j hj,WideShapes.add_plain,WideShapes.add_plain];congr 2;omega)
    have hne:vs≠[]:=by
     intro hh;subst hh;simp only[List.length_nil]at h3;have:=Nat.mul_pos (Nat.pos_of_ne_zero h0) hp;omega
    have hrange:=nX_ (w:=w) (b:=b) (o:=off) hne (fun j u hj=>by
     have hjl:=(List.getElem?_eq_some_iff.1 hj).1;rw[←hj,←h5 j (by omega)];congr 2;omega)
    rw[h3]at hrange
    have hblk:b<w.heap.size:=by
     rw[WideShapes.add_plain,WideShapes.add_plain]at hc0;exact World.block_lt_of_cell? w _ hc0
    exact⟨_,.sl s xs (by omega) h2,_,[],rfl,rfl,⟨_,len,cap,rfl,h1.symm,hl,hm,(fun h=>Bool.noConfusion h),(fun h=>by cases h),.inr ⟨b,off,vs,rfl,hblk,fun hf=>hf,hrange,h4⟩⟩,rfl⟩
 | .st ss, t, fuel, cs, x, hs, h => by
   unfold ml_ at hs;split at hs<;>try cases hs
   rename_i fs ht;simp only[Bool.and_eq_true,beq_iff_eq]at hs;obtain⟨hc,hi⟩:=hs;obtain⟨xs,n,rfl,_,hl,hxs,he⟩:=DataW.trod_struct ht h
   obtain⟨avs,h1,h2⟩:=wI_ ss fs.toList 0 cs hi (fun f hf=>by
    obtain⟨i,hi⟩:=List.getElem?_of_mem hf;have h1:=he i f (by simpa using hi);have hil:=(List.getElem?_eq_some_iff.1 hi).1;rw[Array.length_toList]at hil;rw[List.getElem?_eq_getElem (by omega)]at h1;exact⟨_,_,h1⟩) (by omega)
   exact⟨avs,.st _ _ h1,h2⟩
theorem wI_:∀ (ss:List Sh) (fs:List Field) (o:Nat) (cs:List Value),qt_ P ss fs o=true→
 (∀f∈fs,∃ (fuel:Nat) (x:DataW H×List MemPlace),DataW.trod enc P w 0 (fun _=>true) true fuel f.type ((cs.drop f.offset).take (P.cellsOf f.type))=some x)→cs.length=o+Sh.sizes ss→∃avs,mL_ ss avs∧RlC (iZ_ w) avs (cs.drop o)
 | [],[],o,cs,_,_,hl=>⟨[],.nil,by rw[List.drop_of_length_le (by simp[Sh.sizes]at hl;omega)];rfl⟩
 | [],_::_,o,cs,hs,_,_=>by simp[qt_]at hs
 |_::_,[],o,cs,hs,_,_=>by simp[qt_]at hs
 | s :: ss, f :: fs, o, cs, hs, hf, hl => by
   simp only[qt_,Bool.and_eq_true,beq_iff_eq]at hs;obtain⟨⟨⟨rfl,hc⟩,hi⟩,hr⟩:=hs;simp only[Sh.sizes]at hl;obtain⟨fuel,x,hx⟩:=hf f (by simp);obtain⟨a,ha,hra⟩:=nS_ s f.type fuel _ x hi hx;obtain⟨b,hb,hrb⟩:=wI_ ss fs (f.offset+s.size) cs hr (fun g hg=>hf g (by simp[hg])) (by omega);refine⟨a++b,.cons _ _ _ _ ha hb,?_⟩;have e:cs.drop f.offset=(cs.drop f.offset).take s.size++cs.drop (f.offset+s.size):=by rw[←List.drop_drop,List.take_append_drop]
   rw[e];rw[hc]at hra;exact RlC.app hra hrb
end
theorem AH_{t:TypeId}{v:Value}{d:DataW H}{p:List MemPlace}{r:Reach}{base:Nat}(s:Sh)(hs:ml_ P s t=true)(hv:Value.okWide P w r base t v)(hd:DataW.Trod enc P w 0 (fun _=>true) true t v d p)
 (ha:(match P.underlying t with|some (.struct _)=>true|some (.array _ _)=>true|_=>false)=true):∃avs,Opn s avs∧Rl (iZ_ w) (.agg avs) v:=by
 obtain⟨fuel,hf⟩:=hd
 have hv':∃cs,v=.agg cs:=by
  unfold Value.okWide at hv;split at hv
  ·obtain⟨cs,h,_⟩:=hv;exact⟨cs,h⟩
  ·obtain⟨cs,h,_⟩:=hv;exact⟨cs,h⟩
  ·rename_i h1 h2;split at ha
   ·rename_i fs hu;exact absurd hu (h1 fs)
   ·rename_i n e hu;exact absurd hu (h2 n e)
   ·cases ha
 obtain⟨cs,rfl⟩:=hv';obtain⟨avs,h1,h2⟩:=nS_ s t fuel _ _ hs hf;exact⟨avs,h1,cs.toList,rfl,h2⟩
theorem AI_{t e:TypeId}{v:Value}{d:DataW H}{p:List MemPlace}{r:Reach}{base:Nat}(s:Sh)(hs:ml_ P (.sl s) t=true)(hv:Value.okWide P w r base t v)(hd:DataW.Trod enc P w 0 (fun _=>true) true t v d p)
 (ht:P.underlying t=some (.slice e)):∃xs,xs.length≤maxLen∧(∀x∈xs,Opn s x)∧Rl (iZ_ w) (.sl s.size false xs) v:=by
 obtain⟨fuel,hf⟩:=hd;obtain⟨b,l,c,rfl⟩:=WideShapes.okWide_slice ht hv;obtain⟨avs,h1,h2⟩:=nS_ _ t fuel _ _ hs hf;cases h1 with
 | sl s xs hl h =>
   obtain⟨u,us,h3,_,h4,h5⟩:=h2;simp only[Value.cells,List.cons.injEq]at h3;obtain⟨rfl,rfl⟩:=h3;exact⟨xs,hl,h,h4⟩
theorem qx_{t:TypeId}{v:Value}{d:DataW H}{p:List MemPlace}{r:Reach}{base:Nat}(k:IntKind)(ht:P.underlying t=some (.int k))(hv:Value.okWide P w r base t v)(hd:DataW.Trod enc P w 0 (fun _=>true) true t v d p):
 ∃n,(Lit.int k n).wf=true∧Rl (iZ_ w) (.int k n) v:=by
 obtain⟨n,rfl,_,_,hw⟩:=ChangeShapes.open_int ht hv hd;exact⟨n,hw,rfl⟩
end
theorem Opn.ints{k:IntKind}:∀ {xs:List (List AV)},(∀x∈xs,Opn (.int k) x)→∃ns:List Int,xs=au_ k ns∧∀n∈ns,(Lit.int k n).wf=true
 | [],_=>⟨[],rfl,by simp⟩
 | x :: xs, h => by
   obtain⟨ns,rfl,h2⟩:=Opn.ints (xs:=xs) (fun y hy=>h y (by simp[hy]));cases h x (by simp)with
   | int k n hw =>
     refine⟨n::ns,rfl,fun m hm=>?_⟩;rcases List.mem_cons.1 hm with rfl|hm
     ·exact hw
     ·exact h2 m hm
theorem wG_:∀ {ns:List Int},(∀n∈ns,(Lit.int .u8 n).wf=true)→∃bs:List UInt8,au_ .u8 ns=bts bs∧bs.length=ns.length
 | [],_=>⟨[],rfl,rfl⟩
 | n :: ns, h => by
   obtain⟨bs,h1,h2⟩:=wG_ (ns:=ns) (fun m hm=>h m (by simp[hm]));have hb:=bounds_u8 (h n (by simp));refine⟨UInt8.ofNat n.toNat::bs,?_,by simp[h2]⟩;have e:((UInt8.ofNat n.toNat).toNat:Int)=n:=by rw[UInt8.toNat_ofNat'];omega
   rw[zF_,e,←h1];rfl
theorem Opn.rt{cs:List AV}(h:Opn (.arr 32 (.int .u8)) cs):∃r:Rt,cs=rtc r:=by
 cases h with
 | arr n s xs hl h =>
   obtain⟨ns,rfl,hw⟩:=Opn.ints h;obtain⟨bs,h1,h2⟩:=wG_ hw;rw[eL_]at hl;exact⟨⟨bs,by omega⟩,by rw[h1,lL_];rfl⟩
theorem Opn.wd{cs:List AV}(h:Opn (.arr 4 (.int .u64)) cs):∃a:Wd,cs=wdc a∧∀n∈a.1,0≤n∧n<18446744073709551616:=by
 cases h with
 | arr n s xs hl h =>
   obtain⟨ns,rfl,hw⟩:=Opn.ints h;rw[eL_]at hl;refine⟨⟨ns,hl⟩,?_,fun n hn=>?_⟩
   ·show _=ns.map _
    clear hl hw h;induction ns with
    |nil=>rfl
    |cons n ns ih=>simp only[au_,List.map_cons,List.flatten_cons]at ih ⊢;rw[ih];rfl
   ·have:=bounds_u64 (hw n hn);omega
theorem Opn.inv_st{ss:List Sh}{cs:List AV}(h:Opn (.st ss) cs):mL_ ss cs:=by
 cases h with
 |st _ _ h=>exact h
theorem mL_.inv_cons{s:Sh}{ss:List Sh}{cs:List AV}(h:mL_ (s::ss) cs):∃a b,cs=a++b∧Opn s a∧mL_ ss b:=by
 cases h with
 |cons _ _ a b h hs=>exact⟨a,b,rfl,h,hs⟩
theorem mL_.inv_nil{cs:List AV}(h:mL_ [] cs):cs=[]:=by
 cases h;rfl
theorem Opn.inv_int{k:IntKind}{cs:List AV}(h:Opn (.int k) cs):∃n,(Lit.int k n).wf=true∧cs=[.int k n]:=by
 cases h with
 |int _ n h=>exact⟨n,h,rfl⟩
theorem Opn.inv_bool{cs:List AV}(h:Opn .bool cs):∃b,cs=[.bool b]:=by
 cases h with
 |bool b=>exact⟨b,rfl⟩
theorem Opn.inv_nums{k:IntKind}{cs:List AV}(h:Opn (.sl (.int k)) cs):∃ns:List Int,ns.length≤maxLen∧(∀n∈ns,(Lit.int k n).wf=true)∧cs=[.sl 1 false (au_ k ns)]:=by
 cases h with
 | sl _ xs hl h =>
   obtain⟨ns,rfl,hw⟩:=Opn.ints h;exact⟨ns,by rwa [eL_]at hl,hw,rfl⟩
section
variable{H:Type}{enc:TypeId×Value→H}{P:Program}{w:World}
theorem yi_{t e:TypeId}{v:Value}{d:DataW H}{p:List MemPlace}{r:Reach}{base:Nat}(k:IntKind)(hs:ml_ P (.sl (.int k)) t=true)(hv:Value.okWide P w r base t v)(hd:DataW.Trod enc P w 0 (fun _=>true) true t v d p)
 (ht:P.underlying t=some (.slice e)):∃ns:List Int,ns.length≤maxLen∧(∀n∈ns,(Lit.int k n).wf=true)∧Rl (iZ_ w) (.sl 1 false (au_ k ns)) v:=by
 obtain⟨xs,hl,h,hr⟩:=AI_ (.int k) hs hv hd ht;obtain⟨ns,rfl,hw⟩:=Opn.ints h;exact⟨ns,by rwa [eL_]at hl,hw,hr⟩
end
structure Cp.Ok(x:Cp):Prop where
 ep:(Lit.int .u64 x.ep).wf=true
abbrev cpS:Sh:=.st [.int .u64,.arr 32 (.int .u8)]
theorem Opn.cp{cs:List AV}(h:Opn cpS cs):∃x:Cp,cs=cpC x∧x.Ok:=by
 have h:=h.inv_st;obtain⟨a0,b0,rfl,h0,h⟩:=h.inv_cons;obtain⟨a1,b1,rfl,h1,h⟩:=h.inv_cons;have h:=h.inv_nil;subst h;obtain⟨n0,w0,rfl⟩:=h0.inv_int;obtain⟨n1,rfl⟩:=h1.rt;exact⟨⟨n0,n1⟩,by simp only[cpC,List.cons_append,List.nil_append,List.append_nil,List.append_assoc],⟨w0⟩⟩
structure Pul.Ok(x:Pul):Prop where
 j:x.j.Ok
 f:x.f.Ok
abbrev Fr_:Sh:=.st [cpS,cpS]
theorem Opn.pul{cs:List AV}(h:Opn Fr_ cs):∃x:Pul,cs=cc_ x∧x.Ok:=by
 have h:=h.inv_st;obtain⟨a0,b0,rfl,h0,h⟩:=h.inv_cons;obtain⟨a1,b1,rfl,h1,h⟩:=h.inv_cons;have h:=h.inv_nil;subst h;obtain⟨n0,rfl,w0⟩:=h0.cp;obtain⟨n1,rfl,w1⟩:=h1.cp;exact⟨⟨n0,n1⟩,by simp only[cc_,List.cons_append,List.nil_append,List.append_nil,List.append_assoc],⟨w0,w1⟩⟩
structure Blk.Ok(x:Blk):Prop where
 pul:x.pul.Ok
 slot:(Lit.int .u64 x.slot).wf=true
 diff:∀n∈x.diff.1,0≤n∧n<18446744073709551616
 pdiff:∀n∈x.pdiff.1,0≤n∧n<18446744073709551616
 just:x.just.Ok
 fin:x.fin.Ok
abbrev Gk_:Sh:=.st [Fr_,.int .u64,.arr 32 (.int .u8),.arr 32 (.int .u8),.arr 32 (.int .u8),.arr 4 (.int .u64),.arr 4 (.int .u64),cpS,cpS,.bool]
theorem Opn.blk{cs:List AV}(h:Opn Gk_ cs):∃x:Blk,cs=aw_ x∧x.Ok:=by
 have h:=h.inv_st;obtain⟨a0,b0,rfl,h0,h⟩:=h.inv_cons;obtain⟨a1,b1,rfl,h1,h⟩:=h.inv_cons;obtain⟨a2,b2,rfl,h2,h⟩:=h.inv_cons;obtain⟨a3,b3,rfl,h3,h⟩:=h.inv_cons;obtain⟨a4,b4,rfl,h4,h⟩:=h.inv_cons;obtain⟨a5,b5,rfl,h5,h⟩:=h.inv_cons;obtain⟨a6,b6,rfl,h6,h⟩:=h.inv_cons;obtain⟨a7,b7,rfl,h7,h⟩:=h.inv_cons;obtain⟨a8,b8,rfl,h8,h⟩:=h.inv_cons;obtain⟨a9,b9,rfl,h9,h⟩:=h.inv_cons;have h:=h.inv_nil;subst h;obtain⟨n0,rfl,w0⟩:=h0.pul;obtain⟨n1,w1,rfl⟩:=h1.inv_int;obtain⟨n2,rfl⟩:=h2.rt;obtain⟨n3,rfl⟩:=h3.rt;obtain⟨n4,rfl⟩:=h4.rt;obtain⟨n5,rfl,w5⟩:=h5.wd;obtain⟨n6,rfl,w6⟩:=h6.wd;obtain⟨n7,rfl,w7⟩:=h7.cp;obtain⟨n8,rfl,w8⟩:=h8.cp;obtain⟨n9,rfl⟩:=h9.inv_bool;exact⟨⟨n0,n1,n2,n3,n4,n5,n6,n7,n8,n9⟩,by simp only[aw_,List.cons_append,List.nil_append,List.append_nil,List.append_assoc],⟨w0,w1,w5,w6,w7,w8⟩⟩
structure Att.Ok(x:Att):Prop where
 slot:(Lit.int .u64 x.slot).wf=true
 target:x.target.Ok
 vals:∃ns:List Int,x.vals=.sl 1 false (au_ .i64 ns)∧ns.length≤maxLen∧∀n∈ns,(Lit.int .i64 n).wf=true
abbrev re_:Sh:=.st [.int .u64,.arr 32 (.int .u8),cpS,.sl (.int .i64)]
theorem Opn.att{cs:List AV}(h:Opn re_ cs):∃x:Att,cs=bg_ x∧x.Ok:=by
 have h:=h.inv_st;obtain⟨a0,b0,rfl,h0,h⟩:=h.inv_cons;obtain⟨a1,b1,rfl,h1,h⟩:=h.inv_cons;obtain⟨a2,b2,rfl,h2,h⟩:=h.inv_cons;obtain⟨a3,b3,rfl,h3,h⟩:=h.inv_cons;have h:=h.inv_nil;subst h;obtain⟨n0,w0,rfl⟩:=h0.inv_int;obtain⟨n1,rfl⟩:=h1.rt;obtain⟨n2,rfl,w2⟩:=h2.cp;obtain⟨n3,l3,w3,rfl⟩:=h3.inv_nums;exact⟨⟨n0,n1,n2,_⟩,by simp only[bg_,List.cons_append,List.nil_append,List.append_nil,List.append_assoc],⟨w0,w2,⟨n3,rfl,l3,w3⟩⟩⟩
structure Clm.Ok(x:Clm):Prop where
 src:(Lit.int .u64 x.src).wf=true
 tgt:(Lit.int .u64 x.tgt).wf=true
 vals:∃ns:List Int,x.vals=.sl 1 false (au_ .i64 ns)∧ns.length≤maxLen∧∀n∈ns,(Lit.int .i64 n).wf=true
abbrev Eb_:Sh:=.st [.int .u64,.int .u64,.arr 32 (.int .u8),.sl (.int .i64)]
theorem Opn.clm{cs:List AV}(h:Opn Eb_ cs):∃x:Clm,cs=bH_ x∧x.Ok:=by
 have h:=h.inv_st;obtain⟨a0,b0,rfl,h0,h⟩:=h.inv_cons;obtain⟨a1,b1,rfl,h1,h⟩:=h.inv_cons;obtain⟨a2,b2,rfl,h2,h⟩:=h.inv_cons;obtain⟨a3,b3,rfl,h3,h⟩:=h.inv_cons;have h:=h.inv_nil;subst h;obtain⟨n0,w0,rfl⟩:=h0.inv_int;obtain⟨n1,w1,rfl⟩:=h1.inv_int;obtain⟨n2,rfl⟩:=h2.rt;obtain⟨n3,l3,w3,rfl⟩:=h3.inv_nums;exact⟨⟨n0,n1,n2,_⟩,by simp only[bH_,List.cons_append,List.nil_append,List.append_nil,List.append_assoc],⟨w0,w1,⟨n3,rfl,l3,w3⟩⟩⟩
structure Slg.Ok(x:Slg):Prop where
 fst:x.fst.Ok
 snd:x.snd.Ok
abbrev Gz_:Sh:=.st [Eb_,Eb_]
theorem Opn.slg{cs:List AV}(h:Opn Gz_ cs):∃x:Slg,cs=cw_ x∧x.Ok:=by
 have h:=h.inv_st;obtain⟨a0,b0,rfl,h0,h⟩:=h.inv_cons;obtain⟨a1,b1,rfl,h1,h⟩:=h.inv_cons;have h:=h.inv_nil;subst h;obtain⟨n0,rfl,w0⟩:=h0.clm;obtain⟨n1,rfl,w1⟩:=h1.clm;exact⟨⟨n0,n1⟩,by simp only[cw_,List.cons_append,List.nil_append,List.append_nil,List.append_assoc],⟨w0,w1⟩⟩
structure Tab.Ok(x:Tab):Prop where
 cp:x.cp.Ok
 bals:∃ns:List Int,x.bals=.sl 1 false (au_ .u64 ns)∧ns.length≤maxLen∧∀n∈ns,(Lit.int .u64 n).wf=true
abbrev GD_:Sh:=.st [cpS,.sl (.int .u64)]
theorem Opn.tab{cs:List AV}(h:Opn GD_ cs):∃x:Tab,cs=bj_ x∧x.Ok:=by
 have h:=h.inv_st;obtain⟨a0,b0,rfl,h0,h⟩:=h.inv_cons;obtain⟨a1,b1,rfl,h1,h⟩:=h.inv_cons;have h:=h.inv_nil;subst h;obtain⟨n0,rfl,w0⟩:=h0.cp;obtain⟨n1,l1,w1,rfl⟩:=h1.inv_nums;exact⟨⟨n0,_⟩,by simp only[bj_,List.cons_append,List.nil_append,List.append_nil,List.append_assoc],⟨w0,⟨n1,rfl,l1,w1⟩⟩⟩
structure Vdt.Ok(x:Vdt):Prop where
 tag:(Lit.int .u64 x.tag).wf=true
 kind:(Lit.int .i64 x.kind).wf=true
abbrev GF_:Sh:=.st [.st [.int .u64],.int .i64,.arr 32 (.int .u8)]
theorem Opn.vdt{cs:List AV}(h:Opn GF_ cs):∃x:Vdt,cs=cm_ x∧x.Ok:=by
 have h:=h.inv_st;obtain⟨a0,b0,rfl,h0,h⟩:=h.inv_cons;obtain⟨a1,b1,rfl,h1,h⟩:=h.inv_cons;obtain⟨a2,b2,rfl,h2,h⟩:=h.inv_cons;have h:=h.inv_nil;subst h;obtain⟨y0,z0,rfl,g0,q0⟩:=h0.inv_st.inv_cons;have q0:=q0.inv_nil;subst q0;obtain⟨n0,w0,rfl⟩:=g0.inv_int;obtain⟨n1,w1,rfl⟩:=h1.inv_int;obtain⟨n2,rfl⟩:=h2.rt;exact⟨⟨n0,n1,n2⟩,by simp only[cm_,List.cons_append,List.nil_append,List.append_nil,List.append_assoc],⟨w0,w1⟩⟩
structure SOp.Ok(x:SOp):Prop where
 kind:(Lit.int .i64 x.kind).wf=true
 blk:x.blk.Ok
 att:x.att.Ok
 slg:x.slg.Ok
 tab:x.tab.Ok
 vdt:x.vdt.Ok
 write:(Lit.int .i64 x.write).wf=true
 keep:(Lit.int .i64 x.keep).wf=true
end Go.FH
