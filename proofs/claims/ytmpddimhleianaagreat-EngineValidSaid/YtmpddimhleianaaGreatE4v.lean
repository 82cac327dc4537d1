/- Joined. -/
import Derived.Test.YtmpddimhleianaaGreatE2v
import Derived.Test.YtmpddimhleianaaGreatE1v
import Derived.Test.YtmpddimhleianaaGreatQ3v
import Derived.Test.YtmpddimhleianaaGreatV5v
import Derived.Test.YtmpddimhleianaaGreatKev
import Derived.Test.YtmpddimhleianaaGreatT1v
import Derived.Test.YtmpddimhleianaaGreatW3v
import Derived.Test.YtmpddimhleianaaGreatProg
import Derived.Lib.Strings
import Derived.Lib.Slices
import Derived.Lib.Small
import Derived.Lib.Walk
import Derived.Lib.BitFns
set_option linter.unusedVariables false
set_option linter.unusedSimpArgs false
set_option maxRecDepth 100000
set_option maxHeartbeats 4000000
namespace Go.Proofs.YtmpddimhleianaaGreat
open Go Go.FH Go.RowKit
def mgq(q:List Int):List (List AV):=mns .i64 (q.map fun n=>(n,true))
theorem Rn(ρ:Nat->Nat)(q:List Int):dm ρ (mgq q)=mgq q:=Gs ρ _ _
theorem TG(σ:St)(zs:List Nat)(q:List Int):gm σ zs (mgq q)=mgq q:=JM σ zs _ _
attribute [go_sem] Rn TG
theorem MJ{k:Int}{q:List Int}(h:k∉q):ko none (.int .i64 k) (mgq q)=some none:=by
 unfold mgq
 rw[sq,List.findIdx?_eq_none_iff.2 fun x hx=>by
  obtain⟨n,hn,rfl⟩:=acz.1 hx;simp;rintro rfl;exact h hn]
theorem OC{k:Int}{q:List Int}(h:k∈q):∃j,ko none (.int .i64 k) (mgq q)=some (some j)/\((mgq q).getD j []).getD 1 .dead=.bool true:=by
 unfold mgq;rw[sq];cases hf:(q.map fun n=>(n,true)).findIdx? fun p=>p.1==k with
 | none =>
   rw[List.findIdx?_eq_none_iff]at hf;have:=hf (k,true) (acz.2 ⟨k,h,rfl⟩);simp at this
 | some j =>
   obtain⟨hj,h1,_⟩:=adn.1 hf;exact⟨j,rfl,by rw[wq _ _ _ hj];simp⟩
theorem UI(q:List Int)(n:Int):mgq q++[[.int .i64 n,.bool true]]=mgq (q++[n]):=by simp[mgq,mns]
theorem Xr:mgq []=[]:=rfl
attribute [go_sem] UI Xr
theorem Gj(l:List Vot)(q:List Int)(hq:q.Pairwise (· < ·))(hb:q.length<=2097152):aJ Tryz.prog 346 [.agg [.sl 34 false (rows bJ l),.sl 1 false (ah .i64 q)]] [] (.mp 0) [.map (mgq q)]:=by
 refine cZ 11 ?_;refine nx fun H=>?_
 refine dI q.length (fun i=>[(10,.int .i64 i),(5,.dead)]) (fun i=>[.var [.sl 34 false (rows bJ l),.sl 1 false (ah .i64 q)],.map (mgq (q.take i))]) (fun i h1 hw h2=>?_) (fun h=>?_)
 ·have hn:q.getD i 0∉q.take i:=fun h=>by
   obtain⟨j,hj,e⟩:=acp h;have hj2:j<i:=by rw[adG]at hj;omega
   have:=acY.1 hq j i af0 h1 hj2;rw[List.getElem_take]at e;rw[afy,afz h1]at e;dsimp only[Option.getD_some]at e;omega
  have m1:=MJ hn;have ht:q.take i++[q.getD i 0]=q.take (i+1):=by rw[List.take_succ_eq_append_getElem h1,afy,afz h1];rfl
  have hgd:=gdn (k:=.i64) h1;clear hn hq;exact aw
 ·rw[acL];refine nx fun H=>?_
  exact abF [] [1]
theorem gdv{l:List Vot}{i:Nat}(h:i<l.length):(rows bJ l).getD i []=bJ (vot l i):=aK (f:=bJ) eY h
attribute [go_sem] gdv
theorem SD(l:List Vot)(q:List Int)(hq:q.Pairwise (· < ·))(hb:q.length<=2097152)(bals:List Int)(hl:bals.length<=2097152):PC Tryz.prog 306 [.agg [.sl 34 false (rows bJ l),.sl 1 false (ah .i64 q)],.sl 1 false (ah .u64 bals)] (.int .u64 (aaa q bals)):=by
 refine aQ 14 ?_;have c1:=Gj l q hq hb;unfold aaa;generalize hf:(fun(i:Nat) (n:Int)=>if (i:Int)∉q then IntKind.u64.wrap (n+bals.getD i 0)else n)=f;have hf2:∀i n,f i n=if (i:Int)∉q then IntKind.u64.wrap (n+bals.getD i 0)else n:=fun i n=>by rw[<-hf]
 clear hf;refine nx fun H=>?_
 refine oce [] c1 ?_;refine nx fun H=>?_
 refine dI bals.length (fun i=>[(13,.int .i64 i),(6,.int .u64 (aH f 0 i)),(7,.dead),(8,.dead)]) (fun i=>[.var [.sl 34 false (rows bJ l),.sl 1 false (ah .i64 q)],.map (mgq q)]) (fun i h1 hw h2=>?_) (fun h=>?_)
 ·have hs:=bg f 0 i
  rw[hf2]at hs;generalize aH f 0 i=n at *;by_cases hm:(i:Int)∈q
  ·obtain⟨j,m1,m2⟩:=OC hm;rw[afx (by simp[hm])]at hs;clear hf2;exact aw
  ·have m1:=MJ hm;rw[afA hm]at hs;clear hf2;exact aw
 ·clear hf2;exact aw
def mri(m:List (Rt×Int)):List (List AV):=m.map fun p=>[.agg (rtc p.1),.int .i64 p.2]
theorem I2(m:List (Rt×Int)):fU (mri m):=by
 rw[nK];intro x hx;obtain⟨p,_,rfl⟩:=acz.1 hx;exact⟨dH p.1,trivial,trivial⟩
theorem Ro(ρ:Nat->Nat)(m:List (Rt×Int)):dm ρ (mri m)=mri m:=(I2 m).ren ρ
theorem TH(σ:St)(zs:List Nat)(m:List (Rt×Int)):gm σ zs (mri m)=mri m:=(I2 m).fz σ zs
theorem UN(m:List (Rt×Int))(r:Rt)(n:Int):mri m++[[.agg (rtc r),.int .i64 n]]=mri (m++[(r,n)]):=by simp[mri]
attribute [go_sem] Ro TH UN
theorem Cn(r:Rt):∀m:List (Rt×Int),ko (some 32) (.agg (rtc r)) (mri m)=some (m.findIdx? fun p=>decide (r=p.1))
 | []=>rfl
 | (a, n) :: m => by
   have ih:=Cn r m;simp only[mri,acv,ko,Cb,aco,keq,kF]at ih ⊢;rw[ih,List.findIdx?_cons];by_cases h:r=a
   ·simp[h]
   ·simp[h]
def ZA(t:List Nod)(k:Nat)(m:List (Rt×Int)):List (Rt×Int):=if (nod t k).status≠2 then m++[((nod t k).blk.root,(k:Int))]else m
def sc(t:List Nod)(n:Nat):List (Rt×Int):=aH (ZA t) [] n
theorem BU(t:List Nod):∀n p,p∈sc t n↔∃k,k<n/\(nod t k).status≠2/\p=((nod t k).blk.root,(k:Int)):=by
 intro n;induction n with
 |zero=>intro p;simp[sc,aH]
 | succ n ih =>
   intro p;have e:sc t (n+1)=ZA t n (sc t n):=rfl;rw[e];unfold ZA;split
   ·rename_i h
    rw[afR,afN,ih];constructor
    ·rintro (⟨k,h1,h2,h3⟩|h1)
     ·exact⟨k,af0,h2,h3⟩
     ·exact⟨n,af0,h,h1⟩
    ·rintro⟨k,h1,h2,h3⟩;by_cases hk:k=n
     ·subst hk;exact .inr h3
     ·exact .inl ⟨k,af0,h2,h3⟩
   ·rename_i h
    rw[ih];constructor
    ·rintro⟨k,h1,h2,h3⟩;exact⟨k,af0,h2,h3⟩
    ·rintro⟨k,h1,h2,h3⟩;by_cases hk:k=n
     ·subst hk;exact absurd h2 h
     ·exact⟨k,af0,h2,h3⟩
theorem Oq{t:List Nod}{n:Nat}{r:Rt}(h:∀k,k<n->(nod t k).status≠2->(nod t k).blk.root≠r):ko (some 32) (.agg (rtc r)) (mri (sc t n))=some none:=by
 rw[Cn,List.findIdx?_eq_none_iff.2 fun p hp=>by
  obtain⟨k,h1,h2,rfl⟩:=(BU t n p).1 hp;simpa using fun e=>h k h1 h2 e.symm]
theorem TY{t:List Nod}{n k:Nat}(hd:∀j,j<n->(nod t j).blk.root=(nod t k).blk.root->j=k)(hk:k<n)(hs:(nod t k).status≠2):
 ∃j,ko (some 32) (.agg (rtc (nod t k).blk.root)) (mri (sc t n))=some (some j)/\((mri (sc t n)).getD j []).getD 1 .dead=.int .i64 k:=by
 rw[Cn];cases hf:(sc t n).findIdx? fun p=>decide ((nod t k).blk.root=p.1)with
 | none =>
   rw[List.findIdx?_eq_none_iff]at hf;have:=hf _ ((BU t n _).2 ⟨k,hk,hs,rfl⟩);simp at this
 | some j =>
   obtain⟨hj,h1,_⟩:=adn.1 hf;refine⟨j,rfl,?_⟩;obtain⟨i,g1,g2,g3⟩:=(BU t n _).1 (afY hj);have h1:(nod t k).blk.root=(sc t n)[j].1:=by simpa using h1
   rw[g3]at h1;obtain rfl:=hd i g1 h1.symm;simp[mri,afy,hj,g3]
theorem ZL(k:IntKind)(x:Int)(n:Nat):List.replicate n [AV.int k x]=ah k (List.replicate n x):=by simp[ah]
attribute [go_sem] ZL
theorem SA (t : List Nod) (hd : ∀ i j, i < t.length -> j < t.length -> (nod t i).blk.root = (nod t j).blk.root -> i = j) (hb : t.length <= 2097152) (l : List Vot) (hl : l.length <= 2097152) (q : List Int) (hq : q.Pairwise (· < ·)) (hqb : q.length <= 2097152) (bals : List Int) (hbl : bals.length <= l.length) :
 PC Tryz.prog 304 [.agg [nA t],.agg [.sl 34 false (rows bJ l),.sl 1 false (ah .i64 q)],.sl 1 false (ah .u64 bals)] (.sl 1 false (ah .u64 (gX t l q bals))):=by
 refine aQ 44 ?_;have c1:=Gj l q hq hqb;have hz0:mri (sc t 0)=[]:=rfl;refine nx fun H=>?_
 refine dI t.length (fun i=>[(21,.int .i64 i),(8,.dead),(9,.dead)]) (fun i=>[.var [nA t],.var [.sl 34 false (rows bJ l),.sl 1 false (ah .i64 q)],.map (mri (sc t i))]) (fun i h1 hw h2=>?_) (fun h=>?_)
 ·clear hz0;have hs:sc t (i+1)=if (nod t i).status≠2 then sc t i++[((nod t i).blk.root,(i:Int))]else sc t i:=rfl
  have hn:ko (some 32) (.agg (rtc (nod t i).blk.root)) (mri (sc t i))=some none:=Oq fun k hk _ e=>by have:=hd k i af0 h1 e;omega
  clear hd;generalize sc t i=m at *;exact aw
 ·have hz := Zu t l q bals
  have hN:=L7 t l q bals hbl;have hln:=vR t l q bals;refine nx fun H=>?_
  clear hz0;refine oce [] c1 ?_;refine nx fun H=>?_
  have hI:=fun r h=>Oq (t:=t) (n:=t.length) (r:=r) h
  have hJ:=fun k h1 h2=>TY (t:=t) (n:=t.length) (k:=k) (fun j g1 g2=>hd j k g1 h1 g2) h1 h2
  have hD:=hd;clear hd;generalize sc t t.length=M at *;refine dI bals.length (fun i=>[(43,.int .i64 i),(12,.dead),(13,.dead),(14,.dead),(15,.dead),(16,.dead)]) (fun i=>[.var [nA t],.var [.sl 34 false (rows bJ l),.sl 1 false (ah .i64 q)],.map (mri M),.map (mgq q),.vec 1 (ah .u64 (tJ t l q bals i))]) (fun i h1 hw h2=>?_) (fun h=>?_)
  ·have hil:i<l.length:=af0
   have hsame:=P5 (t:=t) l q bals (v:=i);have hset:=fun k h1 h2 h3 h4=>Tq (t:=t) l q bals (v:=i) (i:=k) h1 (fun j g1 g2 _=>hD j k g1 h1 g2) h2 h3 h4
   have hln:=hln i;clear hD hz hN;generalize tJ t l q bals i=D at *;generalize tJ t l q bals (i+1)=D2 at *;cases hhas:(vot l i).has with
   | false =>
     have e:=hsame fun h=>by rw[hhas]at h;cases h
     clear hsame hset hI hJ;exact aw
   | true =>
     by_cases hm:(i:Int)∈q
     ·obtain⟨j,m1,m2⟩:=OC hm;have e:=hsame fun _ h=>absurd hm h
      clear hsame hset hI hJ;exact aw
     ·have m1:=MJ hm
      by_cases hk:∃k,k<t.length/\(nod t k).status≠2/\(nod t k).blk.root=(vot l i).root
      ·obtain⟨k,k1,k2,k3⟩:=hk;obtain⟨j,j1,j2⟩:=hJ k k1 k2;have e:=hset k k1 k2 hhas hm k3.symm;rw[k3]at j1;clear hsame hset hI hJ k3;exact aw
      ·have hk2:∀k,k<t.length->(nod t k).status≠2->(nod t k).blk.root≠(vot l i).root:=fun k k1 k2 k3=>hk ⟨k,k1,k2,k3⟩
       have j1:=hI _ hk2;have e:=hsame fun _ _=>hk2
       clear hsame hset hI hJ hk hk2;exact aw
  ·have hln:=hln bals.length;rw[hN]at hln ⊢;clear hI hJ hD hz hN;exact aw
end Go.Proofs.YtmpddimhleianaaGreat
namespace Go.Proofs.YtmpddimhleianaaGreat
open Go Go.FH Go.RowKit
theorem QA(w:World):Calls Tryz.prog 361 #[.int .u64 100] w fun e w'=>e=.returned (.int .i64 7)/\w'=w:=by
 go_enter Tryz.func361,Tryz.ntmps361
 go_wp2
 go_ret
 exact⟨by kernel_rfl,rfl⟩
theorem WW(w:World):Calls Tryz.prog 366 #[.int .u64 100] w fun e w'=>e=.returned (.int .i64 57)/\w'=w:=by
 go_enter Tryz.func366,Tryz.ntmps366
 go_wp2_with (go_at_call 361;refine(QA _).mono ?_;rintro e w' ⟨rfl,rfl⟩)
 go_ret
 exact⟨rfl,rfl⟩
theorem QU:PC Tryz.prog 366 [.int .u64 100] (.int .i64 57):=by
 refine⟨⟨by kernel_rfl,af1,?_⟩,⟨trivial,trivial⟩,trivial⟩;intro X loc w vs hr hv;obtain⟨v,us,rfl,h1,h2⟩:=hv;simp only[RlS]at h2;subst h2;simp only[Rl]at h1;subst h1;refine(WW w).mono fun e w' ⟨he,hw⟩=>?_
 subst he hw;exact⟨_,loc,rfl,⟨fun _ _ h=>h,hr,rfl,Ev.refl _ _,fun b hb=>.inl hb⟩,fun _ _=>rfl⟩
theorem ZB{h l:Int}(h0:0<=h)(h1:h<128)(l0:0<=l)(l1:l<144115188075855872):ior .u64 (h*144115188075855872) l=h*144115188075855872+l:=by
 obtain⟨H,rfl⟩:=afF h0;obtain⟨L,rfl⟩:=afF l0;unfold ior;have hb:((2 ^ IntKind.u64.bits:Nat):Int)=18446744073709551616:=rfl;rw[BitVec.toNat_or,BitVec.toNat_ofInt,BitVec.toNat_ofInt,hb]
 have e1:(((H:Int)*144115188075855872)%18446744073709551616).toNat=H <<< 57:=by
  rw[Nat.shiftLeft_eq];omega
 have e2:((L:Int)%18446744073709551616).toNat=L:=af0
 have e3:H <<< 57 ||| L=H <<< 57+L:=(Nat.shiftLeft_add_eq_or_of_lt (show L<2 ^ 57 by omega) H).symm
 rw[e1,e2,e3,Nat.shiftLeft_eq,aC af0 af0];omega
theorem QX(m:Int)(h0:0<=m)(h1:m<1844674407370955161600):PC Tryz.prog 348 [.int .u64 (m / 18446744073709551616),.int .u64 (m%18446744073709551616),.int .u64 100] (.tup [.int .u64 (m / 100),.int .u64 (m%100)]):=by
 refine aQ 19 ?_;have c1:=QU;obtain⟨H,hH⟩:∃H,m / 18446744073709551616=H:=⟨_,rfl⟩
 obtain⟨L,hL⟩:∃L,m%18446744073709551616=L:=⟨_,rfl⟩
 have b1:0<=H:=af0
 have b2:H<100:=af0
 have b3:0<=L:=af0
 have b4:L<18446744073709551616:=af0
 have b5:¬100<=H:=af0
 have em:m=H*18446744073709551616+L:=af0
 rw[hH,hL];by_cases q:H=0
 ·subst q;have e1:IntKind.u64.wrap (Int.tdiv L 100)=m / 100:=by rw[acy b3,aC af0 af0];omega
  have e2:Int.tmod L 100=m%100:=by rw[adC b3];omega
  generalize m / 100=Q at *;generalize m%100=R at *;clear c1 hH hL em b1 b2 b3 b4 h0 h1;exact aw
 ·have s1:Er .u64 100 57=14411518807585587200:=af2
  have s2:fd .u64 14411518807585587200 32=3355443200:=af2
  have s3:gD .u64 14411518807585587200 4294967295=0:=af2
  have sl:∀n:Int,Er .u64 n 57=IntKind.u64.wrap (n*144115188075855872):=fun n=>rfl
  have s4:Er .u64 H 57=H*144115188075855872:=by rw[sl,aC af0 af0]
  have s5:fd .u64 L 7=L / 128:=by
   unfold fd;rw[show ((2:Int) ^ (min 7 IntKind.u64.bits))=128 by decide];exact ade _ af0
  have s6:ior .u64 (H*144115188075855872) (L / 128)=m / 128:=by rw[ZB b1 af0 af0 af0];omega
  have s7:Er .u64 L 57=m%128*144115188075855872:=by rw[sl,lj];omega
  have s8:fd .u64 (m%128*144115188075855872) 32=m%128*33554432:=by rw[Ov];omega
  have s9:gD .u64 (m%128*144115188075855872) 4294967295=0:=by rw[FQ af0 af0];omega
  have t0:0<=m / 128:=af0
  have t1:m / 128<14411518807585587200:=af0
  obtain⟨U,hU⟩:∃U,m / 128=U:=⟨_,rfl⟩
  obtain⟨V,hV⟩:∃V,m%128=V:=⟨_,rfl⟩
  rw[hU]at s6 t0 t1;rw[hV]at s7 s8 s9;have v0:0<=V/\V<128:=af0
  obtain⟨Q,hQ⟩:∃Q,U / 3355443200=Q:=⟨_,rfl⟩
  obtain⟨R,hR⟩:∃R,U%3355443200=R:=⟨_,rfl⟩
  have w1:IntKind.u64.wrap (Int.tdiv U 3355443200)=Q:=by rw[acy t0,aC af0 af0,hQ]
  have w2:IntKind.u64.wrap (Q*3355443200)=Q*3355443200:=aC af0 af0;have w3:IntKind.u64.wrap (U-Q*3355443200)=R:=by rw[aC af0 af0];omega
  have w4:¬4294967296<=Q:=af0
  have x1:IntKind.u64.wrap 57=57:=af2
  have x2:IntKind.u64.wrap 7=7:=af2
  have z1:IntKind.u64.wrap (Q*0)=0:=by rw[Int.mul_zero];decide
  obtain⟨Z,hZ⟩:∃Z,IntKind.u64.wrap (IntKind.u64.wrap (4294967296*R)+V*33554432)=Z:=⟨_,rfl⟩
  have z2:¬Z<0:=by have:=lj (IntKind.u64.wrap (4294967296*R)+V*33554432);omega
  obtain⟨X,hX⟩:∃X,R*4294967296+V*33554432=X:=⟨_,rfl⟩
  have w5:IntKind.u64.wrap (IntKind.u64.wrap (IntKind.u64.wrap (U*4294967296)+V*33554432)-IntKind.u64.wrap (Q*14411518807585587200))=X:=by
   simp only[lj];omega
  have x0:0<=X/\X<14411518807585587200:=af0
  obtain⟨K,hK⟩:∃K,X / 3355443200=K:=⟨_,rfl⟩
  obtain⟨S,hS⟩:∃S,X%3355443200=S:=⟨_,rfl⟩
  have w6:IntKind.u64.wrap (Int.tdiv X 3355443200)=K:=by rw[acy x0.1,aC af0 af0,hK]
  have w7:IntKind.u64.wrap (K*3355443200)=K*3355443200:=aC af0 af0;have w8:IntKind.u64.wrap (X-K*3355443200)=S:=by rw[aC af0 af0];omega
  have w9:¬4294967296<=K:=af0
  have z3:IntKind.u64.wrap (K*0)=0:=by rw[Int.mul_zero];decide
  obtain⟨Y,hY⟩:∃Y,IntKind.u64.wrap (IntKind.u64.wrap (4294967296*S)+0)=Y:=⟨_,rfl⟩
  have z4:¬Y<0:=by have:=lj (IntKind.u64.wrap (4294967296*S)+0);omega
  have r1:IntKind.u64.wrap (IntKind.u64.wrap (Q*4294967296)+K)=m / 100:=by simp only[lj];omega
  have r2:fd .u64 (IntKind.u64.wrap (IntKind.u64.wrap (IntKind.u64.wrap (X*4294967296)+0)-IntKind.u64.wrap (K*14411518807585587200))) 57=m%100:=by
   have e:IntKind.u64.wrap (IntKind.u64.wrap (IntKind.u64.wrap (X*4294967296)+0)-IntKind.u64.wrap (K*14411518807585587200))=S*4294967296:=by simp only[lj];omega
   rw[e];unfold fd;rw[show ((2:Int) ^ (min 57 IntKind.u64.bits))=144115188075855872 by decide,ade _ af0];omega
  generalize m / 100=A at *;generalize m%100=B at *;clear sl hH hL em hU hV hQ hR hX hK hS;refine nx fun _=>?_
  refine jU 1 (lC ?_);refine nx fun _=>?_
  refine jU 1 (lC ?_);exact aw
end Go.Proofs.YtmpddimhleianaaGreat
namespace Go.Proofs.YtmpddimhleianaaGreat
open Go Go.FH Go.RowKit
theorem Px(c:cI)(n:Int)(h1:1<=c.spe)(h2:c.spe<=64)(h3:0<=c.boost)(h4:c.boost<=100)(h5:0<=n)(h6:n<=4611686018427387904):
 PC Tryz.prog 305 [.agg (cV c.a),.int .u64 n] (.tup [.int .u64 (jb c.spe c.boost n).1,.int .i64 (jb c.spe c.boost n).2]):=by
 refine aQ 10 ?_;rw[LD h1 h2 h3 h4 h5 h6];have g1:¬c.spe<1:=af0
 have g2:¬64<c.spe:=af0
 have g3:¬100<c.boost:=af0
 have g4:¬4611686018427387904<n:=af0
 have g5:¬c.spe=0:=af0
 have hq:IntKind.u64.wrap (Int.tdiv n c.spe)=n / c.spe:=by
  rw[acy h5];have:=adx h5 (show 0<=c.spe by omega);have:=adB c.spe h5;exact aC af0 af0
 have hm0:0<=n / c.spe*c.boost:=aeR (adx h5 af0) h3;have hm1:n / c.spe*c.boost<=n*100:=Int.mul_le_mul (adB c.spe h5) h4 h3 h5;have hx0:0<=n / c.spe:=adx h5 af0;have hx1:n / c.spe<=n:=adB c.spe h5;have c1:=Cr (x0:=n / c.spe%4294967296) (x1:=n / c.spe / 4294967296) (y0:=c.boost) (y1:=0) af0 af0 af0 af0 h3 af0 af0 af0 (n / c.spe) c.boost af0 af0;rw[w64]at c1;have c2:=QX (n / c.spe*c.boost) hm0 af0;exact aw
theorem PB(t:List Nod)(hb:t.length<=2097152)(d:List Int)(hd:d.length=t.length)(r:Rt)(a:Int):
 PC Tryz.prog 307 [.agg [nA t],.sl 1 false (ah .u64 d),.agg (rtc r),.int .u64 a] (.sl 1 false (ah .u64 (fu t d r a))):=by
 refine aQ 11 ?_;have c1:=vL false d af0;have c2:=gP r;have c3:=dW t r hb;have b1:=dl t r;unfold fu;generalize ab t r=x at *;refine nx fun H=>?_
 refine oce [] c1 ?_;by_cases hr:r=rt0
 ·rw[ax hr]at c2;rw[afx (fun h=>h.2.2 hr)];clear hr;exact aw
 ·rw [aD hr] at c2
  by_cases hx:x<0
  ·rw[afx (fun h=>af0)];clear hr;exact aw
  ·obtain⟨k,rfl⟩:=afF (ac8.1 hx)
   have hk:k<t.length:=af0
   rw[afH];by_cases hs:(nod t k).status=2
   ·rw[afx (fun h=>h.2.1 hs)];clear hr;exact aw
   ·rw[afA ⟨af0,hs,hr⟩];clear hr;exact aw
theorem ND(x:aB)(s:af):aJ Tryz.prog 303 [.agg (bE x.a),.ptr 0 0] [.var (ak s.a)] (.bool (decide (x.cp=s.j))) [.var (ak s.a)]:=by
 refine afn 4 vX ?_;unfold oJ;refine bd ?_;exact aw
theorem Lg(l:List Int):∀i,(gS l i).2=0->aH (fun(i:Nat) n=>if (i:Int)∉([]:List Int)then IntKind.u64.wrap (n+l.getD i 0)else n) 0 i=(gS l i).1
 |0,_=>rfl
 | i + 1, h => by
   rw[bg,afA af1];simp only[gS]at h ⊢;split at h
   ·rename_i h2;exact absurd h h2
   ·rename_i h2;rw[afx h2,Lg l i (by simpa using h2)];unfold uP at h ⊢;split at h
    ·cases h
    ·rename_i h3;rw[afx h3]
theorem YF{l:List Int}(h:(ku l).2=0):aaa [] l=(ku l).1:=Lg l _ h
theorem RO(s:af)(hT:0<=dr s.tabs s.j)(hsp:Pk s)(hbo:0<=s.cfg.boost/\s.cfg.boost<=100)(hd:∀i j,i<s.nodes.length->j<s.nodes.length->(nod s.nodes i).blk.root=(nod s.nodes j).blk.root->i=j)
 (hb:s.nodes.length<=2097152) (hl:s.latest.length<=2097152) (hq:s.eqv.Pairwise (· < ·)) (hqb:s.eqv.length<=2097152) (ht:s.tabs.length<=2097152) (hbl:(jq s).length<=s.latest.length) (hsu:(ku (jq s)).2=0) (hs0:0<=(ku (jq s)).1) (hs1:(ku (jq s)).1<=4611686018427387904):
 PC Tryz.prog 219 [.agg (ak s.a)] (.sl 1 false (ah .u64 (fu s.nodes (gX s.nodes s.latest s.eqv (jq s)) s.boost (jb s.cfg.spe s.cfg.boost (ku (jq s)).1).1))):=by
 refine aQ 8 ?_;have c1:=Ub s.tabs false 303 ⟨ak s.a,s.pul⟩ (fun i=>decide ((tab s.tabs i).cp=s.j)) ht (fun i _=>ND _ s);have e1:ng (cm (fun i=>decide ((tab s.tabs i).cp=s.j)) s.tabs.length)=dr s.tabs s.j:=rfl;rw[e1]at c1;have hbd:=(qx s.tabs s.j).2;obtain⟨k,hk⟩:=afF hT;have hB:jq s=(tab s.tabs k).bals:=by unfold jq;rw[afx af0,hk];rfl
 have hk1:k<s.tabs.length:=af0
 have hgd:(rows aB.c s.tabs).getD k []=bE (tab s.tabs k).a:=aK (f:=aB.c) default hk1;have c2:=SA s.nodes hd hb s.latest hl s.eqv hq hqb (jq s) hbl;have c3:=SD [] [] List.Pairwise.nil af1 (jq s) af0;rw[YF hsu]at c3;have c4:=Px s.cfg (ku (jq s)).1 hsp.1 hsp.2 hbo.1 hbo.2 hs0 hs1;have c5:=PB s.nodes hb (gX s.nodes s.latest s.eqv (jq s)) (by rw[<-L7 s.nodes s.latest s.eqv (jq s) hbl,vR]) s.boost (jb s.cfg.spe s.cfg.boost (ku (jq s)).1).1;rw[hk]at c1;have hk2:¬ (k:Int)<0:=af0
 rw[hB]at *;clear e1 hB hd;refine nx fun H=>?_
 refine oce [0] c1 ?_;refine nx fun H=>?_
 refine W3 c3 (by repeat'(first|exact Wk.refl _|exact Wk.empty _ _ _|refine Wk.agg ?_|exact trivial|(intro h;exact h)|constructor)) (by simp[PuL,Pu,fU,aY]) ?_;exact aw
structure HdR(s:af):Prop where
 tr:bk s.nodes
 sp:Pk s
 bo:0<=s.cfg.boost/\s.cfg.boost<=100
 ds:∀i j,i<s.nodes.length->j<s.nodes.length->(nod s.nodes i).blk.root=(nod s.nodes j).blk.root->i=j
 bn:s.nodes.length<=2097152
 bl:s.latest.length<=2097152
 qq:s.eqv.Pairwise (· < ·)
 qb:s.eqv.length<=2097152
 bt:s.tabs.length<=2097152
 tj:0<=dr s.tabs s.j
 bb:(jq s).length<=s.latest.length
 su:(ku (jq s)).2=0/\0<=(ku (jq s)).1/\(ku (jq s)).1<=4611686018427387904
 jr:0<=ab s.nodes s.j.rt
theorem Pf(n:Int):0<=IntKind.u64.wrap n/\IntKind.u64.wrap n<18446744073709551616:=by rw[w64];omega
theorem P6(t:List Nod)(l:List Vot)(q bals:List Int):∀n∈gX t l q bals,0<=n/\n<18446744073709551616:=by
 unfold gX;refine dp (fun _ (d:List Int)=>∀n∈d,0<=n/\n<18446744073709551616) af1 t.length (fun i d _ ih=>?_) _ (afE _);intro n hn;rw[afR,afN]at hn;rcases hn with hn|rfl
 ·exact ih n hn
 ·split
  ·unfold oZ;refine dp (fun _ (n:Int)=>0<=n/\n<18446744073709551616) af2 _ (fun i n _ h=>?_) _ (afE _);split
   ·exact Pf _
   ·exact h
  ·decide
theorem LO{t:List Nod}{d:List Int}{r:Rt}{a:Int}(h:∀n∈d,0<=n/\n<18446744073709551616):(fu t d r a).length=d.length/\∀n∈fu t d r a,0<=n/\n<18446744073709551616:=by
 unfold fu;split
 ·refine⟨adO ..,fun n hn=>?_⟩;rcases aeB hn with h1|rfl
  ·exact h n h1
  ·exact Pf _
 ·exact⟨rfl,h⟩
theorem Xf(s:af)(h:HdR s):PC Tryz.prog 123 [.agg (ak s.a)] (.sl 1 false (ah .u64 (du s))):=by
 refine aQ 3 ?_;have c1:=RO s h.tj h.sp h.bo h.ds h.bn h.bl h.qq h.qb h.bt h.bb h.su.1 h.su.2.1 h.su.2.2;have hu:=LO (t:=s.nodes) (r:=s.boost) (a:=(jb s.cfg.spe s.cfg.boost (ku (jq s)).1).1) (P6 s.nodes s.latest s.eqv (jq s));have hln:(gX s.nodes s.latest s.eqv (jq s)).length=s.nodes.length:=by rw[<-L7 s.nodes s.latest s.eqv (jq s) h.bb,vR]
 unfold du;generalize fu _ _ _ _=d at *;have c2:=SC s.nodes h.tr h.bn d (by rw[hu.1,hln]) hu.2;clear hu;exact aw
theorem u9(s:af)(h:HdR s):PC Tryz.prog 60 [.agg (ak s.a)] (.int .i64 (gC s)):=by
 refine aQ 7 ?_;have c1:=Xf s h;have c2:=NW s h.sp h.tr h.bn;have c3:=dW s.nodes s.j.rt h.bn;have hwl:=qO s;have hal:(iK s).length=s.nodes.length:=pR s _;have cb:=fun i hi=>Ml s.nodes h.tr h.bn (du s) hwl (iK s) hal i hi
 have hbd:=AR h.tr (du s) (iK s);have b1:=dl s.nodes s.j.rt;obtain⟨k,hk⟩:=afF h.jr;have hn:=h.bn;unfold gC;rw[hk]at c3 b1 ⊢;clear hk hwl hal;generalize du s=w at *;generalize iK s=a at *;generalize hG:rd s.nodes w a (s.nodes.length+1) k=G;refine nx fun H=>?_
 refine aE (fun p:Nat×Nat=>[(5,.int .i64 p.2),(6,.dead)]) (fun _=>[.var (ak s.a)]) (fun p=>p.1) (fun p=>rd s.nodes w a p.1 p.2=G/\p.2<s.nodes.length/\s.nodes.length-p.2<p.1) (s.nodes.length+1,k) ⟨hG,af0,af0⟩ ?_ ?_
 ·exact aw
 clear hG H;rintro⟨f,i⟩ ⟨e,hi,hf⟩;dsimp only at e hi hf;have c4:=cb i (ez.2 ⟨af0,af0⟩);have hb:=hbd i;obtain⟨f,rfl⟩:∃g,f=g+1:=⟨f-1,af0⟩
 unfold rd at e;clear cb hbd c1 c2 c3;generalize lp s.nodes w a i=B at *;by_cases q:B<0
 ·rw[afA q]at e;subst e;clear hb;exact aw
 ·rw[afx q]at e;obtain⟨b,rfl⟩:=afF (ac8.1 q);have hb2:i<b/\b<s.nodes.length:=af0
  clear hb;refine nx fun H=>?_
  exact⟨(f,b),⟨e,hb2.2,by dsimp only;omega⟩,by dsimp only;omega,aw⟩
theorem Nf(s:af)(h:HdR s):PC Tryz.prog 155 [.agg (ak s.a)] (.agg (rtc (xl s))):=by
 refine aQ 4 ?_;have c1:=dW s.nodes s.j.rt h.bn;have b1:=dl s.nodes s.j.rt;obtain⟨k,hk⟩:=afF h.jr;unfold xl;rw[hk]at c1 b1 ⊢;clear hk;have hk1:k<s.nodes.length:=af0
 have hk2:¬ (k:Int)<0:=af0
 rw[afH];by_cases hs:(nod s.nodes k).status=1
 ·rw[afA ⟨af0,hs⟩];exact aw
 ·rw[afx fun x=>hs x.2];exact aw
theorem Gg(s:af)(h:HdR s)(ch:PC Tryz.prog 60 [.agg (ak s.a)] (.int .i64 (gC s))):PC Tryz.prog 87 [.agg (ak s.a)] (.agg (bH (ro s))):=by
 refine aQ 3 ?_;have c1:=Nf s h;have hh:=pM h.tr (du s) (iK s) (s.nodes.length+1) (ab s.nodes s.j.rt) (dl s.nodes s.j.rt).2;unfold ro;have hh2:0<=gC s/\gC s<s.nodes.length:=by have:=h.jr;unfold gC;omega
 clear hh;generalize gC s=x at *;generalize xl s=r at *;obtain⟨k,rfl⟩:=afF hh2.1;have hk1:k<s.nodes.length:=af0
 rw[afH];exact aw
theorem MT(s:al)(h:CpA s)(cc:PC Tryz.prog 87 [.agg (ak s.sto.a)] (.agg (bH (ro s.sto)))):PC Tryz.prog 43 [.agg (aG s.a)] (.tup [.agg (aG (dC s).1.a),.sl 96 false (rows bH (dC s).2)]):=by
 refine pfn 5 qZ ?_;unfold mH;refine bd ?_;have c1:=sY s h;unfold dC;generalize ro s.sto=C at *;have hp:PuL (aG ⟨s.sto.a,.sl 35 false (rows ay s.reqs),.sl 35 false (rows ay s.rets),s.tag,true,C,s.over,s.halt⟩):=al.pul ⟨s.sto,s.reqs,s.rets,s.tag,true,C,s.over,s.halt⟩;cases hs:s.sent with
 | false =>
   rw[afx af1];exact aw
 | true =>
   by_cases hc:s.last=C
   ·rw[afA ⟨rfl,hc⟩];exact aw
   ·rw[afx fun x=>hc x.2];exact aw
end Go.Proofs.YtmpddimhleianaaGreat
