/- Joined. -/
import Derived.Test.YtmpddimhleianaaGreatE2
import Derived.Test.YtmpddimhleianaaGreatE1
import Derived.Test.YtmpddimhleianaaGreatQ3
import Derived.Test.YtmpddimhleianaaGreatV5
import Derived.Test.YtmpddimhleianaaGreatKe
import Derived.Test.YtmpddimhleianaaGreatT1
import Derived.Test.YtmpddimhleianaaGreatW3
import Derived.Test.YtmpddimhleianaaGreatProg
import Derived.Lib.Strings
import Derived.Lib.Slices
import Derived.Lib.Small
import Derived.Lib.Walk
import Derived.Lib.BitFns
set_option linter.unusedVariables false
set_option linter.unusedSimpArgs false
set_option maxRecDepth 100000
set_option maxHeartbeats 4000000
namespace Go.Proofs.YtmpddimhleianaaGreat
open Go Go.FH Go.RowKit
def mgq(q:List Int):List (List AV):=mns .i64 (q.map fun n=>(n,true))
theorem OC(ρ:Nat->Nat)(q:List Int):bH ρ (mgq q)=mgq q:=Aj ρ _ _
theorem PA(σ:St)(zs:List Nat)(q:List Int):dh σ zs (mgq q)=mgq q:=Dm σ zs _ _
attribute [go_sem] OC PA
theorem Hh{k:Int}{q:List Int}(h:k∉q):lT none (.int .i64 k) (mgq q)=some none:=by
 unfold mgq
 rw[sx,List.findIdx?_eq_none_iff.2 fun x hx=>by
  obtain⟨n,hn,rfl⟩:=amV.1 hx;simp;rintro rfl;exact h hn]
theorem KA{k:Int}{q:List Int}(h:k∈q):∃j,lT none (.int .i64 k) (mgq q)=some (some j)/\((mgq q).getD j []).getD 1 .dead=.bool true:=by
 unfold mgq;rw[sx];cases hf:(q.map fun n=>(n,true)).findIdx? fun p=>p.1==k with
 | none =>
   rw[List.findIdx?_eq_none_iff]at hf;have:=hf (k,true) (amV.2 ⟨k,h,rfl⟩);simp at this
 | some j =>
   obtain⟨hj,h1,_⟩:=ak4.1 hf;exact⟨j,rfl,by rw[ad0 _ _ _ hj];simp⟩
theorem P3(q:List Int)(n:Int):mgq q++[[.int .i64 n,.bool true]]=mgq (q++[n]):=by simp[mgq,mns]
theorem RJ:mgq []=[]:=rfl
attribute [go_sem] P3 RJ
theorem zZ(l:List Vot)(q:List Int)(hq:q.Pairwise (· < ·))(hb:q.length<=2097152):ay Tryz.prog 346 [.agg [.sl 34 false (rows al l),.sl 1 false (aH .i64 q)]] [] (.mp 0) [.map (mgq q)]:=by
 refine dS 11 ?_;refine nx fun H=>?_
 refine BA q.length (fun i=>[(10,.int .i64 i),(5,.dead)]) (fun i=>[.var [.sl 34 false (rows al l),.sl 1 false (aH .i64 q)],.map (mgq (q.take i))]) (fun i h1 hw h2=>?_) (fun h=>?_)
 ·have hn:q.getD i 0∉q.take i:=fun h=>by
   obtain⟨j,hj,e⟩:=amJ h;have hj2:j<i:=by rw[amA]at hj;omega
   have:=ajW.1 hq j i WL h1 hj2;rw[List.getElem_take]at e;rw[alt,al6 h1]at e;dsimp only[Option.getD_some]at e;omega
  have m1:=Hh hn;have ht:q.take i++[q.getD i 0]=q.take (i+1):=by rw[List.take_succ_eq_append_getElem h1,alt,al6 h1];rfl
  have hgd:=gdn (k:=.i64) h1;clear hn hq;exact aw
 ·rw[ajp];refine nx fun H=>?_
  exact ahY [] [1]
theorem gdv{l:List Vot}{i:Nat}(h:i<l.length):(rows al l).getD i []=al (vot l i):=aS (f:=al) dL h
attribute [go_sem] gdv
theorem Pc(l:List Vot)(q:List Int)(hq:q.Pairwise (· < ·))(hb:q.length<=2097152)(bals:List Int)(hl:bals.length<=2097152):PC Tryz.prog 306 [.agg [.sl 34 false (rows al l),.sl 1 false (aH .i64 q)],.sl 1 false (aH .u64 bals)] (.int .u64 (SW q bals)):=by
 refine ae 14 ?_;have c1:=zZ l q hq hb;unfold SW;generalize hf:(fun(i:Nat) (n:Int)=>if (i:Int)∉q then IntKind.u64.wrap (n+bals.getD i 0)else n)=f;have hf2:∀i n,f i n=if (i:Int)∉q then IntKind.u64.wrap (n+bals.getD i 0)else n:=fun i n=>by rw[<-hf]
 clear hf;refine nx fun H=>?_
 refine oce [] c1 ?_;refine nx fun H=>?_
 refine BA bals.length (fun i=>[(13,.int .i64 i),(6,.int .u64 (bg f 0 i)),(7,.dead),(8,.dead)]) (fun i=>[.var [.sl 34 false (rows al l),.sl 1 false (aH .i64 q)],.map (mgq q)]) (fun i h1 hw h2=>?_) (fun h=>?_)
 ·have hs:=cX f 0 i
  rw[hf2]at hs;generalize bg f 0 i=n at *;by_cases hm:(i:Int)∈q
  ·obtain⟨j,m1,m2⟩:=KA hm;rw[al5 (by simp[hm])]at hs;clear hf2;exact aw
  ·have m1:=Hh hm;rw[al7 hm]at hs;clear hf2;exact aw
 ·clear hf2;exact aw
def mri(m:List (Rt×Int)):List (List AV):=m.map fun p=>[.agg (rtc p.1),.int .i64 p.2]
theorem CH(m:List (Rt×Int)):fy (mri m):=by
 rw[mf];intro x hx;obtain⟨p,_,rfl⟩:=amV.1 hx;exact⟨dI p.1,trivial,trivial⟩
theorem OD(ρ:Nat->Nat)(m:List (Rt×Int)):bH ρ (mri m)=mri m:=(CH m).ren ρ
theorem PJ(σ:St)(zs:List Nat)(m:List (Rt×Int)):dh σ zs (mri m)=mri m:=(CH m).fz σ zs
theorem Qa(m:List (Rt×Int))(r:Rt)(n:Int):mri m++[[.agg (rtc r),.int .i64 n]]=mri (m++[(r,n)]):=by simp[mri]
attribute [go_sem] OD PJ Qa
theorem uW(r:Rt):∀m:List (Rt×Int),lT (some 32) (.agg (rtc r)) (mri m)=some (m.findIdx? fun p=>decide (r=p.1))
 | []=>rfl
 | (a, n) :: m => by
   have ih:=uW r m;simp only[mri,amE,lT,RE,amt,keq,mh]at ih ⊢;rw[ih,List.findIdx?_cons];by_cases h:r=a
   ·simp[h]
   ·simp[h]
def SA(t:List Nod)(k:Nat)(m:List (Rt×Int)):List (Rt×Int):=if (nod t k).status≠2 then m++[((nod t k).blk.root,(k:Int))]else m
def lL(t:List Nod)(n:Nat):List (Rt×Int):=bg (SA t) [] n
theorem tR(t:List Nod):∀n p,p∈lL t n↔∃k,k<n/\(nod t k).status≠2/\p=((nod t k).blk.root,(k:Int)):=by
 intro n;induction n with
 |zero=>intro p;simp[lL,bg]
 | succ n ih =>
   intro p;have e:lL t (n+1)=SA t n (lL t n):=rfl;rw[e];unfold SA;split
   ·rename_i h
    rw[amm,amn,ih];constructor
    ·rintro (⟨k,h1,h2,h3⟩|h1)
     ·exact⟨k,WL,h2,h3⟩
     ·exact⟨n,WL,h,h1⟩
    ·rintro⟨k,h1,h2,h3⟩;by_cases hk:k=n
     ·subst hk;exact .inr h3
     ·exact .inl ⟨k,WL,h2,h3⟩
   ·rename_i h
    rw[ih];constructor
    ·rintro⟨k,h1,h2,h3⟩;exact⟨k,WL,h2,h3⟩
    ·rintro⟨k,h1,h2,h3⟩;by_cases hk:k=n
     ·subst hk;exact absurd h2 h
     ·exact⟨k,WL,h2,h3⟩
theorem Km{t:List Nod}{n:Nat}{r:Rt}(h:∀k,k<n->(nod t k).status≠2->(nod t k).blk.root≠r):lT (some 32) (.agg (rtc r)) (mri (lL t n))=some none:=by
 rw[uW,List.findIdx?_eq_none_iff.2 fun p hp=>by
  obtain⟨k,h1,h2,rfl⟩:=(tR t n p).1 hp;simpa using fun e=>h k h1 h2 e.symm]
theorem PR{t:List Nod}{n k:Nat}(hd:∀j,j<n->(nod t j).blk.root=(nod t k).blk.root->j=k)(hk:k<n)(hs:(nod t k).status≠2):
 ∃j,lT (some 32) (.agg (rtc (nod t k).blk.root)) (mri (lL t n))=some (some j)/\((mri (lL t n)).getD j []).getD 1 .dead=.int .i64 k:=by
 rw[uW];cases hf:(lL t n).findIdx? fun p=>decide ((nod t k).blk.root=p.1)with
 | none =>
   rw[List.findIdx?_eq_none_iff]at hf;have:=hf _ ((tR t n _).2 ⟨k,hk,hs,rfl⟩);simp at this
 | some j =>
   obtain⟨hj,h1,_⟩:=ak4.1 hf;refine⟨j,rfl,?_⟩;obtain⟨i,g1,g2,g3⟩:=(tR t n _).1 (amS hj);have h1:(nod t k).blk.root=(lL t n)[j].1:=by simpa using h1
   rw[g3]at h1;obtain rfl:=hd i g1 h1.symm;simp[mri,alt,hj,g3]
theorem SD(k:IntKind)(x:Int)(n:Nat):List.replicate n [AV.int k x]=aH k (List.replicate n x):=by simp[aH]
attribute [go_sem] SD
theorem O9 (t : List Nod) (hd : ∀ i j, i < t.length -> j < t.length -> (nod t i).blk.root = (nod t j).blk.root -> i = j) (hb : t.length <= 2097152) (l : List Vot) (hl : l.length <= 2097152) (q : List Int) (hq : q.Pairwise (· < ·)) (hqb : q.length <= 2097152) (bals : List Int) (hbl : bals.length <= l.length) :
 PC Tryz.prog 304 [.agg [nA t],.agg [.sl 34 false (rows al l),.sl 1 false (aH .i64 q)],.sl 1 false (aH .u64 bals)] (.sl 1 false (aH .u64 (Gw t l q bals))):=by
 refine ae 44 ?_;have c1:=zZ l q hq hqb;have hz0:mri (lL t 0)=[]:=rfl;refine nx fun H=>?_
 refine BA t.length (fun i=>[(21,.int .i64 i),(8,.dead),(9,.dead)]) (fun i=>[.var [nA t],.var [.sl 34 false (rows al l),.sl 1 false (aH .i64 q)],.map (mri (lL t i))]) (fun i h1 hw h2=>?_) (fun h=>?_)
 ·clear hz0;have hs:lL t (i+1)=if (nod t i).status≠2 then lL t i++[((nod t i).blk.root,(i:Int))]else lL t i:=rfl
  have hn:lT (some 32) (.agg (rtc (nod t i).blk.root)) (mri (lL t i))=some none:=Km fun k hk _ e=>by have:=hd k i WL h1 e;omega
  clear hd;generalize lL t i=m at *;exact aw
 ·have hz := Sn t l q bals
  have hN:=Gd t l q bals hbl;have hln:=pH t l q bals;refine nx fun H=>?_
  clear hz0;refine oce [] c1 ?_;refine nx fun H=>?_
  have hI:=fun r h=>Km (t:=t) (n:=t.length) (r:=r) h
  have hJ:=fun k h1 h2=>PR (t:=t) (n:=t.length) (k:=k) (fun j g1 g2=>hd j k g1 h1 g2) h1 h2
  have hD:=hd;clear hd;generalize lL t t.length=M at *;refine BA bals.length (fun i=>[(43,.int .i64 i),(12,.dead),(13,.dead),(14,.dead),(15,.dead),(16,.dead)]) (fun i=>[.var [nA t],.var [.sl 34 false (rows al l),.sl 1 false (aH .i64 q)],.map (mri M),.map (mgq q),.vec 1 (aH .u64 (nP t l q bals i))]) (fun i h1 hw h2=>?_) (fun h=>?_)
  ·have hil:i<l.length:=WL
   have hsame:=M6 (t:=t) l q bals (v:=i);have hset:=fun k h1 h2 h3 h4=>Pv (t:=t) l q bals (v:=i) (i:=k) h1 (fun j g1 g2 _=>hD j k g1 h1 g2) h2 h3 h4
   have hln:=hln i;clear hD hz hN;generalize nP t l q bals i=D at *;generalize nP t l q bals (i+1)=D2 at *;cases hhas:(vot l i).has with
   | false =>
     have e:=hsame fun h=>by rw[hhas]at h;cases h
     clear hsame hset hI hJ;exact aw
   | true =>
     by_cases hm:(i:Int)∈q
     ·obtain⟨j,m1,m2⟩:=KA hm;have e:=hsame fun _ h=>absurd hm h
      clear hsame hset hI hJ;exact aw
     ·have m1:=Hh hm
      by_cases hk:∃k,k<t.length/\(nod t k).status≠2/\(nod t k).blk.root=(vot l i).root
      ·obtain⟨k,k1,k2,k3⟩:=hk;obtain⟨j,j1,j2⟩:=hJ k k1 k2;have e:=hset k k1 k2 hhas hm k3.symm;rw[k3]at j1;clear hsame hset hI hJ k3;exact aw
      ·have hk2:∀k,k<t.length->(nod t k).status≠2->(nod t k).blk.root≠(vot l i).root:=fun k k1 k2 k3=>hk ⟨k,k1,k2,k3⟩
       have j1:=hI _ hk2;have e:=hsame fun _ _=>hk2
       clear hsame hset hI hJ hk hk2;exact aw
  ·have hln:=hln bals.length;rw[hN]at hln ⊢;clear hI hJ hD hz hN;exact aw
end Go.Proofs.YtmpddimhleianaaGreat
namespace Go.Proofs.YtmpddimhleianaaGreat
open Go Go.FH Go.RowKit
theorem NC(w:World):Calls Tryz.prog 361 #[.int .u64 100] w fun e w'=>e=.returned (.int .i64 7)/\w'=w:=by
 go_enter Tryz.func361,Tryz.ntmps361
 go_wp2
 go_ret
 exact⟨by kernel_rfl,rfl⟩
theorem Q7(w:World):Calls Tryz.prog 366 #[.int .u64 100] w fun e w'=>e=.returned (.int .i64 57)/\w'=w:=by
 go_enter Tryz.func366,Tryz.ntmps366
 go_wp2_with (go_at_call 361;refine(NC _).mono ?_;rintro e w' ⟨rfl,rfl⟩)
 go_ret
 exact⟨rfl,rfl⟩
theorem NT:PC Tryz.prog 366 [.int .u64 100] (.int .i64 57):=by
 refine⟨⟨by kernel_rfl,WM,?_⟩,⟨trivial,trivial⟩,trivial⟩;intro X loc w vs hr hv;obtain⟨v,us,rfl,h1,h2⟩:=hv;simp only[RlS]at h2;subst h2;simp only[Rl]at h1;subst h1;refine(Q7 w).mono fun e w' ⟨he,hw⟩=>?_
 subst he hw;exact⟨_,loc,rfl,⟨fun _ _ h=>h,hr,rfl,Ev.refl _ _,fun b hb=>.inl hb⟩,fun _ _=>rfl⟩
theorem SB{h l:Int}(h0:0<=h)(h1:h<128)(l0:0<=l)(l1:l<144115188075855872):ior .u64 (h*144115188075855872) l=h*144115188075855872+l:=by
 obtain⟨H,rfl⟩:=ajO h0;obtain⟨L,rfl⟩:=ajO l0;unfold ior;have hb:((2 ^ IntKind.u64.bits:Nat):Int)=18446744073709551616:=rfl;rw[BitVec.toNat_or,BitVec.toNat_ofInt,BitVec.toNat_ofInt,hb]
 have e1:(((H:Int)*144115188075855872)%18446744073709551616).toNat=H <<< 57:=by
  rw[Nat.shiftLeft_eq];omega
 have e2:((L:Int)%18446744073709551616).toNat=L:=WL
 have e3:H <<< 57 ||| L=H <<< 57+L:=(Nat.shiftLeft_add_eq_or_of_lt (show L<2 ^ 57 by omega) H).symm
 rw[e1,e2,e3,Nat.shiftLeft_eq,aN WL WL];omega
theorem Uv(m:Int)(h0:0<=m)(h1:m<1844674407370955161600):PC Tryz.prog 348 [.int .u64 (m / 18446744073709551616),.int .u64 (m%18446744073709551616),.int .u64 100] (.tup [.int .u64 (m / 100),.int .u64 (m%100)]):=by
 refine ae 19 ?_;have c1:=NT;obtain⟨H,hH⟩:∃H,m / 18446744073709551616=H:=⟨_,rfl⟩
 obtain⟨L,hL⟩:∃L,m%18446744073709551616=L:=⟨_,rfl⟩
 have b1:0<=H:=WL
 have b2:H<100:=WL
 have b3:0<=L:=WL
 have b4:L<18446744073709551616:=WL
 have b5:¬100<=H:=WL
 have em:m=H*18446744073709551616+L:=WL
 rw[hH,hL];by_cases q:H=0
 ·subst q;have e1:IntKind.u64.wrap (Int.tdiv L 100)=m / 100:=by rw[ajC b3,aN WL WL];omega
  have e2:Int.tmod L 100=m%100:=by rw[aly b3];omega
  generalize m / 100=Q at *;generalize m%100=R at *;clear c1 hH hL em b1 b2 b3 b4 h0 h1;exact aw
 ·have s1:OY .u64 100 57=14411518807585587200:=WN
  have s2:fJ .u64 14411518807585587200 32=3355443200:=WN
  have s3:lI .u64 14411518807585587200 4294967295=0:=WN
  have sl:∀n:Int,OY .u64 n 57=IntKind.u64.wrap (n*144115188075855872):=fun n=>rfl
  have s4:OY .u64 H 57=H*144115188075855872:=by rw[sl,aN WL WL]
  have s5:fJ .u64 L 7=L / 128:=by
   unfold fJ;rw[show ((2:Int) ^ (min 7 IntKind.u64.bits))=128 by decide];exact aj4 _ WL
  have s6:ior .u64 (H*144115188075855872) (L / 128)=m / 128:=by rw[SB b1 WL WL WL];omega
  have s7:OY .u64 L 57=m%128*144115188075855872:=by rw[sl,Dg];omega
  have s8:fJ .u64 (m%128*144115188075855872) 32=m%128*33554432:=by rw[adP];omega
  have s9:lI .u64 (m%128*144115188075855872) 4294967295=0:=by rw[Yv WL WL];omega
  have t0:0<=m / 128:=WL
  have t1:m / 128<14411518807585587200:=WL
  obtain⟨U,hU⟩:∃U,m / 128=U:=⟨_,rfl⟩
  obtain⟨V,hV⟩:∃V,m%128=V:=⟨_,rfl⟩
  rw[hU]at s6 t0 t1;rw[hV]at s7 s8 s9;have v0:0<=V/\V<128:=WL
  obtain⟨Q,hQ⟩:∃Q,U / 3355443200=Q:=⟨_,rfl⟩
  obtain⟨R,hR⟩:∃R,U%3355443200=R:=⟨_,rfl⟩
  have w1:IntKind.u64.wrap (Int.tdiv U 3355443200)=Q:=by rw[ajC t0,aN WL WL,hQ]
  have w2:IntKind.u64.wrap (Q*3355443200)=Q*3355443200:=aN WL WL;have w3:IntKind.u64.wrap (U-Q*3355443200)=R:=by rw[aN WL WL];omega
  have w4:¬4294967296<=Q:=WL
  have x1:IntKind.u64.wrap 57=57:=WN
  have x2:IntKind.u64.wrap 7=7:=WN
  have z1:IntKind.u64.wrap (Q*0)=0:=by rw[Int.mul_zero];decide
  obtain⟨Z,hZ⟩:∃Z,IntKind.u64.wrap (IntKind.u64.wrap (4294967296*R)+V*33554432)=Z:=⟨_,rfl⟩
  have z2:¬Z<0:=by have:=Dg (IntKind.u64.wrap (4294967296*R)+V*33554432);omega
  obtain⟨X,hX⟩:∃X,R*4294967296+V*33554432=X:=⟨_,rfl⟩
  have w5:IntKind.u64.wrap (IntKind.u64.wrap (IntKind.u64.wrap (U*4294967296)+V*33554432)-IntKind.u64.wrap (Q*14411518807585587200))=X:=by
   simp only[Dg];omega
  have x0:0<=X/\X<14411518807585587200:=WL
  obtain⟨K,hK⟩:∃K,X / 3355443200=K:=⟨_,rfl⟩
  obtain⟨S,hS⟩:∃S,X%3355443200=S:=⟨_,rfl⟩
  have w6:IntKind.u64.wrap (Int.tdiv X 3355443200)=K:=by rw[ajC x0.1,aN WL WL,hK]
  have w7:IntKind.u64.wrap (K*3355443200)=K*3355443200:=aN WL WL;have w8:IntKind.u64.wrap (X-K*3355443200)=S:=by rw[aN WL WL];omega
  have w9:¬4294967296<=K:=WL
  have z3:IntKind.u64.wrap (K*0)=0:=by rw[Int.mul_zero];decide
  obtain⟨Y,hY⟩:∃Y,IntKind.u64.wrap (IntKind.u64.wrap (4294967296*S)+0)=Y:=⟨_,rfl⟩
  have z4:¬Y<0:=by have:=Dg (IntKind.u64.wrap (4294967296*S)+0);omega
  have r1:IntKind.u64.wrap (IntKind.u64.wrap (Q*4294967296)+K)=m / 100:=by simp only[Dg];omega
  have r2:fJ .u64 (IntKind.u64.wrap (IntKind.u64.wrap (IntKind.u64.wrap (X*4294967296)+0)-IntKind.u64.wrap (K*14411518807585587200))) 57=m%100:=by
   have e:IntKind.u64.wrap (IntKind.u64.wrap (IntKind.u64.wrap (X*4294967296)+0)-IntKind.u64.wrap (K*14411518807585587200))=S*4294967296:=by simp only[Dg];omega
   rw[e];unfold fJ;rw[show ((2:Int) ^ (min 57 IntKind.u64.bits))=144115188075855872 by decide,aj4 _ WL];omega
  generalize m / 100=A at *;generalize m%100=B at *;clear sl hH hL em hU hV hQ hR hX hK hS;refine nx fun _=>?_
  refine lV 1 (gY ?_);refine nx fun _=>?_
  refine lV 1 (gY ?_);exact aw
end Go.Proofs.YtmpddimhleianaaGreat
namespace Go.Proofs.YtmpddimhleianaaGreat
open Go Go.FH Go.RowKit
theorem LN(c:cU)(n:Int)(h1:1<=c.spe)(h2:c.spe<=64)(h3:0<=c.boost)(h4:c.boost<=100)(h5:0<=n)(h6:n<=4611686018427387904):
 PC Tryz.prog 305 [.agg (bW c.a),.int .u64 n] (.tup [.int .u64 (AC c.spe c.boost n).1,.int .i64 (AC c.spe c.boost n).2]):=by
 refine ae 10 ?_;rw[Fo h1 h2 h3 h4 h5 h6];have g1:¬c.spe<1:=WL
 have g2:¬64<c.spe:=WL
 have g3:¬100<c.boost:=WL
 have g4:¬4611686018427387904<n:=WL
 have g5:¬c.spe=0:=WL
 have hq:IntKind.u64.wrap (Int.tdiv n c.spe)=n / c.spe:=by
  rw[ajC h5];have:=akD h5 (show 0<=c.spe by omega);have:=akS c.spe h5;exact aN WL WL
 have hm0:0<=n / c.spe*c.boost:=Wz (akD h5 WL) h3;have hm1:n / c.spe*c.boost<=n*100:=Int.mul_le_mul (akS c.spe h5) h4 h3 h5;have hx0:0<=n / c.spe:=akD h5 WL;have hx1:n / c.spe<=n:=akS c.spe h5;have c1:=UJ (x0:=n / c.spe%4294967296) (x1:=n / c.spe / 4294967296) (y0:=c.boost) (y1:=0) WL WL WL WL h3 WL WL WL (n / c.spe) c.boost WL WL;rw[w64]at c1;have c2:=Uv (n / c.spe*c.boost) hm0 WL;exact aw
theorem LO(t:List Nod)(hb:t.length<=2097152)(d:List Int)(hd:d.length=t.length)(r:Rt)(a:Int):
 PC Tryz.prog 307 [.agg [nA t],.sl 1 false (aH .u64 d),.agg (rtc r),.int .u64 a] (.sl 1 false (aH .u64 (rk t d r a))):=by
 refine ae 11 ?_;have c1:=pq false d WL;have c2:=H1 r;have c3:=zU t r hb;have b1:=fM t r;unfold rk;generalize aj t r=x at *;refine nx fun H=>?_
 refine oce [] c1 ?_;by_cases hr:r=rt0
 ·rw[au hr]at c2;rw[al5 (fun h=>h.2.2 hr)];clear hr;exact aw
 ·rw [aA hr] at c2
  by_cases hx:x<0
  ·rw[al5 (fun h=>WL)];clear hr;exact aw
  ·obtain⟨k,rfl⟩:=ajO (alY.1 hx)
   have hk:k<t.length:=WL
   rw[amw];by_cases hs:(nod t k).status=2
   ·rw[al5 (fun h=>h.2.1 hs)];clear hr;exact aw
   ·rw[al7 ⟨WL,hs,hr⟩];clear hr;exact aw
theorem Jn(x:aW)(s:ap):ay Tryz.prog 303 [.agg (ar x.a),.ptr 0 0] [.var (aE s.a)] (.bool (decide (x.cp=s.j))) [.var (aE s.a)]:=by
 refine afn 4 pL ?_;unfold i5;refine bd ?_;exact aw
theorem TO(l:List Int):∀i,(dN l i).2=0->bg (fun(i:Nat) n=>if (i:Int)∉([]:List Int)then IntKind.u64.wrap (n+l.getD i 0)else n) 0 i=(dN l i).1
 |0,_=>rfl
 | i + 1, h => by
   rw[cX,al7 WM];simp only[dN]at h ⊢;split at h
   ·rename_i h2;exact absurd h h2
   ·rename_i h2;rw[al5 h2,TO l i (by simpa using h2)];unfold FA at h ⊢;split at h
    ·cases h
    ·rename_i h3;rw[al5 h3]
theorem R8{l:List Int}(h:(EI l).2=0):SW [] l=(EI l).1:=TO l _ h
theorem OJ(s:ap)(hT:0<=dJ s.tabs s.j)(hsp:LJ s)(hbo:0<=s.cfg.boost/\s.cfg.boost<=100)(hd:∀i j,i<s.nodes.length->j<s.nodes.length->(nod s.nodes i).blk.root=(nod s.nodes j).blk.root->i=j)
 (hb:s.nodes.length<=2097152) (hl:s.latest.length<=2097152) (hq:s.eqv.Pairwise (· < ·)) (hqb:s.eqv.length<=2097152) (ht:s.tabs.length<=2097152) (hbl:(TK s).length<=s.latest.length) (hsu:(EI (TK s)).2=0) (hs0:0<=(EI (TK s)).1) (hs1:(EI (TK s)).1<=4611686018427387904):
 PC Tryz.prog 219 [.agg (aE s.a)] (.sl 1 false (aH .u64 (rk s.nodes (Gw s.nodes s.latest s.eqv (TK s)) s.boost (AC s.cfg.spe s.cfg.boost (EI (TK s)).1).1))):=by
 refine ae 8 ?_;have c1:=Ds s.tabs false 303 ⟨aE s.a,s.pul⟩ (fun i=>decide ((tab s.tabs i).cp=s.j)) ht (fun i _=>Jn _ s);have e1:Cj (dW (fun i=>decide ((tab s.tabs i).cp=s.j)) s.tabs.length)=dJ s.tabs s.j:=rfl;rw[e1]at c1;have hbd:=(HN s.tabs s.j).2;obtain⟨k,hk⟩:=ajO hT;have hB:TK s=(tab s.tabs k).bals:=by unfold TK;rw[al5 WL,hk];rfl
 have hk1:k<s.tabs.length:=WL
 have hgd:(rows aW.c s.tabs).getD k []=ar (tab s.tabs k).a:=aS (f:=aW.c) default hk1;have c2:=O9 s.nodes hd hb s.latest hl s.eqv hq hqb (TK s) hbl;have c3:=Pc [] [] List.Pairwise.nil WM (TK s) WL;rw[R8 hsu]at c3;have c4:=LN s.cfg (EI (TK s)).1 hsp.1 hsp.2 hbo.1 hbo.2 hs0 hs1;have c5:=LO s.nodes hb (Gw s.nodes s.latest s.eqv (TK s)) (by rw[<-Gd s.nodes s.latest s.eqv (TK s) hbl,pH]) s.boost (AC s.cfg.spe s.cfg.boost (EI (TK s)).1).1;rw[hk]at c1;have hk2:¬ (k:Int)<0:=WL
 rw[hB]at *;clear e1 hB hd;refine nx fun H=>?_
 refine oce [0] c1 ?_;refine nx fun H=>?_
 refine Q8 c3 (by repeat'(first|exact Wk.refl _|exact Wk.empty _ _ _|refine Wk.agg ?_|exact trivial|(intro h;exact h)|constructor)) (by simp[PuL,Pu,fy,bE]) ?_;exact aw
structure HdR(s:ap):Prop where
 tr:dU s.nodes
 sp:LJ s
 bo:0<=s.cfg.boost/\s.cfg.boost<=100
 ds:∀i j,i<s.nodes.length->j<s.nodes.length->(nod s.nodes i).blk.root=(nod s.nodes j).blk.root->i=j
 bn:s.nodes.length<=2097152
 bl:s.latest.length<=2097152
 qq:s.eqv.Pairwise (· < ·)
 qb:s.eqv.length<=2097152
 bt:s.tabs.length<=2097152
 tj:0<=dJ s.tabs s.j
 bb:(TK s).length<=s.latest.length
 su:(EI (TK s)).2=0/\0<=(EI (TK s)).1/\(EI (TK s)).1<=4611686018427387904
 jr:0<=aj s.nodes s.j.rt
theorem LI(n:Int):0<=IntKind.u64.wrap n/\IntKind.u64.wrap n<18446744073709551616:=by rw[w64];omega
theorem M7(t:List Nod)(l:List Vot)(q bals:List Int):∀n∈Gw t l q bals,0<=n/\n<18446744073709551616:=by
 unfold Gw;refine Yy (fun _ (d:List Int)=>∀n∈d,0<=n/\n<18446744073709551616) WM t.length (fun i d _ ih=>?_) _ (amb _);intro n hn;rw[amm,amn]at hn;rcases hn with hn|rfl
 ·exact ih n hn
 ·split
  ·unfold GI;refine Yy (fun _ (n:Int)=>0<=n/\n<18446744073709551616) WN _ (fun i n _ h=>?_) _ (amb _);split
   ·exact LI _
   ·exact h
  ·decide
theorem FJ{t:List Nod}{d:List Int}{r:Rt}{a:Int}(h:∀n∈d,0<=n/\n<18446744073709551616):(rk t d r a).length=d.length/\∀n∈rk t d r a,0<=n/\n<18446744073709551616:=by
 unfold rk;split
 ·refine⟨akB ..,fun n hn=>?_⟩;rcases akU hn with h1|rfl
  ·exact h n h1
  ·exact LI _
 ·exact⟨rfl,h⟩
theorem Rn(s:ap)(h:HdR s):PC Tryz.prog 123 [.agg (aE s.a)] (.sl 1 false (aH .u64 (nk s))):=by
 refine ae 3 ?_;have c1:=OJ s h.tj h.sp h.bo h.ds h.bn h.bl h.qq h.qb h.bt h.bb h.su.1 h.su.2.1 h.su.2.2;have hu:=FJ (t:=s.nodes) (r:=s.boost) (a:=(AC s.cfg.spe s.cfg.boost (EI (TK s)).1).1) (M7 s.nodes s.latest s.eqv (TK s));have hln:(Gw s.nodes s.latest s.eqv (TK s)).length=s.nodes.length:=by rw[<-Gd s.nodes s.latest s.eqv (TK s) h.bb,pH]
 unfold nk;generalize rk _ _ _ _=d at *;have c2:=Pb s.nodes h.tr h.bn d (by rw[hu.1,hln]) hu.2;clear hu;exact aw
theorem o8(s:ap)(h:HdR s):PC Tryz.prog 60 [.agg (aE s.a)] (.int .i64 (HY s)):=by
 refine ae 7 ?_;have c1:=Rn s h;have c2:=JX s h.sp h.tr h.bn;have c3:=zU s.nodes s.j.rt h.bn;have hwl:=P8 s;have hal:(Il s).length=s.nodes.length:=xG s _;have cb:=fun i hi=>Gz s.nodes h.tr h.bn (nk s) hwl (Il s) hal i hi
 have hbd:=aaC h.tr (nk s) (Il s);have b1:=fM s.nodes s.j.rt;obtain⟨k,hk⟩:=ajO h.jr;have hn:=h.bn;unfold HY;rw[hk]at c3 b1 ⊢;clear hk hwl hal;generalize nk s=w at *;generalize Il s=a at *;generalize hG:Ch s.nodes w a (s.nodes.length+1) k=G;refine nx fun H=>?_
 refine az (fun p:Nat×Nat=>[(5,.int .i64 p.2),(6,.dead)]) (fun _=>[.var (aE s.a)]) (fun p=>p.1) (fun p=>Ch s.nodes w a p.1 p.2=G/\p.2<s.nodes.length/\s.nodes.length-p.2<p.1) (s.nodes.length+1,k) ⟨hG,WL,WL⟩ ?_ ?_
 ·exact aw
 clear hG H;rintro⟨f,i⟩ ⟨e,hi,hf⟩;dsimp only at e hi hf;have c4:=cb i (dR.2 ⟨WL,WL⟩);have hb:=hbd i;obtain⟨f,rfl⟩:∃g,f=g+1:=⟨f-1,WL⟩
 unfold Ch at e;clear cb hbd c1 c2 c3;generalize oY s.nodes w a i=B at *;by_cases q:B<0
 ·rw[al7 q]at e;subst e;clear hb;exact aw
 ·rw[al5 q]at e;obtain⟨b,rfl⟩:=ajO (alY.1 q);have hb2:i<b/\b<s.nodes.length:=WL
  clear hb;refine nx fun H=>?_
  exact⟨(f,b),⟨e,hb2.2,by dsimp only;omega⟩,by dsimp only;omega,aw⟩
theorem Jc(s:ap)(h:HdR s):PC Tryz.prog 155 [.agg (aE s.a)] (.agg (rtc (WX s))):=by
 refine ae 4 ?_;have c1:=zU s.nodes s.j.rt h.bn;have b1:=fM s.nodes s.j.rt;obtain⟨k,hk⟩:=ajO h.jr;unfold WX;rw[hk]at c1 b1 ⊢;clear hk;have hk1:k<s.nodes.length:=WL
 have hk2:¬ (k:Int)<0:=WL
 rw[amw];by_cases hs:(nod s.nodes k).status=1
 ·rw[al7 ⟨WL,hs⟩];exact aw
 ·rw[al5 fun x=>hs x.2];exact aw
theorem zY(s:ap)(h:HdR s)(ch:PC Tryz.prog 60 [.agg (aE s.a)] (.int .i64 (HY s))):PC Tryz.prog 87 [.agg (aE s.a)] (.agg (AZ (X3 s))):=by
 refine ae 3 ?_;have c1:=Jc s h;have hh:=Rx h.tr (nk s) (Il s) (s.nodes.length+1) (aj s.nodes s.j.rt) (fM s.nodes s.j.rt).2;unfold X3;have hh2:0<=HY s/\HY s<s.nodes.length:=by have:=h.jr;unfold HY;omega
 clear hh;generalize HY s=x at *;generalize WX s=r at *;obtain⟨k,rfl⟩:=ajO hh2.1;have hk1:k<s.nodes.length:=WL
 rw[amw];exact aw
theorem H3(s:aI)(h:CpA s)(cc:PC Tryz.prog 87 [.agg (aE s.sto.a)] (.agg (AZ (X3 s.sto)))):PC Tryz.prog 43 [.agg (aV s.a)] (.tup [.agg (aV (io s).1.a),.sl 96 false (rows AZ (io s).2)]):=by
 refine pfn 5 lc ?_;unfold fk;refine bd ?_;have c1:=pC s h;unfold io;generalize X3 s.sto=C at *;have hp:PuL (aV ⟨s.sto.a,.sl 35 false (rows aP s.reqs),.sl 35 false (rows aP s.rets),s.tag,true,C,s.over,s.halt⟩):=aI.pul ⟨s.sto,s.reqs,s.rets,s.tag,true,C,s.over,s.halt⟩;cases hs:s.sent with
 | false =>
   rw[al5 WM];exact aw
 | true =>
   by_cases hc:s.last=C
   ·rw[al7 ⟨rfl,hc⟩];exact aw
   ·rw[al5 fun x=>hc x.2];exact aw
end Go.Proofs.YtmpddimhleianaaGreat
