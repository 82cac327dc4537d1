/- Joined. -/
import Derived.Test.YtblipkgpoaonaaaGreatO3
import Derived.Test.YtblipkgpoaonaaaGreatU2
set_option linter.unusedVariables false
set_option linter.unusedSimpArgs false
set_option maxRecDepth 8000
set_option maxHeartbeats 4000000
namespace Go.Proofs.YtblipkgpoaonaaaGreat
open Go Go.FH Go.RowKit
variable{P:Program}{nt k:Nat}{fr:Fr}{σ:St}
theorem Z3{x z:ab}{Q0 Q:Ex->Fr->St->Prop}{nv:Nat}{vs:List AV}{ts:List (Nat×AV)}(us:List (Nat×AV))(S:St)(h:Tri P nt k x (fun e fr' σ'=>e=.normal/\GC k fr' σ' ⟨nv,jc us vs,[]⟩ S) ⟨nv,vs,ts⟩ σ)
 (hz:Tri P nt k z Q0 ⟨nv,jc us vs,[]⟩ S):Tri P nt k x (gf (Tri P nt k z Q0) Q) ⟨nv,vs,ts⟩ σ:=Cf h z _ _ hz
theorem DJ{α:Type}{one:RR α}{x:ab}{Q:Ex->Fr->St->Prop}{nv:Nat}{vs:List AV}{ts:List (Nat×AV)}(S:List α->List UInt8->Int->St)(us:Nat->List (Nat×AV)){n:Nat}{L:List α}{bL B b1:List UInt8}{eL e1:Int}(hL:rLp one n [] b1 e1=(L,bL,eL))(s0:b1 <:+ B)
 (h0:GC k ⟨nv,vs,ts⟩ σ ⟨nv,jc (us 0) vs,[]⟩ (S [] b1 e1))
 (hr:∀ (i:Nat) acc b,i<n->b <:+ B->acc.length=i->∃v b' e',one b 0=(v,b',e')/\b' <:+ B/\Tri P nt k x (gf (fun fr σ=>GC k fr σ ⟨nv,jc (us (i+1)) vs,[]⟩ (S (acc++[v]) b' e')) Q) ⟨nv,jc (us i) vs,[]⟩ (S acc b 0))
 (hx:L.length<n->eL≠0->Tri P nt k x (gf (fun _ _=>False) Q) ⟨nv,jc (us L.length) vs,[]⟩ (S L bL eL))
 (hy:n=L.length->Tri P nt k x (gf (fun _ _=>False) Q) ⟨nv,jc (us L.length) vs,[]⟩ (S L bL eL)):Tri P nt k (.loop x) Q ⟨nv,vs,ts⟩ σ:=by
 refine az (fun x:Nat×List α×List UInt8×Int=>us x.1) (fun x=>S x.2.1 x.2.2.1 x.2.2.2) (fun x=>n-x.1) (fun x=>x.1<=n/\x.2.2.1 <:+ B/\x.2.1.length=x.1/\rLp one (n-x.1) x.2.1 x.2.2.1 x.2.2.2=(L,bL,eL)) (0,[],b1,e1) ⟨amc _,s0,rfl,hL⟩ h0 ?_;rintro⟨i,acc,b,e⟩ ⟨hi,hs,hla,hB⟩;dsimp only at hi hs hla hB ⊢
 have hf:∀ {R:Fr->St->Prop} {y:ab} {fr:Fr} {σ:St},Tri P nt k y (gf (fun _ _=>False) Q) fr σ->Tri P nt k y (gf R Q) fr σ:=fun h=>h.mono fun e fr σ hq=>by
  cases e<;>first|exact hq|exact hq.elim
 by_cases h1:i<n
 ·by_cases q:e=0
  ·subst q;obtain⟨k',hk⟩:∃k,n-i=k+1:=⟨n-i-1,NB⟩
   obtain⟨v,b',e',hone,hs',ht⟩:=hr i acc b h1 hs hla;rw[hk,afv _ _ _ _ hone]at hB;refine ht.mono fun e fr σ hq=>?_
   cases e with
   |normal=>exact⟨(i+1,acc++[v],b',e'),⟨h1,hs',by simp;omega,by rw[show n-(i+1)=k' by omega];exact hB⟩,by dsimp only;omega,hq⟩
   |_=>exact hq
  ·rw[afu _ _ _ _ q]at hB;obtain⟨rfl,rfl,rfl⟩:acc=L/\b=bL/\e=eL:=by simpa using hB
   rw[<-hla];exact hf (hx NB q)
 ·obtain rfl:i=n:=NB
  rw[akQ,ahe]at hB;obtain⟨rfl,rfl,rfl⟩:acc=L/\b=bL/\e=eL:=by simpa using hB
  rw[<-hla];exact hf (hy hla.symm)
theorem CD{α:Type}{one:RR α}{x z:ab}{Q0 Q:Ex->Fr->St->Prop}{id nv:Nat}{vs:List AV}{ts:List (Nat×AV)}(S:List α->List UInt8->Int->St)(sl:Nat){n:Nat}{L:List α}{bL B b1:List UInt8}{eL e1:Int}(hL:rLp one n [] b1 e1=(L,bL,eL))(s0:b1 <:+ B)
 (h0:GC k ⟨nv,vs,ts⟩ σ ⟨nv,jc [(sl,.int .i64 0)] vs,[]⟩ (S [] b1 e1))
 (hr:∀ {Q:Ex->Fr->St->Prop} (i:Nat) acc b,i<n->b <:+ B->acc.length=i->∃v b' e',one b 0=(v,b',e')/\b' <:+ B/\Tri P nt k x (gf (fun fr σ=>GC k fr σ ⟨nv,jc [(sl,.int .i64 ((i+1:Nat):Int))] vs,[]⟩ (S (acc++[v]) b' e')) Q) ⟨nv,jc [(sl,.int .i64 (i:Int))] vs,[]⟩ (S acc b 0))
 (hx:L.length<n->eL≠0->Tri P nt k x (fun e fr' σ'=>e=.exit id/\GC k fr' σ' ⟨nv,jc [(sl,.dead)] vs,[]⟩ (S L bL eL)) ⟨nv,jc [(sl,.int .i64 (L.length:Int))] vs,[]⟩ (S L bL eL))
 (hy:n=L.length->Tri P nt k x (fun e fr' σ'=>e=.exit id/\GC k fr' σ' ⟨nv,jc [(sl,.dead)] vs,[]⟩ (S L bL eL)) ⟨nv,jc [(sl,.int .i64 (L.length:Int))] vs,[]⟩ (S L bL eL))
 (hz:Tri P nt k z Q0 ⟨nv,jc [(sl,.dead)] vs,[]⟩ (S L bL eL)):Tri P nt k (.loop x) (mR id (gf (Tri P nt k z Q0) Q)) ⟨nv,vs,ts⟩ σ:=by
 have hm:∀e fr' σ',(e=.exit id/\GC k fr' σ' ⟨nv,jc [(sl,.dead)] vs,[]⟩ (S L bL eL))->gf (fun _ _=>False) (mR id (gf (Tri P nt k z Q0) Q)) e fr' σ':=by
  rintro e fr' σ' ⟨rfl,hg⟩;show (if id=id then _ else _)
  rw[al7 rfl];exact eg hg hz
 exact DJ S (fun i=>[(sl,.int .i64 (i:Int))]) hL s0 h0 hr (fun h1 h2=>(hx h1 h2).mono hm) (fun h1=>(hy h1).mono hm)
theorem Pa{α:Type}{one:RR α}:∀ (n:Nat) (acc:List α) (b:List UInt8) (e:Int),(rLp one n acc b e).1.length<=acc.length+n
 |0,acc,b,e=>amb _
 | n + 1, acc, b, e => by
   show (if e≠0 then (acc,b,e)else rLp one n (acc++[(one b e).1]) (one b e).2.1 (one b e).2.2).1.length<=_
   split
   ·exact ajI _ _
   ·have:=Pa (one:=one) n (acc++[(one b e).1]) (one b e).2.1 (one b e).2.2;simp only[akC,ajr]at this;omega
theorem KB:Rd 111 [] (fun c=>.agg (bW c.a)) (O9 dR):=fun B b e hs hb=>by
 obtain⟨v1,b1,e1,q1,s1,p1⟩:=fk.st e hs hb;obtain⟨v2,b2,e2,q2,s2,p2⟩:=fk.st e1 s1 hb;obtain⟨v3,b3,e3,q3,s3,p3⟩:=fk.st e2 s2 hb;obtain⟨v4,b4,e4,q4,s4,p4⟩:=fk.st e3 s3 hb;obtain⟨v5,b5,e5,q5,s5,p5⟩:=fk.st e4 s4 hb;obtain⟨v6,b6,e6,q6,s6,p6⟩:=er.st e5 s5 hb;obtain⟨v7,b7,e7,q7,s7,p7⟩:=er.st e6 s6 hb;obtain⟨v8,b8,e8,q8,s8,p8⟩:=er.st e7 s7 hb;obtain⟨v9,b9,e9,q9,s9,p9⟩:=Kj.st e8 s8 hb;obtain⟨va,ba,ea,qa,sa,pa⟩:=tR.st e9 s9 hb;obtain⟨vb,bb,eb,qb,sb,pb⟩:=ka.st ea sa hb;obtain⟨hv1,hv2⟩:=WN 1048576 NE qb;obtain⟨n,rfl⟩:∃n:Nat,vb=n:=⟨vb.toNat,NB⟩
 obtain⟨L,bL,eL,hL⟩:∃L bL eL,rLp rN n [] bb eb=(L,bL,eL):=⟨_,_,_,rfl⟩
 have hR:O9 dR b e=(⟨⟨v1,v2,v3,v4,v5,v6⟩,v7,v8,v9,va,L⟩,bL,eL):=by
  have hl:Y6 dR.W b e=(⟨v1,v2,v3,v4,v5,v6⟩,b6,e6):=by
   unfold Y6 rb rt1;rw[show dR.W b e=_ from q1];dsimp only;rw[show dR.W b1 e1=_ from q2];dsimp only;rw[show dR.W b2 e2=_ from q3];dsimp only;rw[show dR.W b3 e3=_ from q4];dsimp only;rw[show dR.W b4 e4=_ from q5];dsimp only;rw[q6]
  have hb:rLs dR.C rN ba ea=(L,bL,eL):=by
   unfold rLs rb;rw[show dR.C ba ea=_ from qb];dsimp only;exact hL
  unfold O9 rb rt1;rw[hl];dsimp only;rw[q7];dsimp only;rw[q8];dsimp only;rw[q9];dsimp only;rw[qa];dsimp only;rw[hb]
 rw[hR];dsimp only
 have hbl:bL <:+ B:=by
  have:=dN.rLp IF n [] bb eb;rw[hL]at this;exact this.trans sb
 have hln:=Pa (one:=rN) n [] bb eb;rw[hL]at hln;simp only[ama,amO]at hln;clear hR q1 q2 q3 q4 q5 q6 q7 q8 q9 qa qb;refine⟨hbl,?_⟩;refine dS 6 ?_;refine gon ?_;refine ocg [0] p1 ?_;refine ocg [0] p2 ?_;refine ocg [0] p3 ?_;refine ocg [0] p4 ?_;refine ocg [0] p5 ?_;refine ocg [0] p6 ?_;refine ocg [0] p7 ?_;refine ocg [0] p8 ?_;refine ocg [0] p9 ?_;refine ocg [0] pa ?_;refine ocg [0] pb ?_;refine pS 2 44 1 ?_ NT (by exact VJ _);simp only[go_sem,VK];refine DJ (fun l b e=>[sro false B b e,.var (bW ui),.var (bW ⟨⟨v1,v2,v3,v4,v5,v6⟩,v7,v8,v9,va,.hs 1 3 0 l.length⟩),.vec 1 (aH .u64 l)]) (fun i=>[(5,.int .i64 (i:Int))]) hL sb ?_ ?_ ?_ ?_
 ·exact ais [] [0,1,2,3]
 ·intro i acc b h1 hs hla;subst hla;obtain⟨v,b',e',q,s,p⟩:=er.st 0 hs hb;refine⟨v,b',e',q,s,?_⟩;have e1:=inT h1;have hw:=af h1 NB;have hsn:=o7 .u64 acc v;refine aM e1 ?_;refine dce [0] p ?_;refine aZ hsn hw ?_;exact ais [] [0,1,2,5]
 ·intro h1 q;have e1:=inT h1;have k0:(eL==0)=false:=by simp[q]
  refine fU e1 k0 ?_;exact ahY [3] [0]
 ·intro h1;rw[h1];have e1:=inF L.length;refine aF e1 ?_;exact ahY [3] [0]
def Ka:RR (List Vot×List Int):=rb (rLs (rU 1048576) Gg) fun l=>rb (rLs (rU 1048576) (rU 4611686018427387904)) fun q=>rt1 (l,q)
theorem WQ:dN Gg:=dN.rb xL fun v=>by
 cases v
 ·exact dN.rt1 _
 ·exact dN.rb IF fun _=>dN.rb eY fun _=>dN.rt1 _
theorem C7{α:Type}{cnt:RR Int}{one:RR α}{b b1 bL:List UInt8}{e e1 eL:Int}{n:Nat}{L:List α}(q:cnt b e=((n:Int),b1,e1))(hL:rLp one n [] b1 e1=(L,bL,eL)):rLs cnt one b e=(L,bL,eL):=by
 unfold rLs rb;rw[q];exact hL
theorem C6{α:Type}{one:RR α}(h:dN one){n:Nat}{b1 bL B:List UInt8}{e1 eL:Int}{L:List α}(hL:rLp one n [] b1 e1=(L,bL,eL))(s:b1 <:+ B):bL <:+ B/\L.length<=n:=by
 have h1:=dN.rLp h n [] b1 e1;have h2:=Pa (one:=one) n [] b1 e1;rw[hL]at h1 h2;exact⟨h1.trans s,by simpa using h2⟩
theorem KR:Rd 112 [] (fun x=>.agg [.sl 34 false (rows al x.1),.sl 1 false (aH .i64 x.2)]) Ka:=fun B b e hs hb=>by
 obtain⟨v1,b1,e1,q1,s1,p1⟩:=ka.st e hs hb;obtain⟨hv1,hv2⟩:=WN 1048576 NE q1;obtain⟨n,rfl⟩:∃n:Nat,v1=n:=⟨v1.toNat,NB⟩
 obtain⟨L,bL,eL,hL⟩:∃L bL eL,rLp Gg n [] b1 e1=(L,bL,eL):=⟨_,_,_,rfl⟩
 obtain⟨sL,lL⟩:=C6 WQ hL s1;obtain⟨v2,b2,e2,q2,s2,p2⟩:=ka.st eL sL hb;obtain⟨hw1,hw2⟩:=WN 1048576 NE q2;obtain⟨m,rfl⟩:∃n:Nat,v2=n:=⟨v2.toNat,NB⟩
 obtain⟨M,bM,eM,hM⟩:∃L bL eL,rLp (rU 4611686018427387904) m [] b2 e2=(L,bL,eL):=⟨_,_,_,rfl⟩
 obtain⟨sM,lM⟩:=C6 (IH _) hM s2
 have hR:Ka b e=((L,M),bM,eM):=by
  unfold Ka;unfold rb rt1;rw[C7 q1 hL];dsimp only;rw[C7 q2 hM]
 rw[hR];dsimp only;clear hR q1 q2;refine⟨sM,?_⟩;refine dS 8 ?_;refine gon ?_;refine ocg [0] p1 ?_;refine pS 2 0 34 ?_ NT NT;simp only[go_sem];refine CD (fun l b e=>[sro false B b e,.var [.sl 0 true [],.sl 0 true []],.var [.hs 34 3 0 l.length,.sl 0 true []],.vec 34 (rows al l)]) 5 hL s1 ?_ ?_ ?_ ?_ ?_
 ·exact ais [] [0,1,2,3]
 ·intro Q i acc b h1 hs hla
  subst hla;obtain⟨v,b1,e1,q1,s1,p1⟩:=Cd.st 0 hs hb;have k1:=inT h1;have hw:=af h1 NB;cases v with
  | true =>
    obtain⟨v2,b2,e2,q2,s2,p2⟩:=er.st e1 s1 hb;obtain⟨v3,b3,e3,q3,s3,p3⟩:=tR.st e2 s2 hb
    have hone:Gg b 0=(⟨true,v2,v3⟩,b3,e3):=by
     unfold Gg rb rt1;rw[q1];dsimp only;rw[al7 rfl,q2];dsimp only;rw[q3]
    refine⟨_,_,_,hone,s3,?_⟩;have hsn:rows al acc++[al ⟨true,v2,v3⟩]=rows al (acc++[⟨true,v2,v3⟩]):=cR al _ _;refine aM k1 ?_;refine oce [0] p1 ?_;refine aX ?_;refine ocg [0] p2 ?_;refine oce [0] p3 ?_;refine aZ hsn hw ?_;exact ais [] [0,1,2,5]
  | false =>
    have hone:Gg b 0=(dL,b1,e1):=by
     unfold Gg rb rt1;rw[q1];rfl
    refine⟨_,_,_,hone,s1,?_⟩;have hsn:rows al acc++[al ⟨false,0,rt0⟩]=rows al (acc++[⟨false,0,rt0⟩]):=cR al _ _;refine aM k1 ?_;refine oce [0] p1 ?_;refine dQ ?_;refine aZ hsn hw ?_;exact ais [] [0,1,2,5]
 ·intro h1 q;have k1:=inT h1;have k0:(eL==0)=false:=by simp[q]
  refine fU k1 k0 ?_;exact ais [] [0,1,2,3]
 ·intro h1;subst h1;have k1:=inF L.length;refine aF k1 ?_;exact ais [] [0,1,2,3]
 refine gon ?_;refine ocg [0] p2 ?_;refine pS 2 1 1 ?_ NT NT;simp only[go_sem];refine DJ (fun l b e=>[sro false B b e,.var [.sl 0 true [],.sl 0 true []],.var [.hs 34 3 0 L.length,.hs 1 4 0 l.length],.vec 34 (rows al L),.vec 1 (aH .i64 l)]) (fun i=>[(7,.int .i64 (i:Int))]) hM s2 ?_ ?_ ?_ ?_
 ·exact ais [] [0,1,2,3,4]
 ·intro i acc b h1 hs hla;subst hla;obtain⟨v,b',e',q,s,p⟩:=fk.st 0 hs hb;refine⟨v,b',e',q,s,?_⟩;have k1:=inT h1;have hw:=af h1 NB;have hsn:=o7 .i64 acc v;refine aM k1 ?_;refine dce [0] p ?_;refine aZ hsn hw ?_;exact ais [] [0,1,2,3,6]
 ·intro h1 q;have k1:=inT h1;have k0:(eM==0)=false:=by simp[q]
  refine fU k1 k0 ?_;exact ahY [3,4] [0]
 ·intro h1;subst h1;have k1:=inF M.length;refine aF k1 ?_;exact ahY [3,4] [0]
theorem o8(m:Int):dN (fun bs e=>gv bs e m):=fun bs e=>by
 have:=se bs e bU;dsimp only;unfold gv;(repeat' split)<;>first|exact amP _|exact(alK _ _).trans this
theorem UZ(bs:List UInt8)(e m:Int):(gv bs e m).1.length<=bs.length:=by
 have:=cV bs e bU;unfold gv;(repeat' split)<;>first|exact amc _|(dsimp only;rw[amA];omega)
theorem KA(b:List UInt8):0<=(iN b).1:=CO (b.take 10) 0 0
theorem J8(b:List UInt8)(e:Int):gv b e 1048576=if e≠0 then ([],b,e)else if (iN b).2.2≠0 then ([],b,(iN b).2.2)else if (1048576:Int)<(iN b).1 then ([],b,3)else
 if ((b.drop (iN b).2.1).length:Int)<(iN b).1 then ([],b,5)else ((b.drop (iN b).2.1).take (iN b).1.toNat,(b.drop (iN b).2.1).drop (iN b).1.toNat,0):=by
 have hw:IntKind.u64.wrap 1048576=1048576:=NE
 unfold gv aR;rw[hw];generalize iN b=R;obtain⟨u,d,x⟩:=R;dsimp only;by_cases he:e=0
 ·subst he
  simp only[ajT,amp,amj];by_cases hx:x=0
  ·subst hx
   simp only[amt,amp,amj];by_cases hm:(1048576:Int)<u
   ·by_cases h2:bU<u
    ·simp only[al7 h2,al7 hm];rfl
    ·simp only[al5 h2,al7 hm,amp,amj];rw[al7 (.inr hm)]
   ·have h2:¬bU<u:=by unfold bU;omega
    have h3:¬ ((1048576:Int)<0\/(1048576:Int)<u):=NB
    simp only[al5 h2,al5 hm,al5 h3,amp,amj]
  ·simp only[hx,amj,amu,amt]
 ·simp only[ajT,he,amu,amt]
theorem Jc:Rd 210 [.int .i64 1048576] (fun v=>.sl 1 false (bts v)) (fun bs e=>gv bs e 1048576):=fun B b e hs hb=>by
 refine⟨(o8 _ b e).trans hs,?_⟩;obtain⟨p,rfl⟩:=hs;have hl:=WU b;dsimp only;rw[J8];have hn0:0<=(iN b).1:=KA b;refine dS 9 ?_;rw[lq];by_cases he:e=0
 ·subst he
  simp only[ajT,amp,amj];have hw:=Fb p b false hb;generalize hR:iN b=R at *;obtain⟨u,d,x⟩:=R;dsimp only at hw hl hn0 ⊢;refine bk ?_;refine ocg [0] hw ?_;by_cases hx:x=0
  ·subst hx
   refine aB ?_;simp only[amp,amj];have hw2:IntKind.u64.wrap 1048576=1048576:=NE
   by_cases hm:(1048576:Int)<u
   ·have k1:=au hm;rw[al7 hm,lq];refine cH hw2 k1 ?_;refine ocg [0] (lh p b false 3) ?_;refine HM [] [0] _ NC (by first|rfl|exact evd) NC rfl NC NC evd evd (Wk.empty 0 1 _)
   ·have k1:=aA hm
    rw[al5 hm];obtain⟨n,rfl⟩:∃n:Nat,u=n:=⟨u.toNat,NB⟩
    have hsd:sro false (p++b) (b.drop d) 0=.var [.sl 1 false (bts (p++b)),.int .i64 ((p.length+d:Nat):Int),.int .i64 0]:=Eg _ _ _ _ hl;have ht:=BF (p++b) (b.drop d) 0 n ((alK _ _).trans (List.suffix_append _ _)) hb NB;rw[hsd]at ht;have hw3:IntKind.i64.wrap (n:Int)=(n:Int):=aL NB NB;unfold xP at ht;simp only[ajT,amp,amj]at ht;rw[amw];refine fp hw2 k1 ?_;refine ah hw3 ?_;refine oce [0] ht ?_;by_cases h5:(b.drop d).length<n
    ·have h6:((b.drop d).length:Int)<(n:Int):=NB
     rw[al7 h6,lq];simp only[al7 h5,sro];refine aX ?_;refine HM [] [0] _ NC (by first|rfl|exact evd) NC rfl NC NC evd evd (Wk.empty 0 1 _)
    ·have h6:¬ ((b.drop d).length:Int)<(n:Int):=NB
     rw[al5 h6];simp only[al5 h5,sro];refine bk ?_;exact ahY [1] [0]
  ·have hx':(x != 0)=true:=by simpa using hx
   simp only[hx,amu,amt];rw[lq];refine aM hx' ?_;refine HM [] [0] _ NC (by first|rfl|exact evd) NC rfl NC NC evd evd (Wk.empty 0 1 _)
 ·have he':(e != 0)=true:=by simpa using he
  simp only[ajT,he,amu,amt];rw[lq];refine aM he' ?_;refine HM [] [0] _ NC (by first|rfl|exact evd) NC rfl NC NC evd evd (Wk.empty 0 1 _)
theorem Jd(B b:List UInt8)(e:Int)(hs:b <:+ B)(hb:B.length<=140737488355328):ay Tryz.prog 46 [.ptr 0 0] [sro false B b e] (.int .i64 (if (e=0/\b≠[])then 2 else e)) [sro false B b e]:=by
 obtain⟨p,rfl⟩:=hs;refine dS 3 ?_;rw[lq];by_cases he:e=0
 ·subst he
  refine bk ?_;cases b with
  | nil =>
    rw[al5 NC];have e1:((p.length:Int) != ((p++[]).length:Int))=false:=NC
    refine aF e1 ?_;exact ahY [] [0]
  | cons b0 b =>
    rw[al7 NC];have e1:((p.length:Int) != ((p.length+(b.length+1):Nat):Int))=true:=by simp;omega
    refine aM e1 ?_;exact ahY [] [0]
 ·have he':(e != 0)=true:=by simpa using he
  rw[al5 (by simp[he])];refine aM he' ?_;exact ahY [] [0]
theorem O8:dN zW:=(show dN (rb (fun bs e=>aR bs e bU) fun s=>rb pp fun r=>rb pp fun p=>rb pp fun y=>rb gE fun d=>rb gE fun g=>rb rCp fun j=>rb rCp fun f=>rb rCp fun u=>rb rCp fun v=>rb fE fun t=>rt1 (⟨⟨u,v⟩,s,r,p,y,d,g,j,f,t⟩:Blk))from
 IF.rb fun _=>dN.rb eY fun _=>dN.rb eY fun _=>dN.rb eY fun _=>dN.rb sf fun _=>dN.rb sf fun _=>dN.rb xN fun _=>dN.rb xN fun _=>dN.rb xN fun _=>dN.rb xN fun _=>dN.rb xL fun _=>dN.rt1 _)
theorem Pe:dN mV:=(show dN (rb (fun bs e=>aR bs e bU) fun s=>rb pp fun r=>rb (fun bs e=>aR bs e 1024) fun n=>rb (gm n.toNat []) fun l=>rt1 ((⟨s,r⟩:Cp),l))from
 IF.rb fun _=>dN.rb eY fun _=>dN.rb (IH 1024) fun _=>dN.rb (fun b e=>Er _ _ b e) fun _=>dN.rt1 _)
theorem IL:Rd 116 [] (fun v=>.agg (aO v)) zW:=fun B b e hs hb=>⟨(O8 b e).trans hs,Em B b e hs hb⟩
theorem Gh:dN Zi:=fun b e=>o8 1048576 b e
def J9:RR (List bp×List Blk):=rb (rLs (rU 1048576) Zi) fun l=>rb (rLs (rU 1048576) zW) fun q=>rt1 (l,q)
theorem HD:Rd 114 [] (fun x=>.agg [.sl 67 false (rows bp.c x.1),.sl 238 false (rows aO x.2)]) J9:=fun B b e hs hb=>by
 obtain⟨v1,b1,e1,q1,s1,p1⟩:=ka.st e hs hb;obtain⟨hv1,hv2⟩:=WN 1048576 NE q1;obtain⟨n,rfl⟩:∃n:Nat,v1=n:=⟨v1.toNat,NB⟩
 obtain⟨L,bL,eL,hL⟩:∃L bL eL,rLp Zi n [] b1 e1=(L,bL,eL):=⟨_,_,_,rfl⟩
 obtain⟨sL,lL⟩:=C6 Gh hL s1;obtain⟨v2,b2,e2,q2,s2,p2⟩:=ka.st eL sL hb;obtain⟨hw1,hw2⟩:=WN 1048576 NE q2;obtain⟨m,rfl⟩:∃n:Nat,v2=n:=⟨v2.toNat,NB⟩
 obtain⟨M,bM,eM,hM⟩:∃L bL eL,rLp zW m [] b2 e2=(L,bL,eL):=⟨_,_,_,rfl⟩
 obtain⟨sM,lM⟩:=C6 O8 hM s2
 have hR:J9 b e=((L,M),bM,eM):=by
  unfold J9;unfold rb rt1;rw[C7 q1 hL];dsimp only;rw[C7 q2 hM]
 rw[hR];dsimp only;clear hR q1 q2;refine⟨sM,?_⟩;refine dS 11 ?_;refine gon ?_;refine ocg [0] p1 ?_;refine pS 2 0 67 ?_ NT NT;simp only[go_sem];refine CD (fun l b e=>[sro false B b e,.var [.sl 0 true [],.sl 0 true []],.var [.hs 67 3 0 l.length,.sl 0 true []],.vec 67 (rows bp.c l)]) 5 hL s1 ?_ ?_ ?_ ?_ ?_
 ·exact ais [] [0,1,2,3]
 ·intro Q i acc b h1 hs hla
  subst hla;obtain⟨x,b1,e1,q1,s1,p1⟩:=Jc.st 0 hs hb
  have hxl:x.length<=140737488355328:=by
   have:=UZ b 0 1048576;rw[q1]at this;have:=hs.length_le;dsimp only at *;omega
  have p2:=Kg x hxl;obtain⟨a,u,d,hd⟩:∃a u d,Ds x.length (D9 x 0)=(a,u,d):=⟨_,_,_,rfl⟩
  rw[hd]at p2;dsimp only at p2;change PC Tryz.prog 211 [.sl 1 false (bts x)] (.tup [.agg (cy (XC a).a),.int .i64 u,.int .i64 d])at p2
  have hone:Zi b 0=(XC a,b1,if e1=0/\(d≠0\/u≠x.length)then 2 else e1):=by
   unfold Zi;rw[q1];dsimp only;rw[hd]
  refine⟨_,_,_,hone,s1,?_⟩;clear hone hd;generalize XC a=v at *;have hsn:rows bp.c acc++[cy v.a]=rows bp.c (acc++[v]):=cR bp.c _ _;have k1:=inT h1;have hw:=af h1 NB;refine aM k1 ?_;refine ocg [0] p1 ?_;refine am p2 ?_;simp only[sro];by_cases q:e1=0/\(d≠0\/u≠x.length)
  ·rw[al7 q]
   obtain⟨rfl,q⟩:=q
   have hc:(if (d != 0)=true then true else (u != (x.length:Int)))=true:=by
    rcases q with q|q
    ·simp[q]
    ·simp[q]
   by_cases q2:d=0
   ·have k2:(d != 0)=false:=by simp[q2]
    have k3:(u != (x.length:Int))=true:=by simpa[k2]using hc
    refine mQ k2 k3 ?_;refine aZ hsn hw ?_;exact ais [] [0,1,2,5]
   ·have k2:(d != 0)=true:=by simp[q2]
    refine bw k2 ?_;refine aZ hsn hw ?_;exact ais [] [0,1,2,5]
  ·rw [al5 q]
   by_cases q1:e1=0
   ·subst q1
    have k2:(d != 0)=false:=by
     by_cases h:d=0
     ·simp[h]
     ·exact(q ⟨rfl,.inl h⟩).elim
    have k3:(u != (x.length:Int))=false:=by
     by_cases h:u=x.length
     ·simp[h]
     ·exact(q ⟨rfl,.inr h⟩).elim
    refine fp k2 k3 ?_;refine aZ hsn hw ?_;exact ais [] [0,1,2,5]
   ·have k2:(e1==0)=false:=by simp[q1]
    refine bJ k2 ?_;refine aZ hsn hw ?_;exact ais [] [0,1,2,5]
 ·intro h1 q;have k1:=inT h1;have k0:(eL==0)=false:=by simp[q]
  refine fU k1 k0 ?_;exact ais [] [0,1,2,3]
 ·intro h1;subst h1;have k1:=inF L.length;refine aF k1 ?_;exact ais [] [0,1,2,3]
 refine gon ?_;refine ocg [0] p2 ?_;refine pS 2 1 238 ?_ NT NT;simp only[go_sem];refine DJ (fun l b e=>[sro false B b e,.var [.sl 0 true [],.sl 0 true []],.var [.hs 67 3 0 L.length,.hs 238 4 0 l.length],.vec 67 (rows bp.c L),.vec 238 (rows aO l)]) (fun i=>[(10,.int .i64 (i:Int))]) hM s2 ?_ ?_ ?_ ?_
 ·exact ais [] [0,1,2,3,4]
 ·intro i acc b h1 hs hla;subst hla;obtain⟨v,b',e',q,s,p⟩:=IL.st 0 hs hb;refine⟨v,b',e',q,s,?_⟩;have k1:=inT h1;have hw:=af h1 NB;have hsn:rows aO acc++[aO v]=rows aO (acc++[v]):=cR aO _ _;refine aM k1 ?_;refine dce [0] p ?_;refine aZ hsn hw ?_;exact ais [] [0,1,2,3,6]
 ·intro h1 q;have k1:=inT h1;have k0:(eM==0)=false:=by simp[q]
  refine fU k1 k0 ?_;exact ahY [3,4] [0]
 ·intro h1;subst h1;have k1:=inF M.length;refine aF k1 ?_;exact ahY [3,4] [0]
theorem dw{α β:Type}{r:RR α}{f:α->RR β}{b b':List UInt8}{e e':Int}{v:α}(h:r b e=(v,b',e')):rb r f b e=f v b' e':=by
 unfold rb;rw[h]
theorem KH:Rd 120 [] (fun v=>.agg (cx v.a)) dR.T:=fun B b e hs hb=>⟨(Pe b e).trans hs,En B b e hs hb⟩
theorem Ld:dN dR.T:=fun b e=>Pe b e
theorem Kt:dN (KS dR):=dN.rb O8 fun _=>dN.rb (IH _) fun _=>dN.rb (IH _) fun _=>dN.rt1 _
theorem Eo(x:Sta):(aV x).getD 115 .dead=x.sto.nodes:=by
 simp only[aV,aE,amd,amI,alt,aj2,aU,aD,ak,al8,Nat.reduceSub,Nat.reduceLT,amj,amt,ajB,amQ,amT]
theorem Ep(x:Sta)(v:AV):(aV x).set 115 v=aV { x with sto:={ x.sto with nodes:=v } }:=by
 simp only[aV,aE,amd,amI,akf,aU,aD,ak,al8,Nat.reduceSub,Nat.reduceLT,amj,amt,amy,amx]
theorem F0(x:Sta):(aV x).getD 149 .dead=x.sto.tabs:=by
 simp only[aV,aE,amd,amI,alt,aj2,aU,aD,ak,al8,Nat.reduceSub,Nat.reduceLT,amj,amt,ajB,amQ,amT]
theorem F1(x:Sta)(v:AV):(aV x).set 149 v=aV { x with sto:={ x.sto with tabs:=v } }:=by
 simp only[aV,aE,amd,amI,akf,aU,aD,ak,al8,Nat.reduceSub,Nat.reduceLT,amj,amt,amy,amx]
theorem KG:Rd 45 [] (fun s=>.agg (aV s.a)) (Es dR):=fun B b e hs hb=>by
 obtain⟨xc,b1,e1,q1,s1,p1⟩:=KB.st e hs hb;obtain⟨xv,b2,e2,q2,s2,p2⟩:=KR.st e1 s1 hb;obtain⟨xj,b3,e3,q3,s3,p3⟩:=Kf.st e2 s2 hb;obtain⟨xk,b4,e4,q4,s4,p4⟩:=Kf.st e3 s3 hb;obtain⟨xq,b5,e5,q5,s5,p5⟩:=HD.st e4 s4 hb;obtain⟨v6,b6,e6,q6,s6,p6⟩:=ka.st e5 s5 hb;obtain⟨hn1,hn2⟩:=WN 1048576 NE q6;obtain⟨n,rfl⟩:∃n:Nat,v6=n:=⟨v6.toNat,NB⟩
 obtain⟨L,bL,eL,hL⟩:∃L bL eL,rLp (KS dR) n [] b6 e6=(L,bL,eL):=⟨_,_,_,rfl⟩
 obtain⟨sL,lL⟩:=C6 Kt hL s6;obtain⟨xn,b7,e7,q7,s7,p7⟩:=er.st eL sL hb;obtain⟨xb,b8,e8,q8,s8,p8⟩:=tR.st e7 s7 hb;obtain⟨v9,b9,e9,q9,s9,p9⟩:=ka.st e8 s8 hb;obtain⟨hm1,hm2⟩:=WN 1048576 NE q9;obtain⟨m,rfl⟩:∃n:Nat,v9=n:=⟨v9.toNat,NB⟩
 obtain⟨M,bM,eM,hM⟩:∃L bL eL,rLp dR.T m [] b9 e9=(L,bL,eL):=⟨_,_,_,rfl⟩
 obtain⟨sM,lM⟩:=C6 Ld hM s9;obtain⟨r1,ba,ea,qa,sa,pa⟩:=GS.st eM sM hb;obtain⟨r2,bb,eb,qb,sb,pb⟩:=GS.st ea sa hb;obtain⟨xg,bc,ec,qc,sc,pc⟩:=er.st eb sb hb;obtain⟨xs,bD,eD,qD,sD,pD⟩:=Cd.st ec sc hb;have hQ:J9 b4 e4=(xq,b5,e5):=q5;have hV:Ka b1 e1=(xv,b2,e2):=q2
 have hsta:∀ (lc:Cmd) (ov ha:Bool) (bx by' bz:List UInt8) (ex ey ez:Int),(if xs=true then Sf else rt1 fS) bD eD=(lc,bx,ex)->fE bx ex=(ov,by',ey)->fE by' ey=(ha,bz,ez)->Es dR b e=(⟨⟨xc,xv.1,xv.2,xj,xk,xq.1,xq.2,L,xn,xb,M⟩,r1,r2,xg,xs,lc,ov,ha⟩,bz,ez):=by
  intro lc ov ha bx by' bz ex ey ez z1 z2 z3
  obtain⟨A1,c1,f1,w1⟩:∃x y z,rLs dR.C Gg b1 e1=(x,y,z):=⟨_,_,_,rfl⟩
  obtain⟨A2,c2,f2,w2⟩:∃x y z,rLs dR.C dR.W c1 f1=(x,y,z):=⟨_,_,_,rfl⟩
  have hV':((A1,A2),c2,f2)=(xv,b2,e2):=by
   rw[<-hV];unfold Ka rb rt1;rw[show rLs (rU 1048576) Gg b1 e1=_ from w1];dsimp only;rw[show rLs (rU 1048576) (rU 4611686018427387904) c1 f1=_ from w2]
  obtain⟨A3,c3,f3,w3⟩:∃x y z,rLs dR.C dR.A b4 e4=(x,y,z):=⟨_,_,_,rfl⟩
  obtain⟨A4,c4,f4,w4⟩:∃x y z,rLs dR.C dR.B c3 f3=(x,y,z):=⟨_,_,_,rfl⟩
  have hQ':((A3,A4),c4,f4)=(xq,b5,e5):=by
   rw[<-hQ];unfold J9 rb rt1;rw[show rLs (rU 1048576) Zi b4 e4=_ from w3];dsimp only;rw[show rLs (rU 1048576) zW c3 f3=_ from w4]
  simp only[ajR]at hV' hQ';obtain⟨hV1,hV2,hV3⟩:=hV';obtain⟨hQ1,hQ2,hQ3⟩:=hQ';rw[hV2,hV3]at w2;rw[hQ2,hQ3]at w4;rw[<-hV1,<-hQ1];unfold Es;rw[dw q1,dw w1,dw w2,dw q3,dw q4,dw w3,dw w4,dw (show rLs dR.C (KS dR) b5 e5=_ from C7 q6 hL),dw q7,dw q8,dw (show rLs dR.C dR.T b8 e8=_ from C7 q9 hM),dw (show rLs dR.C (zY dR) bM eM=_ from qa),dw (show rLs dR.C (zY dR) ba ea=_ from qb),dw qc,dw qD,dw z1,dw z2,dw z3];rfl
 suffices hh:∀ (lc:Cmd) (ov ha:Bool) (bx by' bz:List UInt8) (ex ey ez:Int),(if xs=true then Sf else rt1 fS) bD eD=(lc,bx,ex)->fE bx ex=(ov,by',ey)->fE by' ey=(ha,bz,ez)->bz <:+ B/\ay Tryz.prog 45 [.ptr 0 0] [sro false B b e] (.agg (aV (⟨⟨xc,xv.1,xv.2,xj,xk,xq.1,xq.2,L,xn,xb,M⟩,r1,r2,xg,xs,lc,ov,ha⟩:aI).a)) [sro false B bz ez]by
  have z:=hsta _ _ _ _ _ _ _ _ _ rfl rfl rfl;rw[z];exact hh _ _ _ _ _ _ _ _ _ rfl rfl rfl
 clear hsta hQ hV q1 q2 q3 q4 q5 q6 q7 q8 q9 qa qb qc qD;intro lc ov ha bx by' bz ex ey ez z1 z2 z3
 have y1:bx <:+ B/\(xs=true->∃h1 h2 h3 b1 b2 e1 e2,lc=⟨h1,h2,h3⟩/\ay Tryz.prog 119 [.ptr 0 0] [sro false B bD eD] (.agg (rtc h1)) [sro false B b1 e1]/\ay Tryz.prog 119 [.ptr 0 0] [sro false B b1 e1] (.agg (rtc h2)) [sro false B b2 e2]/\ay Tryz.prog 119 [.ptr 0 0] [sro false B b2 e2] (.agg (rtc h3)) [sro false B bx ex])/\(xs=false->lc=fS/\bx=bD/\ex=eD):=by
  cases xs with
  | true =>
    obtain⟨h1,b1,e1,q1,s1,p1⟩:=tR.st eD sD hb;obtain⟨h2,b2,e2,q2,s2,p2⟩:=tR.st e1 s1 hb;obtain⟨h3,b3,e3,q3,s3,p3⟩:=tR.st e2 s2 hb;rw[al7 rfl]at z1;unfold Sf rb rt1 at z1;rw[q1]at z1;dsimp only at z1;rw[q2]at z1;dsimp only at z1;rw[q3]at z1;obtain⟨rfl,rfl,rfl⟩:(⟨h1,h2,h3⟩:Cmd)=lc/\b3=bx/\e3=ex:=by simpa using z1
    exact⟨s3,fun _=>⟨h1,h2,h3,b1,b2,e1,e2,rfl,p1,p2,p3⟩,(fun h=>by cases h)⟩
  | false =>
    rw[al5 NE]at z1;obtain⟨rfl,rfl,rfl⟩:fS=lc/\bD=bx/\eD=ex:=by simpa[rt1]using z1
    exact⟨sD,(fun h=>by cases h),fun _=>⟨rfl,rfl,rfl⟩⟩
 obtain⟨y1,y2,y3⟩:=y1;obtain⟨ov',by1,ey1,w1,y4,pe⟩:=Cd.st ex y1 hb;rw[w1]at z2;obtain⟨rfl,rfl,rfl⟩:ov'=ov/\by1=by'/\ey1=ey:=by simpa using z2
 obtain⟨ha',bz1,ez1,w2,y5,pf⟩:=Cd.st ey1 y4 hb;rw[w2]at z3;obtain⟨rfl,rfl,rfl⟩:ha'=ha/\bz1=bz/\ez1=ez:=by simpa using z3
 clear z1 z2 z3 w1 w2;refine⟨y5,?_⟩;refine dS 7 ?_;refine gon ?_;refine ocg [0] p1 ?_;refine ocg [0] p2 ?_;refine ocg [0] p3 ?_;refine ocg [0] p4 ?_;refine ocg [0] p5 ?_;refine ocg [0] p6 ?_;refine pS 2 115 240 ?_ NT (by exact Eo _);simp only[go_sem,Ep];refine CD (fun l b e=>[sro false B b e,.var (aV rD),.var (aV ⟨⟨xc.a,.sl 34 false (rows al xv.1),.sl 1 false (aH .i64 xv.2),xj,xk,.sl 67 false (rows bp.c xq.1),.sl 238 false (rows aO xq.2),.hs 240 3 0 l.length,0,rt0,.sl 0 true []⟩,.sl 0 true [],.sl 0 true [],0,false,fS,false,false⟩),.vec 240 (rows bB l)]) 5 hL s6 ?_ ?_ ?_ ?_ ?_
 ·exact ais [] [0,1,2,3]
 ·intro Q i acc b h1 hs hla
  subst hla;obtain⟨v1,b1,e1,q1,s1,p1⟩:=IL.st 0 hs hb;obtain⟨v2,b2,e2,q2,s2,p2⟩:=fk.st e1 s1 hb;obtain⟨v3,b3,e3,q3,s3,p3⟩:=fk.st e2 s2 hb;have hv2:=WN 4611686018427387904 NE q2
  have hone:KS dR b 0=(⟨v1,v2-1,v3⟩,b3,e3):=by
   unfold KS rb rt1;rw[show dR.B b 0=_ from q1];dsimp only;rw[show dR.W b1 e1=_ from q2];dsimp only;rw[show dR.W b2 e2=_ from q3]
  refine⟨_,_,_,hone,s3,?_⟩;have k1:=inT h1;have hw:=af h1 NB;have hw2:IntKind.i64.wrap (v2-1)=v2-1:=aL NB NB;have hsn:rows bB acc++[bB ⟨v1,v2-1,v3⟩]=rows bB (acc++[⟨v1,v2-1,v3⟩]):=cR bB _ _;refine aM k1 ?_;refine dce [0] p1 ?_;refine ue ?_;refine dce [0] p2 ?_;refine ah hw2 ?_;refine dce [0] p3 ?_;refine aZ hsn hw ?_;exact ais [] [0,1,2,7]
 ·intro h1 q;have k1:=inT h1;have k0:(eL==0)=false:=by simp[q]
  refine fU k1 k0 ?_;exact ais [] [0,1,2,3]
 ·intro h1;subst h1;have k1:=inF L.length;refine aF k1 ?_;exact ais [] [0,1,2,3]
 refine gon ?_;refine ocg [0] p7 ?_;refine ocg [0] p8 ?_;refine ocg [0] p9 ?_;refine pS 2 149 34 ?_ NT (by exact F0 _);simp only[go_sem,F1];refine CD (fun l b e=>[sro false B b e,.var (aV rD),.var (aV ⟨⟨xc.a,.sl 34 false (rows al xv.1),.sl 1 false (aH .i64 xv.2),xj,xk,.sl 67 false (rows bp.c xq.1),.sl 238 false (rows aO xq.2),.hs 240 3 0 L.length,xn,xb,.hs 34 4 0 l.length⟩,.sl 0 true [],.sl 0 true [],0,false,fS,false,false⟩),.vec 240 (rows bB L),.vec 34 (rows aW.c l)]) 6 hM s9 ?_ ?_ ?_ ?_ ?_
 ·exact ais [] [0,1,2,3,4]
 ·intro Q i acc b h1 hs hla;subst hla;obtain⟨v,b',e',q,s,p⟩:=KH.st 0 hs hb;refine⟨v,b',e',q,s,?_⟩;have k1:=inT h1;have hw:=af h1 NB;have hsn:rows aW.c acc++[cx v.a]=rows aW.c (acc++[v]):=cR aW.c _ _;refine aM k1 ?_;refine dce [0] p ?_;refine aZ hsn hw ?_;exact ais [] [0,1,2,3,6]
 ·intro h1 q;have k1:=inT h1;have k0:(eM==0)=false:=by simp[q]
  refine fU k1 k0 ?_;exact ais [] [0,1,2,3,4]
 ·intro h1;subst h1;have k1:=inF M.length;refine aF k1 ?_;exact ais [] [0,1,2,3,4]
 refine gon ?_;refine ocg [0] pa ?_;refine ocg [0] pb ?_;refine ocg [0] pc ?_;refine ocg [0] pD ?_;cases xs with
 | true =>
   obtain⟨h1,h2,h3,b1,b2,e1,e2,rfl,p1,p2,p3⟩:=y2 rfl;refine agF ?_;refine ocg [0] p1 ?_;refine ocg [0] p2 ?_;refine ocg [0] p3 ?_;refine ocg [0] pe ?_;refine ocg [0] pf ?_;exact ahY [3,4] [0]
 | false =>
   obtain⟨rfl,rfl,rfl⟩:=y3 rfl;refine agE ?_;refine ocg [0] pe ?_;refine ocg [0] pf ?_;exact ahY [3,4] [0]
end Go.Proofs.YtblipkgpoaonaaaGreat
