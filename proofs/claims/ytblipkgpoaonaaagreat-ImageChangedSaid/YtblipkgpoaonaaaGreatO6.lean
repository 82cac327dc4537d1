/- Joined. -/
import Derived.Test.YtblipkgpoaonaaaGreatO5
set_option linter.unusedVariables false
set_option linter.unusedSimpArgs false
set_option maxRecDepth 8000
set_option maxHeartbeats 4000000
namespace Go.Proofs.YtblipkgpoaonaaaGreat
open Go Go.FH Go.RowKit
theorem adC(c:cU)(acc:List Int){b:List UInt8}(hb:b.length<=140737488355328){v:Int}{b':List UInt8}{e':Int}(hq:rN b 0=(v,b',e'))(ha:acc.length<=2097152):
 ay Tryz.prog 198 [.ptr 1 0,.ptr 2 0] [rdr false b 0,.var (bW ⟨c.lim,c.spe,c.boost,c.ttd,c.gen,.hs 1 3 0 acc.length⟩),.var [.ptr 0 0],.vec 1 (aH .u64 acc)] (.tup []) [rdr false b' e',.var (bW ⟨c.lim,c.spe,c.boost,c.ttd,c.gen,.hs 1 4 0 (acc++[v]).length⟩),.var [.ptr 0 0],.gone,.vec 1 (aH .u64 (acc++[v]))]:=by
 obtain⟨v',b1,e1,q,s9,p⟩:=oD.st 0 hb
 obtain⟨rfl,rfl,rfl⟩:v=v'/\b'=b1/\e'=e1:=by
  have:=hq.symm.trans q;simp only[ajR]at this;exact this
 have hsn:aH .u64 acc++[[.int .u64 v]]=aH .u64 (acc++[v]):=o7 .u64 acc v;have hln:(acc++[v]).length=acc.length+1:=NC
 rw[hln];refine dS 2 ?_;show Tri _ _ _ _ _ ⟨2,[.ptr 1 0,.ptr 2 0],[]⟩ _
 refine gon ?_;refine dce [0] p ?_;refine ah hsn ?_;exact ahY [] [0,1,2,3,5]
theorem afY(l:List Vot)(acc:List Int){b:List UInt8}(hb:b.length<=140737488355328){v:Int}{b':List UInt8}{e':Int}(hq:rS b 0=(v,b',e'))(ha:acc.length<=2097152):
 ay Tryz.prog 200 [.ptr 1 0,.ptr 2 0] [rdr false b 0,.var ([.sl 34 false (rows al l),.hs 1 3 0 acc.length]),.var [.ptr 0 0],.vec 1 (aH .i64 acc)] (.tup []) [rdr false b' e',.var ([.sl 34 false (rows al l),.hs 1 4 0 (acc++[v]).length]),.var [.ptr 0 0],.gone,.vec 1 (aH .i64 (acc++[v]))]:=by
 obtain⟨v',b1,e1,q,s9,p⟩:=YC.st 0 hb
 obtain⟨rfl,rfl,rfl⟩:v=v'/\b'=b1/\e'=e1:=by
  have:=hq.symm.trans q;simp only[ajR]at this;exact this
 have hsn:aH .i64 acc++[[.int .i64 v]]=aH .i64 (acc++[v]):=o7 .i64 acc v;have hln:(acc++[v]).length=acc.length+1:=NC
 rw[hln];refine dS 2 ?_;show Tri _ _ _ _ _ ⟨2,[.ptr 1 0,.ptr 2 0],[]⟩ _
 refine gon ?_;refine dce [0] p ?_;refine ah hsn ?_;exact ahY [] [0,1,2,3,5]
theorem afX(s:ap)(acc:List bp){b:List UInt8}(hb:b.length<=140737488355328){v:bp}{b':List UInt8}{e':Int}(hq:tX b 0=(v,b',e'))(ha:acc.length<=2097152):
 ay Tryz.prog 100 [.ptr 1 0,.ptr 2 0] [rdr false b 0,.var (aE ⟨s.cfg.a,.sl 34 false (rows al s.latest),.sl 1 false (aH .i64 s.eqv),s.j,s.f,.hs 67 3 0 acc.length,.sl 0 true [],.sl 0 true [],s.now,s.boost,.sl 0 true []⟩),.var [.ptr 0 0],.vec 67 (rows bp.c acc)] (.tup []) [rdr false b' e',.var (aE ⟨s.cfg.a,.sl 34 false (rows al s.latest),.sl 1 false (aH .i64 s.eqv),s.j,s.f,.hs 67 4 0 (acc++[v]).length,.sl 0 true [],.sl 0 true [],s.now,s.boost,.sl 0 true []⟩),.var [.ptr 0 0],.gone,.vec 67 (rows bp.c (acc++[v]))]:=by
 obtain⟨v',b1,e1,q,s9,p⟩:=aei.st 0 hb
 obtain⟨rfl,rfl,rfl⟩:v=v'/\b'=b1/\e'=e1:=by
  have:=hq.symm.trans q;simp only[ajR]at this;exact this
 have hsn:rows bp.c acc++[cy v.a]=rows bp.c (acc++[v]):=cR bp.c acc v;have hln:(acc++[v]).length=acc.length+1:=NC
 rw[hln];refine dS 2 ?_;show Tri _ _ _ _ _ ⟨2,[.ptr 1 0,.ptr 2 0],[]⟩ _
 refine gon ?_;refine dce [0] p ?_;refine ah hsn ?_;exact ahY [] [0,1,2,3,5]
theorem af0(s:ap)(acc:List Blk){b:List UInt8}(hb:b.length<=140737488355328){v:Blk}{b':List UInt8}{e':Int}(hq:dP.B b 0=(v,b',e'))(ha:acc.length<=2097152):
 ay Tryz.prog 102 [.ptr 1 0,.ptr 2 0] [rdr false b 0,.var (aE ⟨s.cfg.a,.sl 34 false (rows al s.latest),.sl 1 false (aH .i64 s.eqv),s.j,s.f,.sl 67 false (rows bp.c s.early),.hs 238 3 0 acc.length,.sl 0 true [],s.now,s.boost,.sl 0 true []⟩),.var [.ptr 0 0],.vec 238 (rows aO acc)] (.tup []) [rdr false b' e',.var (aE ⟨s.cfg.a,.sl 34 false (rows al s.latest),.sl 1 false (aH .i64 s.eqv),s.j,s.f,.sl 67 false (rows bp.c s.early),.hs 238 4 0 (acc++[v]).length,.sl 0 true [],s.now,s.boost,.sl 0 true []⟩),.var [.ptr 0 0],.gone,.vec 238 (rows aO (acc++[v]))]:=by
 have p:=MY hb;rw[hq]at p;dsimp only at p;have hsn:rows aO acc++[aO v]=rows aO (acc++[v]):=cR aO acc v;have hln:(acc++[v]).length=acc.length+1:=NC
 rw[hln];refine dS 2 ?_;show Tri _ _ _ _ _ ⟨2,[.ptr 1 0,.ptr 2 0],[]⟩ _
 refine gon ?_;refine dce [0] p ?_;refine ah hsn ?_;exact ahY [] [0,1,2,3,5]
theorem af3(s:ap)(acc:List aW){b:List UInt8}(hb:b.length<=140737488355328){v:aW}{b':List UInt8}{e':Int}(hq:dP.T b 0=(v,b',e'))(ha:acc.length<=2097152):
 ay Tryz.prog 106 [.ptr 1 0,.ptr 2 0] [rdr false b 0,.var (aE ⟨s.cfg.a,.sl 34 false (rows al s.latest),.sl 1 false (aH .i64 s.eqv),s.j,s.f,.sl 67 false (rows bp.c s.early),.sl 238 false (rows aO s.orph),.sl 240 false (rows bB s.nodes),s.now,s.boost,.hs 34 3 0 acc.length⟩),.var [.ptr 0 0],.vec 34 (rows aW.c acc)] (.tup []) [rdr false b' e',.var (aE ⟨s.cfg.a,.sl 34 false (rows al s.latest),.sl 1 false (aH .i64 s.eqv),s.j,s.f,.sl 67 false (rows bp.c s.early),.sl 238 false (rows aO s.orph),.sl 240 false (rows bB s.nodes),s.now,s.boost,.hs 34 4 0 (acc++[v]).length⟩),.var [.ptr 0 0],.gone,.vec 34 (rows aW.c (acc++[v]))]:=by
 have p:=YV hb;rw[hq]at p;dsimp only at p;have hsn:rows aW.c acc++[cx v.a]=rows aW.c (acc++[v]):=cR aW.c acc v;have hln:(acc++[v]).length=acc.length+1:=NC
 rw[hln];refine dS 2 ?_;show Tri _ _ _ _ _ ⟨2,[.ptr 1 0,.ptr 2 0],[]⟩ _
 refine gon ?_;refine dce [0] p ?_;refine ah hsn ?_;exact ahY [] [0,1,2,3,5]
theorem af1(s:aI)(acc:List Req){b:List UInt8}(hb:b.length<=140737488355328){v:Req}{b':List UInt8}{e':Int}(hq:zY dP b 0=(v,b',e'))(ha:acc.length<=2097152):
 ay Tryz.prog 37 [.ptr 1 0,.ptr 2 0] [rdr false b 0,.var (aV ⟨s.sto.a,.hs 35 3 0 acc.length,.sl 0 true [],0,false,fS,false,false⟩),.var [.ptr 0 0],.vec 35 (rows aP acc)] (.tup []) [rdr false b' e',.var (aV ⟨s.sto.a,.hs 35 4 0 (acc++[v]).length,.sl 0 true [],0,false,fS,false,false⟩),.var [.ptr 0 0],.gone,.vec 35 (rows aP (acc++[v]))]:=by
 obtain⟨v',b1,e1,q,s9,p⟩:=WH.st 0 hb
 obtain⟨rfl,rfl,rfl⟩:v=v'/\b'=b1/\e'=e1:=by
  have:=hq.symm.trans q;simp only[ajR]at this;exact this
 have hsn:rows aP acc++[aP v]=rows aP (acc++[v]):=cR aP acc v;have hln:(acc++[v]).length=acc.length+1:=NC
 rw[hln];refine dS 2 ?_;show Tri _ _ _ _ _ ⟨2,[.ptr 1 0,.ptr 2 0],[]⟩ _
 refine gon ?_;refine dce [0] p ?_;refine ah hsn ?_;exact ahY [] [0,1,2,3,5]
theorem af2(s:aI)(acc:List Req){b:List UInt8}(hb:b.length<=140737488355328){v:Req}{b':List UInt8}{e':Int}(hq:zY dP b 0=(v,b',e'))(ha:acc.length<=2097152):
 ay Tryz.prog 39 [.ptr 1 0,.ptr 2 0] [rdr false b 0,.var (aV ⟨s.sto.a,.sl 35 false (rows aP s.reqs),.hs 35 3 0 acc.length,0,false,fS,false,false⟩),.var [.ptr 0 0],.vec 35 (rows aP acc)] (.tup []) [rdr false b' e',.var (aV ⟨s.sto.a,.sl 35 false (rows aP s.reqs),.hs 35 4 0 (acc++[v]).length,0,false,fS,false,false⟩),.var [.ptr 0 0],.gone,.vec 35 (rows aP (acc++[v]))]:=by
 obtain⟨v',b1,e1,q,s9,p⟩:=WH.st 0 hb
 obtain⟨rfl,rfl,rfl⟩:v=v'/\b'=b1/\e'=e1:=by
  have:=hq.symm.trans q;simp only[ajR]at this;exact this
 have hsn:rows aP acc++[aP v]=rows aP (acc++[v]):=cR aP acc v;have hln:(acc++[v]).length=acc.length+1:=NC
 rw[hln];refine dS 2 ?_;show Tri _ _ _ _ _ ⟨2,[.ptr 1 0,.ptr 2 0],[]⟩ _
 refine gon ?_;refine dce [0] p ?_;refine ah hsn ?_;exact ahY [] [0,1,2,3,5]
theorem af4(acc:List Vot){b:List UInt8}(hb:b.length<=140737488355328){v:Vot}{b':List UInt8}{e':Int}(hq:Gg b 0=(v,b',e'))(ha:acc.length<=2097152):
 ay Tryz.prog 199 [.ptr 2 0,.ptr 1 0] [rdr false b 0,.var [.hs 34 3 0 acc.length,.sl 0 true []],.var [.ptr 0 0],.vec 34 (rows al acc)] (.tup []) [rdr false b' e',.var [.hs 34 4 0 (acc++[v]).length,.sl 0 true []],.var [.ptr 0 0],.gone,.vec 34 (rows al (acc++[v]))]:=by
 obtain⟨h,b1,e1,q1,s1,p1⟩:=CC.st 0 hb;have hln:(acc++[v]).length=acc.length+1:=NC
 rw[hln];cases h with
 | true =>
   obtain⟨v2,b2,e2,q2,s2,p2⟩:=oD.st e1 s1;obtain⟨v3,b3,e3,q3,s3,p3⟩:=pH.st e2 s2
   have hone:Gg b 0=(⟨true,v2,v3⟩,b3,e3):=by
    unfold Gg;rw[dw q1,al7 rfl,dw q2,dw q3];rfl
   obtain⟨rfl,rfl,rfl⟩:v=⟨true,v2,v3⟩/\b'=b3/\e'=e3:=by
    have:=hq.symm.trans hone;simp only[ajR]at this;exact this
   have hsn:rows al acc++[al ⟨true,v2,v3⟩]=rows al (acc++[⟨true,v2,v3⟩]):=cR al acc _;refine dS 3 ?_;refine gon ?_;refine oce [0] p1 ?_;refine aX ?_;refine dce [0] p2 ?_;refine ue ?_;refine dce [0] p3 ?_;refine ah hsn ?_;exact ahY [] [0,1,2,3,7]
 | false =>
   have hone:Gg b 0=(dL,b1,e1):=by
    unfold Gg;rw[dw q1];rfl
   obtain⟨rfl,rfl,rfl⟩:v=dL/\b'=b1/\e'=e1:=by
    have:=hq.symm.trans hone;simp only[ajR]at this;exact this
   have hsn:rows al acc++[al ⟨false,0,rt0⟩]=rows al (acc++[dL]):=cR al acc _;refine dS 3 ?_;refine gon ?_;refine oce [0] p1 ?_;refine dQ ?_;refine ah hsn ?_;exact ahY [] [0,1,2,3,5]
theorem U0{α:Type}{z:α}{r:RR α}(h:dN r):dN (rTk z r):=fun b e=>by
 unfold rTk;split
 ·exact amP _
 split
 ·exact amP _
 ·exact h b 0
theorem afZ(s:ap)(acc:List Nod){b:List UInt8}(hb:b.length<=140737488355328){v:Nod}{b':List UInt8}{e':Int}(hq:KS dP b 0=(v,b',e'))(ha:acc.length<=2097152):
 ay Tryz.prog 104 [.ptr 2 0,.ptr 1 0] [rdr false b 0,.var (aE ⟨s.cfg.a,.sl 34 false (rows al s.latest),.sl 1 false (aH .i64 s.eqv),s.j,s.f,.sl 67 false (rows bp.c s.early),.sl 238 false (rows aO s.orph),.hs 240 3 0 acc.length,s.now,s.boost,.sl 0 true []⟩),.var [.ptr 0 0],.vec 240 (rows bB acc)] (.tup []) [rdr false b' e',.var (aE ⟨s.cfg.a,.sl 34 false (rows al s.latest),.sl 1 false (aH .i64 s.eqv),s.j,s.f,.sl 67 false (rows bp.c s.early),.sl 238 false (rows aO s.orph),.hs 240 4 0 (acc++[v]).length,s.now,s.boost,.sl 0 true []⟩),.var [.ptr 0 0],.gone,.vec 240 (rows bB (acc++[v]))]:=by
 have p1:=MY hb;have s1:=((U0 (z:=cw) O8) b 0).length_le;change (dP.B b 0).2.1.length<=_ at s1
 obtain⟨v1,b1,e1,q1⟩:∃x y z,dP.B b 0=(x,y,z):=⟨_,_,_,rfl⟩
 rw[q1]at p1 s1;dsimp only at p1 s1;obtain⟨v2,b2,e2,q2,s2,p2⟩:=YC.st e1 (ams s1 hb);obtain⟨v3,b3,e3,q3,s3,p3⟩:=YC.st e2 s2;have hv2:=WN 1099511627776 NE q2
 have hone:KS dP b 0=(⟨v1,v2-1,v3⟩,b3,e3):=by
  unfold KS;rw[dw q1,dw (show dP.W b1 e1=_ from q2),dw (show dP.W b2 e2=_ from q3)];rfl
 obtain⟨rfl,rfl,rfl⟩:v=⟨v1,v2-1,v3⟩/\b'=b3/\e'=e3:=by
  have:=hq.symm.trans hone;simp only[ajR]at this;exact this
 have hw2:IntKind.i64.wrap (v2-1)=v2-1:=aL NB NB;have hsn:rows bB acc++[bB ⟨v1,v2-1,v3⟩]=rows bB (acc++[⟨v1,v2-1,v3⟩]):=cR bB acc _;have hln:(acc++[(⟨v1,v2-1,v3⟩:Nod)]).length=acc.length+1:=NC
 rw[hln];clear hq hone q1 q2 q3;refine dS 3 ?_;refine gon ?_;refine ocg [0] p1 ?_;refine oce [0] p2 ?_;refine ah hw2 ?_;refine oce [0] p3 ?_;refine ah hsn ?_;exact ahY [] [0,1,2,3,5]
theorem adq{a:bp}(h1:U64 a.slot)(h2:U64 a.target.ep)(hv:cE a.vals 1024=0):(oW a.a a.vals).length<=10400:=by
 have r1:=h1.len;have r2:=eK h2;have r3:=Cr hv;have r4:=a.root.2;unfold oW bp.a;simp only[akC];omega
theorem adt{a:bp}(h1:U64 a.slot)(h2:U64 a.target.ep)(hv:cE a.vals 1024=0)(t:List UInt8):gv (sC a++t) 0 1048576=(oW a.a a.vals,t,0)/\Ds (oW a.a a.vals).length (D9 (oW a.a a.vals) 0)=((a.slot,a.root,a.target,a.vals),((oW a.a a.vals).length:Int),0):=by
 have hl:=adq h1 h2 hv;refine⟨(Se (oW a.a a.vals) 1048576 NB NB NE).full t,?_⟩;have ha:=Y3 a.a a.vals h1 h2 hv;rw[ha];unfold Ds;rw[al5 NC,al7 hv];simp[bp.a]
theorem Zd{a:bp}(h1:U64 a.slot)(h2:U64 a.target.ep)(hv:cE a.vals 1024=0):gZ Zi (sC a) a:=⟨fun t=>by
 obtain⟨k1,k2⟩:=adt h1 h2 hv t;unfold Zi;rw[k1];dsimp only;rw[k2];simp[XC]⟩
theorem Y2{a:bp}(h1:U64 a.slot)(h2:U64 a.target.ep)(hv:cE a.vals 1024=0):gZ tX (sC a) a:=⟨fun t=>by
 obtain⟨k1,k2⟩:=adt h1 h2 hv t;unfold tX;rw[k1];dsimp only;rw[k2];simp[XC]⟩
theorem gZ.tk{α:Type}{z v:α}{r:RR α}{e:List UInt8}(h:gZ r e v):gZ (rTk z r) e v:=⟨fun t=>by
 unfold rTk;rw[al5 NC,h.f t,al5 NC]⟩
def WL:RR aW:=fun bs e=>(S8 (mV bs e).1,(mV bs e).2)
theorem Za{t:aW}(h1:U64 t.cp.ep)(h2:t.bals.length<=1024)(h3:∀n∈t.bals,U64 n):gZ WL (pU t) t:=⟨fun u=>by
 have h:GR t.a t.bals false:=⟨h1,rfl,h3,NB⟩;have k:=Zb h h2;have k2:=WM.m (bs:=pU t) (by unfold pU;rw[k]) u;unfold pU at k2 ⊢;rw[k]at k2;unfold WL;rw[k2];rfl⟩
theorem af9:dP.T=rTk (S8 j4) WL:=by
 funext b e
 show (S8 (rTk j4 mV b e).1,(rTk j4 mV b e).2)=_
 unfold rTk WL;split
 ·rfl
 ·dsimp only;split
  ·rfl
  ·rfl
theorem Xq.le{r:RR Int}{m k:Int}(h:Xq r m)(hk:k<=m):Xq r k:=fun n h0 h1=>h n h0 NB
theorem ZB:adn dR:=⟨acI NE,(acI (m:=4611686018427387904) NE).le NE,fun a h1 h2 hv=>Zd h1 h2 hv,fun b h=>⟨Y4 b h.u h.d h.p⟩,fun t h1 h2 h3=>Za h1 h2 h3⟩
theorem ag3:adn dP:=⟨(acI (m:=1099511627776) NE).le NE,acI NE,fun a h1 h2 hv=>Y2 h1 h2 hv,fun b h=>gZ.tk ⟨Y4 b h.u h.d h.p⟩,fun t h1 h2 h3=>by rw[af9];exact(Za h1 h2 h3).tk⟩
theorem EP.tk{α:Type}{z:α}{r:RR α}{k:Nat}{p:α->Prop}(h:EP r k p):EP (rTk z r) k p:=by
 refine⟨fun b e=>?_,fun b e he=>?_,fun b hb he=>?_⟩
 ·unfold rTk;split
  ·exact amb _
  split
  ·exact amb _
  ·exact h.l b 0
 ·unfold rTk at he;split at he
  ·rename_i q;exact absurd he q
  ·rename_i q;simpa using q
 ·unfold rTk at he ⊢
  rw[al5 NC]at he ⊢;split at he
  ·rename_i q;exact absurd he q
  ·rename_i q;rw[al5 q];exact h.p b hb (by simpa using q)
theorem R7:EP tX 1 afH:=⟨fun b e=>(o8 1048576 b e).length_le,fun b e he=>by
 unfold tX at he;dsimp only at he;split at he
 ·rename_i q;exact(M5 q).1
 ·rename_i q;exact absurd he q,fun b hb he=>⟨by
  unfold tX at he ⊢;dsimp only at he ⊢;split at he
  ·rename_i q;exact(M5 q).2 hb
  ·rename_i q;exact absurd he q,adI _⟩⟩
theorem Hk:ado dP:=⟨(WO _ NE).weak (amb _) fun v hv=>hv.1,(WO _ NE).weak (amb _) fun v hv=>hv.1,R7,aep.tk,by rw[af9];exact EP.tk aer⟩
theorem Js{b:List UInt8}(hb:b.length<=2097152):FJ dP b=FJ dR b:=Km Hk ZB KV ag3 hb
theorem Rq.zt{α:Type}{f:FuncId}{a:AV}{c:α->AV}{r:RR α}(h:Rq f a [] c r){b:List UInt8}(e:Int)(hb:b.length<=2097152):∃v b' e',r b e=(v,b',e')/\b'.length<=2097152/\ay Tryz.prog f [a] [rdr false b e] (c v) [rdr false b' e']:=
 have h1:=h b e NB;⟨_,_,_,rfl,ams h1.1 hb,h1.2⟩
theorem sZ{α:Type}{one:RR α}(ho:dN one){b:List UInt8}(e:Int)(hb:b.length<=2097152):∃L b' e',rLs rS one b e=(L,b',e')/\b'.length<=2097152:=
 ⟨_,_,_,rfl,ams ((dN.rLs (IH _) ho) b e).length_le hb⟩
theorem afw{α β γ:Type}(r:RR α)(f:α->RR β)(g:β->RR γ):rb (rb r f) g=rb r fun v=>rb (f v) g:=rfl
theorem acg{α β:Type}(v:α)(g:α->RR β):rb (rt1 v) g=g v:=rfl
def WR:RR (List Vot×List Int):=rb (rLs rS Gg) fun l=>rb (rLs rS rS) fun q=>rt1 (l,q)
def rwV:oU Vot:=⟨rows al,fun ρ l=>ud ρ l,fun σ l=>wc σ [] l⟩
def rwA:oU bp:=⟨rows bp.c,fun ρ l=>tY ρ l,fun σ l=>vX σ [] l⟩
def rwB:oU Blk:=⟨rows aO,fun ρ l=>ua ρ l,fun σ l=>vZ σ [] l⟩
def rwD:oU Nod:=⟨rows bB,fun ρ l=>ub ρ l,fun σ l=>wa σ [] l⟩
def rwT:oU aW:=⟨rows aW.c,fun ρ l=>tZ ρ l,fun σ l=>vY σ [] l⟩
def rwQ:oU Req:=⟨rows aP,fun ρ l=>uc ρ l,fun σ l=>wb σ [] l⟩
def rwN(k:IntKind):oU Int:=⟨aH k,fun ρ l=>dG ρ k l,fun σ l=>ew σ [] k l⟩
theorem aeo{b:List UInt8}(e:Int)(hb:b.length<=2097152):∃v b' e',WR b e=(v,b',e')/\b'.length<=2097152/\ay Tryz.prog 98 [.agg [.ptr 0 0]] [rdr false b e] (.agg [.sl 34 false (rows al v.1),.sl 1 false (aH .i64 v.2)]) [rdr false b' e']:=by
 obtain⟨L,b1,e1,q1,s1⟩:=sZ WQ e hb;obtain⟨M,b2,e2,q2,s2⟩:=sZ (IH 1099511627776) e1 s1
 have c1:=IA 199 ⟨fun i m=>[.hs 34 i 0 m,.sl 0 true []],fun ρ i m=>(by simp only[go_sem,Sto.map,Sta.map,bZ,ren,bH,fzL,fz,dh,amq,amj,ame]),fun σ i m=>(by simp only[go_sem,Sto.map,Sta.map,bZ,ren,bH,fzL,fz,dh,amq,amj,ame])⟩ 34 ([.sl 0 true [],.sl 0 true []]) 0 rfl (fun i=>rfl) (fun ρ=>(by simp only[go_sem,Sto.map,Sta.map,bZ,ren,bH,fzL,fz,dh,amq,amj,ame])) (fun σ=>(by simp only[go_sem,Sto.map,Sta.map,bZ,ren,bH,fzL,fz,dh,amq,amj,ame])) rwV rfl WQ (fun b hb he=>(WP.p b hb he).1) (fun acc b v b' e' q hb ha=>af4 acc hb q ha) hb q1
 have c2:=jE 200 ⟨fun i m=>[.sl 34 false (rows al L),.hs 1 i 0 m],fun ρ i m=>(by simp only[go_sem,Sto.map,Sta.map,bZ,ren,bH,fzL,fz,dh,amq,amj,ame]),fun σ i m=>(by simp only[go_sem,Sto.map,Sta.map,bZ,ren,bH,fzL,fz,dh,amq,amj,ame])⟩ 1 ([.sl 34 false (rows al L),.sl 0 true []]) 1 rfl (fun i=>rfl) (fun ρ=>(by simp only[go_sem,Sto.map,Sta.map,bZ,ren,bH,fzL,fz,dh,amq,amj,ame])) (fun σ=>(by simp only[go_sem,Sto.map,Sta.map,bZ,ren,bH,fzL,fz,dh,amq,amj,ame])) (rwN .i64) rfl (IH 1099511627776) (fun b hb he=>((WO 1099511627776 NE).p b hb he).1) (fun acc b v b' e' q hb ha=>afY L acc hb q ha) s1 q2;refine⟨(L,M),b2,e2,by unfold WR;rw[dw q1,dw q2];rfl,s2,?_⟩;dsimp only[rwV,rwN]at c1 c2 ⊢;clear q1 q2;refine dS 4 ?_;refine gon ?_;refine oce [0,3,1] c1 ?_;refine EK [4] ?_;simp only[evZ,F7];refine evg ?_
 refine gon ?_;refine ocg [0,3,1] c2 ?_;exact ahY [5] [0]
theorem aej{b:List UInt8}(e:Int)(hb:b.length<=2097152):∃v b' e',O9 dP b e=(v,b',e')/\b'.length<=2097152/\ay Tryz.prog 97 [.agg [.ptr 0 0]] [rdr false b e] (.agg (bW v.a)) [rdr false b' e']:=by
 obtain⟨v1,b1,e1,q1,s1,p1⟩:=YC.zt e hb;obtain⟨v2,b2,e2,q2,s2,p2⟩:=YC.zt e1 s1;obtain⟨v3,b3,e3,q3,s3,p3⟩:=YC.zt e2 s2;obtain⟨v4,b4,e4,q4,s4,p4⟩:=YC.zt e3 s3;obtain⟨v5,b5,e5,q5,s5,p5⟩:=YC.zt e4 s4;obtain⟨v6,b6,e6,q6,s6,p6⟩:=oD.zt e5 s5;obtain⟨v7,b7,e7,q7,s7,p7⟩:=oD.zt e6 s6;obtain⟨v8,b8,e8,q8,s8,p8⟩:=oD.zt e7 s7;obtain⟨v9,b9,e9,q9,s9,p9⟩:=ab6.zt e8 s8;obtain⟨va,ba,ea,qa,sa,pa⟩:=pH.zt e9 s9;obtain⟨L,bL,eL,qL,sL⟩:=sZ IF ea sa
 have cL:=jE 198 ⟨fun i m=>bW ⟨⟨v1,v2,v3,v4,v5,v6⟩,v7,v8,v9,va,.hs 1 i 0 m⟩,fun ρ i m=>(by simp only[go_sem,Cfg.map,Sto.map,Sta.map,bZ,ren,bH,fzL,fz,dh,amq,amj,ame]),fun σ i m=>(by simp only[go_sem,Cfg.map,Sto.map,Sta.map,bZ,ren,bH,fzL,fz,dh,amq,amj,ame])⟩ 1 (bW ⟨⟨v1,v2,v3,v4,v5,v6⟩,v7,v8,v9,va,.sl 0 true []⟩) 44 (VJ _) (fun i=>VK _ _) (fun ρ=>(by simp only[go_sem,Cfg.map,Sto.map,Sta.map,bZ,ren,bH,fzL,fz,dh,amq,amj,ame])) (fun σ=>(by simp only[go_sem,Cfg.map,Sto.map,Sta.map,bZ,ren,bH,fzL,fz,dh,amq,amj,ame])) (rwN .u64) rfl IF (fun b hb he=>(qG.p b hb he).1) (fun acc b v b' e' q hb ha=>adC ⟨⟨v1,v2,v3,v4,v5,v6⟩,v7,v8,v9,va,[]⟩ acc hb q ha) sa qL
 have hR:O9 dP b e=(⟨⟨v1,v2,v3,v4,v5,v6⟩,v7,v8,v9,va,L⟩,bL,eL):=by
  have hl:Y6 dP.W b e=(⟨v1,v2,v3,v4,v5,v6⟩,b6,e6):=by
   unfold Y6;rw[dw (show dP.W b e=_ from q1),dw (show dP.W b1 e1=_ from q2),dw (show dP.W b2 e2=_ from q3),dw (show dP.W b3 e3=_ from q4),dw (show dP.W b4 e4=_ from q5),dw q6];rfl
  unfold O9;rw[dw hl,dw q7,dw q8,dw q9,dw qa,dw (show rLs dP.C rN ba ea=_ from qL)];rfl
 refine⟨_,bL,eL,hR,sL,?_⟩;dsimp only[rwN]at cL ⊢;clear hR q1 q2 q3 q4 q5 q6 q7 q8 q9 qa qL;refine dS 19 ?_;refine gon ?_;refine lV 6 (gY ?_);refine aX ?_;refine ocg [0] p1 ?_;refine gY ?_;refine aX ?_;refine ocg [0] p2 ?_;refine gY ?_;refine aX ?_;refine ocg [0] p3 ?_;refine gY ?_;refine aX ?_;refine ocg [0] p4 ?_;refine gY ?_;refine aX ?_;refine ocg [0] p5 ?_;refine gY ?_;refine bk ?_;refine dce [0] p6 ?_;refine ue ?_;refine dce [0] p7 ?_;refine ue ?_;refine dcg [0] p8 ?_;refine dce [0] p9 ?_;refine ue ?_;refine dcg [0] pa ?_;refine ocg [0,3,1] cL ?_;exact ahY [9] [0]
def Y9(d:Rdr):RR ap:=rb (O9 d) fun cfg=>rb (rLs d.C Gg) fun latest=>rb (rLs d.C d.W) fun eqv=>rb rCp fun j=>rb rCp fun f=>rb (rLs d.C d.A) fun early=>rb (rLs d.C d.B) fun orph=>rb (rLs d.C (KS d)) fun nodes=>rb rN fun now=>rb pp fun boost=>rb (rLs d.C d.T) fun tabs=>rt1 ⟨cfg,latest,eqv,j,f,early,orph,nodes,now,boost,tabs⟩
theorem aca(d:Rdr):Es d=rb (Y9 d) fun s=>rb (rLs d.C (zY d)) fun reqs=>rb (rLs d.C (zY d)) fun rets=>rb rN fun tag=>rb fE fun sent=>rb (if sent=true then Sf else rt1 fS) fun last=>rb fE fun over=>rb fE fun halt=>rt1 ⟨s,reqs,rets,tag,sent,last,over,halt⟩:=by
 unfold Y9;simp only[afw,acg];rfl
theorem R8:dN tX:=fun b e=>o8 1048576 b e
theorem T6:dN dP.B:=U0 O8
theorem aaS:dN dP.T:=by rw[af9];exact U0 fun b e=>Pe b e
theorem Sk:dN (KS dP):=dN.rb T6 fun _=>dN.rb (IH _) fun _=>dN.rb (IH _) fun _=>dN.rt1 _
theorem CI:dN (zY dP):=dN.rb IF fun _=>dN.rb eY fun _=>dN.rb (IH _) fun _=>dN.rb IF fun _=>dN.rt1 _
theorem PT(x:Sto):(aE x).getD 114 .dead=x.orph:=by
 simp only[aE,amd,amI,alt,aj2,aU,aD,ak,al8,Nat.reduceSub,Nat.reduceLT,amj,amt,ajB,amQ,amT]
theorem PV(x:Sto)(v:AV):(aE x).set 114 v=aE { x with orph:=v }:=by
 simp only[aE,amd,amI,akf,aU,aD,ak,al8,Nat.reduceSub,Nat.reduceLT,amj,amt,amy,amx]
theorem LI(x:Sto):(aE x).getD 115 .dead=x.nodes:=by
 simp only[aE,amd,amI,alt,aj2,aU,aD,ak,al8,Nat.reduceSub,Nat.reduceLT,amj,amt,ajB,amQ,amT]
theorem LJ(x:Sto)(v:AV):(aE x).set 115 v=aE { x with nodes:=v }:=by
 simp only[aE,amd,amI,akf,aU,aD,ak,al8,Nat.reduceSub,Nat.reduceLT,amj,amt,amy,amx]
theorem PU(x:Sto):(aE x).getD 149 .dead=x.tabs:=by
 simp only[aE,amd,amI,alt,aj2,aU,aD,ak,al8,Nat.reduceSub,Nat.reduceLT,amj,amt,ajB,amQ,amT]
theorem PW(x:Sto)(v:AV):(aE x).set 149 v=aE { x with tabs:=v }:=by
 simp only[aE,amd,amI,akf,aU,aD,ak,al8,Nat.reduceSub,Nat.reduceLT,amj,amt,amy,amx]
theorem ael{b:List UInt8}(e:Int)(hb:b.length<=2097152):∃v b' e',Y9 dP b e=(v,b',e')/\b'.length<=2097152/\ay Tryz.prog 35 [.agg [.ptr 0 0]] [rdr false b e] (.agg (aE v.a)) [rdr false b' e']:=by
 obtain⟨c,b1,e1,q1,s1,p1⟩:=aej e hb;obtain⟨x,b2,e2,q2,s2,p2⟩:=aeo e1 s1;obtain⟨j,b3,e3,q3,s3,p3⟩:=ab3.zt e2 s2;obtain⟨k,b4,e4,q4,s4,p4⟩:=ab3.zt e3 s3;obtain⟨LA,b5,e5,q5,s5⟩:=sZ R8 e4 s4;obtain⟨LO,b6,e6,q6,s6⟩:=sZ T6 e5 s5;obtain⟨LN,b7,e7,q7,s7⟩:=sZ Sk e6 s6;obtain⟨n,b8,e8,q8,s8,p8⟩:=oD.zt e7 s7;obtain⟨r,b9,e9,q9,s9,p9⟩:=pH.zt e8 s8;obtain⟨LT,ba,ea,qa,sa⟩:=sZ aaS e9 s9
 have hR:Y9 dP b e=(⟨c,x.1,x.2,j,k,LA,LO,LN,n,r,LT⟩,ba,ea):=by
  have hv:Y9 dP=rb (O9 dP) fun cfg=>rb WR fun x=>rb rCp fun j=>rb rCp fun f=>rb (rLs rS tX) fun early=>rb (rLs rS dP.B) fun orph=>rb (rLs rS (KS dP)) fun nodes=>rb rN fun now=>rb pp fun boost=>rb (rLs rS dP.T) fun tabs=>rt1 ⟨cfg,x.1,x.2,j,f,early,orph,nodes,now,boost,tabs⟩:=by
   unfold Y9 WR;simp only[afw,acg];rfl
  rw[hv,dw q1,dw q2,dw q3,dw q4,dw q5,dw q6,dw q7,dw q8,dw q9,dw qa];rfl
 have c5:=jE 100 ⟨fun i m=>aE ⟨c.a,.sl 34 false (rows al x.1),.sl 1 false (aH .i64 x.2),j,k,.hs 67 i 0 m,.sl 0 true [],.sl 0 true [],0,rt0,.sl 0 true []⟩,fun ρ i m=>(by simp only[go_sem,Sto.map,Sta.map,bZ,ren,bH,fzL,fz,dh,amq,amj,ame]),fun σ i m=>(by simp only[go_sem,Sto.map,Sta.map,bZ,ren,bH,fzL,fz,dh,amq,amj,ame])⟩ 67 (aE ⟨c.a,.sl 34 false (rows al x.1),.sl 1 false (aH .i64 x.2),j,k,.sl 0 true [],.sl 0 true [],.sl 0 true [],0,rt0,.sl 0 true []⟩) 113 (zp _) (fun i=>zq _ _) (fun ρ=>(by simp only[go_sem,Sto.map,Sta.map,bZ,ren,bH,fzL,fz,dh,amq,amj,ame])) (fun σ=>(by simp only[go_sem,Sto.map,Sta.map,bZ,ren,bH,fzL,fz,dh,amq,amj,ame])) rwA rfl R8 (fun b hb he=>(R7.p b hb he).1) (fun acc b v b' e' q hb ha=>afX ⟨c,x.1,x.2,j,k,[],[],[],0,rt0,[]⟩ acc hb q ha) s4 q5
 have c6:=jE 102 ⟨fun i m=>aE ⟨c.a,.sl 34 false (rows al x.1),.sl 1 false (aH .i64 x.2),j,k,.sl 67 false (rows bp.c LA),.hs 238 i 0 m,.sl 0 true [],0,rt0,.sl 0 true []⟩,fun ρ i m=>(by simp only[go_sem,Sto.map,Sta.map,bZ,ren,bH,fzL,fz,dh,amq,amj,ame]),fun σ i m=>(by simp only[go_sem,Sto.map,Sta.map,bZ,ren,bH,fzL,fz,dh,amq,amj,ame])⟩ 238 (aE ⟨c.a,.sl 34 false (rows al x.1),.sl 1 false (aH .i64 x.2),j,k,.sl 67 false (rows bp.c LA),.sl 0 true [],.sl 0 true [],0,rt0,.sl 0 true []⟩) 114 (PT _) (fun i=>PV _ _) (fun ρ=>(by simp only[go_sem,Sto.map,Sta.map,bZ,ren,bH,fzL,fz,dh,amq,amj,ame])) (fun σ=>(by simp only[go_sem,Sto.map,Sta.map,bZ,ren,bH,fzL,fz,dh,amq,amj,ame])) rwB rfl T6 (fun b hb he=>(Hk.B.p b hb he).1) (fun acc b v b' e' q hb ha=>af0 ⟨c,x.1,x.2,j,k,LA,[],[],0,rt0,[]⟩ acc hb q ha) s5 q6
 have c7:=IA 104 ⟨fun i m=>aE ⟨c.a,.sl 34 false (rows al x.1),.sl 1 false (aH .i64 x.2),j,k,.sl 67 false (rows bp.c LA),.sl 238 false (rows aO LO),.hs 240 i 0 m,0,rt0,.sl 0 true []⟩,fun ρ i m=>(by simp only[go_sem,Sto.map,Sta.map,bZ,ren,bH,fzL,fz,dh,amq,amj,ame]),fun σ i m=>(by simp only[go_sem,Sto.map,Sta.map,bZ,ren,bH,fzL,fz,dh,amq,amj,ame])⟩ 240 (aE ⟨c.a,.sl 34 false (rows al x.1),.sl 1 false (aH .i64 x.2),j,k,.sl 67 false (rows bp.c LA),.sl 238 false (rows aO LO),.sl 0 true [],0,rt0,.sl 0 true []⟩) 115 (LI _) (fun i=>LJ _ _) (fun ρ=>(by simp only[go_sem,Sto.map,Sta.map,bZ,ren,bH,fzL,fz,dh,amq,amj,ame])) (fun σ=>(by simp only[go_sem,Sto.map,Sta.map,bZ,ren,bH,fzL,fz,dh,amq,amj,ame])) rwD rfl Sk (fun b hb he=>((WJ Hk).p b hb he).1) (fun acc b v b' e' q hb ha=>afZ ⟨c,x.1,x.2,j,k,LA,LO,[],0,rt0,[]⟩ acc hb q ha) s6 q7
 have ca:=jE 106 ⟨fun i m=>aE ⟨c.a,.sl 34 false (rows al x.1),.sl 1 false (aH .i64 x.2),j,k,.sl 67 false (rows bp.c LA),.sl 238 false (rows aO LO),.sl 240 false (rows bB LN),n,r,.hs 34 i 0 m⟩,fun ρ i m=>(by simp only[go_sem,Sto.map,Sta.map,bZ,ren,bH,fzL,fz,dh,amq,amj,ame]),fun σ i m=>(by simp only[go_sem,Sto.map,Sta.map,bZ,ren,bH,fzL,fz,dh,amq,amj,ame])⟩ 34 (aE ⟨c.a,.sl 34 false (rows al x.1),.sl 1 false (aH .i64 x.2),j,k,.sl 67 false (rows bp.c LA),.sl 238 false (rows aO LO),.sl 240 false (rows bB LN),n,r,.sl 0 true []⟩) 149 (PU _) (fun i=>PW _ _) (fun ρ=>(by simp only[go_sem,Sto.map,Sta.map,bZ,ren,bH,fzL,fz,dh,amq,amj,ame])) (fun σ=>(by simp only[go_sem,Sto.map,Sta.map,bZ,ren,bH,fzL,fz,dh,amq,amj,ame])) rwT rfl aaS (fun b hb he=>(Hk.T.p b hb he).1) (fun acc b v b' e' q hb ha=>af3 ⟨c,x.1,x.2,j,k,LA,LO,LN,n,r,[]⟩ acc hb q ha) s9 qa;refine⟨_,ba,ea,hR,sa,?_⟩;dsimp only[rwA,rwB,rwD,rwT]at c5 c6 c7 ca ⊢;clear hR q1 q2 q3 q4 q5 q6 q7 q8 q9 qa;refine dS 4 ?_;refine gon ?_;refine ocg [0] p1 ?_;refine ocg [0] p2 ?_;refine dce [0] p3 ?_;refine ue ?_;refine dcg [0] p4 ?_;refine oce [0,3,1] c5 ?_;refine EK [6] ?_;simp only[evZ,F7];refine evg ?_
 refine gon ?_;refine oce [0,3,1] c6 ?_;refine EK [7] ?_;simp only[evZ,F7];refine evg ?_
 refine gon ?_;refine oce [0,3,1] c7 ?_;refine EK [8] ?_;simp only[evZ,F7];refine evg ?_
 refine gon ?_;refine dce [0] p8 ?_;refine ue ?_;refine dcg [0] p9 ?_;refine ocg [0,3,1] ca ?_;exact ahY [11] [0]
theorem PJ(x:Sta):(aV x).getD 150 .dead=x.reqs:=by
 simp only[aV,aE,ama,aj3,amD,akQ,amd,amI,alt,aj2,aU,aD,ak,al8,Nat.reduceSub,Nat.reduceLT,amj,amt,ajB,amQ,amT]
theorem PK(x:Sta)(v:AV):(aV x).set 150 v=aV { x with reqs:=v }:=by
 simp only[aV,aE,ama,aj3,amD,akQ,amd,amI,akf,aU,aD,ak,al8,Nat.reduceSub,Nat.reduceLT,amj,amt,amy,amx]
theorem YP(x y:List UInt8)(c1 c2:Bool):PC Tryz.prog 44 [.sl 1 c1 (bts x),.sl 1 c2 (bts y)] (.bool (x==y)):=by
 refine cD 5 ?_;refine gon ?_;exact ai
theorem D6(b:List UInt8)(hb2:b.length<=2097152):PC Tryz.prog 10 [.sl 1 false (bts b)] (.tup [.agg (aV (FJ dP b).1.a),.int .i64 (FJ dP b).2]):=by
 have hb:b.length<=140737488355328:=NB
 have ht:=(WK Hk).p b hb2;obtain⟨s,b1,e1,q1,s1,p1⟩:=ael 0 hb2;obtain⟨LQ,b2,e2,q2,s2⟩:=sZ CI e1 s1;obtain⟨LR,b3,e3,q3,s3⟩:=sZ CI e2 s2;obtain⟨tg,b4,e4,q4,s4,p4⟩:=oD.zt e3 s3;obtain⟨sn,b5,e5,q5,s5,p5⟩:=CC.zt e4 s4
 obtain⟨lc,bx,ex,z1,sx,y2,y3⟩:∃lc bx ex,(if sn=true then Sf else rt1 fS) b5 e5=(lc,bx,ex)/\bx.length<=2097152/\(sn=true->∃h1 h2 h3 b1 b2 e1 e2,lc=⟨h1,h2,h3⟩/\ay Tryz.prog 42 [.ptr 0 0] [rdr false b5 e5] (.agg (rtc h1)) [rdr false b1 e1]/\ay Tryz.prog 42 [.ptr 0 0] [rdr false b1 e1] (.agg (rtc h2)) [rdr false b2 e2]/\ay Tryz.prog 42 [.ptr 0 0] [rdr false b2 e2] (.agg (rtc h3)) [rdr false bx ex])/\(sn=false->lc=fS/\bx=b5/\ex=e5):=by
  cases sn with
  | true =>
    obtain⟨h1,b1,e1,q1,s1,p1⟩:=pH.zt e5 s5;obtain⟨h2,b2,e2,q2,s2,p2⟩:=pH.zt e1 s1;obtain⟨h3,b3,e3,q3,s3,p3⟩:=pH.zt e2 s2;refine⟨⟨h1,h2,h3⟩,b3,e3,?_,s3,fun _=>⟨h1,h2,h3,b1,b2,e1,e2,rfl,p1,p2,p3⟩,(fun h=>by cases h)⟩;rw[al7 rfl];unfold Sf;rw[dw q1,dw q2,dw q3];rfl
  |false=>exact⟨fS,b5,e5,rfl,s5,(fun h=>by cases h),fun _=>⟨rfl,rfl,rfl⟩⟩
 obtain⟨ov,b6,e6,q6,s6,p6⟩:=CC.zt ex sx;obtain⟨ha,b7,e7,q7,s7,p7⟩:=CC.zt e6 s6;obtain⟨S,hS⟩:∃S:aI,S=⟨s,LQ,LR,tg,sn,lc,ov,ha⟩:=⟨_,rfl⟩
 have hR:Es dP b 0=(S,b7,e7):=by
  rw[aca,dw q1,dw (show rLs dP.C (zY dP) b1 e1=_ from q2),dw (show rLs dP.C (zY dP) b2 e2=_ from q3),dw q4,dw q5,dw z1,dw q6,dw q7,hS];rfl
 have k1:=adJ hR;have k2:=fun(h1:b7=[]) (h2:e7=0)=>aaV (b:=b) (s:=S) (d:=dP) (by rw[hR,h1,h2])
 rw[hR]at ht;dsimp only at ht
 have cA:=jE 37 ⟨fun i m=>aV ⟨s.a,.hs 35 i 0 m,.sl 0 true [],0,false,fS,false,false⟩,fun ρ i m=>(by simp only[go_sem,Sta.map,bZ,ren,bH,fzL,fz,dh,amq,amj,ame]),fun σ i m=>(by simp only[go_sem,Sta.map,bZ,ren,bH,fzL,fz,dh,amq,amj,ame])⟩ 35 (aV ⟨s.a,.sl 0 true [],.sl 0 true [],0,false,fS,false,false⟩) 150 (PJ _) (fun i=>PK _ _) (fun ρ=>(by simp only[go_sem,Sta.map,bZ,ren,bH,fzL,fz,dh,amq,amj,ame])) (fun σ=>(by simp only[go_sem,Sta.map,bZ,ren,bH,fzL,fz,dh,amq,amj,ame])) rwQ rfl CI (fun b hb he=>((Pd Hk).p b hb he).1) (fun acc b v b' e' q hb ha=>af1 ⟨s,[],[],0,false,fS,false,false⟩ acc hb q ha) s1 q2
 have cB:=jE 39 ⟨fun i m=>aV ⟨s.a,.sl 35 false (rows aP LQ),.hs 35 i 0 m,0,false,fS,false,false⟩,fun ρ i m=>(by simp only[go_sem,Sta.map,bZ,ren,bH,fzL,fz,dh,amq,amj,ame]),fun σ i m=>(by simp only[go_sem,Sta.map,bZ,ren,bH,fzL,fz,dh,amq,amj,ame])⟩ 35 (aV ⟨s.a,.sl 35 false (rows aP LQ),.sl 0 true [],0,false,fS,false,false⟩) 151 (CW _) (fun i=>CX _ _) (fun ρ=>(by simp only[go_sem,Sta.map,bZ,ren,bH,fzL,fz,dh,amq,amj,ame])) (fun σ=>(by simp only[go_sem,Sta.map,bZ,ren,bH,fzL,fz,dh,amq,amj,ame])) rwQ rfl CI (fun b hb he=>((Pd Hk).p b hb he).1) (fun acc b v b' e' q hb ha=>af2 ⟨s,LQ,[],0,false,fS,false,false⟩ acc hb q ha) s2 q3;clear hR q1 q2 q3 q4 q5 q6 q7 z1;dsimp only[rwQ]at cA cB;have c3:=fun h:e7=0=>D7 S (ht h).2.enc
 have c2:=TS b7 false e7;have hB:pn S=0->Dt S=ej S:=fun h=>by unfold Dt;rw[al7 h]
 have hSa:aV ⟨s.a,.sl 35 false (rows aP LQ),.sl 35 false (rows aP LR),tg,sn,lc,ov,ha⟩=aV S.a:=by rw[hS];rfl
 generalize FJ dP b=R at *;generalize pn S=V at *;generalize Dt S=W at *;refine cD 8 ?_;refine gon ?_;refine ocg [] (Fo b) ?_;refine ocg [1] p1 ?_;refine oce [1,3,2] cA ?_;refine EK [4] ?_;simp only[evZ,F7];refine evg ?_
 refine gon ?_;refine oce [1,3,2] cB ?_;refine EK [5] ?_;simp only[evZ,F7];refine evg ?_
 refine gon ?_;refine dce [1] p4 ?_;refine ue ?_;refine dcg [1] p5 ?_;refine Z3 [] [.var (aV rD),rdr false bx ex,.var [.ptr 1 0],.var (aV ⟨s.a,.sl 35 false (rows aP LQ),.sl 35 false (rows aP LR),tg,sn,lc,false,false⟩),.gone,.gone] ?_ ?_
 ·cases sn with
  | true =>
    obtain⟨h1,h2,h3,b1,b2,e1,e2,rfl,p1,p2,p3⟩:=y2 rfl;refine aX ?_;refine dce [1] p1 ?_;refine ue ?_;refine dce [1] p2 ?_;refine ue ?_;refine dcg [1] p3 ?_;exact ais [] [0,1,2,3,4,5]
  | false =>
    obtain⟨rfl,rfl,rfl⟩:=y3 rfl;refine bk ?_;exact ais [] [0,1,2,3,4,5]
 rw[show ∀l:List AV,jc [] l=l from fun _=>rfl];refine gon ?_;refine dce [1] p6 ?_;refine ue ?_;refine dcg [1] p7 ?_;refine oce [1] c2 ?_;simp only[hSa];by_cases q:e7=0/\b7=[]
 ·obtain⟨rfl,rfl⟩:=q
  have hc:(if ((0:Int)=0/\([]:List UInt8)≠[])then (2:Int)else 0)=0:=NC
  rw[hc];refine bk ?_;refine am (c3 rfl) ?_;by_cases q1:V=0
  ·subst q1
   rw[hB rfl];have c4:=YP (ej S) b false false;by_cases q2:ej S=b
   ·rw[k2 rfl rfl rfl q2];have e2:(ej S==b)=true:=by simp[q2]
    rw[e2]at c4;refine gon ?_;refine am c4 ?_;refine bk ?_;exact ai
   ·rw[k1 (fun h=>q2 h.2.2.2)];have e2:(ej S==b)=false:=by simp[q2]
    rw[e2]at c4;refine gon ?_;refine am c4 ?_;refine aX ?_;refine⟨_,(by first|rfl|exact evd),.inr ⟨.tup [.agg (aV rD),.int .i64 25],?_,⟨uG,trivial,trivial⟩,Wk.tup ⟨C9,Wk.refl _,trivial⟩⟩⟩;exact evd
  ·rw[k1 (fun h=>q1 h.2.2.1)];have e1:(V != 0)=true:=by simp[q1]
   refine aM e1 ?_;refine⟨_,(by first|rfl|exact evd),.inr ⟨.tup [.agg (aV rD),.int .i64 25],?_,⟨uG,trivial,trivial⟩,Wk.tup ⟨C9,Wk.refl _,trivial⟩⟩⟩;exact evd
 ·rw[k1 (fun h=>q ⟨h.1,h.2.1⟩)]
  have hc:((if (e7=0/\b7≠[])then (2:Int)else e7) != 0)=true:=by
   by_cases q1:e7=0
   ·rw[al7 ⟨q1,fun h=>q ⟨q1,h⟩⟩];decide
   ·rw[al5 (fun h=>q1 h.1)];simp[q1]
  refine aM hc ?_;refine⟨_,(by first|rfl|exact evd),.inr ⟨.tup [.agg (aV rD),.int .i64 25],?_,⟨uG,trivial,trivial⟩,Wk.tup ⟨C9,Wk.refl _,trivial⟩⟩⟩;exact evd
end Go.Proofs.YtblipkgpoaonaaaGreat
