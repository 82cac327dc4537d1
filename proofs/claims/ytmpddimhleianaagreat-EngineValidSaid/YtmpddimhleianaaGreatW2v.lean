/-
 My texts Ba, Ak, Am, Bb, Bc, Bd, Be, Bf, Bg, Bh, Bi, Bj, Bk, Bl, Bm, Bn, joined.
-/
import Derived.Test.YtmpddimhleianaaGreatW1v
import Derived.Laws.Externs
import Derived.Lib.AppendZerosOnto
import Derived.KernelRfl
import Derived.Maps.RangeRun
import Derived.MapKept
import Derived.Lib.LazyBuf
import Derived.Tactics
import Derived.Scope
import Derived.Orders
import Derived.Laws.BitsLemmas
set_option linter.unusedVariables false
set_option linter.unusedSimpArgs false
namespace Go.FH
open Go Go.RowKit
section
variable{X:Nat->Prop}{loc loc':Nat->Option Loc}{σ σ':St}{w w':World}{n:Nat}{P:Program}{ρ:Operand->Value}{ρ':Opd->AV}{K:AV->List Nat->Bool->St->Prop}
theorem Rel.grow(d:Rel X loc σ w)(a:Ev (fun _=>False) w w'):Rel X loc σ w'/\nI (aR X loc σ w) (aR X loc σ w'):=by
 have e:Ev (aV σ loc) w w':=⟨a.size,fun b f _=>a.blk b f id,a.os,a.tape,a.output⟩
 exact⟨d.change (fun _ _ h=>h) e (fun b f=>.inl f) d.beyond (fun j o g k=>.inl ⟨g,fun L l i=>a.blk _ (aV.lt d ⟨j,o,L,g,k,l,i,rfl⟩) id⟩) d.apart,
  mm d (fun _ _ h=>h) e fun b f=>.inl f⟩
theorem TD(b:Rel X loc σ w):¬im X σ loc w.heap.size:=by
 rintro (h|h)
 ·exact absurd (b.out _ h).1 (adJ _)
 ·exact absurd (aV.lt b h) (adJ _)
theorem VQ(hr:Rel X loc σ w)(hρ:lm (aR X loc σ w) ρ ρ'){o:Oper}{t e:TypeId}{m:Nat}{ps:Array (Nat×Operand)}{qs:List (Nat×Opd)}{z:List AV}{ti:TypeInfo}(ho:o.op=.buildSlice t m ps)(ht:P.underlying t=some (.slice e))(hz:jJ P e=some z)(hti:P.info? e=some ti)
 (hq:jN ps.toList=some qs) (hpos:0<ti.size) (hsm:m*ti.size<=2 ^ 24) (hmm:m<=maxLen) (h:opF n σ ρ' K (.bldS ti.size m z qs)):Snd X loc σ w n ((execOp ρ o).run P w) K:=by
 simp only[opF]at h;obtain⟨hok,h⟩:=h;obtain⟨i,zv,hi,hzv,hzs,hzc⟩:=ig hz;rw[hti]at hi;cases hi;obtain⟨hl,hpq⟩:=nQ hq;have hzl:zv.cells.toList.length=ti.size:=af0
 have hz0:=RlE.rep (RlC.ofCells (aR X loc σ w) hzc) hzl m
 have hcells:(madeCells zv.cells (m*ti.size)).toList=(List.replicate m zv.cells.toList).flatten:=by
  have:=my zv.cells.toList af0 m;simp_all
 obtain⟨us',g1,g2⟩:=BF (E:=aR X loc σ w) ((ps.toList).map fun p=>(p.1,ρ p.2)) (qs.map fun p=>(p.1,ρ' p.2)) (List.replicate m z) _ hz0 af3 (fun j p q hj hq'=>by
  obtain⟨p0,hp0,rfl⟩:=acs ..▸hj |> afI.1
  obtain⟨q0,hq0,rfl⟩:=acs ..▸hq' |> afI.1
  obtain⟨k1,k2⟩:=hpq j p0 q0 hp0 hq0;exact⟨k1,hρ _ _ k2⟩) af3
 have hgl:=g2.length;have hev:Ev (fun _=>False) w (w.alloc (.cells us'.toArray e)):=Ev.alloc _ _ _;obtain⟨hR,hle⟩:=hr.grow hev
 have hfl:∀ (xs:List (List AV)) (l:List (Nat×AV)),(nU xs l).length=xs.length:=by
  intro xs l;induction l generalizing xs with
  |nil=>rfl
  |cons p l ih=>obtain⟨i,v⟩:=p;simp[nU,ih]
 have hlen:(nU (List.replicate m z) (qs.map fun p=>(p.1,ρ' p.2))).length=m:=af3
 have hfill:Instr.fill (fun i=>some (i*ti.size,ti.size)) ((Array.range (m*ti.size)).map (zv.cells[·%zv.cells.size]!)) (ps.map fun p=>(p.1,ρ p.2)).toList=some us'.toArray:=by
  have e1:((Array.range (m*ti.size)).map (zv.cells[·%zv.cells.size]!))=((List.replicate m zv.cells.toList).flatten).toArray:=by
   apply acw.1
   rw[<-hcells];rfl
  rw[e1,<-g1];simp
 have hval:(execOp ρ o).run P w=.ok (.value (.slice (some ⟨w.heap.size,0,none⟩) m m)) (w.alloc (.cells us'.toArray e)):=by
  by_cases hm:m=0
  ·subst hm
   have hps:qs=[]:=by
    cases qs with
    |nil=>rfl
    |cons q qs=>simp[qH]at hok
   subst hps
   have hp0:ps=#[]:=by
    apply acw.1
    simpa using hl
   subst hp0
   have hu0:us'=[]:=by
    have:=g2.length;simp[nU]at this;exact this
   subst hu0;simp[execOp,ho,Instr.buildSlice,run_underlying ht,sizeOf,typeInfo,hti,Instr.fill,newRow,newObj,Sem.run];grind
  ·have hmp:¬m*ti.size=0:=by
    intro h0;rcases Nat.mul_eq_zero.1 h0 with h1|h1<;>omega
   have:=run_buildSlice (P:=P) w t e m (ps.map fun p=>(p.1,ρ p.2)) us'.toArray ti zv ht hti hzv af0 hmp hfill;simp only[execOp,ho,Sem.run_bind];rw[this];rfl
 refine⟨_,[],false,σ,_,_,loc,h,.inl hval,⟨fun _ _ h=>h,hR,?_,⟨hev.size,fun b hb _=>hev.blk b hb id,rfl,rfl,rfl⟩,fun _ h=>.inl h⟩,fun _ _=>rfl,rfl⟩;refine⟨_,_,_,rfl,hlen.symm,afE _,hmm,fun _=>rfl,af1,.inr ⟨w.heap.size,0,us',rfl,af1,?_,?_,RlE.mono hle _ _ _ g2⟩⟩
 ·exact TD hr
 ·have hb:(w.alloc (.cells us'.toArray e)).heap[w.heap.size]?=some (.cells us'.toArray e (0,0)):=_root_.Go.heap_alloc_new w _;have hul:us'.length=m*ti.size:=by rw[hgl,hlen]
  show range? (w.alloc (.cells us'.toArray e)) w.heap.size 0 (m*ti.size)=_
  rw[mz hb 0 (m*ti.size) af0];simp[<-hul]
theorem VP(hr:Rel X loc σ w)(hρ:lm (aR X loc σ w) ρ ρ')(hn:n<σ.length)(hg:loc n=none){o:Oper}{t e:TypeId}{m:Nat}{ps:Array (Nat×Operand)}{qs:List (Nat×Opd)}{z:List AV}{ti:TypeInfo}(ho:o.op=.buildSlice t m ps)(ht:P.underlying t=some (.slice e))(hz:jJ P e=some z)(hti:P.info? e=some ti)
 (hq:jN ps.toList=some qs) (hpos:0<ti.size) (hsm:m*ti.size<=2 ^ 24) (hmm:m<=maxLen) (h:opF n σ ρ' K (.bldO ti.size m z qs)):Snd X loc σ w n ((execOp ρ o).run P w) K:=by
 simp only[opF]at h;obtain⟨hok,h⟩:=h;obtain⟨i,zv,hi,hzv,hzs,hzc⟩:=ig hz;rw[hti]at hi;cases hi;obtain⟨hl,hpq⟩:=nQ hq;have hzl:zv.cells.toList.length=ti.size:=by simpa using hzs
 have hz0:=RlE.rep (RlC.ofCells (aR X loc σ w) hzc) hzl m
 have hcells:(madeCells zv.cells (m*ti.size)).toList=(List.replicate m zv.cells.toList).flatten:=by
  have:=my zv.cells.toList af0 m;rwa [hzl,Array.toArray_toList]at this
 obtain⟨us',g1,g2⟩:=BF (E:=aR X loc σ w) ((ps.toList).map fun p=>(p.1,ρ p.2)) (qs.map fun p=>(p.1,ρ' p.2)) (List.replicate m z) _ hz0 (by simpa using hl) (fun j p q hj hq'=>by
  obtain⟨p0,hp0,rfl⟩:=acs ..▸hj |> afI.1
  obtain⟨q0,hq0,rfl⟩:=acs ..▸hq' |> afI.1
  obtain⟨k1,k2⟩:=hpq j p0 q0 hp0 hq0;exact⟨k1,hρ _ _ k2⟩) (by simpa using hok)
 have hgl:=g2.length;have hev:Ev (fun _=>False) w (w.alloc (.cells us'.toArray e)):=Ev.alloc _ _ _;obtain⟨hR,hle⟩:=hr.grow hev
 have hfl:∀ (xs:List (List AV)) (l:List (Nat×AV)),(nU xs l).length=xs.length:=by
  intro xs l;induction l generalizing xs with
  |nil=>rfl
  |cons p l ih=>obtain⟨i,v⟩:=p;simp[nU,ih]
 have hlen:(nU (List.replicate m z) (qs.map fun p=>(p.1,ρ' p.2))).length=m:=by rw[hfl];simp
 have hfill:Instr.fill (fun i=>some (i*ti.size,ti.size)) ((Array.range (m*ti.size)).map (zv.cells[·%zv.cells.size]!)) (ps.map fun p=>(p.1,ρ p.2)).toList=some us'.toArray:=by
  have e1:((Array.range (m*ti.size)).map (zv.cells[·%zv.cells.size]!))=((List.replicate m zv.cells.toList).flatten).toArray:=by
   apply acw.1
   rw[<-hcells];rfl
  rw[e1,<-g1];simp
 have hval:(execOp ρ o).run P w=.ok (.value (.slice (some ⟨w.heap.size,0,none⟩) m m)) (w.alloc (.cells us'.toArray e)):=by
  by_cases hm:m=0
  ·subst hm
   have hps:qs=[]:=by
    cases qs with
    |nil=>rfl
    |cons q qs=>simp[qH]at hok
   subst hps
   have hp0:ps=#[]:=by
    apply acw.1
    simpa using hl
   subst hp0
   have hu0:us'=[]:=by
    have:=g2.length;simp[nU]at this;exact this
   subst hu0;simp[execOp,ho,Instr.buildSlice,run_underlying ht,sizeOf,typeInfo,hti,Instr.fill,newRow,newObj,Sem.run];have h9:(Array.range 0).map (fun _=>(default:Value))=#[]:=by apply acw.1;simp
   rw[h9]
  ·have hmp:¬m*ti.size=0:=by
    intro h0;rcases Nat.mul_eq_zero.1 h0 with h1|h1<;>omega
   have:=run_buildSlice (P:=P) w t e m (ps.map fun p=>(p.1,ρ p.2)) us'.toArray ti zv ht hti hzv af0 hmp hfill;simp only[execOp,ho,Sem.run_bind];rw[this];rfl
 have hul:us'.length=m*ti.size:=by rw[hgl,hlen]
 refine Snd.alloc hr hn hg (.vec ti.size (nU (List.replicate m z) (qs.map fun p=>(p.1,ρ' p.2)))) ⟨true,w.heap.size,0,m*ti.size⟩ rfl rfl (.cells us'.toArray e (0,0)) (v:=.slice (some ⟨w.heap.size,0,none⟩) m m) h (fun E hE hw=>?_) hval (fun E hE=>?_)
 ·refine .inr ⟨rfl,[],us',[],e,?_,rfl,?_,?_,?_⟩
  ·rw[hw,_root_.Go.heap_alloc_new];simp
  ·simpa using hul
  ·exact RlE.mono hE _ _ _ g2
  ·simp
 ·refine⟨_,_,_,rfl,afE _,hmm,af1,hE,.inr ⟨rfl,af1,af1⟩⟩
theorem Wv{b:Array Value}(h:∀u∈b.toList,u.oneCell'=true)(m:Nat):∀u∈(Builtin.zeroCells b m).toList,u.oneCell'=true:=by
 intro u d;unfold Builtin.zeroCells at d;rw[aev,acz]at d;obtain⟨i,g,rfl⟩:=d;by_cases f:0<b.size
 ·have e:i%b.size<b.size:=Nat.mod_lt _ f;grind
 grind
theorem oG(P:Rel X loc σ w)(Q:n<σ.length)(J:loc n=none)(σ0:St)(hσ0:∀ (id:Nat) (o:bZ),σ0[id]?=some o->o.live=true->σ[id]?=some o)(A:σ0.length=σ.length)
 {e:TypeId} {i:TypeInfo} {j:Value} {d news:List Value} {v:List (List AV)} (O:0<i.size) (D:j.cells.size=i.size) (I:RlE (aR X loc σ w) i.size v (d++news)) (F:∀u∈j.cells.toList,u.oneCell'=true) {q a:Nat} (V:q=v.length) (s:q<=a) (k:a<=maxLen)
 {r:Result Next} {ft:List Nat} {wr:Bool} (m:r=.ok (.value (.slice (some ⟨w.heap.size,0,none⟩) q a)) (w.drew.alloc (.cells ((d++news).toArray++Builtin.zeroCells j.cells (a-q)) e)))
 (h:K (.hs i.size n 0 q) ft wr (σ0.set n (.vec i.size v))):Snd X loc σ w n r K:=by
 have l:Ev (aV σ loc) w (w.drew.alloc (.cells ((d++news).toArray++Builtin.zeroCells j.cells (a-q)) e)):=(Ev.drew _ w).trans (Ev.alloc _ _ _) fun b _ h=>h
 have G:((d++news).toArray++Builtin.zeroCells j.cells (a-q)).size=a*i.size:=by
  have:=I.length;rw[Array.size_append,size_zeroCells,D,ad2,this,<-V,<-acQ];grind
 obtain⟨W,S⟩:=P.add Q J (.vec i.size v) ⟨true,w.heap.size,0,a*i.size⟩ _ l σ0 hσ0 A (fun id o' M R N T U=>by
  have p:=aV.lt P ⟨id,o',M,hσ0 _ _ R N,N,T,U,rfl⟩
  exact⟨fun _=>Nat.ne_of_lt p,Below.heap_alloc w.drew _ M.blk p⟩) (fun _=>.inr (afE _)) fun E H hw=>by
   refine .inr ⟨rfl,[],d++news,(Builtin.zeroCells j.cells (a-q)).toList,e,?_,rfl,?_,RlE.mono H _ _ _ I,Wv F _⟩
   ·have:=_root_.Go.heap_alloc_new w.drew (.cells ((d++news).toArray++Builtin.zeroCells j.cells (a-q)) e);simp_all
   grind
 exact⟨_,ft,wr,_,_,_,_,h,.inl m,⟨fI J _,W,⟨_,a,⟨true,w.heap.size,0,a*i.size⟩,rfl,s,k,af1,dY _ _ _,.inr ⟨rfl,af1,af1⟩⟩,l,S⟩,fun id y=>eH _ _ _ y,af3⟩
theorem mf{t tx e:TypeId}{i:TypeInfo}(ty:TypeId)(l:P.underlying t=some (.slice e))(k:P.info? e=some i)(base:Option Addr)(sLen sCap:Nat){x:Value}{m:Nat}{news:List Value}(g:Src P i.size tx x m news w)(c:sLen+m<=sCap){W:World}
 (f:(match base with|some a=>storeCells (a.add (sLen*i.size)) news|none=>pure ():Sem Unit).run P w=.ok () W):
 (Builtin.append_ #[t,tx] ty #[.slice base sLen sCap,x]).run P w=.ok (.slice base (sLen+m) sCap) W:=by
 cases base with
 | none =>
   simp only[Sem.run_pure,Result.ok.injEq,aes]at f;subst f;rcases g.kind with⟨p,h⟩|h<;>simp[Builtin.append_,run_underlying l,run_underlying h,sizeOf,typeInfo,k,g.len,c,g.cells]
 | some a =>
   rcases g.kind with⟨p,h⟩|h<;>simp[Builtin.append_,run_underlying l,run_underlying h,sizeOf,typeInfo,k,g.len,c,g.cells,f]
theorem OY (hr : Rel X loc σ w) (hρ : lm (aR X loc σ w) ρ ρ') (hn : n < σ.length) (hg : loc n = none) (hgn : ∀ o : bZ, σ[n]? = some o -> o.live = false) {o : Oper} {t u e : TypeId} {s x : Operand} {a b : Opd} {z : List AV} {ti : TypeInfo} (ho : o.op = .call { callee := .builtin .append, args := #[s, x], argTypes := #[t, u] })
 (ht:P.underlying t=some (.slice e)) (hu:(∃e',P.underlying u=some (.slice e'))\/P.underlying u=some .string) (hz:jJ P e=some z) (hti:P.info? e=some ti) (hpos:0<ti.size)
 (hs:az s=some a) (hx:az x=some b) (h:opF n σ ρ' K (.app ti.size ti.bytes a b)):Snd X loc σ w n ((execOp ρ o).run P w) K:=by
 simp only[opF]at h;obtain⟨i,zv,hi,hzv,hzs,hzc⟩:=ig hz;rw[hti]at hi;cases hi;have hx':=hρ x b hx;have hs':=hρ s a hs;split at h
 ·grind
 ·rename_i ys hys
  obtain⟨news,hsrc,hE,hf⟩:=vl (P:=P) hr (tx:=u) hu hpos hys hx'
  have hexec:∀ {r:Value} {W:World},(Builtin.append_ #[t,u] o.type #[ρ s,ρ x]).run P w=.ok r W->(execOp ρ o).run P w=.ok (.value r) W:=by
   intro r W k1;rw[er ho];simp only[builtin,adF,acv,acX,Sem.run_bind];simp_all
  have grow:∀ {ad:Option Addr} {len cap:Nat} {zs:List (List AV)},ρ s=.slice ad len cap->rdS σ ti.size (ρ' a)=some zs->zs.length=len->cap<len+ys.length->(len+ys.length)*ti.bytes<=140737488355328->len+ys.length<=9223372036854775807->
   ∃olds,RlE (aR X loc σ w) ti.size zs olds/\(execOp ρ o).run P w=.ok (.value (.slice (some ⟨w.heap.size,0,none⟩) (len+ys.length) (grownCap w (len+ys.length) cap e))) (w.drew.alloc (.cells ((olds++news).toArray++Builtin.zeroCells zv.cells (grownCap w (len+ys.length) cap e-(len+ys.length))) e)):=by
   intro ad len cap zs k1 k2 k3 k4 k5 k6;obtain⟨olds,hso,hEo,_⟩:=vl (P:=P) hr (tx:=t) (.inl ⟨e,ht⟩) hpos k2 hs';refine⟨olds,hEo,hexec ?_⟩;have hold:=hso.cellsD;rw[k3,k1]at hold;rw[k1];exact run_append_grow_src w t u o.type e ti zv ht hti hzv ad len cap olds hold (ρ x) ys.length news hsrc k4 af0 (growslice_fits k4 k5)
  have hnl:=hE.length;split at h
  ·rename_i e' cl xs hv
   obtain⟨he,rfl,hne,hb,hm,h⟩:=h;rw[hv]at hs';have hs2:=hs';obtain⟨ad,q,cap,g1,rfl,g3,g4,g5,g6,g7⟩:=hs2;obtain rfl:=g5 rfl;by_cases hroom:ys=[]
   ·have hx0:xs=[]:=hne.resolve_right fun h9=>h9 hroom
    subst hx0;subst hroom;have hnews:news=[]:=af4
    subst hnews;simp only[afM,acR,acH]at h g1 g6
    have hrun:(Builtin.append_ #[t,u] o.type #[ρ s,ρ x]).run P w=.ok (.slice ad 0 0) w:=by
     rw[g1];have:=mf (P:=P) (w:=w) o.type ht hti ad 0 0 hsrc (afE _) (W:=w) (by cases ad<;>rfl);omega
    obtain⟨k1,k2⟩:=hr.add hn hg (.vec ti.size []) ⟨false,0,0,0⟩ w (Ev.refl _ _) σ (fun _ _ h _=>h) rfl (fun id o' L' _ _ _ _=>⟨(fun h=>by cases h),rfl⟩) (fun h=>by cases h) (fun E _ _=>.inl ⟨rfl,rfl⟩);exact⟨_,_,_,_,_,_,_,h,.inl (hexec hrun),⟨fI hg _,k1,⟨ad,0,_,rfl,afE _,by simp[maxLen],fun _=>rfl,dY _ _ _,.inl ⟨rfl,fun h=>(by cases h)⟩⟩,Ev.refl _ _,k2⟩,fun id hid=>eH _ _ _ hid,af1⟩
   ·have hyl:0<ys.length:=by
     rcases acF ys.length with h0|h0
     ·exact absurd (afV h0) hroom
     ·exact h0
    have hrd:rdS σ ti.size (ρ' a)=some xs:=by rw[hv];simp[rdS,he]
    obtain⟨olds,hEo,hrun⟩:=grow g1 hrd rfl af0 hb hm;exact oG hr hn hg σ (fun _ _ h _=>h) rfl hpos hzs (hEo.app hE) (j9 hzc) af1 (grownCap_ge w _ _ e) (grownCap_le_maxLen w _ _ e (show _<=9223372036854775807 by omega)) hrun h
  ·rename_i e' id off len hv
   obtain⟨rfl,h⟩:=h;split at h
   ·rename_i e2 xs hσ
    obtain⟨rfl,hle,hb,hm,h⟩:=h;rw[hv]at hs';have hs2:=hs';obtain⟨ad,cap,L,g1,g2,g3,g4,g5,g6⟩:=hs2
    have hidn:id≠n:=by
     rintro rfl;have:=hgn _ hσ;cases this
    have hdr:((xs.drop off).take len).length=len:=by simp;omega
    have hrd:rdS σ ti.size (ρ' a)=some ((xs.drop off).take len):=by rw[hv];simp[rdS,hσ,hle]
    have h0l:(σ.set id .gone).length=σ.length:=af1
    have hσ0:∀ (j:Nat) (o:bZ),(σ.set id .gone)[j]?=some o->o.live=true->σ[j]?=some o:=by
     intro j o' k1 k2;rcases fD σ id j .gone k1 with⟨_,rfl,_⟩|⟨_,k3⟩
     ·cases k2
     ·exact k3
    by_cases hroom:len+ys.length<=cap
    ·rcases g6 with ⟨g6, _⟩ | ⟨g6, rfl, g7⟩
     ·have hl0:len=0:=af0
      have hy0:ys=[]:=afV af0;subst hl0;subst hy0;subst g6;have hnews:news=[]:=by simpa[RlE]using hE
      subst hnews;simp only[afM,acR,aeb,acH]at h
      have hrun:(Builtin.append_ #[t,u] o.type #[ρ s,ρ x]).run P w=.ok (.slice ad 0 0) w:=by
       rw[g1];have:=mf (P:=P) (w:=w) o.type ht hti ad 0 0 hsrc (afE _) (W:=w) (by cases ad<;>rfl);simpa using this
      obtain⟨k1,k2⟩:=hr.add hn hg (.vec ti.size []) ⟨false,0,0,0⟩ w (Ev.refl _ _) (σ.set id .gone) hσ0 h0l (fun id o' L' _ _ _ _=>⟨(fun h=>by cases h),rfl⟩) (fun h=>by cases h) (fun E _ _=>.inl ⟨rfl,rfl⟩);exact⟨_,_,_,_,_,_,_,h,.inl (hexec hrun),⟨fI hg _,k1,⟨ad,0,_,rfl,afE _,by simp[maxLen],fun _=>rfl,dY _ _ _,.inl ⟨rfl,fun h=>(by cases h)⟩⟩,Ev.refl _ _,k2⟩,fun id hid=>eH _ _ _ hid,af1⟩
     ·rcases hr.vec hσ g5 with⟨k0,_⟩|⟨_,cs,vs,ws,tt,k2,k3,k4,k5,k51⟩
      ·rw[g6]at k0;cases k0
      ·have hvl:=k5.length
       have q1:(off+len)*ti.size<=vs.length:=by rw[hvl];exact acr _ hle
       have q2:L.base+(off+(len+ys.length))*ti.size<=L.rows:=acn (Nat.add_le_add_left (acr _ af0) _) (afh g7);have q3:(off+(len+ys.length))*ti.size=off*ti.size+len*ti.size+ys.length*ti.size:=by rw[acQ,acQ,acZ]
       rw[acQ]at q1;have hst:=run_storeCells_at (P:=P) L.blk (L.base+off*ti.size+len*ti.size) tt news 0 _ w k2 (by simp only[ad2,k4];omega) hsrc.one;simp only[acR]at hst;have hrun:=mf (P:=P) (w:=w) o.type ht hti (some ⟨L.blk,L.base+off*ti.size,none⟩) len cap hsrc hroom (by simp only[gL];exact hst);rw[<-g1]at hrun;have hlive:aV σ loc L.blk:=⟨id,_,L,hσ,rfl,g5,g6,rfl⟩;have hev:=Ev.setRow (w:=w) hlive (((cs++vs++ws).toArray.toList.take (L.base+off*ti.size+len*ti.size))++news++((cs++vs++ws).toArray.toList.drop (L.base+off*ti.size+len*ti.size+news.length))).toArray
       obtain ⟨m1, m2⟩ := hr.add hn hg (.vec ti.size ((xs.drop off).take len ++ ys)) ⟨true, L.blk, L.base + off * ti.size, L.rows⟩ _ hev (σ.set id .gone) hσ0 h0l (fun j o' L' p1 p2 p3 p4 => by
        have hj:j≠id:=by
         rintro rfl;rcases fD σ j j .gone p1 with⟨_,rfl,_⟩|⟨p5,_⟩
         ·cases p2
         ·exact p5 rfl
        have hne:=hr.apart j id o' _ L' L hj (hσ0 _ _ p1 p2) hσ p2 rfl p3 g5 p4 g6
        exact ⟨fun _ => hne, setRow_other w L.blk L'.blk _ hne⟩) (fun _ => .inl hlive) fun E hE' hw => by
         have r1:(vs.take (off*ti.size)).length=off*ti.size:=by simp;omega
         have r2:((vs.drop (off*ti.size)).take (len*ti.size)).length=len*ti.size:=by simp;omega
         refine .inr ⟨rfl,cs++vs.take (off*ti.size),(vs.drop (off*ti.size)).take (len*ti.size)++news,(cs++vs++ws).drop (L.base+off*ti.size+len*ti.size+news.length),tt,?_,?_,?_,RlE.mono hE' _ _ _ (((k5.drop off).take len).app hE),fun u hu=>?_⟩;rotate_left 3
         ·have hu:=aeu (by rw[<-k3,acZ,acZ,afZ,<-adj,List.drop_left]at hu;exact hu);rcases afR.1 hu with hu|hu
          ·exact k5.one u hu
          ·exact k51 u hu
         ·rw[hw,oe w k2]
          congr 2;congr 1
          have:(cs++vs++ws).take (L.base+off*ti.size+len*ti.size)=cs++vs.take (off*ti.size)++(vs.drop (off*ti.size)).take (len*ti.size):=by
           rw[afZ cs vs ws,<-k3,acZ,adQ,afD (adA _ _),adc,adQ,Nat.sub_eq_zero_of_le af0,aeb,acH,afZ,<-afs]
          simp only[List.toList_toArray];rw[this];simp[afZ]
         ·rw[afB,r1,k3]
         ·rw[<-k4];simp only[afB,acT,r1,r2];rw[afB,afB]at k4;omega
       refine⟨_,_,_,_,_,_,_,h,.inl (hexec hrun),⟨fI hg _,m1,⟨_,cap,_,rfl,hroom,g3,af1,dY _ _ _,.inr ⟨rfl,af1,?_⟩⟩,hev,m2⟩,fun id hid=>eH _ _ _ hid,af1⟩;simp only[acC];rw[acQ]at g7;omega
    ·obtain⟨olds,hEo,hrun⟩:=grow g1 hrd hdr af0 hb hm;refine oG hr hn hg (σ.set id .gone) hσ0 h0l hpos hzs (hEo.app hE) (j9 hzc) ?_ (grownCap_ge w _ _ e) (grownCap_le_maxLen w _ _ e (show _<=9223372036854775807 by omega)) hrun h;rw[afB,hdr]
   ·exact h.elim
  grind
end
section
variable{X:Nat->Prop}{loc loc':Nat->Option Loc}{σ σ':St}{w w':World}{n:Nat}{P:Program}{ρ:Operand->Value}{ρ':Opd->AV}{K:AV->List Nat->Bool->St->Prop}
theorem uZ{id:Nat}{o o':bZ}(h:σ[id]?=some o)(l:o.live=true)(m:o'.live=true)(b:Nat):aV (σ.set id o') loc b↔aV σ loc b:=by
 constructor
 ·rintro⟨j,f,L,i,g,c,e,d⟩;rcases fD σ id j o' i with⟨rfl,_,_⟩|⟨_,k⟩
  ·exact⟨id,o,L,h,l,c,e,d⟩
  ·exact⟨j,f,L,k,g,c,e,d⟩
 ·rintro⟨j,f,L,i,g,c,e,d⟩;by_cases n:j=id
  ·exact⟨j,o',L,af3,m,c,e,d⟩
  ·exact⟨j,f,L,af3,g,c,e,d⟩
theorem Bz{id:Nat}{o o':bZ}(h:σ[id]?=some o)(d:o.live=true)(c:o'.live=true):aR X loc (σ.set id o') w=aR X loc σ w:=by
 have:im X (σ.set id o') loc=im X σ loc:=by
  funext b
  simp only[im,uZ h d c]
 grind
theorem Rel.weakL(d:Rel X loc σ w){id:Nat}{o o':bZ}(h:σ[id]?=some o)(g:o.live=true)(q:o'.live=true)(J:∀L,loc id=some L->iA (aR X loc σ w) L o->iA (aR X loc σ w) L o'):Rel X loc (σ.set id o') w:=by
 have u:=Bz (X:=X) (w:=w) (loc:=loc) h g q
 have c:∀ (j:Nat) (e:bZ),(σ.set id o')[j]?=some e->e.live=true->∃n,σ[j]?=some n/\n.live=true:=by
  grind
 refine⟨fun j e f l=>?_,fun i j a b F C m f l v x y z A B=>?_,fun b r=>⟨(d.out b r).1,fun D=>(d.out b r).2 ((uZ h g q b).1 D)⟩,fun j I=>d.beyond j af3⟩
 ·rw[u]
  rcases fD σ id j o' f with⟨rfl,rfl,_⟩|⟨_,k⟩
  ·obtain⟨L,p,s⟩:=d.obj id o h g;grind
  ·exact d.obj j e k l
 ·obtain⟨E,p,s⟩:=c i a f v;obtain⟨H,G,t⟩:=c j b l x;exact d.apart i j E H F C m p G s t y z A B
theorem Rel.weak(hr:Rel X loc σ w){id:Nat}{o o':bZ}(h:σ[id]?=some o)(h1:o.live=true)(h2:o'.live=true)(hw:∀E L,iA E L o->iA E L o'):Rel X loc (σ.set id o') w:=hr.weakL h h1 h2 fun L _=>hw _ L
theorem iA.unvex{E:Env}{L:Loc}{e:Nat}{xs:List (List AV)}(h:iA E L (.vex e xs)):iA E L (.vec e xs):=by
 rcases h with a|⟨a,cs,vs,t,l,b,k,g⟩
 ·exact .inl a
 ·exact .inr ⟨a,cs,vs,[],t,af3,b,af3,g,fun u j=>af3⟩
theorem AA(j:Rel X loc σ w){tx:TypeId}(n:(∃g,P.underlying tx=some (.slice g))\/P.underlying tx=some .string){e:Nat}(k:0<e){av:AV}{v:Value}{ys:List (List AV)}(h:rdX σ e av=some ys)(p:Rl (aR X loc σ w) av v):
 ∃news,Src P e tx v ys.length news w/\RlE (aR X loc σ w) e ys news/\∀m,m<=ys.length->(Builtin.firstCells e m v).run P w=.ok (news.take (m*e)).toArray w:=by
 unfold rdX at h;split at h
 ·rename_i g id off b
  split at h
  ·rename_i c
   split at h
   ·rename_i ex z xs hσ
    unfold rws at hσ;split at hσ
    ·rename_i q f hσ3;obtain⟨rfl,rfl,rfl⟩:=hσ;exact vl j n k (av:=.hs g id off b) (by simp only[rdS,c,aco,hσ3];omega) p
    ·rename_i q f hσ3;simp only[afC,afc]at hσ;obtain⟨rfl,rfl,rfl⟩:=hσ;have x:=Bz (X:=X) (w:=w) (loc:=loc) (o':=.vec q f) hσ3 rfl rfl;have o:id<σ.length:=(afO.1 hσ3).1;have y:=vl (P:=P) (j.weak hσ3 rfl rfl fun _ _=>iA.unvex) n k (av:=.hs g id off b) (v:=v) (ys:=ys) (by simp only[rdS,c,aco,List.getElem?_set_self o];omega) af3;grind
    grind
   grind
  grind
 ·exact vl j n k h p
theorem pl(A:Rel X loc σ w){id e off c:Nat}{ex:Bool}{xs:List (List AV)}{v:Value}(hσ:rws σ[id]?=some (ex,e,xs))(l:0<e)(y:Rl (aR X loc σ w) (.hs e id off c) v)(z:off+c<=xs.length):
 ∃ a b L, v = .slice a c b /\ c <= b /\ b <= maxLen /\ (a = none -> b = 0) /\ loc id = some L /\ xs.length <= off + b /\ (ex = true -> off + b = xs.length) /\ (L.has = true -> L.base + (off + b) * e = L.rows) /\ (L.has = false -> b = 0) /\ (b ≠ 0 -> a = some ⟨L.blk, L.base + off * e, none⟩) /\
   ((L.has=false/\xs=[])\/(L.has=true/\∃ (cs vs ws:List Value) (t:TypeId),w.heap[L.blk]?=some (.cells (cs++vs++ws).toArray t (0,0))/\cs.length=L.base/\(cs++vs++ws).length=L.rows/\RlE (aR X loc σ w) e xs vs/\WC ex ws)):=by
 obtain⟨a,b,L,x,D,C,u,m,j⟩:=y;obtain⟨_,o⟩:=A.rws hσ m
 have p:L.has=true->L.base+(off+b)*e=L.rows:=by
  grind
 have B:L.has=false->b=0:=by
  grind
 have n:xs.length<=off+b/\(ex=true->off+b=xs.length):=by
  rcases o with⟨q,rfl⟩|⟨q,cs,vs,ws,t,I,H,r,E,F⟩
  ·grind
  ·have J:=p q
   have K:=E.length;simp only[afB]at r;constructor
   ·have:xs.length*e<=(off+b)*e:=af0
    exact Nat.le_of_mul_le_mul_right this l
   ·intro s;have:=F.1 s;subst this;simp only[afM]at r;have:(off+b)*e=xs.length*e:=af0
    exact Nat.eq_of_mul_eq_mul_right l this
 refine⟨a,b,L,x,D,C,u,m,n.1,n.2,p,B,fun h=>?_,o⟩;rcases j with⟨j,_⟩|⟨_,j,_⟩
 ·omega
 omega
theorem AY(c:Array Value)(m:Nat)(e:0<c.size):(Builtin.zeroCells c m).toList=(List.replicate m c.toList).flatten:=by
 have:=my c.toList af0 m;simpa[Builtin.zeroCells,madeCells]using this
theorem Mi{n:Nat}{p:Nat->Bool}:(List.range (n+1)).find? p=if p 0=true then some 0 else ((List.range n).find? fun i=>p (i+1)).map (·+1):=by
 rw[List.range_succ_eq_map,List.find?_cons];by_cases h:p 0=true
 ·grind
 ·have b:p 0=false:=af3
  rw[b,afx af1,List.find?_map];rfl
theorem PZ:∀a b:List UInt8,Extern.BytealgCompare.cmp ⟨a.toArray⟩ ⟨b.toArray⟩=D9 a b:=by
 have g:∀ (l:List UInt8) (i:Nat),(⟨l.toArray⟩:ByteArray)[i]! = l[i]! := by
  intro l i;by_cases h:i<l.length
  ·rw[getElem!_pos (⟨l.toArray⟩:ByteArray) i (by show i<l.toArray.size;omega),getElem!_pos l i h];show l.toArray[i]=l[i]
   simp
  ·rw[getElem!_neg (⟨l.toArray⟩:ByteArray) i (by show ¬i<l.toArray.size;omega),getElem!_neg l i h]
 have z:∀l:List UInt8,(⟨l.toArray⟩:ByteArray).size=l.length:=fun l=>by show l.toArray.size=_;simp
 intro a;induction a with
 | nil =>
   intro b;unfold Extern.BytealgCompare.cmp;simp only[z,afM,Nat.zero_min,adl,List.find?_nil];cases b<;>simp[D9]
 | cons x a ih =>
   intro b;cases b with
   | nil =>
     unfold Extern.BytealgCompare.cmp;simp only[z];simp[D9]
   | cons y b =>
     have h:=ih b;unfold Extern.BytealgCompare.cmp at h ⊢;simp only[z,afG]at h ⊢;rw[Nat.add_min_add_right,Mi];simp only[D9];by_cases hxy:x=y
     ·grind
     grind
theorem uE{P:Program}{w:World}{E:Env}{b:Nat}:∀ (ys:List (List AV)) (l:List Value) (o:Nat) (c:ByteArray),RlE E 1 ys l->ys.all mL=true->(∀j u,l[j]?=some u->w.cell? ⟨b,o+j,none⟩=some u)->(Extern.Bytes.loadBytes ⟨b,o,none⟩ ys.length c).run P w=.ok ((ys.map tI).foldl (fun r u=>r.push u) c) w
 | [],_,o,c,_,_,_=>rfl
 | y :: ys, _, o, c, ⟨F, ws, z, I, q, p⟩, n, h => by
   subst z;simp only[ad6,afL]at n;obtain⟨e,g⟩:=n;unfold mL at e;split at e
   ·rename_i m
    obtain⟨u,A,rfl,_,t,s⟩:=q;subst t;have H:=h 0 (.int .u8 m) rfl
    have B:(load ⟨b,o,none⟩).run P w=.ok (.int .u8 m) w:=by
     simp_all
    have D:=uE (P:=P) ys ws (o+1) (c.push m.toNat.toUInt8) p g fun j v G=>by
     have:=h (j+1) v af3;rw[show o+1+j=o+(j+1)by omega];omega
    simp only[afG,Extern.Bytes.loadBytes,Sem.run_bind,B,Result.andThen_ok,acv,ad1,gL];exact D
   grind
theorem FK:∀ (l:List UInt8) (b:ByteArray),l.foldl (fun r u=>r.push u) b=⟨(b.data.toList++l).toArray⟩
 | [],b=>by simp
 | u :: l, b => by
   rw[ad1,FK l];simp
theorem Ty (c : Func) (h : c.name = "internal/bytealg.Compare") (d : c.origin = "") : Extern.find c = some Extern.BytealgCompare.compare /\ Extern.findNext c = none := by
 unfold Extern.find Extern.findNext;simp only[h,d];exact⟨rfl,rfl⟩
variable(hr:Rel X loc σ w)(hρ:lm (aR X loc σ w) ρ ρ')
include hr hρ
theorem Yv {o : Oper} {t e : TypeId} {x : Operand} {lo hi mx : Option Operand} {a : Opd} {lo' hi' mx' : Option Opd} {ti : TypeInfo} (ho : o.op = .slice t x lo hi mx) (ht : P.underlying t = some (.slice e)) (hti : P.info? e = some ti) (hpos : 0 < ti.size)
 (hx:az x=some a) (hlo:fP lo=some lo') (hhi:fP hi=some hi') (hmx:fP mx=some mx') (h:opF n σ ρ' K (.slx ti.size a lo' hi' mx')):Snd X loc σ w n ((execOp ρ o).run P w) K:=by
 simp only[opF]at h;have hx':=hρ x a hx
 have run:∀ {ad:Option Addr} {m cap l hh q:Nat},ρ x=.slice ad m cap->((lo.map ρ=none/\l=0)\/∃k,lo.map ρ=some (.int k l))->((hi.map ρ=none/\hh=m)\/∃k,hi.map ρ=some (.int k hh))->
  ((mx.map ρ=none/\q=cap)\/((∃k,mx.map ρ=some (.int k q))/\hi.map ρ≠none))->l<=hh->hh<=q->q<=cap->(execOp ρ o).run P w=.ok (.value (.slice (vN ad l q ti.size) (hh-l) (q-l))) w:=by
  intro ad m cap l hh q k1 k2 k3 k4 k5 k6 k7;have:=zf (P:=P) (w:=w) ht hti ad m cap _ _ _ l hh q k2 k3 k4 k5 k6 k7;simp only[execOp,ho,Sem.run_bind,k1];simp_all
 split at h
 ·rename_i e' id off len hv
  rw[hv]at hx';obtain⟨rfl,h⟩:=h;split at h
  ·split at h
   ·rename_i ex e2 xs hσ
    obtain⟨rfl,hle,h0,h1,h2,h⟩:=h;obtain⟨ad,cap,L,g1,g2,g3,g4,g5,g6,g7,g8,g9,g10,_⟩:=pl hr hσ hpos hx' hle;have k1:=iR hρ hlo 0 h0;have k2:=iR hρ hhi len af0;have hmn:mx=none:=(jd hmx).1 rfl;subst hmn;generalize hL:bz ρ' ((0:Nat):Int) lo'=l at *;generalize hH:bz ρ' (len:Int) hi'=hh at *;have a1:(lo.map ρ=none/\l.toNat=0)\/∃k,lo.map ρ=some (.int k l.toNat):=k1.imp (fun x=>x.2) (fun x=>x.2)
    have a2:(hi.map ρ=none/\hh.toNat=len)\/∃k,hi.map ρ=some (.int k hh.toNat):=k2.imp (fun x=>x.2) (fun x=>x.2)
    have r:=run g1 a1 a2 (.inl ⟨rfl,rfl⟩) af0 af0 (afE _);refine Snd.of hr h r ⟨_,_,L,rfl,af0,af0,fun hn=>?_,g5,?_⟩
    ·unfold vN at hn;split at hn
     ·omega
     simp_all
    ·have e3:off+l.toNat+(cap-l.toNat)=off+cap:=af0
     by_cases hc:cap=l.toNat
     ·exact .inl ⟨af0,fun h=>by rw[<-hc];exact g8 h⟩
     ·right
      have hc0:cap≠0:=af0
      have hh1:L.has=true:=by
       cases hq:L.has with
       |true=>rfl
       |false=>exact absurd (g9 hq) hc0
      refine⟨hh1,by rw[g10 hc0];simp[vN,hc,gL,acQ,acZ],?_⟩;rw[e3];exact g8 hh1
   grind
  ·rename_i m
   obtain⟨hne,h0,h1,h2,h3,h⟩:=h;obtain⟨ad,cap,L,g1,g2,_⟩:=hx';have k1:=iR hρ hlo 0 h0;have k2:=iR hρ hhi len af0;have k3:=iR hρ hmx len af0;generalize hL:bz ρ' ((0:Nat):Int) lo'=l at *;generalize hH:bz ρ' (len:Int) hi'=hh at *;generalize hM:bz ρ' (len:Int) (some m)=q at *;have a1:(lo.map ρ=none/\l.toNat=0)\/∃k,lo.map ρ=some (.int k l.toNat):=k1.imp (fun x=>x.2) (fun x=>x.2)
   have a2:(hi.map ρ=none/\hh.toNat=len)\/∃k,hi.map ρ=some (.int k hh.toNat):=k2.imp (fun x=>x.2) (fun x=>x.2)
   rcases k3 with⟨b1,_⟩|⟨b1,b2⟩
   ·cases b1
   ·have hn2:hi.map ρ≠none:=by
     have h5:=(not_congr (jd hhi)).1 hne;simpa using h5
    have r:=run g1 a1 a2 (.inr ⟨b2,hn2⟩) af0 af0 af0;exact Snd.of hr h r trivial
 grind
theorem Ye{o:Oper}{t e:TypeId}{x:Operand}{a:Opd}(u:o.op=.call { callee:=.builtin .cap,args:=#[x],argTypes:=#[t] })(q:P.underlying t=some (.slice e))(p:az x=some a)(h:opF n σ ρ' K (.cpq a)):Snd X loc σ w n ((execOp ρ o).run P w) K:=by
 simp only[opF]at h;have c:=hρ x a p;split at h
 ·rename_i C id off r s
  rw[s]at c;split at h
  ·rename_i H xs hσ;obtain⟨rfl,f,i,h⟩:=h;obtain⟨ad,cap,L,z,I,J,D,E,F,G,_⟩:=pl hr (ex:=true) (xs:=xs) (by rw[hσ];rfl) f c i;have A:xs.length-off=cap:=af3
   rw[A]at h;refine Snd.of hr h (v:=.int .i64 cap) ?_ rfl;rw[er u];simp[builtin,Builtin.cap_,z,run_underlying q,goInt]
  grind
 grind
omit hρ in
theorem aaW{id e:Nat}{ex:Bool}{xs c:List (List AV)}{L:Loc}(hσ:σ[id]?=some (mkr ex e xs))(p:loc id=some L)(j:L.has=true){cs vs ws d:List Value}{t:TypeId}
 (k:w.heap[L.blk]?=some (.cells (cs++vs++ws).toArray t (0,0))) (m:cs.length=L.base) (s:(cs++vs++ws).length=L.rows) (h:RlE (aR X loc σ w) e c d) (q:d.length=vs.length) (n:WC ex ws):
 Rel X loc (σ.set id (mkr ex e c)) (w.setRow L.blk (cs++d++ws).toArray)/\(∀b,aV (σ.set id (mkr ex e c)) loc b->aV σ loc b)/\Ev (aV σ loc) w (w.setRow L.blk (cs++d++ws).toArray):=
 hr.turn hσ (nZ _ _ _) (nZ _ _ _) p j _ fun E o l=>iA.mkr j (by rw[l];exact oe w k _) m af3 (RlE.mono o _ _ _ h) n
omit hr hρ in
theorem KX{id:Nat}{o:bZ}(hσ:σ[id]?=some o):σ.set id o=σ:=by
 apply ac1
 intro j;by_cases b:id=j
 ·grind
 grind
omit hr hρ in
theorem qo:∀ {l:List Operand} {ys:List Opd},en l=some ys->l.length=ys.length
 | [],ys,h=>by simp only[en,afC]at h;subst h;rfl
 | x :: l, ys, h => by
   simp only[en]at h;split at h
   ·rename_i a b f d;simp only[afC]at h;subst h;simp[qo d]
   grind
theorem Yd {o : Oper} {g : FuncId} {fn : Func} {xs : Array Operand} {ats : Array TypeId} {a b : Opd} (ho : o.op = .call { callee := .value (.func g), args := xs, argTypes := ats }) (hf : P.funcs[g]? = some fn) (hn0 : fn.body.isNone = true) (hn1 : fn.name = "internal/bytealg.Compare") (hn2 : fn.origin = "")
 (hxs:en xs.toList=some [a,b]) (hcc:∀v,ρ' (.c v)=v) (h:opF n σ ρ' K (.cmb a b)):Snd X loc σ w n ((execOp ρ o).run P w) K:=by
 simp only[opF]at h
 obtain⟨x,y,hx,hy,hxy⟩:∃x y,az x=some a/\az y=some b/\xs=#[x,y]:=by
  have hl:=qo hxs;obtain⟨l⟩:=xs;simp only at hxs hl;match l,hl with
  | [x, y], _ =>
    simp only[en]at hxs;grind
 subst hxy
 have hfn:ρ (.func g)=.func (.func g) #[] #[]:=by
  have h1:=hρ (.func g) _ rfl;rw[hcc]at h1;obtain⟨vs,h1,h2⟩:=h1;simp only[RlS]at h2;grind
 have hx':=hρ x a hx;have hy':=hρ y b hy;split at h
 ·rename_i e1 ix ox nx e2 iy oy ny hvx hvy
  rw[hvx]at hx';rw[hvy]at hy'
  have key : ∀ {e i o m : Nat} {v : Value} {ys : List (List AV)}, rdS σ 1 (.va e i o m) = some ys -> ys.all mL = true -> Rl (aR X loc σ w) (.va e i o m) v -> (Extern.Bytes.bytesOf v).run P w = .ok ⟨(ys.map tI).toArray⟩ w := by
   intro e i o m v ys hr1 hall hv;simp only[rdS]at hr1;split at hr1
   ·rename_i he
    subst he;split at hr1
    ·rename_i cs hσ
     split at hr1
     ·rename_i hle
      simp only[afC]at hr1;obtain⟨ad,cap,L,rfl,h2,h3,h4,h5,h6,h7⟩:=hv;obtain⟨_,h8,vs,t,h9,h10⟩:=hr.var hσ h5;have g3:=RlE.chunk (e:=1) m (h10.drop o) af3;rw[hr1]at g3;have hl:ys.length=m:=by rw[<-hr1,kW]
      cases ad with
      | none =>
        have:=h4 rfl;have h0:ys=[]:=afV af0;subst h0;rfl
      | some ad =>
        have hb:(Extern.Bytes.loadBytes ad m .empty).run P w=.ok ((ys.map tI).foldl (fun r u=>r.push u) .empty) w:=by
         by_cases h0:cap=0
         ·have h0:ys=[]:=afV af0;subst h0;obtain rfl:m=0:=by simpa using hl.symm
          rfl
         ·rcases h7 with h7|h7
          ·exact absurd h7 h0
          ·simp only[afC]at h7;subst h7;have g0:=mz h9 o (m*1) (by have:=h10.length;omega);obtain⟨g1,g2⟩:=nG g0;have:=uE (P:=P) (b:=L.blk) ys _ (L.base+o) .empty g3 hall fun j u hj=>by have:=g2 j u hj;rw[h8,acC];exact this
           rw[hl]at this;exact this
        show (Extern.Bytes.loadBytes ad m .empty).run P w=_
        rw[hb,FK];rfl
     grind
    grind
   grind
  split at h
  ·rename_i la lb hla hlb
   obtain⟨ha,hb,h⟩:=h;have k1:=key hla ha hx';have k2:=key hlb hb hy';obtain⟨f1,f2⟩:=Ty fn hn1 hn2;refine Snd.of hr h ?_ rfl
   have hne : (fn.name == "runtime.NumGoroutine") = false := by rw [hn1]; rfl
   have e:execOp ρ o=(do let d <-resolve ρ { callee:=.value (.func g),args:=#[x,y],argTypes:=ats } o.type;invoke d.target d.args:Sem Next):=by unfold execOp;rw[ho]
   rw[e];simp only[resolve,hfn,Deferred.ofValue,invoke,Sem.run_bind,Sem.run_pure,Result.andThen_ok];rw[run_callFunc_extern hf hne hn0 f2 f1]
   have e2:(Extern.BytealgCompare.compare #[ρ x,ρ y]).run P w=.ok (.int .i64 (D9 (la.map tI) (lb.map tI))) w:=by
    change Sem.run P (do pure (goInt (Extern.BytealgCompare.cmp (<-Extern.Bytes.bytesOf (ρ x)) (<-Extern.Bytes.bytesOf (ρ y))))) w=_
    simp only[Sem.run_bind,k1,k2,Result.andThen_ok,Sem.run_pure,PZ,goInt]
   simp only[adF,acv,acX,Array.append_empty,Array.empty_append];rw[e2];rfl
  grind
 grind
theorem Yc{o:Oper}{t e:TypeId}{x:Operand}{a:Opd}{z:List AV}{ti:TypeInfo}(ho:o.op=.call { callee:=.builtin .clear,args:=#[x],argTypes:=#[t] })(ht:P.underlying t=some (.slice e))(hz:jJ P e=some z)(hti:P.info? e=some ti)(hpos:0<ti.size)
 (hx:az x=some a) (h:opF n σ ρ' K (.clr ti.size z a)):Snd X loc σ w n ((execOp ρ o).run P w) K:=by
 simp only[opF]at h;obtain⟨i,zv,hi,hzv,hzs,hzc⟩:=ig hz;rw[hti]at hi;cases hi;have hx':=hρ x a hx;split at h
 ·rename_i e' id off len hv
  rw[hv]at hx';obtain⟨rfl,h⟩:=h;split at h
  ·rename_i ex e2 xs hσ
   obtain⟨rfl,hle,h⟩:=h;obtain⟨ad,cap,L,g1,g2,g3,g4,g5,g6,g7,g8,g9,g10,g11⟩:=pl hr hσ hpos hx' hle;obtain⟨hσ2,_⟩:=hr.rws hσ g5
   have hexec:∀ {W:World},(Builtin.clear_ #[t] o.type #[ρ x]).run P w=.ok (.tuple #[]) W->(execOp ρ o).run P w=.ok (.value (.tuple #[])) W:=by
    intro W k1;rw[er ho];simp only[builtin,adF,acv,acX,Sem.run_bind];simp_all
   by_cases h0:len=0
   ·subst h0;have e1:xs.take off++List.replicate 0 z++xs.drop (off+0)=xs:=af1
    rw[e1,KX hσ2]at h;refine Snd.of hr h (v:=.tuple #[]) (hexec ?_) ⟨[],rfl,rfl⟩;rw[g1];cases ad<;>simp[Builtin.clear_,run_underlying ht]
   ·have hc0:cap≠0:=af0
    rcases g11 with⟨g11,_⟩|⟨g11,cs,vs,ws,tt,k1,k2,k3,k4,k5⟩
    ·grind
    ·have hvl:=k4.length;have hzl:zv.cells.toList.length=ti.size:=af0
     have hzc2:RlE (aR X loc σ w) ti.size (List.replicate len z) (List.replicate len zv.cells.toList).flatten:=RlE.rep (RlC.ofCells _ hzc) hzl _;have hzlen:=hzc2.length;simp only[ada]at hzlen;have q1:(off+len)*ti.size<=vs.length:=by rw[hvl];exact acr _ hle
     rw[acQ]at q1;have k7:=((k4.take off).app hzc2).app (k4.drop (off+len));have e1:vs.drop ((off+len)*ti.size)=vs.drop (off*ti.size+((List.replicate len zv.cells.toList).flatten).length):=by rw[hzlen,acQ]
     rw[e1]at k7;have k9:=aaW hr hσ2 g5 g11 k1 k2 k3 k7 (by simp only[afB,adG,acT,hzlen];omega) k5;rw[<-oq cs vs ws _ (off*ti.size) af0]at k9;refine Snd.turned k9 af1 h (.inl (hexec ?_)) ⟨[],rfl,rfl⟩;have hst:=run_storeCells_at (P:=P) L.blk (L.base+off*ti.size) tt ((List.replicate len zv.cells.toList).flatten) 0 _ w k1 (by simp only[ad2,k3,hzlen];simp only[afB]at k3;omega) (fun u hu=>hzc2.one u hu);simp only[acR]at hst;rw[g1,g10 hc0];obtain⟨len',rfl⟩:∃m,len=m+1:=⟨len-1,af0⟩
     have hcz:=AY zv.cells (len'+1) af0;simp only[Builtin.clear_,run_underlying ht,Sem.run_bind,Result.andThen_ok,zeroValue,typeInfo,hti,hzv,Sem.run_pure,hcz,List.getElem?_toArray,adq];simp_all
  grind
 grind
theorem Yf {o : Oper} {t u e : TypeId} {d s : Operand} {a b : Opd} {ti : TypeInfo} (ho : o.op = .call { callee := .builtin .copy, args := #[d, s], argTypes := #[t, u] }) (ht : P.underlying t = some (.slice e)) (hti : P.info? e = some ti) (hpos : 0 < ti.size)
 (hd:az d=some a) (hs:az s=some b) (h:opF n σ ρ' K (.cpx ti.size a b)):Snd X loc σ w n ((execOp ρ o).run P w) K:=by
 simp only[opF]at h;have hd':=hρ d a hd;have hs':=hρ s b hs;split at h
 ·grind
 ·rename_i ys hys
  obtain⟨news,hsrc,hE,hf⟩:=AA (P:=P) hr (tx:=t) (.inl ⟨e,ht⟩) hpos hys hs';have hlen:=hsrc.len w
  have hexec:∀ {ad:Option Addr} {len cap:Nat} {W:World},ρ d=.slice ad len cap->((match ad with|some a=>storeCells a (news.take (min ys.length len*ti.size))|none=>pure ():Sem Unit)).run P w=.ok () W->(execOp ρ o).run P w=.ok (.value (.int .i64 (min ys.length len:Nat))) W:=by
   intro ad len cap W k1 k2;rw[er ho];have h2:=hf (min ys.length len) (aeF _ _)
   have e0:(Builtin.copy_ #[t,u] o.type #[ρ d,ρ s]).run P w=.ok (.int .i64 (min ys.length len:Nat)) W:=by
    rw[k1];have hm:Nat.min ys.length len=min ys.length len:=rfl;cases ad with
    | none =>
      simp only[Sem.run_pure,Result.ok.injEq,aes]at k2;subst k2;simp[Builtin.copy_,run_underlying ht,hlen,sizeOf,typeInfo,hti,hm,h2,goInt]
    | some ad =>
      simp only at k2;simp[Builtin.copy_,run_underlying ht,hlen,sizeOf,typeInfo,hti,hm,h2,k2,goInt]
   simp only[builtin,adF,acv,acX,Sem.run_bind];rw[e0];rfl
  split at h
  ·rename_i e' id off len hv
   rw[hv]at hd';obtain⟨rfl,h⟩:=h;split at h
   ·rename_i ex e2 xs hσ
    obtain⟨rfl,hle,h⟩:=h;obtain⟨ad,cap,L,g1,g2,g3,g4,g5,g6,g7,g8,g9,g10,g11⟩:=pl hr hσ hpos hd' hle;obtain⟨hσ2,_⟩:=hr.rws hσ g5;by_cases hz:min ys.length len=0
    ·have e0:(news.take (min ys.length len*ti.size))=[]:=by rw[hz];simp
     have e1:xs.take off++ys.take (min ys.length len)++xs.drop (off+min ys.length len)=xs:=by rw[hz];simp
     rw[e1,KX hσ2]at h;exact Snd.of hr h (hexec g1 (W:=w) (by rw[e0];cases ad<;>rfl)) rfl
    ·have hc0:cap≠0:=af0
     rcases g11 with⟨g11,_⟩|⟨g11,cs,vs,ws,tt,k2,k3,k4,k5,k6⟩
     ·exact absurd (g9 g11) hc0
     ·have hvl:=k5.length;have hnl:=hE.length;have k6':=(hE.take (min ys.length len));have k7:=((k5.take off).app k6').app (k5.drop (off+min ys.length len));have q1:(off+min ys.length len)*ti.size<=vs.length:=by rw[hvl];exact acr _ af0
      rw[acQ]at q1;have q2:min ys.length len*ti.size<=ys.length*ti.size:=acr _ (aeF _ _);have q3:(news.take (min ys.length len*ti.size)).length=min ys.length len*ti.size:=by simp;omega
      have e1:vs.drop ((off+min ys.length len)*ti.size)=vs.drop (off*ti.size+(news.take (min ys.length len*ti.size)).length):=by rw[q3,acQ]
      rw[e1]at k7;have k9:=aaW hr hσ2 g5 g11 k2 k3 k4 k7 (by simp;omega) k6;rw[<-oq cs vs ws _ (off*ti.size) af0]at k9;refine Snd.turned k9 af1 h (.inl (hexec g1 ?_)) rfl;rw[g10 hc0];have hst:=run_storeCells_at (P:=P) L.blk (L.base+off*ti.size) tt (news.take (min ys.length len*ti.size)) 0 _ w k2 (by simp;omega) (fun u hu=>hsrc.one u (adL hu));simp only[acR]at hst;simpa[k3]using hst
   grind
  grind
theorem OZ (hn : n < σ.length) (hg : loc n = none) (hgn : ∀ o : bZ, σ[n]? = some o -> o.live = false) {o : Oper} {t u e : TypeId} {s x : Operand} {a b : Opd} {z : List AV} {ti : TypeInfo} (ho : o.op = .call { callee := .builtin .append, args := #[s, x], argTypes := #[t, u] })
 (ht:P.underlying t=some (.slice e)) (hu:(∃e',P.underlying u=some (.slice e'))\/P.underlying u=some .string) (hz:jJ P e=some z) (hti:P.info? e=some ti) (hpos:0<ti.size)
 (hs:az s=some a) (hx:az x=some b) (h:opF n σ ρ' K (.apx ti.size ti.bytes a b)):Snd X loc σ w n ((execOp ρ o).run P w) K:=by
 simp only[opF]at h;obtain⟨i,zv,hi,hzv,hzs,hzc⟩:=ig hz;rw[hti]at hi;cases hi;have hx':=hρ x b hx;have hs':=hρ s a hs;split at h
 ·grind
 ·rename_i ys hys
  obtain⟨news,hsrc,hE,hf⟩:=AA (P:=P) hr (tx:=u) hu hpos hys hx';have hnl:=hE.length
  have hexec:∀ {r:Value} {W:World},(Builtin.append_ #[t,u] o.type #[ρ s,ρ x]).run P w=.ok r W->(execOp ρ o).run P w=.ok (.value r) W:=by
   intro r W k1;rw[er ho];simp only[builtin,adF,acv,acX,Sem.run_bind];simp_all
  split at h
  ·rename_i e' id off len hv
   rw[hv]at hs';obtain⟨rfl,h⟩:=h;split at h
   ·rename_i ex e2 xs hσ
    obtain⟨rfl,hle,h⟩:=h;obtain⟨ad,cap,L,g1,g2,g3,g4,g5,g6,g7,g8,g9,g10,g11⟩:=pl hr hσ hpos hs' hle;obtain⟨hσ2,_⟩:=hr.rws hσ g5
    have hidn:id≠n:=by
     grind
    have h0l:(σ.set id .gone).length=σ.length:=af1
    have hσ0:∀ (j:Nat) (o:bZ),(σ.set id .gone)[j]?=some o->o.live=true->σ[j]?=some o:=by
     intro j o' k1 k2;rcases fD σ id j .gone k1 with⟨_,rfl,_⟩|⟨_,k3⟩
     ·cases k2
     omega
    split at h
    ·rename_i hin
     have hroom:len+ys.length<=cap:=af0
     by_cases hc0:cap=0
     ·have hl0:len=0:=af0
      have hy0:ys=[]:=afV af0;subst hl0;subst hy0;have hnews:news=[]:=by simpa[RlE]using hE
      subst hnews;have hxd:xs.drop off=[]:=acK af0;simp only[afM,acR,aeb,acH,adN,hxd]at h
      have hrun:(Builtin.append_ #[t,u] o.type #[ρ s,ρ x]).run P w=.ok (.slice ad 0 0) w:=by
       rw[g1,hc0];have:=mf (P:=P) (w:=w) o.type ht hti ad 0 0 hsrc (afE _) (W:=w) (by cases ad<;>rfl);simpa using this
      obtain⟨k1,k2⟩:=hr.add hn hg (mkr ex ti.size []) ⟨false,0,0,0⟩ w (Ev.refl _ _) (σ.set id .gone) hσ0 h0l (fun id o' L' _ _ _ _=>⟨(fun h=>by cases h),rfl⟩) (fun h=>by cases h) (fun E _ _=>by cases ex<;>exact .inl ⟨rfl,rfl⟩);exact⟨_,_,_,_,_,_,_,h,.inl (hexec hrun),⟨fI hg _,k1,⟨ad,0,_,rfl,afE _,by simp[maxLen],fun _=>rfl,dY _ _ _,.inl ⟨rfl,fun h=>(by cases h)⟩⟩,Ev.refl _ _,k2⟩,fun id hid=>eH _ _ _ hid,af1⟩
     ·rcases g11 with⟨g11,_⟩|⟨g11,cs,vs,ws,tt,k2,k3,k4,k5,k6⟩
      ·exact absurd (g9 g11) hc0
      ·have had:=g10 hc0
       have hvl:=k5.length;have q1:(off+len+ys.length)*ti.size<=vs.length:=by rw[hvl];exact acr _ hin
       have q3:(off+len+ys.length)*ti.size=off*ti.size+len*ti.size+ys.length*ti.size:=by rw[acQ,acQ]
       have q4:(off+len)*ti.size=off*ti.size+len*ti.size:=acQ _ _ _;have hst:=run_storeCells_at (P:=P) L.blk (L.base+off*ti.size+len*ti.size) tt news 0 _ w k2 (by simp only[ad2,k4];simp only[afB]at k4;omega) hsrc.one;simp only[acR]at hst;have hrun:=mf (P:=P) (w:=w) o.type ht hti (some ⟨L.blk,L.base+off*ti.size,none⟩) len cap hsrc hroom (by simp only[gL];exact hst);rw[<-had,<-g1]at hrun;have hlive:aV σ loc L.blk:=⟨id,_,L,hσ2,nZ _ _ _,g5,g11,rfl⟩;have hsp:=oq cs vs ws news (off*ti.size+len*ti.size) af0;rw[k3,<-acZ]at hsp
       have hrow:(((cs++vs++ws).toArray.toList.take (L.base+off*ti.size+len*ti.size))++news++((cs++vs++ws).toArray.toList.drop (L.base+off*ti.size+len*ti.size+news.length))).toArray=(cs++(vs.take (off*ti.size+len*ti.size)++news++vs.drop (off*ti.size+len*ti.size+news.length))++ws).toArray:=by
        simp only[List.toList_toArray];rw[hsp]
       rw[hrow]at hrun;have hev:=Ev.setRow (w:=w) hlive (cs++(vs.take (off*ti.size+len*ti.size)++news++vs.drop (off*ti.size+len*ti.size+news.length))++ws).toArray;have hRl:=(((k5.drop off).take len).app hE).app (k5.drop (off+len+ys.length));have hsplit:vs.take (off*ti.size+len*ti.size)=vs.take (off*ti.size)++(vs.drop (off*ti.size)).take (len*ti.size):=afs;have hdrop:vs.drop ((off+len+ys.length)*ti.size)=vs.drop (off*ti.size+len*ti.size+news.length):=by rw[q3,hnl]
       rw[hdrop]at hRl;have r1:(vs.take (off*ti.size)).length=off*ti.size:=by simp;omega
       obtain⟨m1,m2⟩:=hr.add hn hg (mkr ex ti.size ((xs.drop off).take len++ys++xs.drop (off+len+ys.length))) ⟨true,L.blk,L.base+off*ti.size,L.rows⟩ _ hev (σ.set id .gone) hσ0 h0l (fun j o' L' p1 p2 p3 p4=>by
        have hj:j≠id:=by
         rintro rfl;rcases fD σ j j .gone p1 with⟨_,rfl,_⟩|⟨p5,_⟩
         ·cases p2
         ·exact p5 rfl
        have hne:=hr.apart j id o' _ L' L hj (hσ0 _ _ p1 p2) hσ2 p2 (nZ _ _ _) p3 g5 p4 g11
        exact⟨fun _=>hne,setRow_other w L.blk L'.blk _ hne⟩) (fun _=>.inl hlive) fun E hE' hw=>by
         refine iA.mkr (cs:=cs++vs.take (off*ti.size)) (vs:=(vs.drop (off*ti.size)).take (len*ti.size)++news++vs.drop (off*ti.size+len*ti.size+news.length)) (ws:=ws) (t:=tt) rfl ?_ ?_ ?_ (RlE.mono hE' _ _ _ hRl) k6
         ·rw[hw,oe w k2];congr 2;congr 1;rw[hsplit];simp only[afZ]
         ·rw[afB,r1,k3]
         ·rw[<-k4];simp only[afB,acT,adG]at k4 ⊢;omega
       refine⟨_,_,_,_,_,_,_,h,.inl (hexec hrun),⟨fI hg _,m1,⟨_,cap,_,rfl,hroom,g3,by rw[had];simp,dY _ _ _,.inr ⟨rfl,by rw[had];simp,?_⟩⟩,hev,m2⟩,fun id hid=>eH _ _ _ hid,af1⟩;have:=g8 g11;simp only[acC];rw[acQ]at this;omega
    ·rename_i hout
     obtain⟨rfl,hb,hm,h⟩:=h;have hcap:=g7 rfl;have hrd:rdX σ ti.size (ρ' a)=some ((xs.drop off).take len):=by rw[hv];simp[rdX,hσ,hle]
     obtain⟨olds,hso,hEo,_⟩:=AA (P:=P) hr (tx:=t) (.inl ⟨e,ht⟩) hpos hrd (by rw[hv];exact hs');have hdr:((xs.drop off).take len).length=len:=by simp;omega
     have hrun:(execOp ρ o).run P w=.ok (.value (.slice (some ⟨w.heap.size,0,none⟩) (len+ys.length) (grownCap w (len+ys.length) cap e))) (w.drew.alloc (.cells ((olds++news).toArray++Builtin.zeroCells zv.cells (grownCap w (len+ys.length) cap e-(len+ys.length))) e)):=by
      refine hexec ?_;have hold:=hso.cellsD;rw[hdr,g1]at hold;rw[g1];exact run_append_grow_src w t u o.type e ti zv ht hti hzv ad len cap olds hold (ρ x) ys.length news hsrc af0 af0 (growslice_fits af0 hb)
     refine oG hr hn hg σ (fun _ _ h _=>h) rfl hpos hzs (hEo.app hE) (j9 hzc) ?_ (grownCap_ge w _ _ e) (grownCap_le_maxLen w _ _ e (show _<=9223372036854775807 by omega)) hrun h;rw[afB,hdr]
   grind
  grind
theorem X7(hn:n<σ.length)(hg:loc n=none)(hgn:∀o:bZ,σ[n]?=some o->o.live=false){o:Oper}{t u e:TypeId}{kn:IntKind}{s x:Operand}{a b:Opd}{z:List AV}{ti:TypeInfo}(ho:o.op=.call { callee:=.builtin .append,args:=#[s,x],argTypes:=#[t,u] })
 (ht:P.underlying t=some (.slice e)) (hu:P.underlying u=some (.int kn)) (hz:jJ P e=some z) (hti:P.info? e=some ti) (hpos:0<ti.size)
 (hs:az s=some a) (hx:az x=some b) (h:opF n σ ρ' K (.apm ti.size ti.bytes z a b)):Snd X loc σ w n ((execOp ρ o).run P w) K:=by
 simp only[opF]at h;obtain⟨i,zv,hi,hzv,hzs,hzc⟩:=ig hz;rw[hti]at hi;cases hi;have hx':=hρ x b hx;have hs':=hρ s a hs
 have hexec:∀ {r:Value} {W:World},(Builtin.append_ #[t,u] o.type #[ρ s,ρ x]).run P w=.ok r W->(execOp ρ o).run P w=.ok (.value r) W:=by
  intro r W k1;rw[er ho];simp only[builtin,adF,acv,acX,Sem.run_bind];simp_all
 split at h
 ·rename_i e' id off len kq m hv hvx
  rw[hv]at hs';rw[hvx]at hx';obtain⟨rfl,h⟩:=h;split at h
  ·rename_i e2 xs hσ
   obtain⟨rfl,hle,hm0,hm1,hout,hb,hm,h⟩:=h;have hrw:rws σ[id]?=some (true,ti.size,xs):=by rw[hσ];rfl
   obtain⟨ad,cap,L,g1,g2,g3,g4,g5,g6,g7,g8,g9,g10,g11⟩:=pl hr hrw hpos hs' hle;have hcap:=g7 rfl;have hrd:rdX σ ti.size (ρ' a)=some ((xs.drop off).take len):=by rw[hv];simp[rdX,hrw,hle]
   obtain⟨olds,hso,hEo,_⟩:=AA (P:=P) hr (tx:=t) (.inl ⟨e,ht⟩) hpos hrd (by rw[hv];omega);have hdr:((xs.drop off).take len).length=len:=af3
   obtain⟨q,rfl⟩:∃q:Nat,m=q:=⟨m.toNat,af0⟩
   simp only[afH]at h hout hb hm;have hzl:zv.cells.toList.length=ti.size:=af0
   have hEz:RlE (aR X loc σ w) ti.size (List.replicate q z) (List.replicate q zv.cells.toList).flatten:=RlE.rep (RlC.ofCells _ hzc) hzl _
   have hzz:Builtin.zeroCells zv.cells q=(List.replicate q zv.cells.toList).flatten.toArray:=by
    apply acw.1
    rw[AY zv.cells q af0]
   have hrun:(execOp ρ o).run P w=.ok (.value (.slice (some ⟨w.heap.size,0,none⟩) (len+q) (grownCap w (len+q) cap e))) (w.drew.alloc (.cells ((olds++(List.replicate q zv.cells.toList).flatten).toArray++Builtin.zeroCells zv.cells (grownCap w (len+q) cap e-(len+q))) e)):=by
    refine hexec ?_;have hold:=hso.cellsD;rw[hdr,g1]at hold;rw[g1,show ρ x=.int kq (q:Int)from hx'];have:=Lib.run_append_grow_zeros (P:=P) w t u o.type e ti zv kq kn ht hu hti hzv ad len cap olds hold q hm0 hpos af0 af0 af3 (growslice_fits af0 hb);grind
   refine oG hr hn hg σ (fun _ _ h _=>h) rfl hpos hzs (hEo.app hEz) (j9 hzc) ?_ (grownCap_ge w _ _ e) (grownCap_le_maxLen w _ _ e (show _<=9223372036854775807 by omega)) hrun h;grind
  grind
 grind
omit hr hρ in
theorem Tz (b : Func) (h : wx b.name = true) (d : b.origin = "slices.overlaps") : Extern.find b = some (Extern.SlicesOverlaps.overlaps b.params b.resultTypes) /\ Extern.findNext b = none := by
 unfold wx at h;simp only[adm,ac0]at h;unfold Extern.find Extern.findNext;rcases h with (h|h)|h<;>simp only[h,d]<;>exact⟨by kernel_rfl,by kernel_rfl⟩
omit hr hρ in
theorem X0 (params res : Array TypeId) (t e : TypeId) (hp : params[0]? = some t) (ht : P.underlying t = some (.slice e)) {ti : TypeInfo} (hti : P.info? e = some ti) (a b : Option Addr) (la ca lb cb : Nat)
 (hA:∀x y,a=some x->b=some y->la≠0->lb≠0->x.block≠y.block/\(∃tA kA,w.shape? x.block=some (tA,kA)/\kA≠0)/\∃c tB,w.heap[y.block]?=some (.cells c tB (0,0))):
 (Extern.SlicesOverlaps.overlaps params res #[.slice a la ca,.slice b lb cb]).run P w=.ok (.bool false) w:=by
 change Sem.run P (α:=Value) (do
  let some t := params[0]? | stuck "slices.overlaps: no parameter types"
  let .slice elem <- underlying t | stuck "slices.overlaps: slice type expected"
  let size <-sizeOf elem
  match a,b with
  | some a, some b =>
    if la=0\/lb=0\/size=0 then pure (Value.bool false)
    else if a.block != b.block&&(<-frozen a)&&(<-frozen b)then unsupported .addressObserved
    else do
     if a.block != b.block then do
      noView a;noView b
      if <- mayBeOne a b then return Value.bool ((<- choose (.extern "sameAddr.stringBytes" 2)) == 1)
     pure (Value.bool (a.block==b.block&&a.off<b.off+lb*size&&b.off<a.off+la*size))
  |_,_=>pure (Value.bool false)) w=_
 cases a with
 |none=>simp[hp,run_underlying ht,sizeOf,typeInfo,hti]
 | some x =>
   cases b with
   |none=>simp[hp,run_underlying ht,sizeOf,typeInfo,hti]
   | some y =>
     by_cases h0:la=0\/lb=0\/ti.size=0
     ·simp[hp,run_underlying ht,sizeOf,typeInfo,hti,h0]
     ·obtain⟨hne,⟨tA,kA,hsa,hkA⟩,c,tB,hb⟩:=hA x y rfl rfl (fun h=>h0 (.inl h)) (fun h=>h0 (.inr (.inl h)))
      have hnb:(x.block != y.block)=true:=af3
      have hnb':(x.block==y.block)=false:=af3
      have hsb:w.shape? y.block=some (tB,c.size):=by unfold World.shape?;grind
      have hfb:∀q,w.frozen? ⟨y.block,q,none⟩=false:=fun q=>by unfold World.frozen?;rw[show (⟨y.block,q,none⟩:Addr).block=y.block from rfl,hb];simp
      have hfy:w.frozen? y=false:=by unfold World.frozen?;rw[hb];simp
      cases kA with
      |zero=>omega
      | succ kA =>
        cases hfa:w.frozen? x<;>cases hfe:w.frozen? ⟨x.block,kA+1,none⟩ <;>
         simp[hp,run_underlying ht,sizeOf,typeInfo,hti,h0,hnb,hnb',frozen,noView,viewAt,mayBeOne,stringish,shape,Sem.run,hsa,hsb,hfb,hfy,hfa,hfe]
theorem Ys {o : Oper} {g : FuncId} {fn : Func} {xs : Array Operand} {ats : Array TypeId} {a b : Opd} {t e : TypeId} {ts : List TypeId} {ti : TypeInfo} (ho : o.op = .call { callee := .value (.func g), args := xs, argTypes := ats }) (hf : P.funcs[g]? = some fn) (hn0 : fn.body.isNone = true) (hn1 : wx fn.name = true) (hn2 : fn.origin = "slices.overlaps")
 (hp:fn.params.toList=t::ts) (ht:P.underlying t=some (.slice e)) (hti:P.info? e=some ti) (hxs:en xs.toList=some [a,b]) (hcc:∀v,ρ' (.c v)=v) (h:opF n σ ρ' K (.ovl ti.size a b)):Snd X loc σ w n ((execOp ρ o).run P w) K:=by
 simp only[opF]at h
 obtain⟨x,y,hx,hy,hxy⟩:∃x y,az x=some a/\az y=some b/\xs=#[x,y]:=by
  have hl:=qo hxs;obtain⟨l⟩:=xs;simp only at hxs hl;match l,hl with
  | [x, y], _ =>
    simp only[en]at hxs;grind
 subst hxy
 have hfn:ρ (.func g)=.func (.func g) #[] #[]:=by
  have h1:=hρ (.func g) _ rfl;rw[hcc]at h1;obtain⟨vs,h1,h2⟩:=h1;simp only[RlS]at h2;grind
 have hx':=hρ x a hx;have hy':=hρ y b hy
 have hp0:fn.params[0]?=some t:=by
  have h1:fn.params.toList[0]?=some t:=af3
  grind
 obtain⟨f1,f2⟩:=Tz fn hn1 hn2
 have hne : (fn.name == "runtime.NumGoroutine") = false := by
  unfold wx at hn1;grind
 have e0:execOp ρ o=(do let d <-resolve ρ { callee:=.value (.func g),args:=#[x,y],argTypes:=ats } o.type;invoke d.target d.args:Sem Next):=by unfold execOp;grind
 have fin:∀ {ad bd:Option Addr} {la ca lb cb:Nat},ρ x=.slice ad la ca->ρ y=.slice bd lb cb->(∀p q,ad=some p->bd=some q->la≠0->lb≠0->p.block≠q.block/\(∃tA kA,w.shape? p.block=some (tA,kA)/\kA≠0)/\∃c tB,w.heap[q.block]?=some (.cells c tB (0,0)))->
  (execOp ρ o).run P w=.ok (.value (.bool false)) w:=fun {ad bd la ca lb cb} hxv hyv hA=>by
  rw[e0];simp only[resolve,hfn,Deferred.ofValue,invoke,Sem.run_bind,Sem.run_pure,Result.andThen_ok];rw[run_callFunc_extern hf hne hn0 f2 f1];have:=X0 (P:=P) (w:=w) fn.params fn.resultTypes t e hp0 ht hti ad bd la ca lb cb hA;simp only[adF,acv,acX,Array.append_empty,Array.empty_append];rw[hxv,hyv,this];rfl
 split at h
 ·rename_i ex i ox nx ey j oy ny hvx hvy
  rw[hvx]at hx';rw[hvy]at hy';split at h
  ·rename_i b1 e1 us b2 e2 vs hσ1 hσ2;obtain⟨rfl,rfl,rfl,rfl,hpos,hij,hl1,hl2,h⟩:=h;obtain⟨ad,cap,L,g1,g2,g3,g4,g5,g6,g7,g8,g9,g10,g11⟩:=pl hr hσ1 hpos hx' hl1;obtain⟨bd,cap',L',k1,k2,k3,k4,k5,k6,k7,k8,k9,k10,k11⟩:=pl hr hσ2 hpos hy' hl2;refine Snd.of hr h (fin g1 k1 fun p q hp1 hq1 hla hlb=>?_) rfl;have c0:cap≠0:=af0
   have c1:cap'≠0:=af0
   have a1:=g10 c0;have a2:=k10 c1;rw[a1]at hp1;rw[a2]at hq1;cases hp1;cases hq1;rcases g11 with⟨g11,_⟩|⟨g11,cs,vs1,ws,tt,m1,m2,m3,m4,_⟩
   ·exact absurd (g9 g11) c0
   rcases k11 with⟨k11,_⟩|⟨k11,cs',vs',ws',tt',n1,n2,n3,n4,_⟩
   ·exact absurd (k9 k11) c1
   obtain⟨s1,_⟩:=hr.rws hσ1 g5;obtain⟨s2,_⟩:=hr.rws hσ2 k5;refine⟨hr.apart i j _ _ L L' hij s1 s2 (nZ _ _ _) (nZ _ _ _) g5 k5 g11 k11,⟨tt,_,by unfold World.shape?;rw[m1],?_⟩,_,_,n1⟩;have:=g8 g11;have h5:0<(ox+cap)*ti.size:=Nat.mul_pos af0 hpos;simp only[ad2];omega
  ·exact h.elim
 ·rename_i ex cl us ey j oy ny hvx hvy
  rw[hvx]at hx';rw[hvy]at hy';split at h
  ·rename_i b2 e2 vs hσ2
   obtain⟨rfl,rfl,rfl,hpos,hl2,h⟩:=h;obtain⟨ad,m,cap,g1,g2,g3,g4,g5,g6,g7⟩:=hx';obtain⟨bd,cap',L',k1,k2,k3,k4,k5,k6,k7,k8,k9,k10,k11⟩:=pl hr hσ2 hpos hy' hl2;refine Snd.of hr h (fin g1 k1 fun p q hp1 hq1 hla hlb=>?_) rfl;have c1:cap'≠0:=af0
   have a2:=k10 c1;rw[a2]at hq1;cases hq1;rcases k11 with⟨k11,_⟩|⟨k11,cs',vs',ws',tt',n1,n2,n3,n4,_⟩
   ·exact absurd (k9 k11) c1
   obtain⟨s2,_⟩:=hr.rws hσ2 k5;rcases g7 with g7|⟨b',off',vs1,q1,q2,q3,q4,q5⟩
   ·exact absurd g7 hla
   rw[q1]at hp1;cases hp1;have hlive:aV σ loc L'.blk:=⟨j,_,L',s2,nZ _ _ _,k5,k11,rfl⟩;refine⟨fun he=>q3 (.inr (by show aV σ loc b';rw[show b'=L'.blk from he];exact hlive)),?_,_,_,n1⟩;obtain⟨r1,r2⟩:=nG q4;have hlen:0<vs1.length:=by rw[r1];exact Nat.mul_pos af0 hpos
   have h0:=r2 0 (vs1[0]'hlen) (by simp[hlen]);unfold World.cell? at h0;unfold World.shape?;dsimp only at h0 ⊢;cases hh:w.heap[b']? with
   |none=>rw[hh]at h0;cases h0
   | some ob =>
     rw[hh]at h0;cases ob with
     | cells c tt fr =>
       have h1:c[off'+0]?=some (vs1[0]'hlen):=by simpa using h0
       refine⟨tt,c.size,rfl,fun hz=>?_⟩;rw[Array.getElem?_eq_none af0]at h1;cases h1
     |_=>cases h0
  ·exact h.elim
 grind
end
end Go.FH
namespace Go.FH
open Go Go.RowKit Go.MapKept
open Go.ChangeMaps (setBlock)
section
variable{X:Nat->Prop}{loc loc':Nat->Option Loc}{σ σ':St}{w w':World}{n:Nat}{P:Program}{ρ:Operand->Value}{ρ':Opd->AV}{K:AV->List Nat->Bool->St->Prop}
theorem Rel.turnW(l:Rel X loc σ w){id:Nat}{o o':bZ}{L:Loc}(B:σ[id]?=some o)(C:o.live=true)(M:o'.live=true)(D:loc id=some L)(A:L.has=true)(c:Ev (fun b=>b=L.blk) w w')
 (R:∀E:Env,nI (aR X loc σ w) E->E.loc=loc->E.w=w'->iA E L o'):
 Rel X loc (σ.set id o') w'/\(∀b,aV (σ.set id o') loc b->aV σ loc b)/\Ev (aV σ loc) w w':=by
 have g:aV σ loc L.blk:=⟨id,o,L,B,C,D,A,rfl⟩
 have f:∀b,aV (σ.set id o') loc b->aV σ loc b:=by
  rintro b ⟨j,s,t,p,m,y,q,rfl⟩;rcases fD σ id j o' p with⟨rfl,_,_⟩|⟨_,k⟩
  ·grind
  ·exact⟨j,s,t,k,m,y,q,rfl⟩
 have d:Ev (aV σ loc) w w':=⟨c.size,fun b n F=>c.blk b n fun e=>F (e▸g),c.os,c.tape,c.output⟩;have H:=mm (X:=X) l (fun _ _ h=>h) d fun b n=>.inl (f b n)
 refine⟨l.change (fun _ _ h=>h) d (fun b n=>.inl (f b n)) (fun j S=>l.beyond j af3) ?_ ?_,f,d⟩
 ·intro j s p m
  rcases fD σ id j o' p with⟨rfl,rfl,_⟩|⟨q,k⟩
  ·grind
  ·refine .inl ⟨k,fun t u v=>c.blk _ (aV.lt l ⟨j,s,t,k,m,u,v,rfl⟩) ?_⟩;exact l.apart j id s o t L q k B m C u D v A
 ·intro i j a b J K z p m y q k u v G
  have:∀ (i:Nat) (a:bZ),(σ.set id o')[i]?=some a->a.live=true->∃x,σ[i]?=some x/\x.live=true:=by
   grind
  obtain⟨x,P,O⟩:=this i a p y;obtain⟨N,Q,I⟩:=this j b m q;exact l.apart i j x N J K z P Q O I k u v G
theorem Ev.setB{b:Nat}(w:World)(a:Obj):Ev (fun c=>c=b) w (setBlock w b a):=by
 refine⟨by simp[setBlock],fun c e d=>?_,rfl,rfl,rfl⟩;simp only[setBlock];grind
theorem JY{w:World}{b:Nat}(d:Obj)(e:b<w.heap.size):(setBlock w b d).heap[b]?=some d:=by
 simp[setBlock,e]
theorem Rel.map(f:Rel X loc σ w){id:Nat}{b:List (List AV)}{L:Loc}(h:σ[id]?=some (.map b))(g:loc id=some L):
 L.has=true/\∃a:List MapEntry,w.heap[L.blk]?=some (.map a.toArray b.length)/\RlM (aR X loc σ w) b a 0:=by
 obtain⟨i,d,e⟩:=f.obj id _ h rfl;rw[g]at d;cases d;exact e
theorem Rel.iter(g:Rel X loc σ w){id m N:Nat}{seen:List Nat}{L:Loc}(h:σ[id]?=some (.iter m N seen))(f:loc id=some L):
 L.has=true/\L.base=0/\∃b,loc m=some b/\b.has=true/\w.heap[L.blk]?=some (.mapIter (some b.blk) N seen.toArray N):=by
 obtain⟨i,d,e⟩:=g.obj id _ h rfl;rw[f]at d;cases d;exact e
theorem JC(n k:Nat):I0 [(n,k)]=List.replicate n k:=by simp[I0]
theorem wh{b:TypeId}(h:Ca P b=some none):∃d,P.underlying b=some (.int d):=by
 unfold Ca at h;split at h
 ·grind
 ·grind
 grind
theorem wg{b:TypeId}{m:Nat}(h:Ca P b=some (some m)):∃e f,P.underlying b=some (.array m e)/\P.underlying e=some (.int f)/\jC P 40 b=some (List.replicate m 1)/\P.cellsOf e=1:=by
 unfold Ca at h;split at h
 ·grind
 ·grind
 grind
theorem pQ{E:Env}{k:AV}{v:Value}(h:pP none k=true)(e:Rl E k v):∃d a,k=.int d a/\v=.int d a:=by
 cases k<;>simp only[pP,afP]at h
 exact⟨_,_,rfl,e⟩
theorem sg{E:Env}{k:AV}{v:Value}{m:Nat}(h:pP (some m) k=true)(e:Rl E k v):∃cs b,k=.agg cs/\v=.agg b.toArray/\RlC E cs b/\b.map i8=List.replicate m 1:=by
 cases k<;>simp only[pP,afP]at h
 rename_i cs;obtain⟨b,f,d⟩:=e;refine⟨cs,b,rfl,f,d,?_⟩;have:=wl d h af1;rwa [JC]at this
theorem C0{E:Env}{d:TypeId}{f:Option Nat}(j:Ca P d=some f){a b:AV}{u v:Value}(n:pP f a=true)(k:pP f b=true)(l:Rl E a u)(o:Rl E b v){r:Bool}(h:keq a b=some r)(w:World):
 (Op.equal d u v).run P w=.ok r w:=by
 cases f with
 | none =>
   obtain⟨s,i⟩:=wh j;obtain⟨t,x,rfl,rfl⟩:=pQ n l;obtain⟨J,y,rfl,rfl⟩:=pQ k o;simp only[keq]at h;split at h
   ·rename_i e;subst e;simp only[afC]at h;subst h;exact run_equalIn_int w 9999 d t s x y i
   grind
 | some m =>
   obtain⟨e,G,i,H,z,K⟩:=wg j;obtain⟨cs,F,rfl,rfl,q,B⟩:=sg n l;obtain⟨I,vs,rfl,rfl,A,C⟩:=sg k o;have:=sJ 40 z B C (AF q A h) 9960 w;have g:rj P d=true:=by simp[rj,i]
   simp only[pk,g]at this;exact this
theorem uD{E:Env}{kt:TypeId}{kk:Option Nat}(hk:Ca P kt=some kk){a:AV}{u:Value}(fa:pP kk a=true)(ha:Rl E a u)(em:Bool)(w:World):
 (Instr.checkKey em 10000 kt u).run P w=.ok () w:=by
 cases kk with
 | none =>
   obtain⟨ki,hu⟩:=wh hk;rw[show (10000:Nat)=9999+1 from rfl,Instr.checkKey];simp only[Sem.run_bind,run_underlying hu,Result.andThen_ok,Sem.run_pure]
 | some m =>
   obtain⟨e,ke,hu,he,hl,hc⟩:=wg hk;obtain⟨cs,us,rfl,rfl,h1,h2⟩:=sg fa ha;have hlen:us.length=m:=by simpa using acM List.length h2
   obtain⟨i,hi⟩:∃i,P.info? e=some i:=by
    unfold Program.underlying at he;grind
   rw[show (10000:Nat)=9999+1 from rfl,Instr.checkKey];simp only[Sem.run_bind,run_underlying hu,Result.andThen_ok];simp only[Std.Legacy.Range.forIn_eq_forIn_range',Std.Legacy.Range.size,adh,Nat.add_one_sub_one,Nat.div_one];have each:∀j∈List.range' 0 m,j<m:=fun j hj=>by grind
   generalize List.range' 0 m=is at each;induction is with
   |nil=>simp
   | cons j is ih =>
     have hj:j<us.length:=af4
     have p1:(part e us.toArray (j*P.cellsOf e)).run P w=.ok us[j] w:=by
      have hag:(isAgg e).run P w=.ok false w:=by
       unfold isAgg;rw[Sem.run_bind,run_underlying he w];simp
      simp[part,Sem.run_bind,hag,hc,hj]
     have hkind:i8 us[j]=1:=by
      have:(us.map i8)[j]?=some 1:=af3
      grind
     have p2:(Instr.checkKey em 9999 e us[j]).run P w=.ok () w:=by
      generalize us[j]=x at hkind;rw[show (9999:Nat)=9998+1 from rfl,Instr.checkKey];simp only[Sem.run_bind,run_underlying he,Result.andThen_ok,Sem.run_pure]
     simp only[List.forIn_cons,Sem.run_bind,run_sizeOf w hi,Result.andThen_ok,p1,p2,Sem.run_pure];simp_all
theorem np {E : Env} {kt : TypeId} {kk : Option Nat} (hk : Ca P kt = some kk) {a : AV} {u : Value} (fa : pP kk a = true) (ha : Rl E a u) (w : World) : ∀ {xs : List (List AV)} {es : List MapEntry} {b : Nat} {r : Option Nat}, RlM E xs es b -> ko kk a xs = some r ->
 (∀j,r=some j->j<xs.length/\∃k v,xs.getD j []=[k,v]/\keq a k=some true/\pP kk k=true)/\(Instr.findKey kt u es).run P w=.ok (r.map fun j=>(j,(es.getD j default).val)) w:=by
 have now:∀ {xs:List (List AV)} {es:List MapEntry} {b:Nat} {r:Option Nat},RlM E xs es b->ko kk a xs=some r->∀d,P.underlying kt=some d->∀i,Instr.findNow d u es i=none\/Instr.findNow d u es i=some (r.map fun j=>(i+j,(es.getD j default).val)):=by
  intro xs;induction xs with
  | nil =>
    intro es b r hm h d hd i;simp only[RlM]at hm;subst hm;simp only[ko,afC]at h;subst h;exact .inr rfl
  | cons x xs ih =>
    intro es b r hm h d hd i;obtain⟨e,es',rfl,h1,h2,h3⟩:=hm;simp only[ko]at h;split at h
    ·rename_i k v
     obtain⟨u1,us1,q1,q2,q3⟩:=h1;simp only[aeG]at q1;obtain⟨rfl,_⟩:=q1;split at h
     ·rename_i hf
      have same:Instr.sameNow d u e.key=none\/∃q,Instr.sameNow d u e.key=some q/\keq a k=some q:=by
       cases kk with
       | none =>
         obtain⟨ki,hu⟩:=wh hk;obtain⟨k1,x1,rfl,rfl⟩:=pQ fa ha;obtain⟨k2,y1,rfl,hv2⟩:=pQ hf q2;rw[hu]at hd;cases hd;rw[hv2];simp only[Instr.sameNow,keq];split
         ·simp
         simp
       | some m =>
         obtain⟨e',ke,hu,_⟩:=wg hk;rw[hu]at hd;cases hd;exact .inl rfl
      rcases same with hs|⟨q,hs,hq⟩
      ·left;simp[Instr.findNow,hs]
      ·rw [hq] at h
       cases q
       ·simp only at h
        obtain⟨r',hr',rfl⟩:=afI.1 h;rcases ih h3 hr' d hd (i+1)with h5|h5
        ·left;simp[Instr.findNow,hs,h5]
        ·right
         simp only[Instr.findNow,hs,h5,Option.map_map];cases r'<;>simp[acZ,afg 1]
       ·simp only[afC]at h;subst h;right
        simp[Instr.findNow,hs]
     grind
    grind
 have ask:∀ {xs:List (List AV)} {es:List MapEntry} {b:Nat} {r:Option Nat},RlM E xs es b->ko kk a xs=some r->∀i,(Instr.findAsking kt u es i).run P w=.ok (r.map fun j=>(i+j,(es.getD j default).val)) w:=by
  intro xs;induction xs with
  | nil =>
    intro es b r hm h i;simp only[RlM]at hm;subst hm;simp only[ko,afC]at h;subst h;simp[Instr.findAsking]
  | cons x xs ih =>
    intro es b r hm h i;obtain⟨e,es',rfl,h1,h2,h3⟩:=hm;simp only[ko]at h;split at h
    ·rename_i k v
     obtain⟨u1,us1,q1,q2,q3⟩:=h1;simp only[aeG]at q1;obtain⟨rfl,_⟩:=q1;split at h
     ·rename_i hf
      split at h
      ·rename_i hq;simp only[afC]at h;subst h;simp[Instr.findAsking,Sem.run_bind,C0 hk fa hf ha q2 hq w]
      ·rename_i hq;obtain⟨r',hr',rfl⟩:=afI.1 h;have:=ih h3 hr' (i+1);simp only[Instr.findAsking,Sem.run_bind,C0 hk fa hf ha q2 hq w,Result.andThen_ok,afP,acq,this];cases r'<;>simp[acZ,afg 1]
      ·cases h
     ·cases h
    ·cases h
 intro xs es b r hm h;refine⟨fun j hj=>?_,?_⟩
 ·subst hj
  clear now ask hm;induction xs generalizing j with
  |nil=>simp[ko]at h
  | cons x xs ih =>
    simp only[ko]at h;split at h
    ·rename_i k v
     split at h
     ·rename_i hf
      split at h
      ·rename_i hq;simp only[afC]at h;subst h;exact⟨af1,k,v,rfl,hq,hf⟩
      ·obtain⟨r',hr',hr2⟩:=afI.1 h
       cases r' with
       |none=>cases hr2
       | some j' =>
         simp only[aeH,afC]at hr2;subst hr2;obtain⟨g1,g2⟩:=ih j' hr';exact⟨by simp;omega,by simpa using g2⟩
      ·cases h
     ·cases h
    ·cases h
 ·have hd:∃d,P.underlying kt=some d:=by
   cases kk with
   |none=>exact⟨_,(wh hk).choose_spec⟩
   |some m=>exact⟨_,(wg hk).choose_spec.choose_spec.1⟩
  obtain⟨d,hd⟩:=hd;unfold Instr.findKey;rw[Sem.run_bind,run_underlying hd,Result.andThen_ok];rcases now hm h d hd 0 with h5|h5
  ·simp only[h5];have:=ask hm h 0;simpa using this
  ·simp only[h5];simp
theorem Lq:∀ {b vs:List Value},b.map i8=List.replicate b.length 1->vs.map i8=List.replicate vs.length 1->pv b vs=some true->b=vs
 | [],[],_,_,_=>rfl
 | [],_::_,_,_,h=>by simp[pv]at h
 |_::_,[],_,_,h=>by simp[pv]at h
 | u :: b, v :: vs, c, d, h => by
   simp only[acv,afG,ad8,aeG]at c d;simp only[pv]at h;split at h
   ·rename_i p q f g;simp only[afC,afL]at h;obtain⟨rfl,rfl⟩:=h;have:=Lq c.2 d.2 g;obtain⟨e,_⟩:=c;cases u<;>simp[i8]at e
    simp only[E5]at f;grind
   grind
theorem UA{E:Env}{i:Option Nat}{a b:AV}{u v:Value}(l:pP i a=true)(n:pP i b=true)(j:Rl E a u)(k:Rl E b v)(h:keq a b=some true):u=v/\Instr.sameBits 10000 v u=true:=by
 cases i with
 | none =>
   obtain⟨B,x,rfl,rfl⟩:=pQ l j;obtain⟨C,y,rfl,rfl⟩:=pQ n k;simp only[keq]at h;split at h
   ·rename_i e;subst e;simp only[afC,ac0]at h;subst h;exact⟨rfl,by simp[Instr.sameBits]⟩
   grind
 | some m =>
   obtain⟨cs,d,rfl,rfl,r,s⟩:=sg l j;obtain⟨D,vs,rfl,rfl,t,p⟩:=sg n k;have F:d.length=m:=by simpa using acM List.length s
   have G:vs.length=m:=by simpa using acM List.length p
   have:=Lq af3 af3 (AF r t h);subst this;refine⟨rfl,?_⟩;rw[show (10000:Nat)=9999+1 from rfl,Instr.sameBits];simp only[beq_self_eq_true]
   have g:∀ (d:List Value) (q:Nat),d.map i8=List.replicate d.length 1->((d.zip d).all fun(x,y)=>Instr.sameBits q x y)=true:=by
    intro d q;induction d with
    |nil=>simp
    | cons u d w =>
      intro h;simp only[acv,afG,ad8,aeG]at h;obtain⟨A,o⟩:=h;simp only[List.zip_cons_cons,ad6,afL];refine⟨?_,w o⟩;cases u<;>simp[i8]at A
      simp[Instr.sameBits]
   exact g d _ af3
theorem RlM.get{E:Env}:∀ {xs:List (List AV)} {a:List MapEntry} {b:Nat},RlM E xs a b->∀j,j<xs.length->RlS E (xs.getD j []) [(a.getD j default).key,(a.getD j default).val]/\(a.getD j default).born=b+j
 | [],_,_,_,j,f=>by grind
 |x::xs,_,b,⟨e,r,rfl,i,h,d⟩,0,_=>⟨af3,af3⟩
 | x :: xs, _, b, ⟨e, r, rfl, i, h, d⟩, j + 1, f => by
   obtain⟨m,l⟩:=RlM.get d j af3;grind
theorem RlM.set{E:Env}{y:List AV}:∀ {xs:List (List AV)} {f:List MapEntry} {b:Nat},RlM E xs f b->∀j (e:MapEntry),RlS E y [e.key,e.val]->e.born=b+j->RlM E (xs.set j y) (f.set j e) b
 | [],_,_,h,j,e,_,_=>by subst h;simp[RlM]
 |x::xs,_,b,⟨e,r,rfl,i,g,c⟩,0,a,d,k=>⟨a,r,rfl,d,af0,c⟩
 |x::xs,_,b,⟨e,r,rfl,i,g,c⟩,j+1,a,d,k=>⟨e,r.set j a,rfl,i,g,RlM.set c j a d af0⟩
theorem RlM.push{E:Env}{y:List AV}:∀ {xs:List (List AV)} {d:List MapEntry} {b:Nat},RlM E xs d b->∀ (e:MapEntry),RlS E y [e.key,e.val]->e.born=b+xs.length->RlM E (xs++[y]) (d++[e]) b
 | [],_,_,h,e,a,f=>by subst h;exact⟨e,[],rfl,a,af0,rfl⟩
 |x::xs,_,b,⟨e,r,rfl,g,i,j⟩,c,a,f=>⟨e,r++[c],rfl,g,i,RlM.push j c a af3⟩
theorem RlM.borns{E:Env}:∀ {xs:List (List AV)} {c:List MapEntry} {b:Nat},RlM E xs c b->c.map (·.born)=List.range' b xs.length
 | [],_,_,h=>by subst h;rfl
 |x::xs,_,b,⟨e,r,rfl,g,f,d⟩=>by simp[f,RlM.borns d,List.range'_succ]
theorem RlS.two{E:Env}{x:List AV}{k v:AV}{a b:Value}(h:RlS E x [a,b])(e:x=[k,v]):Rl E k a/\Rl E v b:=by
 subst e;obtain⟨u,f,l,g,c⟩:=h;obtain⟨j,d,m,n,i⟩:=c;grind
theorem RlS.mk2{E:Env}{k v:AV}{a b:Value}(h1:Rl E k a)(h2:Rl E v b):RlS E [k,v] [a,b]:=⟨a,[b],rfl,h1,b,[],rfl,h2,rfl⟩
theorem SE{t:TypeId}{z:AV}(h:Ph P t=some z)(E:Env)(w:World):∃v,(zeroValue t).run P w=.ok v w/\Rl E z v:=by
 unfold Ph at h;split at h
 ·rename_i i d
  split at h
  ·rename_i v b;exact⟨v,by simp[zeroValue,typeInfo,d,b],(Rl.ofCell E h).2⟩
  grind
 grind
variable(hr:Rel X loc σ w)(hρ:lm (aR X loc σ w) ρ ρ')
include hr hρ
theorem Yn{o:Oper}{t kt et:TypeId}{m k:Operand}{ok:Bool}{a b:Opd}{kk:Option Nat}{z:AV}(ho:o.op=.lookup t m k ok)(ht:P.underlying t=some (.map kt et))(hm:az m=some a)(hk:az k=some b)(hkk:Ca P kt=some kk)(hz:Ph P et=some z)
 (h:opF n σ ρ' K (.mop (.lkp kk z ok) [a,b])):Snd X loc σ w n ((execOp ρ o).run P w) K:=by
 simp only[opF,acv,acX]at h;have hm':=hρ m a hm;have hk':=hρ k b hk;generalize ρ' a=A at *;cases A<;>simp only[mM]at h
 obtain⟨fit,h⟩:=h;obtain⟨L,hL,hh,hv⟩:=hm';split at h
 ·rename_i es hσ
  obtain⟨_,ents,hb,hR⟩:=hr.map hσ hL;have chk:=uD hkk fit hk' ents.isEmpty w;split at h
  ·rename_i j hj
   obtain⟨g1,g2⟩:=np hkk fit hk' w hR hj;obtain⟨hlt,k2,v2,e2,e3,e4⟩:=g1 j rfl;have hget:=(hR.get j hlt).1;obtain⟨q1,q2⟩:=hget.two e2;have hval:(es.getD j []).getD 1 .dead=v2:=af3
   rw[hval]at h;cases ok
   ·refine Snd.of hr h (v:=(ents.getD j default).val) ?_ q2;simp[execOp,ho,hv,Instr.lookup,Sem.run_bind,run_underlying ht,MapKept.run_getObj_map hb,chk,g2]
   ·refine Snd.of hr h (v:=.tuple #[(ents.getD j default).val,.bool true]) ?_ ⟨_,rfl,RlS.mk2 q2 rfl⟩;simp[execOp,ho,hv,Instr.lookup,Sem.run_bind,run_underlying ht,MapKept.run_getObj_map hb,chk,g2]
  ·rename_i hj
   obtain⟨_,g2⟩:=np hkk fit hk' w hR hj;obtain⟨zv,hz1,hz2⟩:=SE hz (aR X loc σ w) w;cases ok
   ·refine Snd.of hr h (v:=zv) ?_ hz2;simp[execOp,ho,hv,Instr.lookup,Sem.run_bind,run_underlying ht,MapKept.run_getObj_map hb,chk,g2,hz1]
   ·refine Snd.of hr h (v:=.tuple #[zv,.bool false]) ?_ ⟨_,rfl,RlS.mk2 hz2 rfl⟩;simp[execOp,ho,hv,Instr.lookup,Sem.run_bind,run_underlying ht,MapKept.run_getObj_map hb,chk,g2,hz1]
  grind
 grind
theorem Yx{o:Oper}{t kt et:TypeId}{m k x:Operand}{a b c:Opd}{kk:Option Nat}(ho:o.op=.mapUpdate t m k x)(ht:P.underlying t=some (.map kt et))(hm:az m=some a)(hk:az k=some b)(hx:az x=some c)(hkk:Ca P kt=some kk)
 (h:opF n σ ρ' K (.mop (.upd kk) [a,b,c])):Snd X loc σ w n ((execOp ρ o).run P w) K:=by
 simp only[opF,acv,acX]at h;have hm':=hρ m a hm;have hk':=hρ k b hk;have hx':=hρ x c hx;generalize ρ' a=A at *;cases A<;>simp only[mM]at h
 rename_i id;obtain⟨fit,h⟩:=h;obtain⟨L,hL,hh,hv⟩:=hm';split at h
 ·rename_i es hσ
  obtain⟨_,ents,hb,hR⟩:=hr.map hσ hL;have chk:=uD hkk fit hk' false w;have hlt:L.blk<w.heap.size:=(adV.1 hb).1
  have fin:∀ (es':List (List AV)) (ents':List MapEntry) (cl:Nat),cl=es'.length->RlM (aR X loc σ w) es' ents' 0->K (.tup []) [id] true (σ.set id (.map es'))->(execOp ρ o).run P w=.ok .skip (setBlock w L.blk (.map ents'.toArray cl))->Snd X loc σ w n ((execOp ρ o).run P w) K:=by
   intro es' ents' cl hcl h1 h2 h3;obtain⟨g1,g2,g3⟩:=hr.turnW hσ rfl (o':=.map es') rfl hL hh (Ev.setB (b:=L.blk) w (.map ents'.toArray cl)) (fun E hE hloc hw=>⟨hh,ents',by rw[hw,JY _ hlt,hcl],h1.mono hE⟩);exact⟨_,_,_,_,undef,_,loc,h2,.inr ⟨h3,rfl⟩,⟨fun _ _ h=>h,g1,⟨[],rfl,rfl⟩,g3,fun b hb=>.inl (g2 b hb)⟩,fun _ _=>rfl,af1⟩
  split at h
  ·rename_i j hj
   obtain⟨g1,g2⟩:=np hkk fit hk' w hR hj;obtain⟨hlt2,k2,v2,e2,e3,e4⟩:=g1 j rfl;obtain⟨hget,hborn⟩:=hR.get j hlt2;obtain⟨q1,q2⟩:=hget.two e2;obtain⟨q3,q4⟩:=UA fit e4 hk' q1 e3;have hle:=hR.length;have hje:j<ents.length:=af0
   have hgd:ents.getD j default=ents[j]:=af3
   refine fin _ (ents.set j { ents[j]with key:=ρ k,val:=ρ x }) es.length af1 (hR.set j _ (RlS.mk2 hk' hx') af3) h ?_
   have hmod:(ents.modify j fun e=>{ key:=ρ k,val:=ρ x,born:=e.born })=ents.set j { key:=ρ k,val:=ρ x,born:=ents[j].born }:=by
    apply ac1
    grind
   rw[hgd]at q3 q4
   have stay:(Instr.keyThatStays ((Option.map (fun x=>x.key) ents[j]?).getD (ρ k)) (ρ k)).run P w=.ok (ρ k) w:=by
    have e1:ents[j]?=some ents[j]:=af1
    rw[e1];simp[Instr.keyThatStays,q4]
   simp[execOp,ho,hv,Instr.mapUpdate,Sem.run_bind,run_underlying ht,MapKept.run_getObj_map hb,chk,g2,stay,hmod,MapKept.run_setObj_map _ hb,setBlock]
  ·rename_i hj;obtain⟨_,g2⟩:=np hkk fit hk' w hR hj;have hle:=hR.length;refine fin _ (ents++[{ key:=ρ k,val:=ρ x,born:=es.length }]) (es.length+1) af1 (hR.push _ (RlS.mk2 hk' hx') af1) h ?_;simp[execOp,ho,hv,Instr.mapUpdate,Sem.run_bind,run_underlying ht,MapKept.run_getObj_map hb,chk,g2,MapKept.run_setObj_map _ hb,setBlock]
  grind
 grind
theorem Yi{o:Oper}{x:Operand}{a:Opd}(ho:o.op=.entry x)(hx:az x=some a)(h:opF n σ ρ' K (.mop .ent [a])):Snd X loc σ w n ((execOp ρ o).run P w) K:=by
 simp only[opF,acv,acX]at h;have hx':=hρ x a hx;generalize ρ' a=A at *;cases A<;>simp only[mM]at h
 rename_i id off;cases off<;>simp only at h
 obtain⟨L,hL,hh,hv⟩:=hx';split at h
 ·rename_i m N seen hσ
  obtain⟨_,d,Lm,hLm,hhm,hb⟩:=hr.iter hσ hL;split at h
  ·rename_i i es hlast hσm
   obtain⟨hlen,hi,h⟩:=h;obtain⟨_,b,hbm,hR⟩:=hr.map hσm hLm;have hle:=hR.length;obtain⟨c,e⟩:=hR.get i af0;have hgd:b.getD i default=b[i]:=af3
   rw[hgd]at c e;refine Snd.of hr h (v:=.tuple #[b[i].key,b[i].val]) ?_ ⟨_,rfl,c⟩;rw[d]at hv
   have hseen:seen.toArray=seen.dropLast.toArray.push b[i].born:=by
    grind
   rw[hseen]at hb;have hst:N=es.length:=hlen.symm;subst hst;have:=run_entry_at (P:=P) w L.blk Lm.blk es.length seen.dropLast.toArray b.toArray es.length b[i] hb hbm af1 (by simp[hR.borns,List.nodup_range']);simp[execOp,ho,hv,this]
  grind
 grind
end
section
variable{X:Nat->Prop}{loc loc':Nat->Option Loc}{σ σ':St}{w w':World}{n:Nat}{P:Program}{ρ:Operand->Value}{ρ':Opd->AV}{K:AV->List Nat->Bool->St->Prop}
variable(hr:Rel X loc σ w)(hρ:lm (aR X loc σ w) ρ ρ')(hn:n<σ.length)(hg:loc n=none)(hgn:∀o:bZ,σ[n]?=some o->o.live=false)
include hr hρ hn hg
theorem Yp{o:Oper}{t:TypeId}(ho:o.op=.makeMap t none)(h:opF n σ ρ' K (.mop .mkm [])):Snd X loc σ w n ((execOp ρ o).run P w) K:=by
 have _:=hρ;simp only[opF,acX,mM]at h;refine Snd.alloc hr hn hg (.map []) ⟨true,w.heap.size,0,0⟩ rfl rfl (.map #[] 0) (v:=.map (some w.heap.size)) h (fun E hE hw=>⟨rfl,[],?_,rfl⟩) ?_ (fun E hE=>⟨_,hE,rfl,rfl⟩)
 ·rw[hw,_root_.Go.heap_alloc_new];rfl
 ·simp[execOp,ho,Instr.makeMap,newObj,Sem.run]
include hgn
theorem Yt{o:Oper}{t kt et:TypeId}{m:Operand}{a:Opd}(ho:o.op=.range t m)(ht:P.underlying t=some (.map kt et))(hm:az m=some a)(h:opF n σ ρ' K (.mop .rng [a])):Snd X loc σ w n ((execOp ρ o).run P w) K:=by
 simp only[opF,acv,acX]at h;have hm':=hρ m a hm;generalize ρ' a=A at *;cases A<;>simp only[mM]at h
 rename_i id;obtain⟨L,hL,hh,hv⟩:=hm';split at h
 ·rename_i es hσ;obtain⟨_,ents,hb,hR⟩:=hr.map hσ hL;have hne:id≠n:=by rintro rfl;have:loc id=some L:=hL;rw[hg]at this;cases this
  refine Snd.alloc hr hn hg (.iter id es.length []) ⟨true,w.heap.size,0,0⟩ rfl rfl (.mapIter (some L.blk) es.length #[] es.length) (v:=.pointer (some ⟨w.heap.size,0,none⟩)) h (fun E hE hw=>⟨rfl,rfl,L,hE.loc _ _ hL,hh,?_⟩) ?_ (fun E hE=>⟨_,hE,rfl,rfl⟩)
  ·rw[hw,_root_.Go.heap_alloc_new]
  ·simp[execOp,ho,hv,Instr.range,Sem.run_bind,run_underlying ht,MapKept.run_getObj_map hb,newObj,Sem.run]
 ·exact h.elim
end
section
variable{X:Nat->Prop}{loc loc':Nat->Option Loc}{σ σ':St}{w w':World}{n:Nat}{P:Program}{ρ:Operand->Value}{ρ':Opd->AV}
theorem Yr {K : AV -> St -> Prop} (hr : Rel X loc σ w) (hρ : lm (aR X loc σ w) ρ ρ') {o : Oper} {x : Operand} {a : Opd} (ho : o.op = .next x false) (hx : az x = some a) (h : qF (ρ' a) σ K) : Snd X loc σ w n ((execOp ρ o).run P w) (fun av _ _ σ' => K av σ') := by
 have hx':=hρ x a hx;generalize ρ' a=A at *;cases A<;>simp only[qF]at h
 rename_i id off;cases off<;>simp only at h
 obtain⟨L,hL,hh,hv⟩:=hx';split at h
 ·rename_i m N seen hσ
  obtain⟨_,hbase,Lm,hLm,hhm,hb⟩:=hr.iter hσ hL;split at h
  ·rename_i es hσm
   obtain⟨hne,hlen,h1,h2⟩:=h;obtain⟨_,ents,hbm,hR⟩:=hr.map hσm hLm;have hle:=hR.length;have hlt:L.blk<w.heap.size:=(adV.1 hb).1;rw[hbase]at hv
   have born:∀e∈ents,∃i,i<ents.length/\ents[i]?=some e/\e.born=i:=by
    intro e he;obtain⟨i,hi,rfl⟩:=acp he;have:=(hR.get i af0).2;grind
   rcases run_next_at (P:=P) w o.type L.blk Lm.blk N N seen.toArray ents.toArray es.length hb hbm (fun e he=>af3) (afE _)with⟨g1,g2⟩|⟨e,he,w1,hw1,g2⟩
   ·refine Snd.of (ft:=[]) (wr:=false) hr (h2 fun i hi=>?_) (v:=.tuple #[.bool false]) ?_ ⟨_,rfl,_,_,rfl,rfl,rfl⟩
    ·have hie:i<ents.length:=af0
     have hbi:=(hR.get i af0).2;rw[show ents.getD i default=ents[i]by grind]at hbi;by_cases hs:i∈seen
     ·omega
     ·exfalso
      have:ents[i]∈leftOf ents.toArray seen.toArray:=by
       unfold leftOf;grind
      grind
    ·simp[execOp,ho,hv,Sem.run_bind,g2]
   ·have hmem:e∈ents/\e.born∉seen:=by
     have:=Array.mem_toList_iff.1 he;unfold leftOf at this;rw[Array.mem_filter]at this;exact⟨by simpa using this.1,by simpa using this.2⟩
    obtain⟨i,hi,hei,hbi⟩:=born e hmem.1;have hk:=h1 i af0 (by rw[<-hbi];exact hmem.2)
    have hev:Ev (fun b=>b=L.blk) w (setBlock w1 L.blk (.mapIter (some Lm.blk) N (seen.toArray.push e.born) es.length)):=by
     have:=Ev.setB (b:=L.blk) w1 (.mapIter (some Lm.blk) N (seen.toArray.push e.born) es.length);rcases hw1 with rfl|rfl
     ·exact this
     ·exact⟨this.size,this.blk,this.os,this.tape,this.output⟩
    have hlt1:L.blk<w1.heap.size:=by rcases hw1 with rfl|rfl<;>exact hlt
    obtain⟨k1,k2,k3⟩:=hr.turnW hσ rfl (o':=.iter m N (seen++[i])) rfl hL hh hev (fun E hE hloc hw=>⟨hh,hbase,Lm,hE.loc _ _ hLm,hhm,by rw[hw,JY _ hlt1,hlen,hbi];simp⟩);refine⟨_,[],false,_,.tuple #[.bool true,e.key,e.val],_,loc,hk,.inl ?_,⟨fun _ _ h=>h,k1,⟨_,rfl,_,_,rfl,rfl,?_⟩,k3,fun b hb=>.inl (k2 b hb)⟩,fun _ _=>rfl,af1⟩
    ·simp[execOp,ho,hv,Sem.run_bind,g2]
    ·have hget:=(hR.get i af0).1;rw[show ents.getD i default=e by simp[afy,hei]]at hget;exact RlS.mono (mm hr (fun _ _ h=>h) k3 fun b hb=>.inl (k2 b hb)) _ _ hget
  grind
 grind
end
end Go.FH
namespace Go.FH
open Go Go.RowKit
def AOp.allocs:AOp->Bool
 |.new _|.box _ _|.mk _ _ _ _ _|.app _ _ _ _|.apx _ _ _ _|.apm _ _ _ _ _|.bldO _ _ _ _|.call _ _|.mop .mkm _|.mop .rng _=>true
 |_=>false
theorem OI{n m:Nat}{σ:St}{ρ:Opd->AV}{K:AV->List Nat->Bool->St->Prop}{b:AOp}(h:b.allocs=false)(c:opF n σ ρ K b):opF m σ ρ K b:=by
 cases b;case mop q xs=>cases q<;>first|(cases h;done)|(exact UL af1 c)
 all_goals first|exact c|cases h
theorem zX{P:Program}{t:TypeId}(h:(∃fs,P.underlying t=some (.struct fs))\/∃n e,P.underlying t=some (.array n e)):rj P t=true:=by
 unfold rj;grind
theorem Ce {P : Program} : ∀ (d : Nat) {t : TypeId} {b : List Nat}, jC P d t = some b -> ∀ k ∈ b, k <= 2
 |0,_,_,h,_,_=>by simp[jC]at h
 | d + 1, t, b, h, k, f => by
   have r:=@Ce P d;unfold jC at h;cases j:P.underlying t with
   |none=>grind
   | some l =>
     simp only[j]at h;cases l<;>simp only[reduceCtorEq]at h
     case bool=>grind
     case int=>grind
     case string=>grind
     case array n e=>
      split at h
      ·split at h
       ·simp only[afC]at h;subst h;obtain⟨q,p,o⟩:=List.mem_flatten.1 f;grind
       grind
      grind
     case struct fs=>
      split at h
      ·grind
      ·have m:∀ (c:List Field) (off:Nat) (b:List Nat),yV (jC P d) P c off=some b->∀k∈b,k<=2:=by
        intro c;induction c with
        |nil=>intro off b h k f;simp only[yV]at h;grind
        | cons g c i =>
          intro off b h k f;simp only[yV]at h;split at h
          ·grind
          grind
       grind
theorem Is:∀ (l:List Nat) (k n:Nat) (p:Nat×Nat),p∈sqG k n l->p.2=k\/p.2∈l
 | [], k, n, p, h => by
   rcases acW.1 h with rfl|b
   ·omega
   grind
 | x :: r, k, n, p, h => by
   unfold sqG at h;split at h
   ·rcases Is r _ _ p h with b|b
    ·omega
    grind
   ·rcases acW.1 h with rfl|b
    ·omega
    ·rcases Is r _ _ p b with c|c
     ·grind
     grind
theorem xq:∀ (l:List Nat) (p:Nat×Nat),p∈lh l->p.2∈l
 | [],p,h=>by simp[lh]at h
 | k :: r, p, h => by
   rcases Is r k 1 p h with b|b
   ·grind
   grind
section
variable{X:Nat->Prop}{loc:Nat->Option Loc}{σ:St}{w:World}{n:Nat}{P:Program}{ρ:Operand->Value}{ρ':Opd->AV}{K:AV->List Nat->Bool->St->Prop}
theorem CB (hr : Rel X loc σ w) (hρ : lm (aR X loc σ w) ρ ρ') {o : Oper} {op : AOp} (hc : kQ P o.op = some op) (hn : op.allocs = true -> n < σ.length /\ loc n = none /\ ∀ o : bZ, σ[n]? = some o -> o.live = false)
 (h:opF n σ ρ' K op):Snd X loc σ w n ((execOp ρ o).run P w) K:=by
 cases ho:o.op<;>rw[ho]at hc<;>simp only[kQ,reduceCtorEq]at hc
 case move x=>obtain⟨a,h1,rfl⟩:=afI.1 hc;exact VU hr hρ (.inl ho) h1 h
 case assign x=>obtain⟨a,h1,rfl⟩:=afI.1 hc;exact VU hr hρ (.inr ho) h1 h
 case pick c x y=>
  split at hc
  ·rename_i c' a b h1 h2 h3;simp only[afC]at hc;subst hc;exact VX hr hρ ho h1 h2 h3 h
  ·cases hc
 case binOp op t x y yt=>
  split at hc
  ·rename_i a b h1 h2
   split at hc
   ·simp only[afC]at hc;subst hc;exact X9 hr hρ ho h1 h2 h
   ·rename_i hu;cases op<;>simp only[reduceCtorEq,afC]at hc<;>subst hc
    ·exact oR (neg:=false) hr hρ ho h1 h2 (.inl ⟨rfl,hu⟩) h
    ·exact oR (neg:=true) hr hρ ho h1 h2 (.inl ⟨rfl,hu⟩) h
   ·rename_i hu;cases op<;>simp only[reduceCtorEq,afC]at hc<;>subst hc
    ·exact oR (neg:=false) hr hρ ho h1 h2 (.inr (.inl ⟨rfl,hu⟩)) h
    ·exact oR (neg:=true) hr hρ ho h1 h2 (.inr (.inl ⟨rfl,hu⟩)) h
   ·rename_i hu;cases op<;>simp only[reduceCtorEq,afC]at hc<;>subst hc
    ·exact oR (neg:=false) hr hρ ho h1 h2 (.inr (.inr (.inl ⟨rfl,_,hu⟩))) h
    ·exact oR (neg:=true) hr hρ ho h1 h2 (.inr (.inr (.inl ⟨rfl,_,hu⟩))) h
   ·rename_i hu;cases op<;>simp only[reduceCtorEq,afC]at hc<;>subst hc
    ·exact oR (neg:=false) hr hρ ho h1 h2 (.inr (.inr (.inr ⟨rfl,_,_,_,hu⟩))) h
    ·exact oR (neg:=true) hr hρ ho h1 h2 (.inr (.inr (.inr ⟨rfl,_,_,_,hu⟩))) h
   ·rename_i fs hu
    split at hc
    ·rename_i l hl
     split at hc
     ·rename_i hcond;obtain⟨he,hg⟩:=hcond;have hl':jC P 40 t=some (I0 (lh l)):=by rw[he];exact hl
      have h3:∀p∈lh l,p.2<=2:=fun p hp=>Ce 40 hl _ (xq l p hp)
      cases op<;>simp only[reduceCtorEq,afC]at hc<;>subst hc
      ·exact Ar (neg:=false) hr hρ ho h1 h2 (zX (.inl ⟨_,hu⟩)) hl' h3 hg h
      ·exact Ar (neg:=true) hr hρ ho h1 h2 (zX (.inl ⟨_,hu⟩)) hl' h3 hg h
     ·cases hc
    ·cases hc
   ·rename_i fs hu
    split at hc
    ·rename_i l hl
     split at hc
     ·rename_i hcond;obtain⟨he,hg⟩:=hcond;have hl':jC P 40 t=some (I0 (lh l)):=by rw[he];exact hl
      have h3:∀p∈lh l,p.2<=2:=fun p hp=>Ce 40 hl _ (xq l p hp)
      cases op<;>simp only[reduceCtorEq,afC]at hc<;>subst hc
      ·exact Ar (neg:=false) hr hρ ho h1 h2 (zX (.inr ⟨_,_,hu⟩)) hl' h3 hg h
      ·exact Ar (neg:=true) hr hρ ho h1 h2 (zX (.inr ⟨_,_,hu⟩)) hl' h3 hg h
     ·cases hc
    ·cases hc
   ·exfalso
    revert hc;(repeat' split)<;>intro hc<;>first|(cases hc;done)|(simp only[afC]at hc;subst hc;exact h)
   ·cases hc
  ·cases hc
 case unOp op t x=>obtain⟨a,h1,rfl⟩:=afI.1 hc;exact Z3 hr hρ ho h1 h
 case convert s d x=>
  split at hc
  ·rename_i h1 h2 h3;simp only[afC]at hc;subst hc;exact Yh hr hρ ho h1 h2 h3 h
  ·rename_i h1 h2 h3;split at hc
   ·rename_i h4;simp only[afC]at hc;subst hc;exact X8 hr hρ ho h1 h4 h2 h3 h
   ·cases hc
  ·cases hc
 case nilCheck x=>obtain⟨a,h1,rfl⟩:=afI.1 hc;exact VW hr hρ ho h1 h
 case field t x i=>
  split at hc
  ·rename_i fs a h1 h2
   split at hc
   ·rename_i f h3;obtain⟨⟨ag,sz⟩,h4,rfl⟩:=afI.1 hc;exact Yk hr hρ ho h1 h3 h4 h2 h
   ·cases hc
  ·cases hc
 case fieldAddr t x i=>
  split at hc
  ·rename_i fs a h1 h2
   split at hc
   ·rename_i f h3
    split at hc
    ·rename_i ti h4;split at hc
     ·cases hc
     ·rename_i h5;simp only[afC]at hc;subst hc;exact VR hr hρ ho h1 h3 h4 h5 h2 h
    ·cases hc
   ·cases hc
  ·cases hc
 case index t x i=>
  split at hc
  ·rename_i m e a b h1 h2 h3;obtain⟨⟨ag,sz⟩,h4,rfl⟩:=afI.1 hc;exact Yl hr hρ ho h1 h4 h2 h3 h
  ·cases hc
 case indexAddr t x i=>
  split at hc
  ·rename_i m e a b h1 h2 h3;obtain⟨ti,h4,rfl⟩:=afI.1 hc;exact VS hr hρ ho h1 h4 h2 h3 h
  ·rename_i e a b h1 h2 h3
   split at hc
   ·rename_i ti h4;split at hc
    ·simp only[afC]at hc;subst hc;exact VT hr hρ ho h1 h4 h2 h3 h
    ·cases hc
   ·cases hc
  ·cases hc
 case load t x=>
  split at hc
  ·rename_i p a h1 h2;simp only[afC]at hc;subst hc;exact ZZ hr hρ ho h1 h2 h
  ·cases hc
 case store t x y=>
  split at hc
  ·rename_i i a b h1 h2 h3;simp only[afC]at hc;subst hc;exact Yw hr hρ ho h1 h2 h3 h
  ·cases hc
 case alloc t=>
  split at hc
  ·rename_i z i h1 h2;simp only[afC]at hc;subst hc;exact Yq hr (hn rfl).1 (hn rfl).2.1 ho h1 h
  ·cases hc
 case box t x=>
  split at hc
  ·rename_i i a h1 h2;simp only[afC]at hc;subst hc;exact Ya hr hρ (hn rfl).1 (hn rfl).2.1 ho h2 h
  ·cases hc
 case build t ps=>
  split at hc
  ·rename_i fs z h1 h2;obtain⟨q,h3,h4⟩:=ac2.1 hc;split at h4
   ·rename_i h5;simp only[afC]at h4;subst h4;exact RV hr hρ ho h1 h2 h3 h5 h
   ·cases h4
  ·rename_i m e z h1 h2;obtain⟨ti,h3,h4⟩:=ac2.1 hc;obtain⟨q,h5,rfl⟩:=afI.1 h4;exact VO hr hρ ho h1 h2 h3 h5 h
  ·cases hc
 case buildSlice t m ps=>
  split at hc
  ·rename_i e h1
   split at hc
   ·rename_i z i q h2 h3 h4
    split at hc
    ·rename_i h5
     simp only[afC]at hc;subst hc
     have hmm:m<=maxLen:=by
      have:m<=m*i.size:=Nat.le_mul_of_pos_right _ h5.1;simp only[maxLen];omega
     by_cases h96:i.size=96/\0<m
     ·rw[afA h96]at h hn;exact VP hr hρ (hn rfl).1 (hn rfl).2.1 ho h1 h2 h3 h4 h5.1 h5.2 hmm h
     ·rw[afx h96]at h;exact VQ hr hρ ho h1 h2 h3 h4 h5.1 h5.2 hmm h
    ·cases hc
   ·cases hc
  ·cases hc
 case makeSlice t l c=>
  split at hc
  ·rename_i e h1
   split at hc
   ·rename_i z i a b h2 h3 h4 h5;split at hc
    ·rename_i h6;simp only[afC]at hc;subst hc;exact Z0 hr hρ (hn rfl).1 (hn rfl).2.1 ho h1 h2 h3 h6 h4 h5 h
    ·cases hc
   ·cases hc
  ·cases hc
 case slice t x lo hi mx=>
  split at hc
  ·rename_i e a l hh m h1 h2 h3 h4 h5
   split at hc
   ·rename_i ti h6;split at hc
    ·simp only[afC]at hc;subst hc;exact Yu hr hρ ho h1 h6 h2 h3 h4 h5 h
    ·cases hc
   ·cases hc
  ·rename_i m e a l hh h1 h2 h3 h4 h5
   split at hc
   ·rename_i ti h6
    split at hc
    ·rename_i h7;simp only[afC]at hc;subst hc;have:=(jd h5).1 rfl;subst this;exact VY hr hρ ho h1 h6 h7.2 h2 h3 h4 h
    ·cases hc
   ·cases hc
  ·cases hc
 case extract x i=>obtain⟨a,h1,rfl⟩:=afI.1 hc;exact Yj hr hρ ho h1 h
 case makeFunc f first caps=>
  split at hc
  ·rename_i h0;obtain⟨ys,h1,rfl⟩:=afI.1 hc;exact Yo hr hρ ho (by simpa using h0) h1 h
  ·cases hc
 case makeMap t r=>
  cases r with
  |some x=>simp at hc
  | none =>
    simp only[aeJ,afP,acq]at hc;split at hc
    ·simp only[afC]at hc;subst hc;exact Yp hr hρ (hn rfl).1 (hn rfl).2.1 ho h
    ·cases hc
 case lookup t m k ok=>
  split at hc
  ·rename_i kt et a b h1 h2 h3;split at hc
   ·rename_i kk z h4 h5;simp only[afC]at hc;subst hc;exact Yn hr hρ ho h1 h2 h3 h4 h5 h
   ·cases hc
  ·cases hc
 case mapUpdate t m k v=>
  split at hc
  ·rename_i kt et a b c h1 h2 h3 h4;obtain⟨kk,h5,rfl⟩:=afI.1 hc;exact Yx hr hρ ho h1 h2 h3 h4 h5 h
  ·cases hc
 case range t m=>
  split at hc
  ·rename_i kt et a h1 h2;simp only[afC]at hc;subst hc;exact Yt hr hρ (hn rfl).1 (hn rfl).2.1 (hn rfl).2.2 ho h1 h2 h
  ·cases hc
 case next it st=>
  cases st with
  |true=>simp at hc
  | false =>
    simp only[afP,acq]at hc;obtain⟨a,h1,rfl⟩:=afI.1 hc;exact h.elim
 case entry it=>obtain⟨a,h1,rfl⟩:=afI.1 hc;exact Yi hr hρ ho h1 h
 case call c =>
  obtain⟨callee,args,ats⟩:=c;unfold iT at hc;split at hc
  ·split at hc
   ·simp only[afC]at hc;subst hc;exact h.elim
   ·cases hc
  ·rename_i b hb
   simp only at hb;subst hb;split at hc
   ·rename_i x t h1 h2;have e1:args=#[x]:=acw.1 h1;have e2:ats=#[t]:=acw.1 h2;subst e1;subst e2;split at hc
    ·rename_i hu;obtain⟨a,h3,rfl⟩:=afI.1 hc;exact O0 hr hρ ho (.inl ⟨rfl,_,hu⟩) h3 h
    ·rename_i hu;obtain⟨a,h3,rfl⟩:=afI.1 hc;exact O0 hr hρ ho (.inr ⟨rfl,hu⟩) h3 h
    ·cases hc
   ·rename_i x t h1 h2;have e1:args=#[x]:=acw.1 h1;have e2:ats=#[t]:=acw.1 h2;subst e1;subst e2;split at hc
    ·rename_i hu;obtain⟨a,h3,rfl⟩:=afI.1 hc;exact Yb hr hρ ho hu h3 h
    ·cases hc
   ·rename_i s x t u h1 h2
    have e1:args=#[s,x]:=acw.1 h1;have e2:ats=#[t,u]:=acw.1 h2;subst e1;subst e2;split at hc
    ·rename_i e hu
     split at hc
     ·rename_i i z a b h3 h4 h5 h6
      split at hc
      ·rename_i e' hu2;split at hc
       ·rename_i h7;simp only[afC]at hc;subst hc;exact OY hr hρ (hn rfl).1 (hn rfl).2.1 (hn rfl).2.2 ho hu (.inl ⟨_,hu2⟩) h4 h3 h7.1 h5 h6 h
       ·cases hc
      ·rename_i hu2;split at hc
       ·rename_i h7;simp only[afC]at hc;subst hc;exact OY hr hρ (hn rfl).1 (hn rfl).2.1 (hn rfl).2.2 ho hu (.inr hu2) h4 h3 h7.1 h5 h6 h
       ·cases hc
      ·cases hc
     ·cases hc
    ·cases hc
   ·rename_i d s t u h1 h2
    have e1:args=#[d,s]:=acw.1 h1;have e2:ats=#[t,u]:=acw.1 h2;subst e1;subst e2;split at hc
    ·rename_i e hu
     split at hc
     ·rename_i i a b h3 h4 h5;split at hc
      ·rename_i h7;simp only[afC]at hc;subst hc;exact Yg hr hρ ho hu h3 h7 h4 h5 h
      ·cases hc
     ·cases hc
    ·cases hc
   ·obtain⟨ys,h3,rfl⟩:=afI.1 hc;exact Z1 hr hρ ho h3 h
   ·obtain⟨ys,h3,rfl⟩:=afI.1 hc;exact Z2 hr hρ ho h3 h
   ·cases hc
  ·cases hc
theorem tm {fx : Bool} (hr : Rel X loc σ w) (hρ : lm (aR X loc σ w) ρ ρ') (hcc : ∀ v, ρ' (.c v) = v) {o : Oper} {op : AOp} (hc : Oe fx P o.op = some op) (hn : op.allocs = true -> n < σ.length /\ loc n = none /\ ∀ o : bZ, σ[n]? = some o -> o.live = false)
 (h:opF n σ ρ' K op):Snd X loc σ w n ((execOp ρ o).run P w) K:=by
 cases fx with
 |false=>exact CB hr hρ hc hn h
 | true =>
   have hc:Fy P o.op=some op:=hc;cases ho:o.op
   case slice t x lo hi mx=>
    rw[ho]at hc;simp only[Fy]at hc;split at hc
    ·rename_i e a l hh m h1 h2 h3 h4 h5
     split at hc
     ·rename_i ti h6;split at hc
      ·rename_i h7;simp only[afC]at hc;subst hc;exact Yv hr hρ ho h1 h6 h7 h2 h3 h4 h5 h
      grind
     grind
    grind
   case call c =>
    rw[ho]at hc;simp only[Fy]at hc;have old:iT P c=some op->Snd X loc σ w n ((execOp ρ o).run P w) K:=fun h1=>CB hr hρ (by rw[ho];exact h1) hn h
    obtain⟨callee,args,ats⟩:=c;split at hc
    ·split at hc
     ·rename_i g hg _ _ fn a b hf hxs
      obtain rfl:callee=.value (.func g):=hg;split at hc
      ·rename_i hcond
       simp only[afL,ac0]at hcond;split at hc
       ·rename_i t ts hp
        split at hc
        ·rename_i e ht
         split at hc
         ·rename_i ti hti
          split at hc
          ·simp only[afC]at hc;subst hc;exact Ys hr hρ ho hf hcond.1.1 hcond.2 hcond.1.2 hp ht hti hxs hcc h
          grind
         grind
        grind
       grind
      ·split at hc
       ·rename_i _ hcond;simp only[afL,ac0]at hcond;simp only[afC]at hc;subst hc;exact Yd hr hρ ho hf hcond.1.1 hcond.1.2 hcond.2 hxs hcc h
       grind
     grind
    ·rename_i b hb
     simp only at hb;subst hb;simp only at hc;split at hc
     ·rename_i x t h1 h2;have e1:args=#[x]:=acw.1 h1;have e2:ats=#[t]:=acw.1 h2;subst e1;subst e2;split at hc
      ·rename_i hu;obtain⟨a,h3,rfl⟩:=afI.1 hc;exact Ye hr hρ ho hu h3 h
      ·cases hc
     ·rename_i s x t u h1 h2
      have e1:args=#[s,x]:=acw.1 h1;have e2:ats=#[t,u]:=acw.1 h2;subst e1;subst e2;split at hc
      ·rename_i e hu
       split at hc
       ·rename_i i z a b h3 h4 h5 h6
        split at hc
        ·rename_i e' hu2;split at hc
         ·rename_i h7;simp only[afC]at hc;subst hc;exact OZ hr hρ (hn rfl).1 (hn rfl).2.1 (hn rfl).2.2 ho hu (.inl ⟨_,hu2⟩) h4 h3 h7.1 h5 h6 h
         ·cases hc
        ·rename_i hu2;split at hc
         ·rename_i h7;simp only[afC]at hc;subst hc;exact OZ hr hρ (hn rfl).1 (hn rfl).2.1 (hn rfl).2.2 ho hu (.inr hu2) h4 h3 h7.1 h5 h6 h
         ·cases hc
        ·rename_i kn hu2
         split at hc
         ·rename_i z' hz';split at hc
          ·rename_i h7;simp only[afC]at hc;subst hc;exact X7 hr hρ (hn rfl).1 (hn rfl).2.1 (hn rfl).2.2 ho hu hu2 hz' h3 h7 h5 h6 h
          ·cases hc
         ·cases hc
        ·cases hc
       ·cases hc
      ·cases hc
     ·rename_i d s t u h1 h2
      have e1:args=#[d,s]:=acw.1 h1;have e2:ats=#[t,u]:=acw.1 h2;subst e1;subst e2;split at hc
      ·rename_i e hu
       split at hc
       ·rename_i i a b h3 h4 h5;split at hc
        ·rename_i h7;simp only[afC]at hc;subst hc;exact Yf hr hρ ho hu h3 h7 h4 h5 h
        ·cases hc
       ·cases hc
      ·cases hc
     ·rename_i x t h1 h2
      have e1:args=#[x]:=acw.1 h1;have e2:ats=#[t]:=acw.1 h2;subst e1;subst e2;split at hc
      ·rename_i e hu
       split at hc
       ·rename_i i z a h3 h4 h5;split at hc
        ·rename_i h7;simp only[afC]at hc;subst hc;exact Yc hr hρ ho hu h4 h3 h7 h5 h
        ·cases hc
       ·cases hc
      ·cases hc
     ·exact old hc
    grind
   all_goals exact CB hr hρ (by rw[ho]at hc ⊢;exact hc) hn h
end
def jh(r:Nat->Nat):bZ->bZ
 |.gone=>.gone
 |.var cs=>.var (dN r cs)
 |.vec e xs=>.vec e (dm r xs)
 |.vex e xs=>.vex e (dm r xs)
 |.map es=>.map (dm r es)
 |.iter m n seen=>.iter (r m) n seen
theorem N6{E E':Env}{r:Nat->Nat}(h:∀id,E'.loc id=E.loc (r id))(d:E'.w=E.w)(e:E'.F=E.F):∀ (xs:List (List AV)) (c:List MapEntry) (b:Nat),RlM E' xs c b↔RlM E (dm r xs) c b
 | [],_,_=>aeN
 |x::xs,c,b=>by simp only[RlM,dm,sV h d e x,N6 h d e xs]
theorem cX(r:Nat->Nat)(o:bZ):(jh r o).live=o.live:=by cases o<;>rfl
theorem rz{E E':Env}{r:Nat->Nat}(h:∀id,E'.loc id=E.loc (r id))(a:E'.w=E.w)(c:E'.F=E.F)(L:Loc)(o:bZ):iA E' L o↔iA E L (jh r o):=by
 cases o with
 |gone=>exact aeN
 |var cs=>simp only[iA,jh,zW h a c cs,a]
 | vec e xs =>
   have:(dm r xs=[])↔xs=[]:=by cases xs<;>simp[dm]
   simp only[iA,jh,vv h a c e xs,a,this]
 | vex e xs =>
   have:(dm r xs=[])↔xs=[]:=by cases xs<;>simp[dm]
   simp only[iA,jh,vv h a c e xs,a,this]
 |map d=>simp only[iA,jh,N6 h a c d,a,qA]
 |iter m n seen=>simp only[iA,jh,h,a]
def pD(P:Program)(f:FuncId):Bool:=match P.funcs[f]? with
 | some fn => fn.name != "runtime.NumGoroutine" && fn.body.isSome
 |none=>false
def aJ(P:Program)(f:FuncId)(args:List AV)(σ:St)(r:AV)(σ':St):Prop:=
 pD P f=true/\σ.length<=σ'.length/\∀ (X:Nat->Prop) (loc:Nat->Option Loc) (w:World) (vs:List Value),Rel X loc σ w->RlS (aR X loc σ w) args vs->
  Calls P f vs.toArray w fun e w'=>∃v loc',e=.returned v/\Out X loc σ w r σ' v w' loc'/\∀id,id<σ.length->loc' id=loc id
def rn(js:List Nat)(n:Nat)(i:Nat):Nat:=js.getD i (n+(i-js.length))
def kY(σ:St):List Nat->St->St
 |j::js,o::os=>kY (σ.set j o) js os
 |_,_=>σ
@[simp] theorem fG:∀ (c:List Nat) (d σ:St),(kY σ c d).length=σ.length
 | [],_,_=>by simp[kY]
 |_::_,[],_=>by simp[kY]
 |j::c,o::d,σ=>by simp[kY,fG c d]
theorem nF:∀ (b:List Nat) (c σ:St) (id:Nat),id∉b->(kY σ b c)[id]?=σ[id]?
 | [],_,_,_,_=>by simp[kY]
 |_::_,[],_,_,_=>by simp[kY]
 | j :: b, o :: c, σ, id, h => by
   simp only[acW,GG]at h;rw[kY,nF b c _ id h.2,aet (afv h.1)]
theorem oc:∀ (b:List Nat) (c σ:St),b.Nodup->(∀j∈b,j<σ.length)->∀ (i j:Nat) (o:bZ),b[i]?=some j->c[i]?=some o->(kY σ b c)[j]?=some o
 | [],_,_,_,_,i,j,o,h,_=>by grind
 |_::_,[],_,_,_,i,j,o,_,h=>by grind
 | k :: b, o' :: c, σ, f, m, i, j, o, e, g => by
   rw[kY];have d:=List.nodup_cons.1 f;cases i with
   | zero =>
     simp only[adq,afC]at e g;subst e;rw[nF b c _ k d.1];grind
   | succ i =>
     exact oc b c (σ.set k o') d.2 (fun q l=>af3) i j o af3 af3
def aN(σ:St)(js:List Nat)(σs':St):St:=
 kY σ js ((σs'.take js.length).map (jh (rn js σ.length)))++(σs'.drop js.length).map (jh (rn js σ.length))
def iH(σ:St)(js:List Nat)(σs:St):Prop:=
 js.length=σs.length/\js.Nodup/\(∀j∈js,j<σ.length)/\∀i j:Nat,js[i]?=some j->σ[j]?=(σs[i]?).map (jh (rn js σ.length))
def qP(σ:St)(js J:List Nat)(σs:St):Prop:=
 js.length=σs.length/\J.Nodup/\(∀j∈J,j<σ.length)/\∀i j:Nat,js[i]?=some j->σ[j]?=(σs[i]?).map (jh (rn J σ.length))
section
variable{X:Nat->Prop}{loc:Nat->Option Loc}{σ σs σs':St}{w:World}{P:Program}{js:List Nat}
theorem aJ.frame{f:FuncId}{args:List AV}{r:AV}(h:aJ P f args σs r σs')(hr:Rel X loc σ w)(hp:iH σ js σs){vs:List Value}(hv:RlS (aR X loc σ w) (dN (rn js σ.length) args) vs):
 Calls P f vs.toArray w fun e w'=>∃v loc',e=.returned v/\Out X loc σ w (ren (rn js σ.length) r) (aN σ js σs') v w' loc'/\∀id,id<σ.length->loc' id=loc id:=by
 obtain⟨_,hlen,hcall⟩:=h;obtain⟨hjl,hnd,hjs,hobj⟩:=hp;have hR:∀i j:Nat,js[i]?=some j->rn js σ.length i=j:=fun i j hij=>by simp[rn,List.getD,hij]
 have hR2:∀i:Nat,js.length<=i->rn js σ.length i=σ.length+(i-js.length):=fun i hi=>by simp[rn,List.getD,adb hi]
 let locs:Nat->Option Loc:=fun i=>loc (rn js σ.length i)
 have hlocs:∀i,locs i=loc (rn js σ.length i):=fun _=>rfl
 -- live blocks of the objects that are handed on
 have live1:∀b,aV σs locs b->∃ (i j:Nat) (o:bZ) (L:Loc),js[i]?=some j/\σs[i]?=some o/\o.live=true/\σ[j]?=some (jh (rn js σ.length) o)/\loc j=some L/\L.has=true/\L.blk=b:=by
  rintro b ⟨i,o,L,g1,g2,g3,g4,g5⟩;have hi:i<js.length:=af3
  have hij:js[i]?=some js[i]:=afz hi;grind
 have live2:∀b,aV σs locs b->aV σ loc b:=fun b hb=>by
  obtain⟨i,j,o,L,g1,g2,g3,g4,g5,g6,g7⟩:=live1 b hb;exact⟨j,_,L,g4,by rw[cX];omega,g5,g6,g7⟩
 have live3:∀ (i j:Nat) (o:bZ) (L:Loc),js[i]?=some j->σ[j]?=some o->o.live=true->loc j=some L->L.has=true->aV σs locs L.blk:=by
  intro i j o L g1 g2 g3 g4 g5;have hi:i<σs.length:=af3
  have g6:=hobj i j g1;rw[g2,afz hi]at g6;simp only[aeH,afC]at g6;refine⟨i,σs[i],L,afz hi,?_,af3,g5,rfl⟩;rw[<-cX (rn js σ.length),<-g6];omega
 let Xs:Nat->Prop:=fun b=>im X σ loc b/\¬aV σs locs b
 have hF1:im Xs σs locs=im X σ loc:=by
  funext b
  apply propext
  constructor
  ·rintro (⟨h1,_⟩|h1)
   ·exact h1
   ·exact .inr (live2 b h1)
  ·intro h1;by_cases h2:aV σs locs b
   ·exact .inr h2
   ·exact .inl ⟨h1,h2⟩
 have hrs:Rel Xs locs σs w:=by
  refine⟨fun i o g1 g2=>?_,fun i j a b La Lb hij g1 g2 g3 g4 g5 g6 g7 g8=>?_,fun b hb=>⟨?_,hb.2⟩,fun i hi=>?_⟩
  ·have hi:i<js.length:=by rw[hjl];exact(afO.1 g1).1
   have hij:js[i]?=some js[i]:=afz hi;have g3:σ[js[i]]?=some (jh (rn js σ.length) o):=by rw[hobj i _ hij,g1];rfl
   obtain⟨L,g4,g5⟩:=hr.obj js[i] _ g3 (by rw[cX];exact g2);exact⟨L,by rw[hlocs,hR i _ hij];exact g4,(rz (E':=aR Xs locs σs w) (E:=aR X loc σ w) (r:=rn js σ.length) hlocs rfl hF1 L o).2 g5⟩
  ·have hi:i<js.length:=by rw[hjl];exact(afO.1 g1).1
   have hj:j<js.length:=by rw[hjl];exact(afO.1 g2).1
   have e1:js[i]?=some js[i]:=afz hi;have e2:js[j]?=some js[j]:=afz hj;rw[hlocs,hR i _ e1]at g5;rw[hlocs,hR j _ e2]at g6;refine hr.apart js[i] js[j] _ _ La Lb (fun e=>hij ((afd hnd).1 e)) (by rw[hobj i _ e1,g1];rfl) (by rw[hobj j _ e2,g2];rfl) (by rw[cX];exact g3) (by rw[cX];exact g4) g5 g6 g7 g8
  ·rcases hb.1 with h1|h1
   ·exact(hr.out b h1).1
   ·exact aV.lt hr h1
  ·rw[hlocs,hR2 i af0];exact hr.beyond _ af0
 have hvs:RlS (aR Xs locs σs w) args vs:=(sV (E':=aR Xs locs σs w) (E:=aR X loc σ w) (r:=rn js σ.length) hlocs rfl hF1 args vs).2 hv;refine(hcall Xs locs w vs hrs hvs).mono fun e w' ⟨v,locs',he,ho,hkeep⟩=>?_
 let loc':Nat->Option Loc:=fun id=>if id<σ.length then loc id else locs' (js.length+(id-σ.length))
 have hl1:∀id,id<σ.length->loc' id=loc id:=fun id hid=>by simp[loc',hid]
 have hl2:∀id,σ.length<=id->loc' id=locs' (js.length+(id-σ.length)):=fun id hid=>by simp[loc',Nat.not_lt.2 hid]
 have hlr:∀i,locs' i=loc' (rn js σ.length i):=by
  intro i;by_cases hi:i<js.length
  ·have e1:js[i]?=some js[i]:=afz hi;rw[hR i _ e1,hl1 _ (hjs _ (afY hi)),hkeep i af0,hlocs,hR i _ e1]
  ·rw[hR2 i af0,hl2 _ af0];congr 1;omega
 have hσ1:∀ (i j:Nat) (o:bZ),js[i]?=some j->σs'[i]?=some o->(aN σ js σs')[j]?=some (jh (rn js σ.length) o):=by
  intro i j o g1 g2;have hi:i<js.length:=(afO.1 g1).1;unfold aN;rw[afU (by rw[fG];exact hjs j (acP g1))];exact oc js _ σ hnd hjs i j _ g1 (by rw[acs,ae3,afA hi,g2];rfl)
 have hσ2:∀id,id<σ.length->id∉js->(aN σ js σs')[id]?=σ[id]?:=by
  intro id h1 h2;unfold aN;rw[afU (by rw[fG];exact h1),nF _ _ _ _ h2]
 have hσ3:∀id,σ.length<=id->(aN σ js σs')[id]?=(σs'[js.length+(id-σ.length)]?).map (jh (rn js σ.length)):=by
  intro id h1;unfold aN;rw[acS (by rw[fG];exact h1),fG,acs,ae4]
 have hlen':(aN σ js σs').length=σ.length+(σs'.length-js.length):=by simp[aN]
 -- an object behind the call: one of the callee's, or an old one
 have hcase:∀ (id:Nat) (o:bZ),(aN σ js σs')[id]?=some o->(∃ (i:Nat) (o':bZ),σs'[i]?=some o'/\o=jh (rn js σ.length) o'/\loc' id=locs' i/\id=rn js σ.length i)\/(id<σ.length/\id∉js/\σ[id]?=some o/\loc' id=loc id):=by
  intro id o g1;by_cases hid:id<σ.length
  ·by_cases hj:id∈js
   ·obtain⟨i,hi,rfl⟩:=acp hj;have e1:js[i]?=some js[i]:=afz hi;have hi':i<σs'.length:=af0
    have g2:=hσ1 i js[i] σs'[i] e1 (afz hi');rw[g1]at g2;exact .inl ⟨i,σs'[i],afz hi',Option.some.inj g2,by rw[hlr i,hR i _ e1],(hR i _ e1).symm⟩
   ·rw[hσ2 id hid hj]at g1;exact .inr ⟨hid,hj,g1,hl1 id hid⟩
  ·rw[hσ3 id af0]at g1;obtain⟨o',g2,g3⟩:=afI.1 g1;exact .inl ⟨_,o',g2,g3.symm,hl2 id af0,by rw[hR2 _ af0];omega⟩
 have hback:∀ (i:Nat) (o:bZ),σs'[i]?=some o->(aN σ js σs')[rn js σ.length i]?=some (jh (rn js σ.length) o):=by
  intro i o g1;by_cases hi:i<js.length
  ·have e1:js[i]?=some js[i]:=afz hi;rw[hR i _ e1];exact hσ1 i _ o e1 g1
  ·rw[hR2 i af0,hσ3 _ af0];have:js.length+(σ.length+(i-js.length)-σ.length)=i:=af0
   rw[this,g1];rfl
 have live4:∀b,aV σs' locs' b->aV (aN σ js σs') loc' b:=by
  rintro b ⟨i,o,L,g1,g2,g3,g4,g5⟩;exact⟨rn js σ.length i,_,L,hback i o g1,by rw[cX];exact g2,by rw[<-hlr];exact g3,g4,g5⟩
 have live5:∀b,aV (aN σ js σs') loc' b->aV σs' locs' b\/∃ (id:Nat) (o:bZ) (L:Loc),id<σ.length/\id∉js/\σ[id]?=some o/\o.live=true/\loc id=some L/\L.has=true/\L.blk=b:=by
  rintro b ⟨id,o,L,g1,g2,g3,g4,g5⟩;rcases hcase id o g1 with⟨i,o',k1,rfl,k3,_⟩|⟨k1,k2,k3,k4⟩
  ·exact .inl ⟨i,o',L,k1,by rw[cX]at g2;exact g2,by rw[<-k3];exact g3,g4,g5⟩
  ·exact .inr ⟨id,o,L,k1,k2,k3,g2,by rw[<-k4];exact g3,g4,g5⟩
 have notlive:∀ (id:Nat) (o:bZ) (L:Loc),id∉js->σ[id]?=some o->o.live=true->loc id=some L->L.has=true->¬aV σs locs L.blk:=by
  intro id o L h1 h2 h3 h4 h5 h6;obtain⟨i,j,o',L',g1,g2,g3,g4,g5,g6,g7⟩:=live1 _ h6;exact hr.apart j id _ o L' L (by rintro rfl;exact h1 (acP g1)) g4 h2 (by rw[cX];exact g3) h3 g5 h4 g6 h5 g7
 have hF2:im Xs σs' locs'=im X (aN σ js σs') loc':=by
  funext b
  apply propext
  constructor
  ·rintro (⟨h1,h2⟩|h1)
   ·rcases h1 with h1|⟨id,o,L,g1,g2,g3,g4,g5⟩
    ·exact .inl h1
    ·have hj:id∉js:=by
      intro hj;obtain⟨i,hi,rfl⟩:=acp hj;exact h2 (by rw[<-g5];exact live3 i _ o L (afz hi) g1 g2 g3 g4)
     have hid:id<σ.length:=(afO.1 g1).1;exact .inr ⟨id,o,L,by rw[hσ2 id hid hj];exact g1,g2,by rw[hl1 id hid];exact g3,g4,g5⟩
   ·exact .inr (live4 b h1)
  ·rintro (h1|h1)
   ·exact .inl ⟨.inl h1,fun h2=>(hr.out b h1).2 (live2 b h2)⟩
   ·rcases live5 b h1 with h2|⟨id,o,L,k1,k2,k3,k4,k5,k6,rfl⟩
    ·exact .inr h2
    ·exact .inl ⟨.inr ⟨id,o,L,k3,k4,k5,k6,rfl⟩,notlive id o L k2 k3 k4 k5 k6⟩
 have hold:∀b,aV (aN σ js σs') loc' b->aV σ loc b\/w.heap.size<=b:=by
  intro b hb;rcases live5 b hb with h2|⟨id,o,L,k1,k2,k3,k4,k5,k6,rfl⟩
  ·exact(ho.old b h2).imp (live2 b) id
  ·exact .inl ⟨id,o,L,k3,k4,k5,k6,rfl⟩
 have hev:Ev (aV σ loc) w w':=⟨ho.ev.size,fun b hb hn=>ho.ev.blk b hb fun h1=>hn (live2 b h1),ho.ev.os,ho.ev.tape,ho.ev.output⟩
 have hlocs':∀id L,loc id=some L->loc' id=some L:=by
  intro id L h1;by_cases hid:id<σ.length
  ·rw[hl1 id hid];exact h1
  ·rw[hr.beyond id af0]at h1;cases h1
 refine⟨v,loc',he,⟨hlocs',?_,?_,hev,hold⟩,hl1⟩
 ·refine hr.change hlocs' hev hold (fun id hid=>?_) (fun id o g1 g2=>?_) (fun i j a b La Lb hij g1 g2 g3 g4 g5 g6 g7 g8=>?_)
  ·rw[hlen']at hid;rw[hl2 id af0];exact ho.rel.beyond _ af0
  ·rcases hcase id o g1 with⟨i,o',k1,rfl,k3,_⟩|⟨k1,k2,k3,k4⟩
   ·obtain⟨L,m1,m2⟩:=ho.rel.obj i o' k1 (by rw[cX]at g2;exact g2);exact .inr ⟨L,by rw[k3];exact m1,(rz (E':=aR Xs locs' σs' w') (E:=aR X loc' (aN σ js σs') w') (r:=rn js σ.length) hlr rfl hF2 L o').1 m2⟩
   ·refine .inl ⟨k3,fun L m1 m2=>ho.ev.blk _ (aV.lt hr ⟨id,o,L,k3,g2,m1,m2,rfl⟩) (notlive id o L k2 k3 g2 m1 m2)⟩
  ·rcases hcase i a g1 with⟨i',a',k1,rfl,k3,k4⟩|⟨k1,k2,k3,k4⟩<;>rcases hcase j b g2 with⟨j',b',q1,rfl,q3,q4⟩|⟨q1,q2,q3,q4⟩
   ·rw[cX]at g3 g4;exact ho.rel.apart i' j' a' b' La Lb (by rintro rfl;exact hij (k4.trans q4.symm)) k1 q1 g3 g4 (by rw[<-k3];exact g5) (by rw[<-q3];exact g6) g7 g8
   ·rw[cX]at g3;rw[q4]at g6;intro e1;rcases ho.old La.blk ⟨i',a',La,k1,g3,by rw[<-k3];exact g5,g7,rfl⟩with h1|h1
    ·exact notlive j b Lb q2 q3 g4 g6 g8 (by rw[<-e1];exact h1)
    ·have:=aV.lt hr ⟨j,b,Lb,q3,g4,g6,g8,rfl⟩;omega
   ·rw[cX]at g4;rw[k4]at g5;intro e1;rcases ho.old Lb.blk ⟨j',b',Lb,q1,g4,by rw[<-q3];exact g6,g8,rfl⟩with h1|h1
    ·exact notlive i a La k2 k3 g3 g5 g7 (by rw[e1];exact h1)
    ·have:=aV.lt hr ⟨i,a,La,k3,g3,g5,g7,rfl⟩;omega
   ·rw[k4]at g5;rw[q4]at g6;exact hr.apart i j a b La Lb hij k3 q3 g3 g4 g5 g6 g7 g8
 ·exact(AJ (E':=aR Xs locs' σs' w') (E:=aR X loc' (aN σ js σs') w') (r:=rn js σ.length) hlr rfl hF2 r v).1 ho.val
theorem aJ.frameS{n:Nat}{f:FuncId}{args:List AV}{r:AV}(h:aJ P f args σs r σs')(hr:Rel X loc σ w)(hp:qP σ js (js++[n]) σs)(hn:loc n=none)(hlen1:σs'.length=js.length+1){vs:List Value}(hv:RlS (aR X loc σ w) (dN (rn (js++[n]) σ.length) args) vs):
 Calls P f vs.toArray w fun e w'=>∃v loc',e=.returned v/\Out X loc σ w (ren (rn (js++[n]) σ.length) r) (aN σ (js++[n]) σs') v w' loc'/\∀id,id≠n->loc' id=loc id:=by
 obtain⟨_,hlen,hcall⟩:=h;obtain⟨hjl,hndJ,hjsJ,hobj⟩:=hp;have hnd:js.Nodup:=(List.nodup_append.1 hndJ).1;have hjs:∀j∈js,j<σ.length:=fun j hj=>hjsJ j (adf _ hj)
 have hnl:n<σ.length:=hjsJ n af1;have hnj:∀j∈js,j≠n:=fun j hj e=>(List.nodup_append.1 hndJ).2.2 j hj n af1 e
 have hR:∀i j:Nat,js[i]?=some j->rn (js++[n]) σ.length i=j:=fun i j hij=>by simp[rn,List.getD,afU (afO.1 hij).1,hij]
 have hRn:rn (js++[n]) σ.length js.length=n:=by simp[rn,List.getD]
 have hR2:∀i:Nat,js.length<i->rn (js++[n]) σ.length i=σ.length+(i-(js.length+1)):=fun i hi=>by simp[rn,List.getD,adb (l:=js++[n]) (i:=i) af3]
 let locs:Nat->Option Loc:=fun i=>loc (rn (js++[n]) σ.length i)
 have hlocs:∀i,locs i=loc (rn (js++[n]) σ.length i):=fun _=>rfl
 -- live blocks of the objects that are handed on
 have live1:∀b,aV σs locs b->∃ (i j:Nat) (o:bZ) (L:Loc),js[i]?=some j/\σs[i]?=some o/\o.live=true/\σ[j]?=some (jh (rn (js++[n]) σ.length) o)/\loc j=some L/\L.has=true/\L.blk=b:=by
  rintro b ⟨i,o,L,g1,g2,g3,g4,g5⟩;have hi:i<js.length:=af3
  have hij:js[i]?=some js[i]:=afz hi;grind
 have live2:∀b,aV σs locs b->aV σ loc b:=fun b hb=>by
  obtain⟨i,j,o,L,g1,g2,g3,g4,g5,g6,g7⟩:=live1 b hb;exact⟨j,_,L,g4,by rw[cX];omega,g5,g6,g7⟩
 have live3:∀ (i j:Nat) (o:bZ) (L:Loc),js[i]?=some j->σ[j]?=some o->o.live=true->loc j=some L->L.has=true->aV σs locs L.blk:=by
  intro i j o L g1 g2 g3 g4 g5;have hi:i<σs.length:=by rw[<-hjl];exact(afO.1 g1).1
  have g6:=hobj i j g1;rw[g2,afz hi]at g6;simp only[aeH,afC]at g6;refine⟨i,σs[i],L,afz hi,?_,by rw[hlocs,hR i j g1];exact g4,g5,rfl⟩;rw[<-cX (rn (js++[n]) σ.length),<-g6];exact g3
 let Xs:Nat->Prop:=fun b=>im X σ loc b/\¬aV σs locs b
 have hF1:im Xs σs locs=im X σ loc:=by
  funext b
  apply propext
  constructor
  ·rintro (⟨h1,_⟩|h1)
   ·exact h1
   ·exact .inr (live2 b h1)
  ·intro h1;by_cases h2:aV σs locs b
   ·exact .inr h2
   ·exact .inl ⟨h1,h2⟩
 have hrs:Rel Xs locs σs w:=by
  refine⟨fun i o g1 g2=>?_,fun i j a b La Lb hij g1 g2 g3 g4 g5 g6 g7 g8=>?_,fun b hb=>⟨?_,hb.2⟩,fun i hi=>?_⟩
  ·have hi:i<js.length:=by rw[hjl];exact(afO.1 g1).1
   have hij:js[i]?=some js[i]:=afz hi;have g3:σ[js[i]]?=some (jh (rn (js++[n]) σ.length) o):=by rw[hobj i _ hij,g1];rfl
   obtain⟨L,g4,g5⟩:=hr.obj js[i] _ g3 (by rw[cX];exact g2);exact⟨L,by rw[hlocs,hR i _ hij];exact g4,(rz (E':=aR Xs locs σs w) (E:=aR X loc σ w) (r:=rn (js++[n]) σ.length) hlocs rfl hF1 L o).2 g5⟩
  ·have hi:i<js.length:=by rw[hjl];exact(afO.1 g1).1
   have hj:j<js.length:=by rw[hjl];exact(afO.1 g2).1
   have e1:js[i]?=some js[i]:=afz hi;have e2:js[j]?=some js[j]:=afz hj;rw[hlocs,hR i _ e1]at g5;rw[hlocs,hR j _ e2]at g6;refine hr.apart js[i] js[j] _ _ La Lb (fun e=>hij ((afd hnd).1 e)) (by rw[hobj i _ e1,g1];rfl) (by rw[hobj j _ e2,g2];rfl) (by rw[cX];exact g3) (by rw[cX];exact g4) g5 g6 g7 g8
  ·rcases hb.1 with h1|h1
   ·exact(hr.out b h1).1
   ·exact aV.lt hr h1
  ·rw[hlocs]
   rcases Nat.eq_or_lt_of_le (show js.length<=i by omega)with e|e
   ·rw[<-e,hRn];exact hn
   ·rw[hR2 i e];exact hr.beyond _ af0
 have hvs:RlS (aR Xs locs σs w) args vs:=(sV (E':=aR Xs locs σs w) (E:=aR X loc σ w) (r:=rn (js++[n]) σ.length) hlocs rfl hF1 args vs).2 hv;refine(hcall Xs locs w vs hrs hvs).mono fun e w' ⟨v,locs',he,ho,hkeep⟩=>?_
 let loc':Nat->Option Loc:=fun id=>if id=n then locs' js.length else loc id
 have hl1:∀id,id≠n->loc' id=loc id:=fun id hid=>by simp[loc',hid]
 have hl2:loc' n=locs' js.length:=by simp[loc']
 have hlr:∀i,locs' i=loc' (rn (js++[n]) σ.length i):=by
  intro i;by_cases hi:i<js.length
  ·have e1:js[i]?=some js[i]:=afz hi;rw[hR i _ e1,hl1 _ (hnj _ (afY hi)),hkeep i af0,hlocs,hR i _ e1]
  ·rcases Nat.eq_or_lt_of_le (aex hi)with e|e
   ·rw[<-e,hRn,hl2]
   ·rw[hR2 i e,hl1 _ af0,hr.beyond _ af0];exact ho.rel.beyond _ af0
 have hJl:(js++[n]).length=js.length+1:=af1
 have hσ1:∀ (i j:Nat) (o:bZ),(js++[n])[i]?=some j->σs'[i]?=some o->(aN σ (js++[n]) σs')[j]?=some (jh (rn (js++[n]) σ.length) o):=by
  intro i j o g1 g2;have hi:i<js.length+1:=by rw[<-hJl];exact(afO.1 g1).1
  unfold aN;rw[afU (by rw[fG];exact hjsJ j (acP g1))];exact oc (js++[n]) _ σ hndJ hjsJ i j _ g1 (by rw[acs,ae3,afA (by rw[hJl];exact hi),g2];rfl)
 have hσ2:∀id,id<σ.length->id∉js++[n]->(aN σ (js++[n]) σs')[id]?=σ[id]?:=by
  intro id h1 h2;unfold aN;rw[afU (by rw[fG];exact h1),nF _ _ _ _ h2]
 have hlen':(aN σ (js++[n]) σs').length=σ.length:=by simp[aN,hlen1]
 -- an object behind the call: one of the callee's, or an old one
 have hRJ:∀i j:Nat,(js++[n])[i]?=some j->rn (js++[n]) σ.length i=j:=fun i j hij=>by simp[rn,List.getD,hij]
 have hcase:∀ (id:Nat) (o:bZ),(aN σ (js++[n]) σs')[id]?=some o->(∃ (i:Nat) (o':bZ),σs'[i]?=some o'/\o=jh (rn (js++[n]) σ.length) o'/\loc' id=locs' i/\id=rn (js++[n]) σ.length i)\/(id<σ.length/\id∉js++[n]/\σ[id]?=some o/\loc' id=loc id):=by
  intro id o g1;have hid:id<σ.length:=by rw[<-hlen'];exact(afO.1 g1).1
  by_cases hj:id∈js++[n]
  ·obtain⟨i,hi,e⟩:=acp hj;have e1:(js++[n])[i]?=some id:=by rw[afz hi,e]
   have hi':i<σs'.length:=by rw[hlen1,<-hJl];exact hi
   have g2:=hσ1 i id σs'[i] e1 (afz hi');rw[g1]at g2;exact .inl ⟨i,σs'[i],afz hi',Option.some.inj g2,by rw[hlr i,hRJ i _ e1],(hRJ i _ e1).symm⟩
  ·rw[hσ2 id hid hj]at g1;exact .inr ⟨hid,hj,g1,hl1 id fun e=>hj (by simp[e])⟩
 have hback:∀ (i:Nat) (o:bZ),σs'[i]?=some o->(aN σ (js++[n]) σs')[rn (js++[n]) σ.length i]?=some (jh (rn (js++[n]) σ.length) o):=by
  intro i o g1;have hi:i<(js++[n]).length:=by rw[hJl,<-hlen1];exact(afO.1 g1).1
  have e1:(js++[n])[i]?=some (js++[n])[i]:=afz hi;rw[hRJ i _ e1];exact hσ1 i _ o e1 g1
 have live4:∀b,aV σs' locs' b->aV (aN σ (js++[n]) σs') loc' b:=by
  rintro b ⟨i,o,L,g1,g2,g3,g4,g5⟩;exact⟨rn (js++[n]) σ.length i,_,L,hback i o g1,by rw[cX];exact g2,by rw[<-hlr];exact g3,g4,g5⟩
 have live5:∀b,aV (aN σ (js++[n]) σs') loc' b->aV σs' locs' b\/∃ (id:Nat) (o:bZ) (L:Loc),id<σ.length/\id∉js++[n]/\σ[id]?=some o/\o.live=true/\loc id=some L/\L.has=true/\L.blk=b:=by
  rintro b ⟨id,o,L,g1,g2,g3,g4,g5⟩;rcases hcase id o g1 with⟨i,o',k1,rfl,k3,_⟩|⟨k1,k2,k3,k4⟩
  ·exact .inl ⟨i,o',L,k1,by rw[cX]at g2;exact g2,by rw[<-k3];exact g3,g4,g5⟩
  ·exact .inr ⟨id,o,L,k1,k2,k3,g2,by rw[<-k4];exact g3,g4,g5⟩
 have notlive:∀ (id:Nat) (o:bZ) (L:Loc),id∉js->σ[id]?=some o->o.live=true->loc id=some L->L.has=true->¬aV σs locs L.blk:=by
  intro id o L h1 h2 h3 h4 h5 h6;obtain⟨i,j,o',L',g1,g2,g3,g4,g5,g6,g7⟩:=live1 _ h6;exact hr.apart j id _ o L' L (by rintro rfl;exact h1 (acP g1)) g4 h2 (by rw[cX];exact g3) h3 g5 h4 g6 h5 g7
 have hF2:im Xs σs' locs'=im X (aN σ (js++[n]) σs') loc':=by
  funext b
  apply propext
  constructor
  ·rintro (⟨h1, h2⟩ | h1)
   ·rcases h1 with h1|⟨id,o,L,g1,g2,g3,g4,g5⟩
    ·exact .inl h1
    ·have hjn:id≠n:=by rintro rfl;rw[hn]at g3;cases g3
     have hj:id∉js++[n]:=by
      intro hj;rcases afR.1 hj with hj|hj
      ·obtain⟨i,hi,rfl⟩:=acp hj;exact h2 (by rw[<-g5];exact live3 i _ o L (afz hi) g1 g2 g3 g4)
      ·exact hjn (by simpa using hj)
     have hid:id<σ.length:=(afO.1 g1).1;exact .inr ⟨id,o,L,by rw[hσ2 id hid hj];exact g1,g2,by rw[hl1 id hjn];exact g3,g4,g5⟩
   ·exact .inr (live4 b h1)
  ·rintro (h1|h1)
   ·exact .inl ⟨.inl h1,fun h2=>(hr.out b h1).2 (live2 b h2)⟩
   ·rcases live5 b h1 with h2|⟨id,o,L,k1,k2,k3,k4,k5,k6,rfl⟩
    ·exact .inr h2
    ·exact .inl ⟨.inr ⟨id,o,L,k3,k4,k5,k6,rfl⟩,notlive id o L (fun hh=>k2 (adf _ hh)) k3 k4 k5 k6⟩
 have hold:∀b,aV (aN σ (js++[n]) σs') loc' b->aV σ loc b\/w.heap.size<=b:=by
  intro b hb;rcases live5 b hb with h2|⟨id,o,L,k1,k2,k3,k4,k5,k6,rfl⟩
  ·exact(ho.old b h2).imp (live2 b) id
  ·exact .inl ⟨id,o,L,k3,k4,k5,k6,rfl⟩
 have hev:Ev (aV σ loc) w w':=⟨ho.ev.size,fun b hb hn=>ho.ev.blk b hb fun h1=>hn (live2 b h1),ho.ev.os,ho.ev.tape,ho.ev.output⟩
 have hlocs':∀id L,loc id=some L->loc' id=some L:=by
  intro id L h1;by_cases hid:id=n
  ·subst hid;rw[hn]at h1;cases h1
  ·rw[hl1 id hid];exact h1
 refine⟨v,loc',he,⟨hlocs',?_,?_,hev,hold⟩,hl1⟩
 ·refine hr.change hlocs' hev hold (fun id hid=>?_) (fun id o g1 g2=>?_) (fun i j a b La Lb hij g1 g2 g3 g4 g5 g6 g7 g8=>?_)
  ·rw[hlen']at hid;rw[hl1 id af0];exact hr.beyond _ hid
  ·rcases hcase id o g1 with⟨i,o',k1,rfl,k3,_⟩|⟨k1,k2,k3,k4⟩
   ·obtain⟨L,m1,m2⟩:=ho.rel.obj i o' k1 (by rw[cX]at g2;exact g2);exact .inr ⟨L,by rw[k3];exact m1,(rz (E':=aR Xs locs' σs' w') (E:=aR X loc' (aN σ (js++[n]) σs') w') (r:=rn (js++[n]) σ.length) hlr rfl hF2 L o').1 m2⟩
   ·refine .inl ⟨k3,fun L m1 m2=>ho.ev.blk _ (aV.lt hr ⟨id,o,L,k3,g2,m1,m2,rfl⟩) (notlive id o L (fun hh=>k2 (adf _ hh)) k3 g2 m1 m2)⟩
  ·rcases hcase i a g1 with⟨i',a',k1,rfl,k3,k4⟩|⟨k1,k2,k3,k4⟩<;>rcases hcase j b g2 with⟨j',b',q1,rfl,q3,q4⟩|⟨q1,q2,q3,q4⟩
   ·rw[cX]at g3 g4;exact ho.rel.apart i' j' a' b' La Lb (by rintro rfl;exact hij (k4.trans q4.symm)) k1 q1 g3 g4 (by rw[<-k3];exact g5) (by rw[<-q3];exact g6) g7 g8
   ·rw[cX]at g3;rw[q4]at g6;intro e1;rcases ho.old La.blk ⟨i',a',La,k1,g3,by rw[<-k3];exact g5,g7,rfl⟩with h1|h1
    ·exact notlive j b Lb (fun hh=>q2 (adf _ hh)) q3 g4 g6 g8 (by rw[<-e1];exact h1)
    ·have:=aV.lt hr ⟨j,b,Lb,q3,g4,g6,g8,rfl⟩;omega
   ·rw[cX]at g4;rw[k4]at g5;intro e1;rcases ho.old Lb.blk ⟨j',b',Lb,q1,g4,by rw[<-q3];exact g6,g8,rfl⟩with h1|h1
    ·exact notlive i a La (fun hh=>k2 (adf _ hh)) k3 g3 g5 g7 (by rw[e1];exact h1)
    ·have:=aV.lt hr ⟨i,a,La,k3,g3,g5,g7,rfl⟩;omega
   ·rw[k4]at g5;rw[q4]at g6;exact hr.apart i j a b La Lb hij k3 q3 g3 g4 g5 g6 g7 g8
 ·exact(AJ (E':=aR Xs locs' σs' w') (E:=aR X loc' (aN σ (js++[n]) σs') w') (r:=rn (js++[n]) σ.length) hlr rfl hF2 r v).1 ho.val
end
inductive am where
 |skip
 |reg (ops:List cS)
 |dreg (ops:List (cS×Nat))
 |seq (a b:am)
 |cond (c:Opd) (a b:am)
 |block (id:Nat) (b:am)
 |loop (b:am)
 |exit (id:Nat)
 |ret
 |scp (b:am)
 |lbl
 |cndF (c:Opd) (b:am)
def Tr(nt:Nat):Option Nat->Bool
 |some d=>decide (d<nt)
 |none=>true
def oM(fx:Bool)(P:Program)(nt:Nat)(ops:List Oper)(o:Oper):Option cS:=
 match Oe fx P o.op,Tr nt o.dst,o.guard with
 |some op,true,none=>some ⟨o.dst,op,none⟩
 | some op, true, some (j, want) => match (ops[j]?).bind (·.dst) with
   |some t=>some ⟨o.dst,op,some (t,want)⟩
   |none=>none
 |_,_,_=>none
theorem jc{f:Bool}{P:Program}{e:Nat}{d:List Oper}{o:Oper}{c:cS}(g:oM f P e d o=some c):Oe f P o.op=some c.op/\c.dst=o.dst/\(∀t,o.dst=some t->t<e)/\
 ((o.guard=none/\c.gd=none)\/∃j b t,o.guard=some (j,b)/\(d[j]?).bind (·.dst)=some t/\c.gd=some (t,b)):=by
 have l:Tr e o.dst=true->∀t,o.dst=some t->t<e:=by
  intro h t i;rw[i]at h;simpa[Tr]using h
 unfold oM at g;split at g
 ·grind
 ·grind
 grind
def kR(fx:Bool)(P:Program)(nt:Nat)(all:List Oper):List Oper->Option (List cS)
 | []=>some []
 | o :: r => match oM fx P nt all o, kR fx P nt all r with
   |some a,some b=>some (a::b)
   |_,_=>none
def AOp.opds:AOp->List Opd
 |.mv x|.un _ x|.cvt _ x|.b2s x|.nilc x|.fld _ _ _ x|.fldA _ x|.ld _ _ x|.box _ x|.ext _ x|.len _ x|.cap x|.isn _ x|.nxt x|.clr _ _ x|.cpq x=>[x]
 |.pick c a b=>[c,a,b]
 |.bin _ x y|.eqv _ _ x y|.eqa _ _ x y|.idx _ _ _ x y|.idxA _ _ x y|.idxS _ x y|.sto _ x y|.mk _ _ _ x y|.app _ _ x y|.cpy _ x y|.apx _ _ x y|.apm _ _ _ x y|.cpx _ x y|.ovl _ x y|.cmb x y=>[x,y]
 |.new _=>[]
 |.bld _ ps=>ps.map (·.2.2)
 |.bldS _ _ _ ps|.bldO _ _ _ ps=>ps.map (·.2)
 |.sli _ x lo hi m' | .slx _ x lo hi m'=>x::(lo.toList++hi.toList++m'.toList)
 |.sliA _ _ x lo hi=>x::(lo.toList++hi.toList)
 |.mn xs|.mx xs=>xs
 |.mkf _ xs|.mop _ xs=>xs
 |.call g xs=>g::xs
def cS.looks(o:cS):List Nat:=(o.op.opds.filterMap fun|.t n=>some n|.c _=>none)++(match o.gd with|some (t,_)=>[t]|none=>[])
def qh(x y:cS):Bool:=
 (match x.dst with
  |some d=>!y.looks.contains d&&y.dst != some d
  |none=>true) &&
 (match y.dst with
  |some d=>!x.looks.contains d&&x.dst != some d
  |none=>true)
def oP(o:Oper):List Nat:=(o.after.toList.filter (Region.binds .any)).map (·.on)
def Hb:List Oper->List Nat->List Nat
 | [],acc=>acc
 |o::r,acc=>Hb r (acc++[(oP o).foldl (fun s e=>s ||| 2 ^ e ||| acc.getD e 0) 0])
def pw(n:Nat)(f:Nat->Bool):Bool:=(List.range n).all f
def L8(ops:List Oper)(als:List cS)(bf:List Nat):Bool:=
 bf.length==ops.length&&als.length==ops.length &&
 (pw ops.length fun j=>(oP (ops.getD j default)).all fun e=>decide (e<j)) &&
 (pw ops.length fun j=>pw ops.length fun i=>!(bf.getD j 0).testBit i || (oP (ops.getD j default)).any fun e=>e==i || (bf.getD e 0).testBit i) &&
 (pw ops.length fun j=>pw j fun i=>(bf.getD j 0).testBit i || qh (als.getD i default) (als.getD j default))
def iS(fx:Bool)(P:Program)(nt:Nat):Code->Option am
 |.skip=>some .skip
 | .region _ ops draw => match kR fx P nt ops.toList ops.toList with
   |some l=>if draw then (if L8 ops.toList l (Hb ops.toList [])=true/\P.follows .mixedOrders=true then some (.dreg (l.zip (Hb ops.toList [])))else none)else some (.reg l)
   |none=>none
 | .seq a b => match iS fx P nt a, iS fx P nt b with
   |some x,some y=>some (.seq x y)
   |_,_=>none
 | .cond c a b => match az c, iS fx P nt a, iS fx P nt b with
   |some c,some x,some y=>some (.cond c x y)
   |some c,none,some y=>some (.cndF c y)
   |_,_,_=>none
 |.block id b=>(iS fx P nt b).map (.block id)
 |.loop b=>(iS fx P nt b).map .loop
 |.exit id=>some (.exit id)
 |.ret=>some .ret
 |.scope b=>(iS fx P nt b).map .scp
 |.label _=>some .lbl
 |_=>none
inductive Ex where
 |normal
 |exit (id:Nat)
 |ret
def Ex.to:Ex->Exit
 |.normal=>.normal
 |.exit id=>.exit id
 |.ret=>.ret
def fL(P:Program)(g:AV)(xs:List AV)(σ:St)(K:AV->St->Prop):Prop:=match g with
 |.fn (.func f) caps=>∃ (args:List AV) (σs:St) (r:AV) (σs':St) (js:List Nat),aJ P f args σs r σs'/\xs++caps=dN (rn js σ.length) args/\iH σ js σs/\K (ren (rn js σ.length) r) (aN σ js σs')
 |_=>False
def oN(neg:Bool)(x:AV)(σ:St)(K:AV->St->Prop):Prop:=match x with
 |.sl _ _ xs=>∀b:Bool,(b=true->xs=[])->K (.bool (b != neg)) σ
 |.hs _ _ _ len=>∀b:Bool,(b=true->len=0)->K (.bool (b != neg)) σ
 |_=>False
def aDo(P:Program)(op:AOp)(fr:Fr)(σ:St)(K:AV->St->Prop):Prop:=match op with
 |.call g xs=>fL P (g.ev fr) (xs.map (Opd.ev fr)) σ K
 |.isn neg x=>oN neg (x.ev fr) σ K
 |.nxt x=>qF (x.ev fr) σ K
 |op=>if op.allocs then opF σ.length (σ++[.gone]) (Opd.ev fr) (fun av _ _ σ'=>K av σ') op else opF 0 σ (Opd.ev fr) (fun av _ _ σ'=>K av σ') op
def aGd(gd:Option (Nat×Bool))(fr:Fr)(yes no:Fr->Prop):Prop:=match gd with
 |none=>yes fr
 | some (t, want) => match fr.get t with
   |.bool b=>(b=want->yes (fr.put t (.bool want)))/\(b=!want->no (fr.put t (.bool !want)))
   |.tup []=>no fr
   |_=>False
def rD(P:Program):List cS->(Fr->St->Prop)->Fr->St->Prop
 | [],Q,fr,σ=>Q fr σ
 |o::r,Q,fr,σ=>aGd o.gd fr (fun fr=>aDo P o.op fr σ fun av σ'=>rD P r Q (fr.putO o.dst av) σ') (fun fr=>rD P r Q (fr.putO o.dst (.tup [])) σ)
section
variable{P:Program}{C:Cx}{nt k:Nat}{fr:Fr}{σ:St}{loc:Nat->Option Loc}{a:Act}{w:World}
theorem SR.pad(h:SR C nt k fr σ loc a w)(l:Nat):SR C nt k fr (σ++List.replicate l .gone) loc a w:=by
 have hl:∀b,aV (σ++List.replicate l .gone) loc b↔aV σ loc b:=by
  intro b;constructor
  ·rintro⟨id,o,L,g1,g2,g3⟩
   rcases aeg id σ.length with h1|h1
   ·rw[afU h1]at g1;exact⟨id,o,L,g1,g2,g3⟩
   ·rw[acS h1]at g1;have:=acP g1;rw[(List.mem_replicate.1 this).2]at g2;cases g2
  ·rintro⟨id,o,L,g1,g2,g3⟩;exact⟨id,o,L,af3,g2,g3⟩
 have hF:im C.X (σ++List.replicate l .gone) loc=im C.X σ loc:=by funext b;unfold im;grind
 have hget:∀ (id:Nat) (o:bZ),(σ++List.replicate l .gone)[id]?=some o->o.live=true->σ[id]?=some o:=by
  intro id o g1 g2;rcases aeg id σ.length with h1|h1
  ·grind
  ·rw[acS h1]at g1;rw[(List.mem_replicate.1 (acP g1)).2]at g2;cases g2
 refine⟨⟨fun id o g1 g2=>?_,fun i j x y La Lb hij g1 g2 g3 g4=>h.rel.apart i j x y La Lb hij (hget i x g1 g3) (hget j y g2 g4) g3 g4,fun b hb=>?_,fun id hid=>?_⟩,fun t=>?_,h.size,h.dfr,h.ev,fun b hb=>h.old b ((hl b).1 hb),h.pre,by simp;have:=h.klen;omega⟩
 ·obtain⟨L,m1,m2⟩:=h.rel.obj id o (hget id o g1 g2) g2;grind
 ·rw[hl b];exact h.rel.out b hb
 ·exact h.rel.beyond id af3
 ·show Rl ⟨loc,im C.X (σ++List.replicate l .gone) loc,w⟩ _ _
  rw[hF];exact h.frm t
theorem SR.opd(h:SR C nt k fr σ loc a w):lm (aR C.X loc σ w) a.eval (Opd.ev fr):=fun x y hx=>Hv h.frm hx
theorem SR.putSame(h:SR C nt k fr σ loc a w)(t:Nat)(v:AV)(f:Rl (aR C.X loc σ w) v (a.tmps.getD t undef)):SR C nt k (fr.put t v) σ loc a w:=
 ⟨h.rel,fun u=>by
  by_cases b:t=u
  ·subst b;rcases Fr.get_put_same fr t v with d|d
   ·grind
   ·rw[d];trivial
  ·rw[Fr.get_put_ne fr v b];exact h.frm u,h.size,h.dfr,h.ev,h.old,h.pre,h.klen⟩
theorem SR.skip(h:SR C nt k fr σ loc a w)(dst:Option Nat)(hd:∀t,dst=some t->t<nt):SR C nt k (fr.putO dst (.tup [])) σ loc (a.put dst undef) w:=
 h.step (loc':=loc) (show Out C.X loc σ w (.tup []) σ undef w loc from ⟨fun _ _ h=>h,h.rel,⟨[],rfl,rfl⟩,Ev.refl _ _,fun _ h=>.inl h⟩) (fun _ _=>rfl) (afE _) dst hd
theorem za{ρ:Operand->Value}{c:Operand}{xs:Array Operand}{ats:Array TypeId}{ty:TypeId}{f:FuncId}{g:Array Value}(u:ρ c=.func (.func f) #[] g)(q:pD P f=true)(h:Option Tmp)(pos:String)(j:Array Edge)(p:Option (Nat×Bool)):
 (execOp ρ ⟨h,.call { callee:=.value c,args:=xs,argTypes:=ats },ty,pos,j,p⟩).run P w=.ok (.enter f (xs.map ρ++g)) w:=by
 unfold pD at q;split at q
 ·rename_i r o
  have t:r.body.isNone=false:=by
   simp_all
  have e:execOp ρ ⟨h,.call { callee:=.value c,args:=xs,argTypes:=ats },ty,pos,j,p⟩=(do let d <-resolve ρ { callee:=.value c,args:=xs,argTypes:=ats } ty;invoke d.target d.args:Sem Next):=rfl;rw[e]
  have l : ¬ r.name = "runtime.NumGoroutine" := by grind
  simp only[resolve,u,Deferred.ofValue,invoke,callFunc,Sem.run_bind,Sem.run_pure,Result.andThen_ok,run_program,o];simp[l,t]
 grind
theorem yS{b:Op}{g:Opd}{xs:List Opd}(h:kQ P b=some (.call g xs)):∃c,b=.call c:=by
 cases b<;>simp only[kQ]at h
 case call c=>simp
 case build t ps=>
  split at h
  ·obtain⟨_,_,h⟩:=ac2.1 h;grind
  ·obtain⟨_,_,h⟩:=ac2.1 h;simp_all
  grind
 all_goals(revert h;repeat' split)
 all_goals simp
theorem LW{op:Op}{neg:Bool}{a:Opd}(h:kQ P op=some (.isn neg a)):∃t e x yt,op=.binOp (if neg then .neq else .eql) t x (.const (.slice none 0 0)) yt/\P.underlying t=some (.slice e)/\az x=some a:=by
 cases op<;>simp only[kQ]at h
 case binOp op t x y yt=>
  split at h
  ·rename_i a' b' h1 h2
   split at h
   case h_8 hu=>
    split at h
    ·cases op<;>first|grind|(simp only[afC,AOp.isn.injEq]at h;obtain⟨rfl,rfl⟩:=h;grind)
    grind
   all_goals grind
  grind
 case call c=>
  exfalso
  revert h;unfold iT;(repeat' split)<;>intro h<;>first|grind|simp_all
 all_goals(exfalso;revert h;(repeat' split)<;>intro h<;>first|(cases h;done)|(obtain⟨_,_,h⟩:=afI.1 h;cases h;done)|(obtain⟨_,_,h⟩:=ac2.1 h;revert h;(repeat' split)<;>intro h<;>first|(cases h;done)|(obtain⟨_,_,h⟩:=afI.1 h;cases h;done)))
theorem LX{op:Op}{a:Opd}(h:kQ P op=some (.nxt a)):∃x,op=.next x false/\az x=some a:=by
 cases op<;>simp only[kQ]at h
 case next it st=>
  simp_all
 case call c=>
  revert h;unfold iT;(repeat' split)<;>intro h<;>first|grind|simp_all
 all_goals(revert h;(repeat' split)<;>intro h<;>first|grind|(obtain⟨_,_,h⟩:=afI.1 h;cases h;done)|(obtain⟨_,_,h⟩:=ac2.1 h;simp_all))
theorem Ym{X:Nat->Prop}{n:Nat}{ρ:Operand->Value}{ρ':Opd->AV}{o:Oper}{neg:Bool}{x:Opd}{K:AV->St->Prop}(u:Rel X loc σ w)(hρ:lm (aR X loc σ w) ρ ρ')(k:∀v,ρ (.const v)=v)(D:kQ P o.op=some (.isn neg x))(h:oN neg (ρ' x) σ K):
 Snd X loc σ w n ((execOp ρ o).run P w) (fun av _ _ σ'=>K av σ'):=by
 obtain⟨t,e,y,Q,C,z,B⟩:=LW D;have g:=hρ y x B;have A:=k (.slice none 0 0)
 have d:∀ (a:Option Addr) (l c:Nat),ρ y=.slice a l c->(execOp ρ o).run P w=.ok (.value (.bool (a.isNone != neg))) w:=by
  intro a l c p;have E:=Go.run_eql_slice_nil (P:=P) w t e a l c z;have G:=Go.run_neq_slice_nil (P:=P) w t e a l c z;cases neg<;>simp[execOp,C,p,A,eqGuard,E,G]
 unfold oN at h;split at h
 ·rename_i H S xs r;rw[r]at g;obtain⟨a,l,c,s,M,I,_,_,N,_⟩:=g;refine Snd.of (ft:=[]) (wr:=false) u (h a.isNone fun O=>?_) (d a l c s) rfl;grind
 ·rename_i H id off i r;rw[r]at g;obtain⟨a,c,L,s,M,I,N,_⟩:=g;refine Snd.of (ft:=[]) (wr:=false) u (h a.isNone fun O=>?_) (d a i c s) rfl;grind
 grind
theorem aag{fx:Bool}{Q:Exit->Act->World->Prop}{o:Oper}{ao:cS}{all:List Oper}(hc:oM fx P nt all o=some ao){next:Fr->St->Prop}(K:Act->World->Prop)
 (hK:∀fr' σ' loc' a' w',next fr' σ'->SR C nt k fr' σ' loc' a' w'->K a' w') (h:SR C nt k fr σ loc a w) (hop:aDo P ao.op fr σ fun av σ'=>next (fr.putO ao.dst av) σ'):o.wp P a w K Q:=by
 have hs:=jc hc;have hop':=hs.1;have e2:=hs.2.1;have hd:=hs.2.2.1;clear hs hc;rw[e2]at hop
 -- a call
 by_cases hcall:∃g xs,ao.op=.call g xs
 ·obtain ⟨g, xs, hg⟩ := hcall
  rw[hg]at hop hop';simp only[aDo]at hop;obtain⟨dst,op0,ty,pos,aft,gd⟩:=o;simp only at hop' hd hop;have hop':=sX hop' (.inl ⟨_,_,rfl⟩);obtain⟨c,rfl⟩:=yS hop';simp only[kQ]at hop';obtain⟨callee,args,ats⟩:=c;unfold iT at hop';split at hop'
  ·rename_i f hcf
   simp only at hcf;subst hcf;split at hop'
   ·rename_i g' ys h1 h2
    simp only[afC,AOp.call.injEq]at hop';obtain⟨rfl,rfl⟩:=hop';unfold fL at hop;split at hop
    ·rename_i f' caps hcaps
     obtain⟨args',σs,r,σs',js,k1,k2,k3,k4⟩:=hop;have hv:=h.opd f g' h1;rw[hcaps]at hv;obtain⟨cvs,hv1,hv2⟩:=hv;have hxs:=io h.opd h2;have hall:=hxs.app hv2;rw[k2]at hall;have hrun:=za (P:=P) (w:=w) (xs:=args) (ats:=ats) (ty:=ty) hv1 k1.1 dst pos aft gd;unfold Oper.wp;rw[hrun,Oper.upon_enter];have hfr:=aJ.frame k1 h.rel k3 hall
     have e3:(args.map a.eval++cvs.toArray)=(List.map a.eval args.toList++cvs).toArray:=by
      simp
     rw[e3];refine hfr.mono fun e w' ⟨v,loc',he,ho,hk⟩=>?_
     subst he;refine hK _ _ loc' _ _ k4 (h.step ho (fun id hid=>hk id (ady hid h.klen)) ?_ dst hd);unfold aN;simp
    grind
   grind
  ·exfalso
   revert hop';repeat' split
   all_goals simp
  grind
 ·by_cases hisn:∃neg x,ao.op=.isn neg x
  ·obtain⟨neg,x,hg⟩:=hisn;rw[hg]at hop hop';simp only[aDo]at hop;obtain⟨av,ft,wr,σ',v,w',loc',k1,k2,k3,k4,k5⟩:=Ym (n:=σ.length) h.rel h.opd (fun _=>rfl) (sX hop' (.inr (.inl ⟨_,_,rfl⟩))) hop;have h2:=h.step k3 (fun id hid=>k4 id fun e=>by have:=h.klen;omega) af0 o.dst hd;unfold Oper.wp;rcases k2 with k2|⟨k2,rfl⟩
   ·rw[k2];exact hK _ _ _ _ _ k1 h2
   ·rw[k2];exact hK _ _ _ _ _ k1 h2
  by_cases hnx:∃x,ao.op=.nxt x
  ·obtain⟨x,hg⟩:=hnx;rw[hg]at hop hop';simp only[aDo]at hop;obtain⟨y,ho,hy⟩:=LX (sX hop' (.inr (.inr ⟨_,rfl⟩)));obtain⟨av,ft,wr,σ',v,w',loc',k1,k2,k3,k4,k5⟩:=Yr (n:=σ.length) h.rel h.opd ho hy hop;have h2:=h.step k3 (fun id hid=>k4 id fun e=>by have:=h.klen;omega) af0 o.dst hd;unfold Oper.wp;rcases k2 with k2|⟨k2,rfl⟩
   ·rw[k2];exact hK _ _ _ _ _ k1 h2
   ·rw[k2];exact hK _ _ _ _ _ k1 h2
  have hop2:if ao.op.allocs then opF σ.length (σ++[.gone]) (Opd.ev fr) (fun av _ _ σ'=>next (fr.putO o.dst av) σ') ao.op else opF 0 σ (Opd.ev fr) (fun av _ _ σ'=>next (fr.putO o.dst av) σ') ao.op:=by
   unfold aDo at hop;split at hop
   ·rename_i g xs hg;exact absurd ⟨g,xs,hg⟩ hcall
   ·rename_i neg x hg;exact absurd ⟨neg,x,hg⟩ hisn
   ·rename_i x hg;exact absurd ⟨x,hg⟩ hnx
   ·exact hop
  clear hop
  have fin:∀ {σ1:St} {n:Nat},SR C nt k fr σ1 loc a w->k<=n\/ao.op.allocs=false->σ.length<=σ1.length->Snd C.X loc σ1 w n ((execOp a.eval o).run P w) (fun av _ _ σ'=>next (fr.putO o.dst av) σ')->(∀id,id<k->id=n->False)->o.wp P a w K Q:=by
   intro σ1 n h1 _ hl ⟨av,ft,wr,σ',v,w',loc',k1,k2,k3,k4,k5⟩ hkn;have h2:=h1.step k3 (fun id hid=>k4 id fun e=>hkn id hid e) af0 o.dst hd;unfold Oper.wp;rcases k2 with k2|⟨k2,rfl⟩
   ·rw[k2];exact hK _ _ _ _ _ k1 h2
   ·rw[k2];exact hK _ _ _ _ _ k1 h2
  by_cases hal:ao.op.allocs=true
  ·rw[afA hal]at hop2
   have h1:=h.pad 1;have hgone:(σ++[bZ.gone])[σ.length]?=some .gone:=af1
   refine fin h1 (.inl h.klen) af1 (tm h1.rel h1.opd (fun _=>rfl) hop' (fun _=>⟨af1,h.rel.beyond _ (afE _),fun o' ho'=>?_⟩) hop2) fun id hid e=>?_
   ·have:=hgone.symm.trans ho';cases this;rfl
   ·have:=h.klen;omega
  ·rw[afx hal]at hop2
   have hsnd:=tm (n:=σ.length) h.rel h.opd (fun _=>rfl) hop' (fun h'=>absurd h' hal) (show opF σ.length σ (Opd.ev fr) (fun av _ _ σ'=>next (fr.putO o.dst av) σ') ao.op from by
    exact OI (by simpa using hal) hop2)
   exact fin h (.inr (by simpa using hal)) (afE _) hsnd fun id hid e=>by have:=h.klen;omega
theorem Sz{G:Bool}{f:List Oper}{o:Oper}{F:cS}(H:oM G P nt f o=some F){m A:Fr->Prop}(h:SR C nt k fr σ loc a w)(g:aGd F.gd fr m A):
 ∃l,SR C nt k l σ loc a w/\((Region.wanted o (yielded f.toArray a.tmps)=true/\m l)\/(Region.wanted o (yielded f.toArray a.tmps)=false/\A l)):=by
 rcases (jc H).2.2.2 with⟨n,z⟩|⟨j,e,t,n,z,K⟩
 ·rw[z]at g;exact⟨fr,h,.inl ⟨by simp[Region.wanted,n],g⟩⟩
 ·rw [K] at g
  simp only[aGd]at g
  have B:yielded f.toArray a.tmps j=match a.tmps[t]? with|some (.bool b)=>some b|_=>none:=by
   unfold yielded;grind
  have c:=h.frm t;split at g
  ·rename_i b s
   rw[s]at c;simp only[Rl]at c
   have D:a.tmps[t]?=some (.bool b):=by
    rw[adp]at c;cases J:a.tmps[t]? with
    |none=>rw[J]at c;simp[undef]at c
    |some v=>grind
   by_cases p:b=e
   ·subst p;exact⟨_,h.putSame t (.bool b) c,.inl ⟨by simp[Region.wanted,n,B,D],g.1 rfl⟩⟩
   ·have q:b=!e:=by cases b<;>cases e<;>simp_all
    exact⟨_,h.putSame t (.bool !e) (by rw[<-q];exact c),.inr ⟨by simp[Region.wanted,n,B,D,p],g.2 q⟩⟩
  ·rename_i s
   rw[s]at c;obtain⟨L,y,I⟩:=c;refine⟨fr,h,.inr ⟨?_,g⟩⟩
   have:yielded f.toArray a.tmps j=none:=by
    rw[adp]at y;grind
   simp[Region.wanted,n,this]
  grind
end
section
variable{P:Program}{C:Cx}{nt k:Nat}{fr:Fr}{σ:St}{loc:Nat->Option Loc}{a:Act}{w:World}
theorem C3{y:Bool}{g:List Oper}{Q:Exit->Act->World->Prop}{Q':Fr->St->Prop}(q:∀d σ' loc' m w',Q' d σ'->SR C nt k d σ' loc' m w'->Q .normal m w'):
 ∀ (l:List Oper) (n:List cS) (i:Fr) (σ:St) (loc:Nat->Option Loc) (a:Act) (w:World),kR y P nt g l=some n->SR C nt k i σ loc a w->rD P n Q' i σ->wpList P g.toArray Q l a w
 | [], n, i, σ, loc, a, w, e, h, s => by
   simp only[kR,afC]at e;subst e;exact q _ _ _ _ _ s h
 | o :: l, n, i, σ, loc, a, w, e, h, s => by
   simp only[kR]at e;split at e
   ·rename_i D r p x
    simp only[afC]at e;subst e;obtain⟨d,u,f|f⟩:=Sz p h s
    ·simp only[wpList,f.1,aco];refine .inl (aag p _ (fun d σ' loc' m w' z B=>C3 q l r d σ' loc' m w' x B z) u f.2)
    ·simp only[wpList,f.1,afP,acq];have t:=jc p;have:=u.skip o.dst t.2.2.1;rw[t.2.1]at f;exact C3 q l r _ _ _ _ _ x this f.2
   grind
theorem N2{c:Code}{Q:Exit->Act->World->Prop}(I:Nat->Act->World->Prop)(m:Nat)(h₀:I m a w)
 (p:∀m a w,I m a w->c.wp P (Exit.then (fun q w'=>∃r,r<m/\I r q w') Q) a w):(Code.loop c).wp P Q a w:=by
 intro b k cs
 have t:∀n a w,I n a w->∃e q w',Q e q w'/\Arrives P (lone (b.at a (.code c::.inLoop c::k)) cs w) b k cs e q w':=by
  intro n;induction n using Nat.strongRecOn with
  | _ n v =>
    intro a w y;obtain⟨e,a₁,w₁,o,f⟩:=p n a w y b (.inLoop c::k) cs;cases e with
    | normal =>
      obtain⟨r,s,hI₁⟩:=o;obtain⟨e₂,a₂,w₂,hq₂,harr₂⟩:=v r s a₁ w₁ hI₁;exact⟨e₂,a₂,w₂,hq₂,.of_steps (Steps.trans f (.one step_inLoop)) harr₂⟩
    |exit id=>exact⟨_,a₁,w₁,o,.pass (x:=.inLoop c) rfl (fun _ _=>.inl af1) f⟩
    |goto l=>exact⟨_,a₁,w₁,o,.pass (x:=.inLoop c) rfl (fun _ _=>.inl af1) f⟩
    |ret=>exact⟨_,a₁,w₁,o,.pass (x:=.inLoop c) rfl (fun _ _=>.inl af1) f⟩
    |panic A=>exact⟨_,a₁,w₁,o,.pass (x:=.inLoop c) rfl (fun _ _=>.inl af1) f⟩
    |outgrown=>exact⟨_,a₁,w₁,o,.pass (x:=.inLoop c) rfl (fun _ _=>.inl af1) f⟩
 obtain⟨e,q,w',o,f⟩:=t m a w h₀;exact⟨e,q,w',o,.of_steps (.one step_loop) f⟩
def Tri(P:Program)(nt k:Nat)(c:am)(Q:Ex->Fr->St->Prop)(fr:Fr)(σ:St):Prop:=
 ∀ (fx : Bool) (code : Code), iS fx P nt code = some c -> ∀ (C : Cx) (loc : Nat -> Option Loc) (a : Act) (w : World), SR C nt k fr σ loc a w ->
   code.wp P (fun ex a' w'=>∃e fr' σ' loc',ex=Ex.to e/\Q e fr' σ'/\SR C nt k fr' σ' loc' a' w') a w
theorem Tri.mono{c:am}{Q Q':Ex->Fr->St->Prop}(h:Tri P nt k c Q fr σ)(hq:∀e fr σ,Q e fr σ->Q' e fr σ):Tri P nt k c Q' fr σ:=
 fun fx code hc C loc a w hs=>wp_mono (h fx code hc C loc a w hs) fun ex a' w' ⟨e,fr',σ',loc',h1,h2,h3⟩=>⟨e,fr',σ',loc',h1,hq _ _ _ h2,h3⟩
def fK(next:Fr->St->Prop)(Q:Ex->Fr->St->Prop):Ex->Fr->St->Prop
 |.normal,fr,σ=>next fr σ
 |e,fr,σ=>Q e fr σ
def mo(id:Nat)(Q:Ex->Fr->St->Prop):Ex->Fr->St->Prop
 |.exit i,fr,σ=>if i=id then Q .normal fr σ else Q (.exit i) fr σ
 |e,fr,σ=>Q e fr σ
theorem jG{Q:Ex->Fr->St->Prop}(h:Q .normal fr σ):Tri P nt k .skip Q fr σ:=by
 intro j d e C loc a w g;cases d<;>simp only[iS]at e
 case skip=>exact wp_skip ⟨.normal,fr,σ,loc,rfl,h,g⟩
 all_goals(revert e;(repeat' split)<;>intro e<;>first|grind|simp_all)
theorem i7{id:Nat}{Q:Ex->Fr->St->Prop}(h:Q (.exit id) fr σ):Tri P nt k (.exit id) Q fr σ:=by
 intro j c d C loc a w f;cases c<;>simp only[iS]at d
 case exit i=>simp only[afC,am.exit.injEq]at d;subst d;exact wp_exit ⟨.exit i,fr,σ,loc,rfl,h,f⟩
 all_goals(revert d;(repeat' split)<;>intro d<;>first|grind|simp_all)
theorem lY{Q:Ex->Fr->St->Prop}(h:Q .ret fr σ):Tri P nt k .ret Q fr σ:=by
 intro i b d C loc a w f;cases b<;>simp only[iS]at d
 case ret=>exact wp_ret ⟨.ret,fr,σ,loc,rfl,h,f⟩
 all_goals(revert d;(repeat' split)<;>intro d<;>first|grind|simp_all)
theorem fR{x y:am}{Q:Ex->Fr->St->Prop}(h:Tri P nt k x (fK (Tri P nt k y Q) Q) fr σ):Tri P nt k (.seq x y) Q fr σ:=by
 intro m d c C loc a w r;cases d<;>simp only[iS]at c
 case seq u v=>
  split at c
  ·rename_i t z o p;obtain⟨rfl,rfl⟩:=c;refine wp_seq (wp_mono (h m u o C loc a w r) fun ex q w' ⟨e,f,σ',b,s,j,i⟩=>?_);subst s;cases e with
   |normal=>exact j m v p C b q w' i
   |exit id=>exact⟨.exit id,f,σ',b,rfl,j,i⟩
   |ret=>exact⟨.ret,f,σ',b,rfl,j,i⟩
  grind
 all_goals(revert c;(repeat' split)<;>intro c<;>first|grind|simp_all)
theorem bM{c:Opd}{x y:am}{Q:Ex->Fr->St->Prop}{t:Bool}(hb:c.ev fr=.bool t)(h1:t=true->Tri P nt k x Q fr σ)(h2:t=false->Tri P nt k y Q fr σ):Tri P nt k (.cond c x y) Q fr σ:=by
 intro fx code hc C loc a w hs;cases code<;>simp only[iS,reduceCtorEq]at hc
 case cond c0 u v=>
  split at hc
  ·rename_i c' x' y' k1 k2 k3;simp only[afC,am.cond.injEq]at hc;obtain⟨rfl,rfl,rfl⟩:=hc;have hv:=hs.opd c0 c' k1;rw[hb]at hv;simp only[Rl]at hv;cases t
   ·exact wp_cond hv (h2 rfl fx v k3 C loc a w hs)
   ·exact wp_cond hv (h1 rfl fx u k2 C loc a w hs)
  ·cases hc
  ·cases hc
 all_goals(exfalso;revert hc;(repeat' split)<;>intro hc<;>first|(cases hc;done)|(obtain⟨_,_,hc⟩:=afI.1 hc;cases hc;done))
theorem Wf{c:Opd}{y:am}{Q:Ex->Fr->St->Prop}(hb:c.ev fr=.bool false)(h:Tri P nt k y Q fr σ):Tri P nt k (.cndF c y) Q fr σ:=by
 intro fx code hc C loc a w hs;cases code<;>simp only[iS,reduceCtorEq]at hc
 case cond c0 u v=>
  split at hc
  ·cases hc
  ·rename_i c' y' k1 k2 k3;simp only[afC,am.cndF.injEq]at hc;obtain⟨rfl,rfl⟩:=hc;have hv:=hs.opd c0 c' k1;rw[hb]at hv;simp only[Rl]at hv;exact wp_cond hv (h fx v k3 C loc a w hs)
  ·cases hc
 all_goals(exfalso;revert hc;(repeat' split)<;>intro hc<;>first|(cases hc;done)|(obtain⟨_,_,hc⟩:=afI.1 hc;cases hc;done))
theorem AD{Q:Ex->Fr->St->Prop}(h:Q .normal fr σ):Tri P nt k .lbl Q fr σ:=by
 intro fx code hc C loc a w hs;cases code<;>simp only[iS,reduceCtorEq]at hc
 case label=>exact wp_label ⟨.normal,fr,σ,loc,rfl,h,hs⟩
 all_goals(exfalso;revert hc;(repeat' split)<;>intro hc<;>first|(cases hc;done)|(obtain⟨_,_,hc⟩:=afI.1 hc;cases hc;done))
theorem AE{x:am}{Q:Ex->Fr->St->Prop}(h:Tri P nt k x Q fr σ):Tri P nt k (.scp x) Q fr σ:=by
 intro fx code hc C loc a w hs;cases code<;>simp only[iS,reduceCtorEq]at hc
 case scope u=>
  obtain⟨x',k1,k2⟩:=afI.1 hc;simp only[am.scp.injEq]at k2;subst k2;refine wp_scope_straight (wp_mono (h fx u k1 C loc a w hs) fun ex a' w' ⟨e,fr',σ',loc',g1,g2,g3⟩=>?_);subst g1;cases e<;>exact⟨_,fr',σ',loc',rfl,g2,g3⟩
 all_goals(exfalso;revert hc;(repeat' split)<;>intro hc<;>first|(cases hc;done)|(obtain⟨_,_,hc⟩:=afI.1 hc;cases hc;done))
theorem iz{id:Nat}{x:am}{Q:Ex->Fr->St->Prop}(h:Tri P nt k x (mo id Q) fr σ):Tri P nt k (.block id x) Q fr σ:=by
 intro o f g C loc a w n;cases f<;>simp only[iS]at g
 case block i u=>
  obtain⟨y,p,q⟩:=afI.1 g;obtain⟨rfl,rfl⟩:=q;refine wp_block (wp_mono (h o u p C loc a w n) fun ex v w' ⟨e,d,σ',b,t,l,m⟩=>?_);subst t;cases e with
  |normal=>exact⟨.normal,d,σ',b,rfl,l,m⟩
  |ret=>exact⟨.ret,d,σ',b,rfl,l,m⟩
  | exit j =>
    simp only[Ex.to,Exit.inBlock];simp only[mo]at l;split at l
    ·grind
    grind
 all_goals(revert g;(repeat' split)<;>intro g<;>first|grind|simp_all)
theorem rW{x:am}{Q:Ex->Fr->St->Prop}(I:Nat->Fr->St->Prop)(m:Nat)(A:I m fr σ)(f:∀m fr σ,I m fr σ->Tri P nt k x (fK (fun fr σ=>∃l,l<m/\I l fr σ) Q) fr σ):Tri P nt k (.loop x) Q fr σ:=by
 intro B h j C loc a w z;cases h<;>simp only[iS]at j
 case loop u=>
  obtain⟨F,D,s⟩:=afI.1 j;simp only[am.loop.injEq]at s;subst s;refine N2 (fun m a w=>∃fr σ loc,I m fr σ/\SR C nt k fr σ loc a w) m ⟨fr,σ,loc,A,z⟩ fun m a w ⟨p,σ1,i,v,t⟩=>?_
  refine wp_mono (f m p σ1 v B u D C i a w t) fun ex G w' ⟨e,d,σ',b,y,o,q⟩=>?_
  subst y;cases e with
  | normal =>
    obtain⟨l,E,n⟩:=o;exact⟨l,E,d,σ',b,n,q⟩
  |exit id=>exact⟨.exit id,d,σ',b,rfl,o,q⟩
  |ret=>exact⟨.ret,d,σ',b,rfl,o,q⟩
 all_goals(revert j;(repeat' split)<;>intro j<;>first|grind|simp_all)
theorem fQ{l:List cS}{Q:Ex->Fr->St->Prop}(h:rD P l (fun fr σ=>Q .normal fr σ) fr σ):Tri P nt k (.reg l) Q fr σ:=by
 intro u j f C loc a w o;cases j<;>simp only[iS]at f
 case region id ops draw=>
  split at f
  ·rename_i p n
   cases draw
   ·simp only[afP,acq,afC,am.reg.injEq]at f;subst f;refine wp_region_list ?_;have:=C3 (C:=C) (k:=k) (Q:=fun ex m w'=>∃e d σ' c,ex=Ex.to e/\Q e d σ'/\SR C nt k d σ' c m w') (Q':=fun fr σ=>Q .normal fr σ) (fun d σ' c m w' t r=>⟨.normal,d,σ',c,rfl,t,r⟩) ops.toList p fr σ loc a w n o h;omega
   grind
  grind
 all_goals(revert f;(repeat' split)<;>intro f<;>first|grind|simp_all)
end
mutual
def fz(σ:St)(zs:List Nat):AV->AV
 |.dead=>.dead
 |.bool b=>.bool b
 |.int k n=>.int k n
 |.str s=>.str s
 |.agg cs=>.agg (fzL σ zs cs)
 |.sl e cl xs=>.sl e cl (gm σ zs xs)
 |.tup us=>.tup (fzL σ zs us)
 |.ptr id off=>.ptr id off
 |.nilp=>.nilp
 | .hs e id off len => if zs.contains id then match σ[id]? with
   |some (.vec e' xs)=>if e'=e/\off+len<=xs.length then .sl e false ((xs.drop off).take len)else .hs e id off len
   |_=>.hs e id off len else .hs e id off len
 |.va e id off len=>.va e id off len
 |.elt e xs i off=>.elt e (gm σ zs xs) i off
 |.vp e id i off=>.vp e id i off
 |.fn f caps=>.fn f (fzL σ zs caps)
 |.nilf=>.nilf
 |.mp id=>.mp id
 |.any=>.any
def fzL(σ:St)(zs:List Nat):List AV->List AV
 | []=>[]
 |c::cs=>fz σ zs c::fzL σ zs cs
def gm(σ:St)(zs:List Nat):List (List AV)->List (List AV)
 | []=>[]
 |x::xs=>fzL σ zs x::gm σ zs xs
end
@[simp] theorem MC(σ:St)(d:List Nat):∀cs,(fzL σ d cs).length=cs.length
 | []=>rfl
 |c::cs=>by simp[fzL,MC σ d cs]
@[simp] theorem J7(σ:St)(d:List Nat):∀cs,(gm σ d cs).length=cs.length
 | []=>rfl
 |c::cs=>by simp[gm,J7 σ d cs]
def fzO(σ:St)(zs:List Nat):bZ->bZ
 |.gone=>.gone
 |.var cs=>.var (fzL σ zs cs)
 |.vec e xs=>.vec e (gm σ zs xs)
 |.vex e xs=>.vex e (gm σ zs xs)
 |.map es=>.map (gm σ zs es)
 |.iter m n seen=>.iter m n seen
theorem UB(σ:St)(c:List Nat)(o:bZ):(fzO σ c o).live=o.live:=by cases o<;>rfl
theorem WR(σ:St)(d:List Nat)(c:AV):(fz σ d c).cell=c.cell:=by
 cases c
 case hs e id off len=>
  simp only[fz];(repeat' split)<;>rfl
 all_goals rfl
section
variable{X:Nat->Prop}{loc:Nat->Option Loc}{σ:St}{w:World}{zs:List Nat}{F':Nat->Prop}
theorem aaH (y : Rel X loc σ w) (k : ∀ b, F' b -> im X σ loc b) (u : ∀ (id : Nat) (o : bZ) (L : Loc), id ∈ zs -> σ[id]? = some o -> o.live = true -> loc id = some L -> L.has = true -> ¬ F' L.blk)
 {e id off c:Nat} {v:Value} (h:Rl (aR X loc σ w) (.hs e id off c) v):Rl ⟨loc,F',w⟩ (fz σ zs (.hs e id off c)) v:=by
 simp only[fz];split
 ·have m:id∈zs:=af3
  split
  ·rename_i f xs hσ
   split
   ·rename_i C
    obtain⟨rfl,n⟩:=C;obtain⟨a,p,L,rfl,D,I,B,j,d⟩:=h;refine⟨a,c,p,rfl,af3,D,I,af1,B,?_⟩;by_cases O:c=0
    ·omega
    ·rcases d with d|⟨d,rfl,N⟩
     ·omega
     ·rcases y.vec hσ j with⟨P,_⟩|⟨_,cs,E,ws,t,F,r,H,g,_⟩
      ·grind
      ·have s:=g.length;have J:off*f+c*f<=E.length:=by rw[s,<-acQ];exact acr _ n
       have A:=pX (lW F) (off*f) (c*f) J;rw[r]at A;have i:nI (aR X loc σ w) ⟨loc,F',w⟩:=⟨fun _ _ h=>h,afE _,fun b _ K=>⟨fun h=>K (k b h),rfl⟩⟩;exact .inr ⟨L.blk,L.base+off*f,_,rfl,aV.lt y ⟨id,_,L,hσ,rfl,j,d,rfl⟩,u id _ L m hσ rfl j d,A,RlE.mono i _ _ _ ((g.drop off).take c)⟩
   ·exact h
  ·exact h
 ·exact h
mutual
theorem SM(hr:Rel X loc σ w)(hF1:∀b,F' b->im X σ loc b)(hF2:∀ (id:Nat) (o:bZ) (L:Loc),id∈zs->σ[id]?=some o->o.live=true->loc id=some L->L.has=true->¬F' L.blk):
 ∀ (av:AV) (v:Value),Rl (aR X loc σ w) av v->Rl ⟨loc,F',w⟩ (fz σ zs av) v
 |.dead,v,_=>trivial
 |.bool b,v,h=>h
 |.int k n,v,h=>h
 |.str s,v,h=>h
 | .agg cs, v, h => by
   obtain⟨vs,h1,h2⟩:=h;exact⟨vs,h1,G1 hr hF1 hF2 cs vs h2⟩
 | .sl e cl xs, v, h => by
   obtain⟨a,n,cap,h1,h2,h3,h4,h5,h6,h7⟩:=h;refine⟨a,n,cap,h1,by simpa using h2,h3,h4,h5,h6,h7.imp id ?_⟩;rintro⟨b,off,vs,g1,g2,g3,g4,g5⟩;exact⟨b,off,vs,g1,g2,fun h=>g3 (hF1 b h),g4,AI hr hF1 hF2 e xs vs g5⟩
 | .tup us, v, h => by
   obtain⟨vs,h1,h2⟩:=h;exact⟨vs,h1,G2 hr hF1 hF2 us vs h2⟩
 |.ptr id off,v,h=>h
 |.nilp,v,h=>h
 |.hs e id off len,v,h=>aaH hr hF1 hF2 h
 |.va e id off len,v,h=>h
 | .elt e xs i off, v, h => by
   obtain⟨b,o,vs,g1,g2,g3,g4,g5⟩:=h;exact⟨b,o,vs,g1,g2,fun h=>g3 (hF1 b h),by simpa using g4,AI hr hF1 hF2 e xs vs g5⟩
 |.vp e id i off,v,h=>h
 | .fn f caps, v, h => by
   obtain⟨vs,h1,h2⟩:=h;exact⟨vs,h1,G2 hr hF1 hF2 caps vs h2⟩
 |.nilf,v,h=>h
 |.mp id,v,h=>h
 |.any,v,h=>h
theorem G1(hr:Rel X loc σ w)(hF1:∀b,F' b->im X σ loc b)(hF2:∀ (id:Nat) (o:bZ) (L:Loc),id∈zs->σ[id]?=some o->o.live=true->loc id=some L->L.has=true->¬F' L.blk):
 ∀ (cs:List AV) (vs:List Value),RlC (aR X loc σ w) cs vs->RlC ⟨loc,F',w⟩ (fzL σ zs cs) vs
 | [],_,h=>h
 | c :: cs, _, h => by
   obtain⟨u,us,rfl,h2,h3,h4⟩:=h;exact⟨u,us,rfl,by rw[WR];exact h2,SM hr hF1 hF2 c u h3,G1 hr hF1 hF2 cs us h4⟩
theorem G2(hr:Rel X loc σ w)(hF1:∀b,F' b->im X σ loc b)(hF2:∀ (id:Nat) (o:bZ) (L:Loc),id∈zs->σ[id]?=some o->o.live=true->loc id=some L->L.has=true->¬F' L.blk):
 ∀ (cs:List AV) (vs:List Value),RlS (aR X loc σ w) cs vs->RlS ⟨loc,F',w⟩ (fzL σ zs cs) vs
 | [],_,h=>h
 | c :: cs, _, h => by
   obtain⟨u,us,rfl,h3,h4⟩:=h;exact⟨u,us,rfl,SM hr hF1 hF2 c u h3,G2 hr hF1 hF2 cs us h4⟩
theorem AI(hr:Rel X loc σ w)(hF1:∀b,F' b->im X σ loc b)(hF2:∀ (id:Nat) (o:bZ) (L:Loc),id∈zs->σ[id]?=some o->o.live=true->loc id=some L->L.has=true->¬F' L.blk)(e:Nat):
 ∀ (xs:List (List AV)) (vs:List Value),RlE (aR X loc σ w) e xs vs->RlE ⟨loc,F',w⟩ e (gm σ zs xs) vs
 | [],_,h=>h
 | x :: xs, _, h => by
   obtain⟨us,ws,rfl,h2,h3,h4⟩:=h;exact⟨us,ws,rfl,h2,G1 hr hF1 hF2 x us h3,AI hr hF1 hF2 e xs ws h4⟩
end
theorem SL(hr:Rel X loc σ w)(hF1:∀b,F' b->im X σ loc b)(hF2:∀ (id:Nat) (o:bZ) (L:Loc),id∈zs->σ[id]?=some o->o.live=true->loc id=some L->L.has=true->¬F' L.blk):
 ∀ (xs:List (List AV)) (es:List MapEntry) (b:Nat),RlM (aR X loc σ w) xs es b->RlM ⟨loc,F',w⟩ (gm σ zs xs) es b
 | [],_,_,h=>h
 |x::xs,_,_,⟨e,r,h1,h2,h3,h4⟩=>⟨e,r,h1,G2 hr hF1 hF2 x _ h2,h3,SL hr hF1 hF2 xs r _ h4⟩
theorem Wz(p:Rel X loc σ w)(c:∀b,F' b->im X σ loc b)(d:∀ (id:Nat) (o:bZ) (L:Loc),id∈zs->σ[id]?=some o->o.live=true->loc id=some L->L.has=true->¬F' L.blk)(L:Loc)(o:bZ)(h:iA (aR X loc σ w) L o):
 iA ⟨loc,F',w⟩ L (fzO σ zs o):=by
 cases o with
 |gone=>trivial
 | var cs =>
   obtain⟨a,g,j,t,f,l⟩:=h;exact⟨a,g,j,t,f,G1 p c d _ _ l⟩
 | vec e xs =>
   rcases h with⟨a,g⟩|⟨a,cs,j,ws,t,f,l,q,r,y⟩
   ·subst g;exact .inl ⟨a,rfl⟩
   ·exact .inr ⟨a,cs,j,ws,t,f,l,q,AI p c d _ _ _ r,y⟩
 | vex e xs =>
   rcases h with⟨a,g⟩|⟨a,cs,j,t,f,l,q,r⟩
   ·subst g;exact .inl ⟨a,rfl⟩
   ·exact .inr ⟨a,cs,j,t,f,l,q,AI p c d _ _ _ r⟩
 | map z =>
   obtain⟨a,i,g,f⟩:=h;exact⟨a,i,af4,SL p c d _ _ _ f⟩
 |iter m n seen=>exact h
structure nJ(k:Nat)(σ:St)(zs js:List Nat)(σ2:St):Prop where
 fix:∀i,i<k->js[i]?=some i
 nodup:js.Nodup
 lt:∀j∈js,j<σ.length
 len:σ2.length=js.length
 obj:∀ (i:Nat) (o:bZ),σ2[i]?=some o->o=.gone\/∃j,js[i]?=some j/\j∉zs/\(σ[j]?).map (fzO σ zs)=some (jh (rn js σ.length) o)
theorem nJ.rel{k:Nat}{f:List Nat}{σ2:St}(I:nJ k σ zs f σ2)(q:Rel X loc σ w):
 ∃c:Nat->Option Loc,(∀i,c i=loc (rn f σ.length i))/\Rel X c σ2 w/\(∀b,aV σ2 c b->aV σ loc b)/\∀av v,Rl (aR X loc σ w) av v->∀n,fz σ zs av=ren (rn f σ.length) n->Rl (aR X c σ2 w) n v:=by
 have hR:∀i j:Nat,f[i]?=some j->rn f σ.length i=j:=fun i j u=>by simp[rn,u]
 have K:∀i:Nat,f.length<=i->rn f σ.length i=σ.length+(i-f.length):=fun i M=>by simp[rn,adb M]
 let c:Nat->Option Loc:=fun i=>loc (rn f σ.length i)
 have p:∀i,c i=loc (rn f σ.length i):=fun _=>rfl
 have d:∀ (i:Nat) (o:bZ),σ2[i]?=some o->o.live=true->∃ (j:Nat) (o':bZ),f[i]?=some j/\j∉zs/\σ[j]?=some o'/\fzO σ zs o'=jh (rn f σ.length) o/\o'.live=true/\c i=loc j:=by
  intro i o t l;rcases I.obj i o t with rfl|⟨j,s,x,g⟩
  ·cases l
  ·obtain⟨o',y,m⟩:=afI.1 g;refine⟨j,o',s,x,y,m,?_,af3⟩;rw[<-UB σ zs,m,cX];omega
 have e:∀b,aV σ2 c b->aV σ loc b:=by
  rintro b ⟨i,o,L,t,l,A,z,D⟩;obtain⟨j,o',s,x,g,y,m,J⟩:=d i o t l;exact⟨j,o',L,g,m,af3,z,D⟩
 have B:∀b,im X σ2 c b->im X σ loc b:=fun b H=>H.imp id (e b)
 have F:∀ (id:Nat) (o:bZ) (L:Loc),id∈zs->σ[id]?=some o->o.live=true->loc id=some L->L.has=true->¬im X σ2 c L.blk:=by
  intro id o L t l A z D G;rcases G with G|⟨i,P,Q,R,S,k3,U,V⟩
  ·exact(q.out _ G).2 ⟨id,o,L,l,A,z,D,rfl⟩
  ·obtain⟨j,o',s,x,g,y,m,J⟩:=d i P R S;refine q.apart j id o' o Q L af3 g l m A af3 z U D V
 refine⟨c,p,⟨fun i o t l=>?_,fun i j a b La Lb u t l A z D G g7 O=>?_,fun b H=>⟨(q.out b H).1,fun h=>(q.out b H).2 (e b h)⟩,fun i M=>?_⟩,e,fun av v s n x=>?_⟩
 ·obtain⟨j,o',s,x,g,y,m,J⟩:=d i o t l;obtain⟨L,m1,m2⟩:=q.obj j o' g m;refine⟨L,af3,?_⟩;have N:=Wz (F':=im X σ2 c) q B F L o' m2;rw[y]at N;exact(rz (E':=aR X c σ2 w) (E:=⟨loc,im X σ2 c,w⟩) (r:=rn f σ.length) p rfl rfl L o).2 N
 ·obtain⟨i',T,s,x,g,y,m,J⟩:=d i a t A;obtain⟨j',b',q1,q2,q3,q4,q5,q6⟩:=d j b l z;refine q.apart i' j' T b' La Lb ?_ g q3 m q5 af3 af3 g7 O;rintro rfl;obtain⟨hi1,e1⟩:=afO.1 s;obtain⟨hj1,e2⟩:=afO.1 q1;exact u ((afd I.nodup).1 (e1.trans e2.symm))
 ·rw[p,K i (by rw[<-I.len];omega)];exact q.beyond _ af0
 ·have g:=SM (F':=im X σ2 c) q B F av v s;rw[x]at g;exact(AJ (E':=aR X c σ2 w) (E:=⟨loc,im X σ2 c,w⟩) (r:=rn f σ.length) p rfl rfl n v).2 g
end
section
variable{P:Program}{C:Cx}{nt k:Nat}{fr:Fr}{σ:St}{loc:Nat->Option Loc}{a:Act}{w:World}
theorem SR.forget(h:SR C nt k fr σ loc a w){m e:List Nat}{σ2:St}(d:nJ k σ m e σ2)(v:k<=e.length){fr2:Fr}(f:∀t,fr2.get t=.dead\/fz σ m (fr.get t)=ren (rn e σ.length) (fr2.get t)):
 ∃c,SR C nt k fr2 σ2 c a w:=by
 obtain⟨c,p,n,r,q⟩:=d.rel h.rel;refine⟨c,n,fun t=>?_,h.size,h.dfr,h.ev,fun b s=>h.old b (r b s),fun i l=>?_,by rw[d.len];omega⟩
 ·rcases f t with g|g
  ·rw[g];trivial
  ·exact q _ _ (h.frm t) _ g
 ·rw[p,<-h.pre i l];simp[rn,d.fix i l]
theorem Ds{c:am}{Q:Ex->Fr->St->Prop}(i g:List Nat)(fr2:Fr)(σ2:St)(p:nJ k σ i g σ2)(s:k<=g.length)(f:∀t,fr2.get t=.dead\/fz σ i (fr.get t)=ren (rn g σ.length) (fr2.get t))(h:Tri P nt k c Q fr2 σ2):Tri P nt k c Q fr σ:=by
 intro o d q C loc a w r;obtain⟨e,l⟩:=r.forget p s f;exact h o d q C e a w l
theorem SR.slots(h:SR C nt k fr σ loc a w){fr2:Fr}(b:∀t,fr2.get t=.dead\/fr2.get t=fr.get t):SR C nt k fr2 σ loc a w:=
 ⟨h.rel,fun t=>by rcases b t with c|c<;>rw[c];trivial;exact h.frm t,h.size,h.dfr,h.ev,h.old,h.pre,h.klen⟩
theorem Sg{c:am}{Q:Ex->Fr->St->Prop}(fr2:Fr)(hfr:∀t,fr2.get t=.dead\/fr2.get t=fr.get t)(h:Tri P nt k c Q fr2 σ):Tri P nt k c Q fr σ:=
 fun fx code hc C loc a w hs=>h fx code hc C loc a w (hs.slots hfr)
inductive fS where
 |tmp (t:Nat)
 |cell (t:Nat) (ag:Bool) (sz:Nat)
 deriving Inhabited
def Hw(P:Program):ResultVar->Option fS
 |.tmp t=>some (.tmp t)
 |.cell a t=>(gQ P t).map fun p=>.cell a p.1 p.2
def ml(P:Program):List ResultVar->Option (List fS)
 | []=>some []
 | r :: rs => match Hw P r, ml P rs with
   |some a,some b=>some (a::b)
   |_,_=>none
def yv(fr:Fr)(σ:St):fS->Option AV
 |.tmp t=>some (fr.get t)
 | .cell t ag sz => match fr.get t with
   | .ptr id o => match σ[id]? with
     |some (.var cs)=>if o+sz<=cs.length then some (pack ag (cut cs o sz))else none
     |_=>none
   |_=>none
def dy(fr:Fr)(σ:St):List fS->Option (List AV)
 | []=>some []
 | x :: r => match yv fr σ x, dy fr σ r with
   |some a,some b=>some (a::b)
   |_,_=>none
def fJ(l:List AV):AV:=match l with
 | [x]=>x
 |xs=>.tup xs
def Wk(v r:AV):Prop:=∀E u,Rl E v u->Rl E r u
theorem Wk.refl(v:AV):Wk v v:=fun _ _ h=>h
theorem Wk.empty(e g:Nat)(d:Bool):Wk (.sl e true []) (.sl g d []):=by
 rintro E u ⟨a,n,b,rfl,l,i,j,h,k,m⟩;have:n=0:=af0
 subst this;exact⟨a,0,b,rfl,rfl,i,j,fun _=>h rfl,k,.inl rfl⟩
theorem Wk.open_(e:Nat)(f:Bool)(xs:List (List AV)):Wk (.sl e f xs) (.sl e false xs):=by
 rintro E u ⟨a,n,b,rfl,g,i,j,l,k,c⟩;exact⟨a,n,b,rfl,g,i,j,(fun h=>Bool.noConfusion h),k,c⟩
def WkL:List AV->List AV->Prop
 | [],[]=>True
 |v::vs,r::rs=>Wk v r/\WkL vs rs
 |_,_=>False
theorem WkL.rls{E:Env}:∀ {vs c:List AV} {a:List Value},WkL vs c->RlS E vs a->RlS E c a
 | [],[],a,_,h=>h
 | v :: vs, r :: c, a, e, h => by
   obtain⟨u,d,rfl,g,f⟩:=h;exact⟨u,d,rfl,e.1 _ _ g,WkL.rls e.2 f⟩
 | [],_::_,_,h,_|_::_,[],_,h,_=>h.elim
theorem Wk.tup{vs c:List AV}(h:WkL vs c):Wk (.tup vs) (.tup c):=by
 rintro E u ⟨e,rfl,d⟩;exact⟨e,rfl,h.rls d⟩
def xC(rs:List fS)(k:Nat)(σ':St)(r:AV):Ex->Fr->St->Prop
 |.exit _,_,_=>False
 |_,fr,σ1=>∃l zs js r0,dy fr σ1 rs=some l/\nJ k σ1 zs js σ'/\k<=js.length/\fz σ1 zs (fJ l)=ren (rn js σ1.length) r0/\Wk r0 r
def XY(tmps:Array Value):ResultVar->Sem Value
 |.tmp t=>pure (tmps.getD t undef)
 |.cell a t=>do loadVar t (<-asAddr (tmps.getD a undef))
theorem Nw(e:Func)(a:Array Value):results e a=(do
 let vs <-e.results.mapM (XY a)
 pure (if h:vs.size=1 then vs[0]else .tuple vs)):=by
 congr 2
theorem ic{X:Nat->Prop}{loc:Nat->Option Loc}{σ:St}{w:World}{l:Fr}{c:Array Value}(s:Rel X loc σ w)(o:∀t,Rl (aR X loc σ w) (l.get t) (c.getD t undef)){x:ResultVar}{y:fS}(p:Hw P x=some y){av:AV}(h:yv l σ y=some av):
 ∃v,Rl (aR X loc σ w) av v/\(XY c x).run P w=.ok v w:=by
 cases x with
 | tmp t =>
   cases p;cases h;exact⟨_,o t,by simp[XY]⟩
 | cell a t =>
   obtain⟨⟨u,e⟩,m,rfl⟩:=afI.1 p;simp only[yv]at h;split at h
   ·rename_i id d E
    have j:=o a;rw[E]at j;obtain⟨L,r,I,n⟩:=j;split at h
    ·rename_i cs hσ
     split at h
     ·cases h;obtain⟨_,q,A,H,C,k⟩:=s.var hσ r;have z:=k.length;have B:=mz C d e af0;rw[q,acC]at n;have g:((cs.drop d).take e).length=e:=af3
      refine⟨sB u ((A.drop d).take e),Rl.pack ((k.drop d).take e) fun D=>by subst D;exact g.trans (gv m).1,?_⟩;have:=sK P w L.blk d m B;simp[XY,n,asAddr,this]
     grind
    grind
   grind
theorem eN{P:Program}{x:ResultVar}{c:List ResultVar}{ys:List fS}(h:ml P (x::c)=some ys):∃y b,ys=y::b/\Hw P x=some y/\ml P c=some b:=by
 simp only[ml]at h;split at h
 ·grind
 grind
theorem dO{c:Fr}{σ:St}{y:fS}{ys:List fS}{l:List AV}(h:dy c σ (y::ys)=some l):∃a d,l=a::d/\yv c σ y=some a/\dy c σ ys=some d:=by
 simp only[dy]at h;split at h
 ·grind
 grind
theorem KN{X:Nat->Prop}{loc:Nat->Option Loc}{σ:St}{w:World}{fr:Fr}{tmps:Array Value}(hr:Rel X loc σ w)(hf:∀t,Rl (aR X loc σ w) (fr.get t) (tmps.getD t undef)){fn:Func}{l:List AV}{rs:List ResultVar}{ys:List fS}(hrs:fn.results=rs.toArray)(hl:rs.length<=5)(hc:ml P rs=some ys)(h:dy fr σ ys=some l):
 ∃v,Rl (aR X loc σ w) (fJ l) v/\(results fn tmps).run P w=.ok v w:=by
 rw[Nw,hrs];match rs,hl with
 | [], _ =>
   cases hc;cases h;exact⟨.tuple #[],⟨[],rfl,rfl⟩,af1⟩
 | [x1], _ =>
   obtain⟨y1,ys,rfl,c1,hc⟩:=eN hc;obtain⟨a1,l,rfl,b1,h⟩:=dO h;cases hc;cases h;obtain⟨v1,e1,d1⟩:=ic hr hf c1 b1;exact⟨v1,e1,af4⟩
 | [x1, x2], _ =>
   obtain⟨y1,ys,rfl,c1,hc⟩:=eN hc;obtain⟨y2,ys,rfl,c2,hc⟩:=eN hc;obtain⟨a1,l,rfl,b1,h⟩:=dO h;obtain⟨a2,l,rfl,b2,h⟩:=dO h;cases hc;cases h;obtain⟨v1,e1,d1⟩:=ic hr hf c1 b1;obtain⟨v2,e2,d2⟩:=ic hr hf c2 b2;exact⟨.tuple #[v1,v2],⟨[_,_],rfl,_,_,rfl,e1,_,_,rfl,e2,rfl⟩,af4⟩
 | [x1, x2, x3], _ =>
   obtain⟨y1,ys,rfl,c1,hc⟩:=eN hc;obtain⟨y2,ys,rfl,c2,hc⟩:=eN hc;obtain⟨y3,ys,rfl,c3,hc⟩:=eN hc;obtain⟨a1,l,rfl,b1,h⟩:=dO h;obtain⟨a2,l,rfl,b2,h⟩:=dO h;obtain⟨a3,l,rfl,b3,h⟩:=dO h;cases hc;cases h;obtain⟨v1,e1,d1⟩:=ic hr hf c1 b1;obtain⟨v2,e2,d2⟩:=ic hr hf c2 b2;obtain⟨v3,e3,d3⟩:=ic hr hf c3 b3;exact⟨.tuple #[v1,v2,v3],⟨[_,_,_],rfl,_,_,rfl,e1,_,_,rfl,e2,_,_,rfl,e3,rfl⟩,af4⟩
 | [x1, x2, x3, x4], _ =>
   obtain⟨y1,ys,rfl,c1,hc⟩:=eN hc;obtain⟨y2,ys,rfl,c2,hc⟩:=eN hc;obtain⟨y3,ys,rfl,c3,hc⟩:=eN hc;obtain⟨y4,ys,rfl,c4,hc⟩:=eN hc;obtain⟨a1,l,rfl,b1,h⟩:=dO h;obtain⟨a2,l,rfl,b2,h⟩:=dO h;obtain⟨a3,l,rfl,b3,h⟩:=dO h;obtain⟨a4,l,rfl,b4,h⟩:=dO h;cases hc;cases h;obtain⟨v1,e1,d1⟩:=ic hr hf c1 b1;obtain⟨v2,e2,d2⟩:=ic hr hf c2 b2;obtain⟨v3,e3,d3⟩:=ic hr hf c3 b3;obtain⟨v4,e4,d4⟩:=ic hr hf c4 b4;exact⟨.tuple #[v1,v2,v3,v4],⟨[_,_,_,_],rfl,_,_,rfl,e1,_,_,rfl,e2,_,_,rfl,e3,_,_,rfl,e4,rfl⟩,af4⟩
 | [x1, x2, x3, x4, x5], _ =>
   obtain⟨y1,ys,rfl,c1,hc⟩:=eN hc;obtain⟨y2,ys,rfl,c2,hc⟩:=eN hc;obtain⟨y3,ys,rfl,c3,hc⟩:=eN hc;obtain⟨y4,ys,rfl,c4,hc⟩:=eN hc;obtain⟨y5,ys,rfl,c5,hc⟩:=eN hc;obtain⟨a1,l,rfl,b1,h⟩:=dO h;obtain⟨a2,l,rfl,b2,h⟩:=dO h;obtain⟨a3,l,rfl,b3,h⟩:=dO h;obtain⟨a4,l,rfl,b4,h⟩:=dO h;obtain⟨a5,l,rfl,b5,h⟩:=dO h;cases hc;cases h;obtain⟨v1,e1,d1⟩:=ic hr hf c1 b1;obtain⟨v2,e2,d2⟩:=ic hr hf c2 b2;obtain⟨v3,e3,d3⟩:=ic hr hf c3 b3;obtain⟨v4,e4,d4⟩:=ic hr hf c4 b4;obtain⟨v5,e5,d5⟩:=ic hr hf c5 b5;exact⟨.tuple #[v1,v2,v3,v4,v5],⟨[_,_,_,_,_],rfl,_,_,rfl,e1,_,_,rfl,e2,_,_,rfl,e3,_,_,rfl,e4,_,_,rfl,e5,rfl⟩,af4⟩
theorem aJ.of_body{f:FuncId}{fn:Func}{c:Code}{ac:am}{rs:List ResultVar}{ys:List fS}{args:List AV}{r:AV}{σ':St}(nv:Nat)(hf:P.funcs[f]?=some fn)(hb:fn.body=some c)(hn:pD P f=true){fx:Bool}(hc:iS fx P fn.ntmps c=some ac)
 (hrs:fn.results=rs.toArray) (hl:rs.length<=5) (hys:ml P rs=some ys) (ha:args.length<=fn.ntmps)
 (h:Tri P fn.ntmps σ.length ac (xC ys σ.length σ' r) ⟨nv,args++List.replicate (nv-args.length) .dead,[]⟩ σ) (hlen:σ.length<=σ'.length):aJ P f args σ r σ':=by
 refine⟨hn,hlen,fun X loc w vs hr hv=>?_⟩;have hvl:=hv.length;let C:Cx:=⟨X,w,aV σ loc,loc⟩
 have hs : SR C fn.ntmps σ.length ⟨nv, args ++ List.replicate (nv - args.length) .dead, []⟩ σ loc { tmps := vs.toArray ++ Array.replicate (fn.ntmps - vs.toArray.size) undef, defers := [] } w := by
  refine⟨hr,fun t=>?_,?_,rfl,Ev.refl _ _,fun b hb=>.inl hb,fun _ _=>rfl,afE _⟩
  ·unfold Fr.get
   simp only;split
   ·by_cases ht:t<args.length
    ·obtain⟨u,h1,h2⟩:=hv.get t ht
     have e1:(args++List.replicate (nv-args.length) AV.dead).getD t .dead=args[t]:=by
      rw[afy,afU ht,afz ht];rfl
     have e2:(vs.toArray++Array.replicate (fn.ntmps-vs.toArray.size) undef).getD t undef=u:=by
      rw[adp,Array.getElem?_append_left (by simp;omega)];simp[h1]
     rw[e1,e2];exact h2
    ·have e1:(args++List.replicate (nv-args.length) AV.dead).getD t .dead=.dead:=by
      rw[afy,acS af0,aec];split<;>rfl
     rw[e1];trivial
   ·simp[qB];trivial
  ·simp;omega
 have hw:=h fx c hc C loc _ w hs;refine calls_of_wp hf hb (wp_mono hw fun ex a' w' ⟨e,fr',σ1,loc1,he,hq,hs'⟩=>?_)
 have key:e=.normal\/e=.ret->∃v,(results fn a'.tmps).run P w'=.ok v w'/\∃loc',Out X loc σ w r σ' v w' loc'/\∀id,id<σ.length->loc' id=loc id:=by
  intro hcase
  have hq':∃l zs js r0,dy fr' σ1 ys=some l/\nJ σ.length σ1 zs js σ'/\σ.length<=js.length/\fz σ1 zs (fJ l)=ren (rn js σ1.length) r0/\Wk r0 r:=by
   rcases hcase with rfl|rfl<;>exact hq
  obtain⟨l,zs,js,r0,q1,q2,q3,q4,q5⟩:=hq';obtain⟨v,g1,g2⟩:=KN (P:=P) hs'.rel hs'.frm hrs hl hys q1;obtain⟨loc2,m1,m2,m3,m4⟩:=q2.rel hs'.rel
  have hfix:∀id,id<σ.length->loc2 id=loc id:=by
   intro id hlt;rw[m1];have:rn js σ1.length id=id:=by simp[rn,List.getD,q2.fix id hlt]
   rw[this,hs'.pre id hlt]
  refine⟨v,g2,loc2,⟨fun id L hid=>?_,m2,q5 _ _ (m4 _ _ g1 _ q4),hs'.ev,fun b hb=>hs'.old b (m3 b hb)⟩,hfix⟩
  have hlt:id<σ.length:=by
   rcases aeg id σ.length with h1|h1
   ·exact h1
   ·rw[hr.beyond id h1]at hid;cases hid
  rw[hfix id hlt];exact hid
 subst he;cases e with
 |exit id=>exact hq.elim
 | normal =>
   obtain⟨v,g1,loc',g2,g3⟩:=key (.inl rfl);exact⟨hs'.dfr,v,g1,v,loc',rfl,g2,g3⟩
 | ret =>
   obtain⟨v,g1,loc',g2,g3⟩:=key (.inr rfl);exact⟨hs'.dfr,v,g1,v,loc',rfl,g2,g3⟩
end
theorem iQ{ρ ρ2:Opd->AV}{d:Int}{b:Option Opd}(h:∀x∈b.toList,ρ x=ρ2 x):bz ρ d b=bz ρ2 d b:=by
 cases b with
 |none=>rfl
 |some x=>simp only[bz,h x af1]
theorem QL{n:Nat}{σ:St}{ρ ρ2:Opd->AV}{K:AV->List Nat->Bool->St->Prop}{op:AOp}(h:∀x∈op.opds,ρ x=ρ2 x):opF n σ ρ K op=opF n σ ρ2 K op:=by
 cases op<;>simp only[AOp.opds,acW,List.not_mem_nil,aeO,forall_eq_or_imp,forall_eq]at h<;>simp only[opF]
 case pick c a b=>rw[h.1,h.2.1,h.2.2]
 case bld z ps=>
  have e:(ps.map fun p=>(p.1,p.2.1,ρ p.2.2))=ps.map fun p=>(p.1,p.2.1,ρ2 p.2.2):=acN fun p hp=>by rw[h _ (acz.2 ⟨p,hp,rfl⟩)]
  rw[e]
 case bldS e m z ps=>
  have e:(ps.map fun p=>(p.1,ρ p.2))=ps.map fun p=>(p.1,ρ2 p.2):=acN fun p hp=>by rw[h _ (acz.2 ⟨p,hp,rfl⟩)]
  rw[e]
 case bldO e m z ps=>
  have e:(ps.map fun p=>(p.1,ρ p.2))=ps.map fun p=>(p.1,ρ2 p.2):=acN fun p hp=>by rw[h _ (acz.2 ⟨p,hp,rfl⟩)]
  rw[e]
 case sli e x lo hi mx=>
  obtain⟨h0,h1⟩:=h;have a1:∀d,bz ρ d lo=bz ρ2 d lo:=fun d=>iQ fun x hx=>h1 x (by simp at hx ⊢;simp[hx])
  have a2:∀d,bz ρ d hi=bz ρ2 d hi:=fun d=>iQ fun x hx=>h1 x (by simp at hx ⊢;simp[hx])
  have a3:∀d,bz ρ d mx=bz ρ2 d mx:=fun d=>iQ fun x hx=>h1 x (by simp at hx ⊢;simp[hx])
  simp only[h0,a1,a2,a3]
 case sliA e m x lo hi=>
  obtain⟨h0,h1⟩:=h;have a1:∀d,bz ρ d lo=bz ρ2 d lo:=fun d=>iQ fun x hx=>h1 x (by simp at hx ⊢;simp[hx])
  have a2:∀d,bz ρ d hi=bz ρ2 d hi:=fun d=>iQ fun x hx=>h1 x (by simp at hx ⊢;simp[hx])
  simp only[h0,a1,a2]
 case slx e x lo hi mx=>
  obtain⟨h0,h1⟩:=h;have a1:∀d,bz ρ d lo=bz ρ2 d lo:=fun d=>iQ fun x hx=>h1 x (by simp at hx ⊢;simp[hx])
  have a2:∀d,bz ρ d hi=bz ρ2 d hi:=fun d=>iQ fun x hx=>h1 x (by simp at hx ⊢;simp[hx])
  have a3:∀d,bz ρ d mx=bz ρ2 d mx:=fun d=>iQ fun x hx=>h1 x (by simp at hx ⊢;simp[hx])
  simp only[h0,a1,a2,a3]
 case mn xs=>rw[acN h]
 case mx xs=>rw[acN h]
 case mkf f xs=>rw[acN h]
 case mop q xs=>rw[acN h]
 all_goals first
  |rfl
  |(rw[h])
  |(rw[h.1,h.2])
theorem S6{d:BinOp}{k f:IntKind}{a b:Int}{K:AV->Prop}(h:mZ d k a f b K):∃v,K v/\∀e:AV->Prop,e v->mZ d k a f b e:=by
 cases d<;>simp only[mZ]at h ⊢<;>first
  |grind
  |omega
def tV(τ:St)(ft:List Nat)(σ':St):St:=(List.range τ.length).map fun i=>if ft.contains i then σ'.getD i .gone else τ.getD i .gone
@[simp] theorem fH(τ:St)(ft:List Nat)(σ':St):(tV τ ft σ').length=τ.length:=by simp[tV]
theorem TU(τ:St)(ft:List Nat)(σ':St)(i:Nat)(c:i<τ.length):(tV τ ft σ')[i]?=some (if i∈ft then σ'.getD i .gone else τ.getD i .gone):=by
 simp[tV,c]
theorem Ol{σ:St}{i:Nat}(h:i<σ.length):σ[i]?=some (σ.getD i .gone):=by grind
theorem sL{σ τ:St}(d:σ.length=τ.length)(h:∀i,i<σ.length->σ.getD i .gone=τ.getD i .gone):σ=τ:=by
 apply ac1 
 intro i;by_cases c:i<σ.length
 ·grind
 grind
theorem ir(τ:St)(ft:List Nat)(σ':St)(i:Nat)(d:i<τ.length):(tV τ ft σ').getD i .gone=if i∈ft then σ'.getD i .gone else τ.getD i .gone:=by
 rw[afy,TU τ ft σ' i d];rfl
theorem aaI(σ:St)(j:Nat)(o:bZ)(i:Nat):(σ.set j o).getD i .gone=if i=j/\j<σ.length then o else σ.getD i .gone:=by
 grind
theorem Y1(σ:St){j:Nat}(o:bZ){i:Nat}(h:i≠j):(σ.set j o).getD i .gone=σ.getD i .gone:=by
 grind
structure tW(σ:St)(ft:List Nat)(wr:Bool)(σ':St)(R:St->St->Prop):Prop where
 len:σ'.length=σ.length
 keep:∀i,i∉ft->σ'.getD i .gone=σ.getD i .gone
 same:wr=false->σ'=σ
 else_:∀τ:St,τ.length=σ.length->(∀i∈ft,τ.getD i .gone=σ.getD i .gone)->R τ (tV τ ft σ')
theorem tW.pure{σ:St}{ft:List Nat}{wr:Bool}{R:St->St->Prop}(h:∀τ:St,τ.length=σ.length->(∀i∈ft,τ.getD i .gone=σ.getD i .gone)->R τ τ):tW σ ft wr σ R:=
 ⟨rfl,fun _ _=>rfl,fun _=>rfl,fun τ c d=>by
  have:tV τ ft σ=τ:=sL af1 fun i b=>by
   rw[fH]at b;rw[ir τ ft σ i b];split
   ·grind
   simp
  grind⟩
theorem tW.set{σ:St}{ft:List Nat}{id:Nat}{o:bZ}{R:St->St->Prop}(c:id∈ft)(h:∀τ:St,τ.length=σ.length->(∀i∈ft,τ.getD i .gone=σ.getD i .gone)->R τ (τ.set id o)):tW σ ft true (σ.set id o) R:=
 ⟨af1, fun i b => by grind, (fun h => by grind), fun τ e d => by
  have:tV τ ft (σ.set id o)=τ.set id o:=sL af1 fun i b=>by
   rw[fH]at b;rw[ir τ ft _ i b];split
   ·grind
   grind
  grind⟩
theorem tW.set2{σ:St}{ft:List Nat}{id n:Nat}{o b:bZ}{R:St->St->Prop}(d:id∈ft)(f:n∈ft)(h:∀τ:St,τ.length=σ.length->(∀i∈ft,τ.getD i .gone=σ.getD i .gone)->R τ ((τ.set id o).set n b)):tW σ ft true ((σ.set id o).set n b) R:=
 ⟨af1, fun i c => by grind, (fun h => by grind), fun τ g e => by
  have:tV τ ft ((σ.set id o).set n b)=(τ.set id o).set n b:=sL af1 fun i c=>by
   rw[fH]at c;rw[ir τ ft _ i c];split
   ·grind
   grind
  grind⟩
theorem bA{σ τ:St}{id:Nat}{o:bZ}(c:τ.length=σ.length)(h:τ.getD id .gone=σ.getD id .gone)(hσ:σ[id]?=some o):τ[id]?=some o:=by
 grind
theorem kf{σ τ:St}{e:Nat}{av:AV}{ys:List (List AV)}(d:τ.length=σ.length)(h:rdS σ e av=some ys)(c:∀i∈mV av,τ.getD i .gone=σ.getD i .gone):rdS τ e av=some ys:=by
 cases av<;>simp only[rdS,reduceCtorEq]at h ⊢
 case sl=>omega
 case str=>omega
 case hs e' id off len=>
  split at h
  ·split at h
   ·rename_i f xs hσ;rw[bA d (c id (by simp[mV])) hσ];grind
   grind
  grind
 case va e' id off len=>
  split at h
  ·split at h
   ·rename_i cs hσ;rw[bA d (c id (by simp[mV])) hσ];grind
   grind
  grind
theorem jk{σ τ:St}{id:Nat}{p:Bool×Nat×List (List AV)}(c:τ.length=σ.length)(d:τ.getD id .gone=σ.getD id .gone)(h:rws σ[id]?=some p):rws τ[id]?=some p:=by
 grind
theorem yn{σ τ:St}{e:Nat}{av:AV}{ys:List (List AV)}(d:τ.length=σ.length)(h:rdX σ e av=some ys)(c:∀i∈mV av,τ.getD i .gone=σ.getD i .gone):rdX τ e av=some ys:=by
 unfold rdX at h ⊢;split at h
 ·rename_i g id off f
  split at h
  ·split at h
   ·rename_i hσ;rw[jk d (c id (by simp[mV])) hσ];grind
   grind
  grind
 ·exact kf d h c
theorem Ga {n : Nat} {σ : St} {ρ : Opd -> AV} {K : AV -> List Nat -> Bool -> St -> Prop} {op : AOp} (h : opF n σ ρ K op) :
 ∃v ft wr σ',K v ft wr σ'/\tW σ ft wr σ' (fun τ τ'=>opF n τ ρ (fun v1 f1 w1 t1=>v1=v/\f1=ft/\w1=wr/\t1=τ') op):=by
 cases op<;>simp only[opF]at h ⊢
 case mv x=>exact⟨_,_,_,_,h,.pure fun τ _ _=>⟨rfl,rfl,rfl,rfl⟩⟩
 case pick c a b=>
  split at h
  ·rename_i t ht;exact⟨_,_,_,_,h,.pure fun τ _ _=>⟨rfl,rfl,rfl,rfl⟩⟩
  ·exact h.elim
 case bin op x y=>
  split at h
  ·obtain⟨v,h1,h2⟩:=S6 h;exact⟨_,_,_,_,h1,.pure fun τ _ _=>h2 _ ⟨rfl,rfl,rfl,rfl⟩⟩
  ·exact h.elim
 case eqv kd neg x y=>
  split at h
  ·exact⟨_,_,_,_,h,.pure fun τ _ _=>⟨rfl,rfl,rfl,rfl⟩⟩
  ·exact h.elim
 case eqa ks neg x y=>
  split at h
  ·obtain⟨h1,h2,h⟩:=h;split at h
   ·exact⟨_,_,_,_,h,.pure fun τ _ _=>⟨h1,h2,rfl,rfl,rfl,rfl⟩⟩
   ·exact h.elim
  ·exact h.elim
 case un op x=>
  split at h
  ·exact⟨_,_,_,_,h,.pure fun τ _ _=>⟨rfl,rfl,rfl,rfl⟩⟩
  ·exact h.elim
 case cvt k x=>
  split at h
  ·exact⟨_,_,_,_,h,.pure fun τ _ _=>⟨rfl,rfl,rfl,rfl⟩⟩
  ·exact h.elim
 case b2s x=>
  split at h
  ·rename_i xs hxs
   obtain⟨hb,h⟩:=h;refine⟨_,_,_,_,h,.pure fun τ hl ht=>?_⟩
   have:rdB τ (ρ x)=some xs:=by
    generalize ρ x=A at *;cases A<;>simp only[rdB]at hxs ⊢<;>first|exact absurd hxs af1|exact kf hl hxs ht
   rw[this];exact⟨hb,rfl,rfl,rfl,rfl⟩
  ·exact h.elim
 case nilc x=>
  split at h<;>first|exact h.elim|exact⟨_,_,_,_,h,.pure fun τ _ _=>⟨rfl,rfl,rfl,rfl⟩⟩
 case fld ag off sz x=>
  split at h
  ·obtain⟨h1,h⟩:=h;exact⟨_,_,_,_,h,.pure fun τ _ _=>⟨h1,rfl,rfl,rfl,rfl⟩⟩
  ·exact h.elim
 case fldA off x=>
  split at h<;>first|exact h.elim|exact⟨_,_,_,_,h,.pure fun τ _ _=>⟨rfl,rfl,rfl,rfl⟩⟩
 case idx ag m e x i=>
  split at h
  ·obtain⟨h1,h2,h3,h⟩:=h;exact⟨_,_,_,_,h,.pure fun τ _ _=>⟨h1,h2,h3,rfl,rfl,rfl,rfl⟩⟩
  ·exact h.elim
 case idxA m e x i=>
  split at h<;>first|exact h.elim|(obtain⟨h1,h2,h⟩:=h;exact⟨_,_,_,_,h,.pure fun τ _ _=>⟨h1,h2,rfl,rfl,rfl,rfl⟩⟩)
 case idxS e x i=>
  split at h<;>first|exact h.elim|(obtain⟨h0,h1,h2,h⟩:=h;exact⟨_,_,_,_,h,.pure fun τ _ _=>⟨h0,h1,h2,rfl,rfl,rfl,rfl⟩⟩)
 case ld ag sz x=>
  split at h
  ·split at h
   ·rename_i hσ;obtain⟨h1,h⟩:=h;refine⟨_,_,_,_,h,.pure fun τ hl ht=>?_⟩;rw[bA hl (ht _ af1) hσ];exact⟨h1,rfl,rfl,rfl,rfl⟩
   ·exact h.elim
  ·split at h
   ·rename_i hσ;obtain⟨h1,h2,h3,h⟩:=h;refine⟨_,_,_,_,h,.pure fun τ hl ht=>?_⟩;rw[bA hl (ht _ af1) hσ];exact⟨h1,h2,h3,rfl,rfl,rfl,rfl⟩
   ·exact h.elim
  ·obtain⟨h1,h2,h⟩:=h;exact⟨_,_,_,_,h,.pure fun τ _ _=>⟨h1,h2,rfl,rfl,rfl,rfl⟩⟩
  ·exact h.elim
 case sto sz x y=>
  obtain⟨k1,k2,h⟩:=h;split at h
  ·split at h
   ·rename_i hσ;obtain⟨h1,h⟩:=h;refine⟨_,_,_,_,h,.set af1 fun τ hl ht=>?_⟩;rw[bA hl (ht _ af1) hσ];exact⟨k1,k2,h1,rfl,rfl,rfl,rfl⟩
   ·exact h.elim
  ·split at h
   ·rename_i hσ;obtain⟨h1,h2,h3,h⟩:=h;refine⟨_,_,_,_,h,.set af1 fun τ hl ht=>?_⟩;rw[bA hl (ht _ af1) hσ];exact⟨k1,k2,h1,h2,h3,rfl,rfl,rfl,rfl⟩
   ·exact h.elim
  ·exact h.elim
 case new z=>exact⟨_,_,_,_,h,.set af1 fun τ _ _=>⟨rfl,rfl,rfl,rfl⟩⟩
 case box sz x=>
  obtain⟨k1,k2,h⟩:=h;exact⟨_,_,_,_,h,.set af1 fun τ _ _=>⟨k1,k2,rfl,rfl,rfl,rfl⟩⟩
 case bld z ps=>obtain⟨k1,h⟩:=h;exact⟨_,_,_,_,h,.pure fun τ _ _=>⟨k1,rfl,rfl,rfl,rfl⟩⟩
 case bldS e m z ps=>obtain⟨k1,h⟩:=h;exact⟨_,_,_,_,h,.pure fun τ _ _=>⟨k1,rfl,rfl,rfl,rfl⟩⟩
 case bldO e m z ps=>obtain⟨k1,h⟩:=h;exact⟨_,_,_,_,h,.set af1 fun τ _ _=>⟨k1,rfl,rfl,rfl,rfl⟩⟩
 case mk e bytes z l c=>
  split at h
  ·obtain⟨h1,h2,h3,h4,h⟩:=h;exact⟨_,_,_,_,h,.set af1 fun τ _ _=>⟨h1,h2,h3,h4,rfl,rfl,rfl,rfl⟩⟩
  ·exact h.elim
 case sli e x lo hi mx=>
  split at h
  ·obtain⟨h1,h2,h3,h4,h5,h6,h⟩:=h;exact⟨_,_,_,_,h,.pure fun τ _ _=>⟨h1,h2,h3,h4,h5,h6,rfl,rfl,rfl,rfl⟩⟩
  ·obtain⟨h1,h⟩:=h;split at h
   ·obtain⟨h2,h3,h4,h⟩:=h;exact⟨_,_,_,_,h,.pure fun τ _ _=>⟨h1,h2,h3,h4,rfl,rfl,rfl,rfl⟩⟩
   ·obtain⟨h2,h3,h4,h5,h⟩:=h;exact⟨_,_,_,_,h,.pure fun τ _ _=>⟨h1,h2,h3,h4,h5,rfl,rfl,rfl,rfl⟩⟩
  ·obtain⟨h1,h2,h3,h4,h5,h⟩:=h;exact⟨_,_,_,_,h,.pure fun τ _ _=>⟨h1,h2,h3,h4,h5,rfl,rfl,rfl,rfl⟩⟩
  ·exact h.elim
 case sliA e m x lo hi=>
  split at h
  ·obtain⟨h1,h2,h3,h⟩:=h;exact⟨_,_,_,_,h,.pure fun τ _ _=>⟨h1,h2,h3,rfl,rfl,rfl,rfl⟩⟩
  ·exact h.elim
 case ext i x=>
  split at h
  ·obtain⟨h1,h⟩:=h;exact⟨_,_,_,_,h,.pure fun τ _ _=>⟨h1,rfl,rfl,rfl,rfl⟩⟩
  ·exact h.elim
 case len st x=>
  split at h
  ·exact⟨_,_,_,_,h,.pure fun τ _ _=>⟨rfl,rfl,rfl,rfl⟩⟩
  ·exact h.elim
 case cap x=>
  split at h
  ·exact⟨_,_,_,_,h,.pure fun τ _ _=>⟨rfl,rfl,rfl,rfl⟩⟩
  ·exact h.elim
 case app e bytes s x=>
  split at h
  ·exact h.elim
  ·rename_i ys hys
   split at h
   ·obtain⟨h1,h2,h3,h4,h5,h⟩:=h;refine⟨_,_,_,_,h,.set af1 fun τ hl ht=>?_⟩;rw[kf hl hys fun i hi=>ht i (acA _ hi)];exact⟨h1,h2,h3,h4,h5,rfl,rfl,rfl,rfl⟩
   ·obtain⟨h1,h⟩:=h
    split at h
    ·rename_i hσ;obtain⟨h2,h3,h4,h5,h⟩:=h;refine⟨_,_,_,_,h,.set2 af1 af1 fun τ hl ht=>?_⟩;rw[kf hl hys fun i hi=>ht i (acA _ (acA _ hi)),bA hl (ht _ af1) hσ];exact⟨h1,h2,h3,h4,h5,rfl,rfl,rfl,rfl⟩
    ·exact h.elim
   ·exact h.elim
 case cpy e d s=>
  split at h
  ·exact h.elim
  ·rename_i ys hys
   split at h
   ·obtain⟨h1,h⟩:=h
    split at h
    ·rename_i hσ;obtain⟨h2,h3,h⟩:=h;refine⟨_,_,_,_,h,.set af1 fun τ hl ht=>?_⟩;rw[kf hl hys fun i hi=>ht i (acA _ hi),bA hl (ht _ af1) hσ];exact⟨h1,h2,h3,rfl,rfl,rfl,rfl⟩
    ·exact h.elim
   ·obtain⟨h1,h⟩:=h
    split at h
    ·rename_i hσ;obtain⟨h3,h⟩:=h;refine⟨_,_,_,_,h,.set af1 fun τ hl ht=>?_⟩;rw[kf hl hys fun i hi=>ht i (acA _ hi),bA hl (ht _ af1) hσ];exact⟨h1,h3,rfl,rfl,rfl,rfl⟩
    ·exact h.elim
   ·exact h.elim
 case mn xs=>
  split at h
  ·split at h
   ·exact⟨_,_,_,_,h,.pure fun τ _ _=>⟨rfl,rfl,rfl,rfl⟩⟩
   ·exact h.elim
  ·exact h.elim
 case mx xs=>
  split at h
  ·split at h
   ·exact⟨_,_,_,_,h,.pure fun τ _ _=>⟨rfl,rfl,rfl,rfl⟩⟩
   ·exact h.elim
  ·exact h.elim
 case mkf f xs=>exact⟨_,_,_,_,h,.pure fun τ _ _=>⟨rfl,rfl,rfl,rfl⟩⟩
 case mop q xs=>
  generalize xs.map ρ=l at *;unfold mM at h;split at h
  ·exact⟨_,_,_,_,h,.set af1 fun τ _ _=>⟨rfl,rfl,rfl,rfl⟩⟩
  ·obtain⟨h1,h⟩:=h
   split at h
   ·rename_i hσ
    split at h
    ·rename_i hj;refine⟨_,_,_,_,h,.pure fun τ hl ht=>?_⟩;simp[mM,bA hl (ht _ af1) hσ,hj,h1]
    ·rename_i hj;refine⟨_,_,_,_,h,.pure fun τ hl ht=>?_⟩;simp[mM,bA hl (ht _ af1) hσ,hj,h1]
    ·exact h.elim
   ·exact h.elim
  ·obtain⟨h1,h⟩:=h
   split at h
   ·rename_i hσ
    split at h
    ·rename_i hj;refine⟨_,_,_,_,h,.set af1 fun τ hl ht=>?_⟩;simp[mM,bA hl (ht _ af1) hσ,hj,h1]
    ·rename_i hj;refine⟨_,_,_,_,h,.set af1 fun τ hl ht=>?_⟩;simp[mM,bA hl (ht _ af1) hσ,hj,h1]
    ·exact h.elim
   ·exact h.elim
  ·split at h
   ·rename_i hσ;refine⟨_,_,_,_,h,.set af1 fun τ hl ht=>?_⟩;simp[mM,bA hl (ht _ af1) hσ]
   ·exact h.elim
  ·split at h
   ·rename_i hσ
    split at h
    ·rename_i hla hσm;obtain⟨h1,h2,h⟩:=h;refine⟨_,_,_,_,h,.pure fun τ hl ht=>?_⟩;simp[mM,bA hl (ht _ af1) hσ,hla,bA hl (ht _ af1) hσm,h1,h2]
    ·exact h.elim
   ·exact h.elim
  ·exact h.elim
 case slx e x lo hi mx=>
  split at h
  ·obtain⟨h1,h⟩:=h
   split at h
   ·split at h
    ·rename_i hσ;obtain⟨h2,h3,h4,h5,h6,h⟩:=h;refine⟨_,_,_,_,h,.pure fun τ hl ht=>?_⟩;rw[jk hl (ht _ af1) hσ];exact⟨h1,h2,h3,h4,h5,h6,rfl,rfl,rfl,rfl⟩
    ·exact h.elim
   ·obtain⟨h2,h3,h4,h5,h6,h⟩:=h;exact⟨_,_,_,_,h,.pure fun τ _ _=>⟨h1,h2,h3,h4,h5,h6,rfl,rfl,rfl,rfl⟩⟩
  ·exact h.elim
 case apx e bytes s x=>
  split at h
  ·exact h.elim
  ·rename_i ys hys
   split at h
   ·obtain⟨h1,h⟩:=h
    split at h
    ·rename_i hσ
     obtain⟨h2,h3,h⟩:=h;split at h
     ·rename_i hin;refine⟨_,_,_,_,h,.set2 af1 af1 fun τ hl ht=>?_⟩;rw[yn hl hys fun i hi=>ht i (acA _ (acA _ hi)),jk hl (ht _ af1) hσ];refine⟨h1,h2,h3,?_⟩;rw[afA hin];exact⟨rfl,rfl,rfl,rfl⟩
     ·rename_i hin;obtain⟨h4,h5,h6,h⟩:=h;refine⟨_,_,_,_,h,.set af1 fun τ hl ht=>?_⟩;rw[yn hl hys fun i hi=>ht i (acA _ (acA _ hi)),jk hl (ht _ af1) hσ];refine⟨h1,h2,h3,?_⟩;rw[afx hin];exact⟨h4,h5,h6,rfl,rfl,rfl,rfl⟩
    ·exact h.elim
   ·exact h.elim
 case apm e bytes z s x=>
  split at h
  ·obtain⟨h1,h⟩:=h
   split at h
   ·rename_i hσ;obtain⟨h2,h3,h4,h5,h6,h7,h8,h⟩:=h;refine⟨_,_,_,_,h,.set af1 fun τ hl ht=>?_⟩;rw[bA hl (ht _ af1) hσ];exact⟨h1,h2,h3,h4,h5,h6,h7,h8,rfl,rfl,rfl,rfl⟩
   ·exact h.elim
  ·exact h.elim
 case ovl e x y=>
  split at h
  ·split at h
   ·rename_i hσ2 hσ1;obtain⟨h1,h2,h3,h4,h5,h6,h7,h8,h⟩:=h;refine⟨_,_,_,_,h,.pure fun τ hl ht=>?_⟩;rw[jk hl (ht _ af1) hσ1,jk hl (ht _ af1) hσ2];exact⟨h1,h2,h3,h4,h5,h6,h7,h8,rfl,rfl,rfl,rfl⟩
   ·exact h.elim
  ·split at h
   ·rename_i hσ;obtain⟨h1,h2,h3,h4,h5,h⟩:=h;refine⟨_,_,_,_,h,.pure fun τ hl ht=>?_⟩;rw[jk hl (ht _ af1) hσ];exact⟨h1,h2,h3,h4,h5,rfl,rfl,rfl,rfl⟩
   ·exact h.elim
  ·exact h.elim
 case clr e z x=>
  split at h
  ·obtain⟨h1,h⟩:=h
   split at h
   ·rename_i hσ;obtain⟨h2,h3,h⟩:=h;refine⟨_,_,_,_,h,.set af1 fun τ hl ht=>?_⟩;rw[jk hl (ht _ af1) hσ];exact⟨h1,h2,h3,rfl,rfl,rfl,rfl⟩
   ·exact h.elim
  ·exact h.elim
 case cpx e d s=>
  split at h
  ·exact h.elim
  ·rename_i ys hys
   split at h
   ·obtain⟨h1,h⟩:=h
    split at h
    ·rename_i hσ;obtain⟨h2,h3,h⟩:=h;refine⟨_,_,_,_,h,.set af1 fun τ hl ht=>?_⟩;rw[yn hl hys fun i hi=>ht i (acA _ hi),jk hl (ht _ af1) hσ];exact⟨h1,h2,h3,rfl,rfl,rfl,rfl⟩
    ·exact h.elim
   ·exact h.elim
 case cmb x y=>
  split at h
  ·split at h
   ·rename_i hb ha;obtain⟨h1,h2,h⟩:=h;refine⟨_,_,_,_,h,.pure fun τ hl ht=>?_⟩;rw[kf hl hb fun i hi=>ht i (by simp[mV]at hi;simp[hi]),kf hl ha fun i hi=>ht i (by simp[mV]at hi;simp[hi])];exact⟨h1,h2,rfl,rfl,rfl,rfl⟩
   ·exact h.elim
  ·exact h.elim
 case cpq x=>
  split at h
  ·split at h
   ·rename_i hσ;obtain⟨h1,h2,h3,h⟩:=h;refine⟨_,_,_,_,h,.pure fun τ hl ht=>?_⟩;rw[bA hl (ht _ af1) hσ];exact⟨h1,h2,h3,rfl,rfl,rfl,rfl⟩
   ·exact h.elim
  ·exact h.elim
def chg(ft:List Nat)(wr:Bool):List Nat:=if wr then ft else []
structure xD(σ:St)(ft ch:List Nat)(σ':St)(R:St->St->Prop):Prop where
 len:σ'.length=σ.length
 sub:∀i∈ch,i∈ft
 keep:∀i,i∉ch->σ'.getD i .gone=σ.getD i .gone
 else_:∀τ:St,τ.length=σ.length->(∀i∈ft,τ.getD i .gone=σ.getD i .gone)->R τ (tV τ ch σ')
theorem xD.mono{σ:St}{ft ch:List Nat}{σ':St}{R R':St->St->Prop}(h:xD σ ft ch σ' R)(hR:∀τ τ',R τ τ'->R' τ τ'):xD σ ft ch σ' R':=⟨h.len,h.sub,h.keep,fun τ hl ht=>hR _ _ (h.else_ τ hl ht)⟩
theorem tW.toC{σ:St}{ft:List Nat}{wr:Bool}{σ':St}{R:St->St->Prop}(h:tW σ ft wr σ' R):xD σ ft (chg ft wr) σ' R:=by
 cases wr
 ·have e:=h.same rfl
  subst e;refine⟨rfl,fun i a=>by simp[chg]at a,fun _ _=>rfl,fun τ c b=>?_⟩;have f:=h.else_ τ c b
  have g:tV τ ft σ'=τ:=sL af1 fun i a=>by
   rw[fH]at a;rw[ir τ ft σ' i a];split
   ·grind
   simp
  have d:tV τ (chg ft false) σ'=τ:=sL af1 fun i a=>by
   rw[fH]at a;rw[ir τ _ σ' i a,afx (by simp[chg])]
  grind
 ·exact⟨h.len,fun _ h=>h,h.keep,h.else_⟩
def lw(P:Program)(n:Nat)(g:AV)(xs:List AV)(σ:St)(v:AV)(ft ch:List Nat)(σ':St):Prop:=match g with
 |.fn (.func f) caps=>∃ (args:List AV) (σs:St) (r:AV) (σs':St),aJ P f args σs r σs'/\xs++caps=dN (rn ft σ.length) args/\σs'.length=ft.length/\v=ren (rn ft σ.length) r/\σ'=aN σ ft σs'/\(∀j∈ch,j∈ft)/\
  ((iH σ ft σs/\(∀i j:Nat,ft[i]?=some j->j∉ch->σs'[i]?=σs[i]?))\/∃js,ft=js++[n]/\qP σ js ft σs/\ch=ft)
 |_=>False
def qQ(P:Program)(n:Nat)(op:AOp)(ρ:Opd->AV)(σ:St)(v:AV)(ft ch:List Nat)(σ':St):Prop:=match op with
 |.call g xs=>lw P n (ρ g) (xs.map ρ) σ v ft ch σ'
 |op=>∃wr,chg ft wr=ch/\opF n σ ρ (fun v1 f1 w1 t1=>v1=v/\f1=ft/\w1=wr/\t1=σ') op
def fm(P:Program)(n:Nat)(op:AOp)(fr:Fr)(σ:St)(K:AV->List Nat->List Nat->St->Prop):Prop:=match op with
 |.call g xs=>∃v ft ch σ',lw P n (g.ev fr) (xs.map (Opd.ev fr)) σ v ft ch σ'/\K v ft ch σ'
 |op=>opF n σ (Opd.ev fr) (fun v ft wr σ'=>K v ft (chg ft wr) σ') op
theorem K6{P:Program}{n:Nat}{b:AOp}{ρ ρ2:Opd->AV}(h:∀x∈b.opds,ρ x=ρ2 x){σ:St}{v:AV}{ft e:List Nat}{σ':St}(c:qQ P n b ρ σ v ft e σ'):qQ P n b ρ2 σ v ft e σ':=by
 cases b
 case call g xs=>
  simp only[qQ]at c ⊢;rw[<-h g (by simp[AOp.opds]),acN fun x i=>(h x (by simp[AOp.opds,i])).symm];omega
 all_goals(obtain⟨wr,f,c⟩:=c;refine⟨wr,f,?_⟩;rw[<-QL h];omega)
theorem rE{σ σs:St}{b:List Nat}(j:iH σ b σs):aN σ b σs=σ:=by
 obtain⟨l,m,g,h⟩:=j;unfold aN;rw[l,adR,acL,acX,acH];apply ac1
 intro i;by_cases c:i∈b
 ·obtain⟨q,k,rfl⟩:=acp c;have e:b[q]?=some b[q]:=afz k;have d:=h q _ e;have f:σs[q]?=some (σs[q]' af0):=afz af0;rw[f]at d;rw[d];exact oc b _ σ m g q _ _ e af3
 ·exact nF b _ σ i c
theorem K7 {P : Program} {n : Nat} {op : AOp} {ρ : Opd -> AV} {σ : St} {v : AV} {ft ch : List Nat} {σ' : St} (hs : qQ P n op ρ σ v ft ch σ') : xD σ ft ch σ' (fun τ τ' => qQ P n op ρ τ v ft ch τ') := by
 cases op
 case call g xs =>
  simp only[qQ,lw]at hs ⊢;split at hs
  ·rename_i f caps hg
   obtain⟨args,σs,r,σs',h1,h2,h4,h5,h6,hsub,h37⟩:=hs
   have hnd:ft.Nodup:=by
    rcases h37 with⟨h3,_⟩|⟨js,_,h3,_⟩
    ·exact h3.2.1
    ·exact h3.2.1
   have hltf:∀j∈ft,j<σ.length:=by
    rcases h37 with⟨h3,_⟩|⟨js,_,h3,_⟩
    ·exact h3.2.2.1
    ·exact h3.2.2.1
   have e:∀ (ρ:St) (q:Nat) (hq:q<ft.length),ρ.length=σ.length->(aN ρ ft σs')[ft[q]]?=some (jh (rn ft σ.length) (σs'[q]' af0)):=by
    intro ρ q hq hρ;have hj:ft[q]?=some ft[q]:=afz hq;unfold aN;rw[afU af4];refine oc ft _ ρ hnd (fun j hj=>af3) q _ _ hj ?_;rw[acs,ae3,afA hq,afz af0,hρ];rfl
   have hget:∀ (τ:St) (i:Nat),τ.length=σ.length->i∈ft->(aN τ ft σs').getD i .gone=(aN σ ft σs').getD i .gone:=by
    intro τ i hl hi;obtain⟨q,hq,rfl⟩:=acp hi;grind
   have hlen:∀τ:St,(aN τ ft σs').length=τ.length:=by
    intro τ;simp[aN,h4]
   have hkeep:∀ (τ:St) (i:Nat),i∉ft->(aN τ ft σs').getD i .gone=τ.getD i .gone:=by
    intro τ i hi;by_cases hlt:i<τ.length
    ·rw[afy,afy];unfold aN;rw[afU (by rw[fG];exact hlt),nF _ _ _ _ hi]
    grind
   have hkeep2:∀i,i∉ch->(aN σ ft σs').getD i .gone=σ.getD i .gone:=by
    intro i hi;by_cases hif:i∈ft
    ·rcases h37 with⟨h3,h7⟩|⟨js,_,_,h7⟩
     ·obtain⟨q,hq,rfl⟩:=acp hif;have hj:ft[q]?=some ft[q]:=afz hq;have h8:=h7 q _ hj hi;have h9:=h3.2.2.2 q _ hj;rw[<-h8,afz (show q<σs'.length by omega)]at h9;rw[afy,afy,e σ q hq rfl,h9];rfl
     ·rw[h7]at hi;exact absurd hif hi
    ·exact hkeep σ i hif
   refine⟨by rw[h6,hlen],hsub,fun i hi=>by rw[h6,hkeep2 i hi],fun τ hl ht=>?_⟩;refine⟨args,σs,r,σs',h1,by rw[hl];exact h2,h4,by rw[hl];exact h5,?_,hsub,?_⟩;rotate_left
   ·have hto:∀j∈ft,τ[j]?=σ[j]?:=by
     intro j hj;have hlt:=hltf j hj;rw[Ol (show j<τ.length by omega),Ol hlt,ht j hj]
    rcases h37 with⟨h3,h7⟩|⟨js,rfl,h3,h7⟩
    ·refine .inl ⟨⟨h3.1,h3.2.1,fun j hj=>by rw[hl];exact h3.2.2.1 j hj,fun i j hij=>?_⟩,h7⟩;rw[hl,hto j (acP hij)];exact h3.2.2.2 i j hij
    ·refine .inr ⟨js,rfl,⟨h3.1,h3.2.1,fun j hj=>by rw[hl];exact h3.2.2.1 j hj,fun i j hij=>?_⟩,h7⟩;rw[hl,hto j (adf _ (acP hij))];exact h3.2.2.2 i j hij
   ·refine sL (by rw[fH,hlen]) fun i hi=>?_
    rw[fH]at hi;rw[ir τ ch σ' i hi];split
    ·rename_i hic;rw[h6,hget τ i hl (hsub i hic)]
    ·rename_i hic;by_cases hif:i∈ft
     ·rw[hget τ i hl hif,hkeep2 i hic,ht i hif]
     ·rw[hkeep τ i hif]
  grind
 all_goals(
  simp only[qQ]at hs ⊢;obtain⟨wr,hw,hs⟩:=hs;obtain⟨v2,ft2,wr2,σ2,⟨rfl,rfl,rfl,rfl⟩,hL⟩:=Ga hs;subst hw;exact hL.toC.mono fun _ _ h=>⟨_,rfl,h⟩)
def jR(gd:Option (Nat×Bool))(fr:Fr):Option Bool:=match gd with
 |none=>some true
 | some (t, want) => match fr.get t with
   |.bool b=>some (b==want)
   |.tup []=>some false
   |_=>none
def jW(P:Program)(n:Nat)(o:cS)(fr:Fr)(σ:St)(v:AV)(ft ch:List Nat)(σ':St):Prop:=match jR o.gd fr with
 |some true=>qQ P n o.op (Opd.ev fr) σ v ft ch σ'
 |some false=>v=.tup []/\ft=[]/\ch=[]/\σ'=σ
 |none=>False
theorem sN{P:Program}{n:Nat}{o:cS}{c:Fr}{σ:St}{v:AV}{ft b:List Nat}{σ':St}(h:jW P n o c σ v ft b σ'):xD σ ft b σ' (fun τ τ'=>jW P n o c τ v ft b τ'):=by
 unfold jW at h ⊢;split at h
 ·exact K7 h
 ·obtain⟨rfl,rfl,rfl,rfl⟩:=h;exact(tW.pure (wr:=false) fun τ _ _=>⟨rfl,rfl,rfl,rfl⟩).toC
 grind
theorem oT{P:Program}{n:Nat}{o:cS}{e fr2:Fr}(h:∀t∈o.looks,e.get t=fr2.get t){σ:St}{v:AV}{ft f:List Nat}{σ':St}(b:jW P n o e σ v ft f σ'):jW P n o fr2 σ v ft f σ':=by
 have i:jR o.gd fr2=jR o.gd e:=by
  unfold jR;split
  ·rfl
  ·rename_i t g d;rw[h t (by simp[cS.looks,d])]
 unfold jW at b ⊢;rw[i];split at b
 ·refine K6 (fun x j=>?_) b;cases x with
  |t u=>exact h u (by simp only[cS.looks];grind)
  |c v=>rfl
 ·omega
 omega
structure uO(f g:Fr):Prop where
 lf:f.vs.length=f.nv
 lg:g.vs.length=g.nv
 eq:∀t,f.get t=g.get t
theorem uO.refl{f:Fr}(h:f.vs.length=f.nv):uO f f:=⟨h,h,fun _=>rfl⟩
theorem Fr.get_put_exact(f:Fr)(h:f.vs.length=f.nv)(t:Nat)(v:AV)(u:Nat):(f.put t v).get u=if u=t then v else f.get u:=by
 by_cases a:u=t
 ·subst a;unfold Fr.put Fr.get;by_cases b:u<f.nv
  ·grind
  ·simp[b,qB]
 ·rw[afx a];exact Fr.get_put_ne f v (afv a)
theorem Fr.len_put(f:Fr)(h:f.vs.length=f.nv)(t:Nat)(v:AV):(f.put t v).vs.length=(f.put t v).nv:=by
 unfold Fr.put;grind
theorem Fr.len_putO(f:Fr)(h:f.vs.length=f.nv)(t:Option Nat)(v:AV):(f.putO t v).vs.length=(f.putO t v).nv:=by
 cases t with
 |none=>exact h
 |some t=>exact Fr.len_put f h t v
theorem uO.put{f g:Fr}(h:uO f g)(d:Option Nat)(v:AV):uO (f.putO d v) (g.putO d v):=by
 cases d with
 |none=>exact h
 |some t=>exact⟨Fr.len_put f h.lf t v,Fr.len_put g h.lg t v,fun u=>by
  show (f.put t v).get u=(g.put t v).get u
  rw[Fr.get_put_exact f h.lf,Fr.get_put_exact g h.lg,h.eq]⟩
theorem uO.comm{f:Fr}(h:f.vs.length=f.nv){a b:Option Nat}(v u:AV)(j:∀d,a=some d->b≠some d):uO ((f.putO a v).putO b u) ((f.putO b u).putO a v):=by
 cases a with
 |none=>exact .refl (Fr.len_putO f h b u)
 | some d =>
   cases b with
   |none=>exact .refl (Fr.len_putO f h (some d) v)
   | some e =>
     refine⟨Fr.len_put _ (Fr.len_put f h d v) e u,Fr.len_put _ (Fr.len_put f h e u) d v,fun t=>?_⟩;show ((f.put d v).put e u).get t=((f.put e u).put d v).get t
     rw[Fr.get_put_exact _ (Fr.len_put f h d v),Fr.get_put_exact _ h,Fr.get_put_exact _ (Fr.len_put f h e u),Fr.get_put_exact _ h];grind
def GE(f1 c1 f2 c2:List Nat):Prop:=(∀i∈c1,i∉f2)/\∀i∈c2,i∉f1
theorem GE.symm{f1 c1 f2 c2:List Nat}(h:GE f1 c1 f2 c2):GE f2 c2 f1 c1:=⟨h.2,h.1⟩
abbrev vt:=List (Nat×List Nat×List Nat)
def okH(m:Nat)(H:vt)(ft ch:List Nat):Prop:=∀h∈H,m.testBit h.1=true\/GE h.2.1 h.2.2 ft ch
theorem yL{x y:cS}(h:qh x y=true):(∀d,x.dst=some d->d∉y.looks)/\(∀d,x.dst=some d->y.dst≠some d)/\(∀d,y.dst=some d->d∉x.looks):=by
 simp only[qh]at h;refine⟨fun d b=>?_,fun d b=>?_,fun d b=>?_⟩
 ·grind
 ·grind
 grind
theorem Jf{x y:cS}(h:qh x y=true):qh y x=true:=by
 simp only[qh]at h ⊢;grind
theorem sb{b:Fr}{d:Option Nat}{v:AV}{l:List Nat}(h:∀t,d=some t->t∉l):∀t∈l,(b.putO d v).get t=b.get t:=by
 intro t c;cases d with
 |none=>rfl
 |some u=>exact Fr.get_put_ne b v af3
theorem NI{P:Program}{u A:Nat}{l q:cS}{k:Fr}{σ σi σij:St}{o s:AV}{n w f j:List Nat}(z:qh l q=true)(D:jW P u l k σ o n f σi)
 (B:jW P A q (k.putO l.dst o) σi s w j σij) (E:GE n f w j):∃σj,jW P A q k σ s w j σj/\jW P u l (k.putO q.dst s) σj o n f σij:=by
 obtain⟨H,J,G⟩:=yL z;have x:=oT (sb H) B;have b:=sN D;have c:=sN x;have r:∀ {τ τ':St},jW P u l k τ o n f τ'->jW P u l (k.putO q.dst s) τ o n f τ':=fun h=>oT (fun t C=>(sb G t C).symm) h
 obtain⟨p,y⟩:=E
 -- j on σ
 have I:=c.else_ σ b.len.symm fun i a=>(b.keep i fun h=>p i h a).symm
 have K:=b.else_ (tV σ j σij) af1 fun i a=>by
  by_cases F:i<σ.length
  ·rw[ir σ j σij i F,afx (fun h=>y i h a)]
  simp_all
 have e:tV (tV σ j σij) f σi=σij:=sL (by simp[c.len,b.len]) fun i a=>by
  simp only[fH]at a;rw[ir _ f σi i af4];split
  ·rename_i g;rw[c.keep i (fun h=>p i g (c.sub i h))]
  ·rename_i g
   rw[ir σ j σij i a];split
   ·rfl
   ·rename_i v;rw[c.keep i v,b.keep i g]
 grind
def oa(i:Nat)(ft wr:List Nat)(H:vt):vt:=if ft.isEmpty&&wr.isEmpty then H else (i,ft,wr)::H
theorem sx{m i:Nat}{ft c wr b:List Nat}{H:vt}:okH m (oa i ft wr H) c b↔okH m H c b/\(m.testBit i=true\/GE ft wr c b):=by
 unfold oa okH;split
 ·exact⟨fun h=>⟨h,.inr ⟨fun i d=>af3,fun i _ d=>af3⟩⟩,fun h=>h.1⟩
 ·constructor
  ·simp_all
  grind
section
variable(P:Program)(ops:List Oper)(als:List cS)(bf:List Nat)(nb:Nat->Nat)(Q:Fr->St->Prop)
def DI:Nat->Array Bool->vt->Fr->St->Prop
 |0,L,H,fr,σ=>Region.ready .any ops.toArray L=[]/\Q fr σ
 | f + 1, L, H, fr, σ => (Region.ready .any ops.toArray L = [] -> Q fr σ) /\ ∀ i ∈ Region.ready .any ops.toArray L, ∃ o, als[i]? = some o /\ ∃ v ft wr σ', jW P (nb i) o fr σ v ft wr σ' /\ okH (bf.getD i 0) H ft wr /\
     DI f (L.setIfInBounds i true) (oa i ft wr H) (fr.putO o.dst v) σ'
end
section
variable{P:Program}{ops:List Oper}{als:List cS}{bf:List Nat}{nb:Nat->Nat}{Q:Fr->St->Prop}
theorem Fg:∀ (f:Nat) (L:Array Bool) (H c:vt) (b:Fr) (σ:St),(∀m ft wr,okH m H ft wr->okH m c ft wr)->DI P ops als bf nb Q f L H b σ->DI P ops als bf nb Q f L c b σ
 |0,_,_,_,_,_,_,h=>h
 | f + 1, L, H, c, b, σ, k, h => ⟨h.1, fun i l => by
   obtain⟨o,n,v,ft,wr,σ',p,q,r⟩:=h.2 i l;exact⟨o,n,v,ft,wr,σ',p,k _ _ _ q,Fg f _ _ _ _ _ (fun m s t g=>by rw[sx]at g ⊢;grind) r⟩⟩
theorem G6(d:∀b fr2 σ,uO b fr2->Q b σ->Q fr2 σ):∀ (f:Nat) (L:Array Bool) (H:vt) (b fr2:Fr) (σ:St),uO b fr2->DI P ops als bf nb Q f L H b σ->DI P ops als bf nb Q f L H fr2 σ
 |0,_,_,b,fr2,σ,c,h=>⟨h.1,d _ _ _ c h.2⟩
 | f + 1, L, H, b, fr2, σ, c, h => ⟨fun l => d _ _ _ c (h.1 l), fun i m => by
   obtain⟨o,n,v,ft,wr,σ',p,q,k⟩:=h.2 i m;exact⟨o,n,v,ft,wr,σ',oT (fun t _=>c.eq t) p,q,G6 d f _ _ _ _ _ (c.put o.dst v) k⟩⟩
structure GZ(ops:List Oper)(als:List cS)(bf:List Nat):Prop where
 lb:bf.length=ops.length
 la:als.length=ops.length
 lt:∀j,j<ops.length->∀e∈oP (ops.getD j default),e<j
 bits:∀j,j<ops.length->∀i,i<ops.length->(bf.getD j 0).testBit i=true->∃e∈oP (ops.getD j default),e=i\/(bf.getD e 0).testBit i=true
 apart:∀j,j<ops.length->∀i,i<j->(bf.getD j 0).testBit i=true\/qh (als.getD i default) (als.getD j default)=true
theorem jx{n:Nat}{f:Nat->Bool}(h:pw n f=true):∀i,i<n->f i=true:=fun i hi=>aew.1 h i (List.mem_range.2 hi)
theorem Jy(h:L8 ops als bf=true):GZ ops als bf:=by
 simp only[L8,afL,ac0]at h;obtain⟨⟨⟨⟨p,k⟩,g⟩,m⟩,n⟩:=h;refine⟨p,k,fun j b e o=>?_,fun j b i d q=>?_,fun j b i d=>?_⟩
 ·exact ac3 (aew.1 (jx g j b) e o)
 ·have:=jx (jx m j b) i d;grind
 ·have:=jx (jx n j b) i d;grind
theorem i5{j:Nat}{L:Array Bool}:j∈Region.ready .any ops.toArray L↔j<ops.length/\L.getD j true=false/\∀e∈oP (ops.getD j default),L.getD e false=true:=by
 rw[mem_ready];constructor
 ·rintro⟨d,o,g,l⟩;have h:j<ops.length:=af3
  refine⟨h,d,fun e f=>?_⟩;obtain⟨x,m,rfl⟩:=acz.1 f;grind
 ·rintro⟨h,d,g⟩;refine⟨d,ops.getD j default,af3,fun e f i=>g _ ?_⟩;exact acz.2 ⟨e,List.mem_filter.2 ⟨Array.mem_toList_iff.2 f,i⟩,rfl⟩
def abZ(ops:List Oper)(L:Array Bool):Prop:=∀j,j<ops.length->L.getD j false=true->∀e∈oP (ops.getD j default),L.getD e false=true
theorem iq{L:Array Bool}{i:Nat}(d:Bool){j:Nat}:(L.setIfInBounds i true).getD j d=if j=i/\i<L.size then true else L.getD j d:=by
 simp only[adp];by_cases h:i=j
 ·grind
 grind
theorem abZ.set{L:Array Bool}(h:abZ ops L){i:Nat}(g:i∈Region.ready .any ops.toArray L):abZ ops (L.setIfInBounds i true):=by
 obtain⟨o,m,n⟩:=i5.1 g;intro j k c e l
 have keep:L.getD e false=true->(L.setIfInBounds i true).getD e false=true:=fun h=>by
  rw[iq];split
  ·rfl
  omega
 rw[iq]at c;split at c
 ·grind
 ·exact keep (h j k c e l)
theorem abZ.bits(f:GZ ops als bf){L:Array Bool}(h:abZ ops L)(r:L.size=ops.length):∀ (j:Nat),j<ops.length->(∀e∈oP (ops.getD j default),L.getD e false=true)->∀i,i<ops.length->(bf.getD j 0).testBit i=true->L.getD i false=true:=by
 intro j;induction j using Nat.strongRecOn with
 | _ j o =>
   intro g n i k p;obtain⟨e,l,d⟩:=f.bits j g i k p;have c:=f.lt j g e l;rcases d with rfl|d
   ·grind
   ·exact o e c af0 (h e af0 (n e l)) i k d
theorem pB{i j:Nat}{L:Array Bool}(h:j∈Region.ready .any ops.toArray L)(c:j≠i):j∈Region.ready .any ops.toArray (L.setIfInBounds i true):=by
 obtain⟨g,l,m⟩:=i5.1 h;refine i5.2 ⟨g,?_,fun e k=>?_⟩
 ·rw[iq,afx (fun h=>c h.1)];omega
 ·rw[iq];split
  ·rfl
  grind
theorem LH(hd:GZ ops als bf)(hQ:∀fr fr2 σ,uO fr fr2->Q fr σ->Q fr2 σ){i:Nat}{oi:cS}(hoi:als[i]?=some oi){vi:AV}{fi wi:List Nat}:
 ∀ (f : Nat) (L : Array Bool) (H : vt) (fr : Fr) (σ σi : St), L.size = ops.length -> abZ ops L -> fr.vs.length = fr.nv -> i ∈ Region.ready .any ops.toArray L -> jW P (nb i) oi fr σ vi fi wi σi -> okH (bf.getD i 0) H fi wi ->
   DI P ops als bf nb Q f (L.setIfInBounds i true) (oa i fi wi H) (fr.putO oi.dst vi) σi->DI P ops als bf nb Q (f+1) L H fr σ:=by
 intro f;induction f with
 | zero =>
   intro L H fr σ σi hs hcl hfr hr hstep hok hrest;refine⟨fun h=>af3,fun j hj=>?_⟩;by_cases hji:j=i
   ·grind
   ·have:=pB hj hji;rw[hrest.1]at this;grind
 | succ f ih =>
   intro L H fr σ σi hs hcl hfr hr hstep hok hrest;refine⟨fun h=>af3,fun j hj=>?_⟩;by_cases hji:j=i
   ·grind
   ·obtain⟨oj,hoj,vj,fj,wj,σij,g1,g2,g3⟩:=hrest.2 j (pB hj hji)
    obtain⟨hi1,hi2,hi3⟩:=i5.1 hr;obtain⟨hj1,hj2,hj3⟩:=i5.1 hj
    have hunl:∀q,q<ops.length->L.getD q true=false->L.getD q false=false:=by
     grind
    have nij:(bf.getD j 0).testBit i=false:=by
     cases hb:(bf.getD j 0).testBit i with
     |false=>rfl
     | true =>
       have:=hcl.bits hd hs j hj1 hj3 i hi1 hb;grind
    have nji:(bf.getD i 0).testBit j=false:=by
     cases hb:(bf.getD i 0).testBit j with
     |false=>rfl
     | true =>
       have:=hcl.bits hd hs i hi1 hi3 j hj1 hb;grind
    have goi:als.getD i default=oi:=af3
    have goj:als.getD j default=oj:=af3
    have hap:qh oi oj=true:=by
     rcases Nat.lt_or_gt_of_ne hji with h|h
     ·rcases hd.apart i hi1 j h with h1|h1
      ·grind
      ·rw[goi,goj]at h1;exact Jf h1
     ·rcases hd.apart j hj1 i h with h1|h1
      ·rw[nij]at h1;cases h1
      grind
    rw[sx]at g2;have hc:GE fi wi fj wj:=g2.2.resolve_left (by rw[nij];simp);obtain⟨σj,k1,k2⟩:=NI hap hstep g1 hc;refine⟨oj,hoj,vj,fj,wj,σj,k1,g2.1,?_⟩;have hr2:i∈Region.ready .any ops.toArray (L.setIfInBounds j true):=pB hr (afv hji);refine ih (L.setIfInBounds j true) (oa j fj wj H) (fr.putO oj.dst vj) σj σij (by simpa using hs) (hcl.set hj) (Fr.len_putO fr hfr _ _) hr2 k2 ?_ ?_
    ·rw[sx];exact⟨hok,.inr hc.symm⟩
    ·rw[Array.setIfInBounds_comm _ _ hji];have h2:=(yL hap).2.1;refine G6 hQ f _ _ _ _ _ (uO.comm hfr vi vj h2) (Fg f _ _ _ _ _ (fun m ft wr h=>?_) g3);rw[sx,sx]at h ⊢;exact⟨⟨h.1.1,h.2⟩,h.1.2⟩
def sr(base:Nat)(als:List cS)(i:Nat):Nat:=base+((als.take i).filter fun o=>o.op.allocs).length
def qe(P:Program):List (cS×Nat)->Nat->Nat->vt->(Fr->St->Prop)->Fr->St->Prop
 | [],_,_,_,Q,fr,σ=>Q fr σ
 | (o, m) :: r, i, n, H, Q, fr, σ =>
   aGd o.gd fr (fun fr=>fm P n o.op fr σ fun av ft wr σ'=>okH m H ft wr/\qe P r (i+1) (if o.op.allocs then n+1 else n) (oa i ft wr H) Q (fr.putO o.dst av) σ')
    (fun fr=>qe P r (i+1) (if o.op.allocs then n+1 else n) H Q (fr.putO o.dst (.tup [])) σ)
theorem Fa{n:Nat}{d:AOp}{f:Fr}{σ:St}{K:AV->List Nat->List Nat->St->Prop}(h:fm P n d f σ K):∃v ft wr σ',qQ P n d (Opd.ev f) σ v ft wr σ'/\K v ft wr σ':=by
 cases d
 case call g xs=>
  exact h
 all_goals(
  simp only[fm]at h;obtain⟨v,ft,wr,σ',m,b⟩:=Ga h;refine⟨v,ft,chg ft wr,σ',?_,m⟩;have k:=b.else_ σ rfl (fun _ _=>rfl)
  have e:tV σ ft σ'=σ':=sL (by rw[fH,b.len]) fun i l=>by
   rw[fH]at l;rw[ir σ ft σ' i l];split
   ·rfl
   ·rename_i c;exact(b.keep i c).symm
  rw[e]at k;exact⟨wr,rfl,k⟩)
theorem Oy{Q2:Fr->St->Prop}(hd:GZ ops als bf)(hQ:∀fr fr2 σ,uO fr fr2->Q2 fr σ->Q2 fr2 σ)(hQ0:∀fr σ,fr.vs.length=fr.nv->Q fr σ->Q2 fr σ)(base:Nat):∀ (r:List (cS×Nat)) (k:Nat) (L:Array Bool) (H:vt) (fr:Fr) (σ:St),(∀j,r[j]?=(als.zip bf)[k+j]?)->r.length=ops.length-k->k<=ops.length->
 L.size=ops.length->(∀j,j<ops.length->L.getD j true=decide (j<k))->fr.vs.length=fr.nv->qe P r k (sr base als k) H Q fr σ->DI P ops als bf (sr base als) Q2 r.length L H fr σ
 | [], k, L, H, fr, σ, hr, hl, hk, hs, hL, hfr, h => by
   refine⟨?_,hQ0 _ _ hfr h⟩;have hkk:k=ops.length:=af3
   rw[List.eq_nil_iff_forall_not_mem];intro j hj;obtain⟨h1,h2,_⟩:=i5.1 hj;grind
 | (o, m) :: r, k, L, H, fr, σ, hr, hl, hk, hs, hL, hfr, h => by
   have hkl:k<ops.length:=af3
   have h0:=hr 0;simp only[adq,acR]at h0;have hz:(als.zip bf)[k]?=some (o,m):=h0.symm
   have ho:als[k]?=some o/\bf[k]?=some m:=by
    grind
   have hm:bf.getD k 0=m:=af3
   have hcl:abZ ops L:=by
    intro j hj hLj e he;have hej:=hd.lt j hj e he;grind
   have hready:k∈Region.ready .any ops.toArray L:=by
    refine i5.2 ⟨hkl,af3,fun e he=>?_⟩;have hej:=hd.lt k hkl e he;grind
   have hL':∀j,j<ops.length->(L.setIfInBounds k true).getD j true=decide (j<k+1):=by
    intro j hj;rw[iq];by_cases hjk:j=k
    ·grind
    grind
   have hnb:(if o.op.allocs then sr base als k+1 else sr base als k)=sr base als (k+1):=by
    unfold sr;rw[acB,ho.1];simp only[adY,ae5,afB];by_cases ha:o.op.allocs=true<;>simp[ha,List.filter_cons,acZ]
   have hr':∀j,r[j]?=(als.zip bf)[k+1+j]?:=fun j=>by
    have:=hr (j+1);simp only[aed]at this;rw[this];congr 1;omega
   have hl':r.length=ops.length-(k+1):=by simp at hl;omega
   simp only[qe,hnb]at h
   -- one step, whatever frame reads alike
   have fin:∀ {fr2:Fr} {v:AV} {ft wr:List Nat} {σ':St},uO fr2 fr->jW P (sr base als k) o fr σ v ft wr σ'->okH m H ft wr->qe P r (k+1) (sr base als (k+1)) (oa k ft wr H) Q (fr2.putO o.dst v) σ'->DI P ops als bf (sr base als) Q2 (r.length+1) L H fr σ:=by
    intro fr2 v ft wr σ' hfe h1 h2 h3;have h4:=Oy hd hQ hQ0 base r (k+1) (L.setIfInBounds k true) (oa k ft wr H) (fr2.putO o.dst v) σ' hr' hl' af0 (by simpa using hs) hL' (Fr.len_putO fr2 hfe.lf _ _) h3;have h5:=G6 hQ _ _ _ _ _ _ (hfe.put o.dst v) h4;exact LH hd hQ ho.1 r.length L H fr σ σ' hs hcl hfr hready h1 (by rw[hm];exact h2) h5
   cases hgd:o.gd with
   | none =>
     rw[hgd]at h;simp only[aGd]at h;obtain⟨v,ft,wr,σ',h1,h2,h3⟩:=Fa h;exact fin (.refl hfr) (by unfold jW;rw[hgd];exact h1) h2 h3
   | some p =>
     obtain⟨t,want⟩:=p;rw[hgd]at h;simp only[aGd]at h;split at h
     ·rename_i b hb
      have same:∀c:Bool,b=c->uO (fr.put t (.bool c)) fr:=by
       intro c hc;refine⟨Fr.len_put fr hfr _ _,hfr,fun u=>?_⟩;rw[Fr.get_put_exact fr hfr];split
       ·rename_i hu;subst hu;rw[hb,hc]
       ·rfl
      by_cases hbw:b=want
      ·have h':=h.1 hbw;obtain⟨v,ft,wr,σ',h1,h2,h3⟩:=Fa h';have hfe:=same want hbw;have hg:jR o.gd fr=some true:=by simp[jR,hgd,hb,hbw]
       have hg2:jR o.gd (fr.put t (.bool want))=some true:=by simp[jR,hgd,Fr.get_put_exact fr hfr]
       refine fin hfe (oT (fun u _=>hfe.eq u) (by unfold jW;rw[hg2];exact h1)) h2 h3
      ·have hbn:b=!want:=by cases b<;>cases want<;>simp_all
       have h':=h.2 hbn;have hfe:=same (!want) hbn;have hg:jR o.gd fr=some false:=by simp[jR,hgd,hb,hbw]
       refine fin (v:=.tup []) (ft:=[]) (wr:=[]) (σ':=σ) hfe (by unfold jW;rw[hg];exact⟨rfl,rfl,rfl,rfl⟩) (fun x _=>.inr ⟨fun _ _ h=>(by cases h),fun _ h=>(by cases h)⟩) (by simpa[oa]using h')
     ·rename_i hb;have hg:jR o.gd fr=some false:=by simp[jR,hgd,hb]
      refine fin (v:=.tup []) (ft:=[]) (wr:=[]) (σ':=σ) (.refl hfr) (by unfold jW;rw[hg];exact⟨rfl,rfl,rfl,rfl⟩) (fun x _=>.inr ⟨fun _ _ h=>(by cases h),fun _ h=>(by cases h)⟩) (by simpa[oa]using h)
     ·exact h.elim
end
section
variable{P:Program}{C:Cx}{nt k:Nat}{fr:Fr}{σ:St}{loc:Nat->Option Loc}{a:Act}{w:World}
theorem wb{A:Bool}{i:List Oper}{o:Oper}{r:cS}(s:oM A P nt i o=some r)(h:SR C nt k fr σ loc a w){b:Bool}(g:jR r.gd fr=some b):Region.wanted o (yielded i.toArray a.tmps)=b:=by
 rcases (jc s).2.2.2 with⟨m,q⟩|⟨j,l,t,m,q,x⟩
 ·rw[q]at g;simp only[jR,afC]at g;simp[Region.wanted,m,<-g]
 ·rw [x] at g
  simp only[jR]at g
  have y:yielded i.toArray a.tmps j=match a.tmps[t]? with|some (.bool b)=>some b|_=>none:=by
   unfold yielded;grind
  have d:=h.frm t;split at g
  ·rename_i c p
   rw[p]at d;simp only[Rl]at d
   have B:a.tmps[t]?=some (.bool c):=by
    rw[adp]at d;cases D:a.tmps[t]? with
    |none=>rw[D]at d;simp[undef]at d
    |some v=>grind
   simp only[afC]at g;rw[<-g];cases c<;>cases l<;>simp[Region.wanted,m,y,B]
  ·rename_i p
   rw[p]at d;obtain⟨F,n,E⟩:=d
   have:yielded i.toArray a.tmps j=none:=by
    rw[adp]at n;grind
   simp only[afC]at g;simp[Region.wanted,m,this,<-g]
  grind
theorem Wt {fx : Bool} {Q : Exit -> Act -> World -> Prop} {o : Oper} {ao : cS} {all : List Oper} (hc : oM fx P nt all o = some ao) {n : Nat} {v : AV} {ft ch : List Nat} {σ' : St} (K : Act -> World -> Prop)
 (hn:ao.op.allocs=true->n<σ.length/\loc n=none/\k<=n)
 (hK:∀loc' a' w',SR C nt k (fr.putO ao.dst v) σ' loc' a' w'->(∀id,id<σ.length->(ao.op.allocs=false\/id≠n)->loc' id=loc id)->K a' w') (h:SR C nt k fr σ loc a w) (hop:qQ P n ao.op (Opd.ev fr) σ v ft ch σ'):o.wp P a w K Q:=by
 have hs:=jc hc;have hop':=hs.1;have e2:=hs.2.1;have hd:=hs.2.2.1;clear hs hc;rw[e2]at hK;by_cases hcall:∃g xs,ao.op=.call g xs
 ·obtain ⟨g, xs, hg⟩ := hcall
  rw[hg]at hop hop';simp only[qQ]at hop;obtain⟨dst,op0,ty,pos,aft,gd⟩:=o;simp only at hop' hd hK;have hop':=sX hop' (.inl ⟨_,_,rfl⟩);obtain⟨c,rfl⟩:=yS hop';simp only[kQ]at hop';obtain⟨callee,args,ats⟩:=c;unfold iT at hop';split at hop'
  ·rename_i f hcf
   simp only at hcf;subst hcf;split at hop'
   ·rename_i g' ys h1 h2
    simp only[afC,AOp.call.injEq]at hop';obtain⟨rfl,rfl⟩:=hop';unfold lw at hop;split at hop
    ·rename_i f' caps hcaps
     obtain⟨args',σs,r,σs',k1,k2,k4,rfl,rfl,_,k5⟩:=hop;have hv:=h.opd f g' h1;rw[hcaps]at hv;obtain⟨cvs,hv1,hv2⟩:=hv;have hxs:=io h.opd h2;have hall:=hxs.app hv2;rw[k2]at hall;have hrun:=za (P:=P) (w:=w) (xs:=args) (ats:=ats) (ty:=ty) hv1 k1.1 dst pos aft gd;unfold Oper.wp;rw[hrun,Oper.upon_enter]
     have e3:(args.map a.eval++cvs.toArray)=(List.map a.eval args.toList++cvs).toArray:=by
      simp
     rw[e3];rcases k5 with⟨k3,_⟩|⟨js,rfl,k3,_⟩
     ·have hfr:=aJ.frame k1 h.rel k3 hall;refine hfr.mono fun e w' ⟨v,loc',he,ho,hk⟩=>?_
      subst he;refine hK loc' _ _ (h.step ho (fun id hid=>hk id (ady hid h.klen)) ?_ dst hd) fun id hid _=>hk id hid
      unfold aN;simp
     ·obtain⟨q1,q2,q3⟩:=hn (by rw[hg];rfl)
      have hfr:=aJ.frameS (n:=n) k1 h.rel k3 q2 af3 hall;refine hfr.mono fun e w' ⟨v,loc',he,ho,hk⟩=>?_
      subst he;refine hK loc' _ _ (h.step ho (fun id hid=>hk id af0) ?_ dst hd) fun id hid hcs=>hk id ?_
      ·unfold aN;simp
      ·rcases hcs with hcs|hcs
       ·rw[hg]at hcs;cases hcs
       omega
    grind
   grind
  ·exfalso
   revert hop';repeat' split
   all_goals simp
  grind
 ·obtain ⟨wr, hop2⟩ : ∃ wr, opF n σ (Opd.ev fr) (fun v1 f1 w1 t1 => v1 = v /\ f1 = ft /\ w1 = wr /\ t1 = σ') ao.op := by
   unfold qQ at hop;split at hop
   ·grind
   ·exact⟨hop.choose,hop.choose_spec.2⟩
  clear hop
  have fin:∀ {m:Nat},(ao.op.allocs=false\/m=n)->(∀id,id<k->id=m->False)->(ao.op.allocs=false->σ.length<=m)->Snd C.X loc σ w m ((execOp a.eval o).run P w) (fun v1 f1 w1 t1=>v1=v/\f1=ft/\w1=wr/\t1=σ')->o.wp P a w K Q:=by
   intro m hm hkm hlm hsnd;obtain⟨av,f1,w1,s1,v',w',loc',⟨rfl,rfl,rfl,rfl⟩,k2,k3,k4,k5⟩:=hsnd;have h2:=h.step k3 (fun id hid=>k4 id fun e=>hkm id hid e) af0 o.dst hd
   have h3:∀id,id<σ.length->(ao.op.allocs=false\/id≠n)->loc' id=loc id:=by
    intro id hid hcase;refine k4 id ?_;rintro rfl;cases ha:ao.op.allocs with
    |false=>have:=hlm ha;omega
    | true =>
      rcases hm with hm|hm
      ·rw[ha]at hm;cases hm
      ·rcases hcase with hcase|hcase
       ·rw[ha]at hcase;cases hcase
       ·exact hcase hm
   unfold Oper.wp;rcases k2 with k2|⟨k2,rfl⟩
   ·rw[k2];exact hK _ _ _ h2 h3
   ·rw[k2];exact hK _ _ _ h2 h3
  by_cases hal:ao.op.allocs=true
  ·obtain⟨n1,n2,n3⟩:=hn hal
   refine fin (m:=n) (.inr rfl) (fun id hid e=>af0) (fun h'=>by rw[hal]at h';cases h') (tm h.rel h.opd (fun _=>rfl) hop' (fun _=>⟨n1,n2,fun o' ho'=>?_⟩) hop2);cases hl:o'.live with
   |false=>rfl
   | true =>
     obtain⟨L,h5,_⟩:=h.rel.obj n o' ho' hl;rw[n2]at h5;cases h5
  ·have hal':ao.op.allocs=false:=by simpa using hal
   exact fin (m:=σ.length) (.inl hal') (fun id hid e=>by have:=h.klen;omega) (fun _=>afE _) (tm h.rel h.opd (fun _=>rfl) hop' (fun h'=>absurd h' hal) (OI hal' hop2))
theorem vM{e:Bool}{c:List Oper}:∀ {l:List Oper} {d:List cS},kR e P nt c l=some d->d.length=l.length/\∀ (i:Nat) (o:Oper) (f:cS),l[i]?=some o->d[i]?=some f->oM e P nt c o=some f
 | [],d,h=>by simp only[kR,afC]at h;grind
 | o :: l, d, h => by
   simp only[kR]at h;split at h
   ·rename_i a r m j;obtain⟨n,k⟩:=vM j;grind
   grind
theorem xG{fx:Bool}{ops:List Oper}{als:List cS}{bf:List Nat}{nb:Nat->Nat}{Q:Fr->St->Prop}{Q':Exit->Act->World->Prop}(hc:kR fx P nt ops ops=some als)
 (hnb:∀ (i j:Nat) (oi oj:cS),i≠j->als[i]?=some oi->als[j]?=some oj->oi.op.allocs=true->oj.op.allocs=true->nb i≠nb j) (hkb:∀i,k<=nb i)
 (hQ:∀fr' σ' loc' a' w',fr'.vs.length=fr'.nv->Q fr' σ'->SR C nt k fr' σ' loc' a' w'->Q' .normal a' w'):∀ (f:Nat) (L:Array Bool) (H:vt) (fr:Fr) (σ:St) (loc:Nat->Option Loc) (a:Act) (w:World),
  SR C nt k fr σ loc a w->fr.vs.length=fr.nv->L.size=ops.length->(∀ (i:Nat) (o:cS),als[i]?=some o->o.op.allocs=true->L.getD i true=false->nb i<σ.length/\loc (nb i)=none)->DI P ops als bf nb Q f L H fr σ->wpAny P .any ops.toArray Q' f L a w
 |0,L,H,fr,σ,loc,a,w,hs,hfr,hL,hr,h=>⟨h.1,hQ _ _ _ _ _ hfr h.2 hs⟩
 | f + 1, L, H, fr, σ, loc, a, w, hs, hfr, hL, hr, h => by
   refine⟨fun h0=>hQ _ _ _ _ _ hfr (h.1 h0) hs,fun i hi=>?_⟩;obtain⟨o,h1,v,ft,wr,σ',h2,h3,h4⟩:=h.2 i hi;obtain⟨hlen,hget⟩:=vM hc;have hil:i<ops.length:=af3
   have hiL:L.getD i true=false:=(i5.1 hi).2.1;have hoi:ops[i]?=some ops[i]:=afz hil;have hci:=hget i _ o hoi h1;have hlenσ:=(sN h2).len;unfold wpOp;have hoi':ops.toArray[i]?=some ops[i]:=af1
   rw[hoi'];simp only
   have hres:∀ (loc':Nat->Option Loc),(∀id,id<σ.length->(o.op.allocs=false\/id≠nb i)->loc' id=loc id)->∀ (j:Nat) (oj:cS),als[j]?=some oj->oj.op.allocs=true->(L.setIfInBounds i true).getD j true=false->nb j<σ'.length/\loc' (nb j)=none:=by
    intro loc' hl j oj hj ha hLj;rw[iq]at hLj;split at hLj
    ·grind
    grind
   unfold jW at h2;split at h2
   ·rename_i hg;rw[afA (wb hci hs hg)];refine .inl (Wt hci _ (fun ha=>?_) (fun loc' a' w' k1 k2=>?_) hs h2)
    ·grind
    ·exact xG hc hnb hkb hQ f _ _ _ _ loc' a' w' k1 (Fr.len_putO fr hfr _ _) af3 (hres loc' k2) h4
   ·rename_i hg;rw[afx (by rw[wb hci hs hg];simp)];obtain⟨rfl,rfl,rfl,rfl⟩:=h2;have hd:=jc hci;have hsk:=hs.skip ops[i].dst hd.2.2.1;rw[hd.2.1]at h4;exact xG hc hnb hkb hQ f _ _ _ _ loc _ w hsk (Fr.len_putO fr hfr _ _) af3 (hres loc fun _ _ _=>rfl) h4
   grind
def rF(l:List (cS×Nat)):Nat:=(l.filter fun p=>p.1.op.allocs).length
theorem OF{base:Nat}{a:List cS}{i:Nat}{o:cS}(h:a[i]?=some o)(f:o.op.allocs=true):sr base a i<base+(a.filter fun o=>o.op.allocs).length:=by
 unfold sr;have d:i<a.length:=(afO.1 h).1
 have e:a=a.take i++(o::a.drop (i+1)):=by
  rw[<- (afO.1 h).2,List.getElem_cons_drop d,afX]
 grind
theorem F5{base:Nat}{a:List cS}{i j:Nat}{o:cS}(h:a[i]?=some o)(d:o.op.allocs=true)(e:i<j):sr base a i<sr base a j:=by
 have c:(a.take j)[i]?=some o:=af3
 have:=OF (base:=base) c d;unfold sr at this ⊢;grind
theorem OE{base:Nat}{als:List cS}{i:Nat}:base<=sr base als i:=adA _ _
theorem jF {l : List (cS × Nat)} {Q : Ex -> Fr -> St -> Prop} (hfr : fr.vs.length = fr.nv) (h : qe P l 0 σ.length [] (fun fr σ => Q .normal fr σ) fr (σ ++ List.replicate (rF l) .gone)) : Tri P nt k (.dreg l) Q fr σ := by
 intro fx code hc C loc a w hs;cases code<;>simp only[iS,reduceCtorEq]at hc
 case region id ops draw =>
  split at hc
  ·rename_i c h1
   cases draw
   ·grind
   ·simp only[aco]at hc
    split at hc
    ·rename_i hcond
     obtain⟨hok,hmix⟩:=hcond;simp only[afC,am.dreg.injEq]at hc;subst hc;have hd:=Jy hok
     have hal:rF (c.zip (Hb ops.toList []))=(c.filter fun o=>o.op.allocs).length:=by
      have:c=(c.zip (Hb ops.toList [])).map (·.1):=by
       rw[List.map_fst_zip];rw[hd.la,hd.lb];omega
      conv=>rhs;rw[this]
      rw[List.filter_map,adw];rfl
     have b:=hs.pad (rF (c.zip (Hb ops.toList [])));let Q2:Fr->St->Prop:=fun fr σ=>∃f,uO f fr/\Q .normal f σ
     have hlex:=Oy (P:=P) (Q2:=Q2) hd (fun fr fr2 σ he ⟨f,h2,h3⟩=>⟨f,⟨h2.lf,he.lg,fun t=>(h2.eq t).trans (he.eq t)⟩,h3⟩) (fun fr σ hx hq=>⟨fr,.refl hx,hq⟩) σ.length (c.zip (Hb ops.toList [])) 0 (Array.replicate ops.toList.length false) [] fr _
      (fun j=>af1) (by rw[List.length_zip,hd.la,hd.lb];simp) (afK _) af1 (fun j hj=>af4) hfr (by simpa[sr]using h)
     refine wp_region_any hmix ?_;have hlen:(c.zip (Hb ops.toList [])).length=ops.size:=by rw[List.length_zip,hd.la,hd.lb];simp
     have hsd:SR C nt k fr (σ++List.replicate (rF (c.zip (Hb ops.toList []))) .gone) loc a { w with drawn:=w.drawn+1 }:=by
      have hev:Ev (fun _=>False) w { w with drawn:=w.drawn+1 }:=⟨afE _,fun _ _ _=>rfl,rfl,rfl,rfl⟩;obtain⟨g1,g2⟩:=b.rel.grow hev;exact⟨g1,fun t=>Rl.mono g2 _ _ (b.frm t),b.size,b.dfr,b.ev.trans hev (fun _ _ h=>h.elim),b.old,b.pre,b.klen⟩
     have hfin:=xG (C:=C) (k:=k) (Q:=Q2) (Q':=fun ex a' w'=>∃e fr' σ' loc',ex=Ex.to e/\Q e fr' σ'/\SR C nt k fr' σ' loc' a' w') (nb:=sr σ.length c) h1
      (fun i j oi oj hij hi hj ha hb=>by
       rcases Nat.lt_or_gt_of_ne hij with h9|h9
       ·exact Nat.ne_of_lt (F5 hi ha h9)
       ·exact Nat.ne_of_gt (F5 hj hb h9)) (fun i=>acn hs.klen OE)
      (fun fr' σ' loc' a' w' hx ⟨f,q1,q2⟩ q3=>⟨.normal,f,σ',loc',rfl,q2,q3.slots fun t=>.inr (q1.eq t)⟩)
      _ _ _ _ _ loc a _ hsd hfr af1 (fun i o hi ha _=>⟨by rw[afB,ada,hal];exact OF hi ha,hs.rel.beyond _ OE⟩) hlex
     simp_all
    grind
  grind
 all_goals(revert hc;(repeat' split)<;>intro hc<;>first|grind|simp_all)
end
def cE(P:Program)(f:FuncId):Option (Nat×List fS×am):=match P.funcs[f]? with
 | some fn => if fn.name != "runtime.NumGoroutine" && decide (fn.results.toList.length <= 5) then (match fn.body with
   | some c => (match iS (zj P c) P fn.ntmps c, ml P fn.results.toList with
     |some ac,some rs=>some (fn.ntmps,rs,ac)
     |_,_=>none)
   |none=>none)else none
 |none=>none
mutual
def Pu:AV->Prop
 |.agg cs|.tup cs|.fn _ cs=>PuL cs
 |.sl _ _ xs|.elt _ xs _ _=>fU xs
 |.ptr _ _|.hs _ _ _ _|.va _ _ _ _|.vp _ _ _ _|.mp _=>False
 |_=>True
def PuL:List AV->Prop
 | []=>True
 |c::cs=>Pu c/\PuL cs
def fU:List (List AV)->Prop
 | []=>True
 |x::xs=>PuL x/\fU xs
end
theorem zV:∀ {cs:List AV},PuL cs↔∀c∈cs,Pu c
 | []=>by simp[PuL]
 |c::cs=>by simp[PuL,zV (cs:=cs)]
theorem nK:∀ {xs:List (List AV)},fU xs↔∀x∈xs,PuL x
 | []=>by simp[fU]
 |c::cs=>by simp[fU,nK (xs:=cs)]
mutual
theorem Pu.ren(ρ:Nat->Nat):∀ {v:AV},Pu v->ren ρ v=v
 |.dead,_|.bool _,_|.int _ _,_|.str _,_|.nilp,_|.nilf,_|.any,_=>rfl
 |.agg cs,h|.tup cs,h|.fn _ cs,h=>by simp only[Pu]at h;simp only[Go.FH.ren,PuL.ren ρ h]
 |.sl _ _ xs,h|.elt _ xs _ _,h=>by simp only[Pu]at h;simp only[Go.FH.ren,fU.ren ρ h]
 |.ptr _ _,h|.hs _ _ _ _,h|.va _ _ _ _,h|.vp _ _ _ _,h|.mp _,h=>by simp only[Pu]at h
theorem PuL.ren(ρ:Nat->Nat):∀ {cs:List AV},PuL cs->dN ρ cs=cs
 | [],_=>rfl
 |c::cs,h=>by simp only[PuL]at h;simp only[dN,Pu.ren ρ h.1,PuL.ren ρ h.2]
theorem fU.ren(ρ:Nat->Nat):∀ {xs:List (List AV)},fU xs->dm ρ xs=xs
 | [],_=>rfl
 |x::xs,h=>by simp only[fU]at h;simp only[dm,PuL.ren ρ h.1,fU.ren ρ h.2]
end
mutual
theorem Pu.fz(σ:St)(zs:List Nat):∀ {v:AV},Pu v->fz σ zs v=v
 |.dead,_|.bool _,_|.int _ _,_|.str _,_|.nilp,_|.nilf,_|.any,_=>rfl
 |.agg cs,h|.tup cs,h|.fn _ cs,h=>by simp only[Pu]at h;simp only[Go.FH.fz,PuL.fz σ zs h]
 |.sl _ _ xs,h|.elt _ xs _ _,h=>by simp only[Pu]at h;simp only[Go.FH.fz,fU.fz σ zs h]
 |.ptr _ _,h|.hs _ _ _ _,h|.va _ _ _ _,h|.vp _ _ _ _,h|.mp _,h=>by simp only[Pu]at h
theorem PuL.fz(σ:St)(zs:List Nat):∀ {cs:List AV},PuL cs->fzL σ zs cs=cs
 | [],_=>rfl
 |c::cs,h=>by simp only[PuL]at h;simp only[fzL,Pu.fz σ zs h.1,PuL.fz σ zs h.2]
theorem fU.fz(σ:St)(zs:List Nat):∀ {xs:List (List AV)},fU xs->gm σ zs xs=xs
 | [],_=>rfl
 |x::xs,h=>by simp only[fU]at h;simp only[gm,PuL.fz σ zs h.1,fU.fz σ zs h.2]
end
mutual
theorem Nu:∀ (v:AV),ren (fun i=>i) v=v
 |.dead|.bool _|.int _ _|.str _|.nilp|.nilf|.any|.ptr _ _|.hs _ _ _ _|.va _ _ _ _|.vp _ _ _ _|.mp _=>rfl
 |.agg cs|.tup cs|.fn _ cs=>by simp only[ren,xf cs]
 |.sl _ _ xs|.elt _ xs _ _=>by simp only[ren,CS xs]
theorem xf:∀ (cs:List AV),dN (fun i=>i) cs=cs
 | []=>rfl
 |c::cs=>by simp only[dN,Nu c,xf cs]
theorem CS:∀ (xs:List (List AV)),dm (fun i=>i) xs=xs
 | []=>rfl
 |x::xs=>by simp only[dm,xf x,CS xs]
end
theorem OQ(o:bZ):jh (fun i=>i) o=o:=by cases o<;>simp only[jh,xf,CS]
theorem sG(n:Nat):rn (List.range n) n=fun i=>i:=by
 unfold rn;grind
section
variable{P:Program}{nt k:Nat}{fr:Fr}{σ:St}
structure PC(P:Program)(f:FuncId)(args:List AV)(r:AV):Prop where
 call:aJ P f args [] r []
 pa:PuL args
 pr:Pu r
def PQ(rs:List fS)(r:AV):Ex->Fr->St->Prop
 |.exit _,_,_=>False
 |_,fr,σ=>∃l,dy fr σ rs=some l/\(fz σ (List.range σ.length) (fJ l)=r\/∃r0,fz σ (List.range σ.length) (fJ l)=r0/\Pu r0/\Wk r0 r)
theorem lJ(σ:St)(b:List Nat):nJ 0 σ b [] []:=⟨fun i c=>af0,ae6,af1,rfl,fun i o h=>af3⟩
theorem Fb{f:FuncId}{g:List fS}{e:am}(d:cE P f=some (nt,g,e)):∃a c,P.funcs[f]?=some a/\a.body=some c/\pD P f=true/\iS (zj P c) P a.ntmps c=some e/\a.ntmps=nt/\
 a.results.toList.length<=5/\ml P a.results.toList=some g:=by
 unfold cE at d;split at d
 ·rename_i a k
  split at d
  ·rename_i i
   simp only[afL]at i;split at d
   ·rename_i c j;split at d
    ·unfold pD;grind
    grind
   grind
  grind
 grind
theorem PC.fact{f:FuncId}{g:List fS}{n:am}{args:List AV}{r:AV}(b:Nat)(z:cE P f=some (nt,g,n))(x:args.length<=nt)(y:PuL args)(d:Pu r)
 (h:Tri P nt 0 n (PQ g r) ⟨b,args++List.replicate (b-args.length) .dead,[]⟩ []):PC P f args r:=by
 refine⟨?_,y,d⟩;obtain⟨C,c,q,s,t,u,rfl,v,w⟩:=Fb z;refine aJ.of_body b q s t u af1 v w x (Tri.mono h fun e p σ' j=>?_) (afE _);cases e with
 |exit _=>exact j.elim
 | normal | ret =>
   obtain⟨l,m,a⟩:=j;rcases a with a|⟨A,a,B,o⟩
   ·exact⟨l,_,[],r,m,lJ _ _,afK _,by rw[a,d.ren],Wk.refl r⟩
   ·exact⟨l,_,[],A,m,lJ _ _,afK _,by rw[a,B.ren],o⟩
theorem tX(σ:St):aN σ [] []=σ:=by simp[aN,kY]
theorem ap{f:FuncId}{args a:List AV}{r:AV}{K:AV->St->Prop}(h:PC P f (args++a) r)(g:K r σ):fL P (.fn (.func f) a) args σ K:=by
 refine⟨args++a,[],r,[],[],h.call,(h.pa.ren _).symm,⟨rfl,ae6,af1,fun i j e=>af3⟩,?_⟩;rw[h.pr.ren,tX];omega
def Fr.wipe(ds:List Nat)(fr:Fr):Fr:=⟨fr.nv,ds.foldl (fun vs d=>vs.set d .dead) fr.vs,[]⟩
theorem FP(t:Nat):∀ (f:List Nat) (vs:List AV),(f.foldl (fun vs d=>vs.set d .dead) vs).getD t .dead=.dead\/(f.foldl (fun vs d=>vs.set d .dead) vs).getD t .dead=vs.getD t .dead
 | [],vs=>.inr rfl
 | d :: f, vs => by
   rcases FP t f (vs.set d .dead)with h|h
   ·grind
   grind
theorem Fr.get_wipe(b:List Nat)(a:Fr)(t:Nat):(a.wipe b).get t=.dead\/(a.wipe b).get t=a.get t:=by
 unfold Fr.wipe Fr.get;split
 ·exact FP t b a.vs
 ·exact .inl rfl
theorem Lh{c:am}{Q:Ex->Fr->St->Prop}(ds:List Nat)(h:Tri P nt k c Q (fr.wipe ds) σ):Tri P nt k c Q fr σ:=
 Sg _ (Fr.get_wipe ds fr) h
theorem kh{ι:Type}{x:am}{Q:Ex->Fr->St->Prop}(F:ι->Fr)(S:ι->St)(μ:ι->Nat)(g:ι->Prop)(d:List Nat)(x0:ι)(s:g x0)(h:fr.wipe d=F x0)(hσ:σ=S x0)
 (c:∀i,g i->Tri P nt k x (fK (fun fr σ=>∃j,g j/\μ j<μ i/\fr.wipe d=F j/\σ=S j) Q) (F i) (S i)):Tri P nt k (.loop x) Q fr σ:=by
 refine Lh d (rW (fun m fr σ=>∃i,g i/\μ i=m/\(fr=F i\/fr.wipe d=F i)/\σ=S i) (μ x0) ⟨x0,s,rfl,.inl h,hσ⟩ ?_);rintro m u σ1 ⟨i,v,rfl,n,rfl⟩
 have f:Tri P nt k x (fK (fun fr σ=>∃q,q<μ i/\∃i,g i/\μ i=q/\(fr=F i\/fr.wipe d=F i)/\σ=S i) Q) (F i) (S i):=by
  refine Tri.mono (c i v) fun e fr2 σ2 l=>?_
  cases e with
  |normal=>obtain⟨j,w,y,z,A⟩:=l;exact⟨μ j,y,j,w,rfl,.inr z,A⟩
  |exit _=>exact l
  |ret=>exact l
 rcases n with rfl|n
 ·omega
 ·rw[<-n]at f;exact Lh d f
def GC(k:Nat)(fr:Fr)(σ:St)(fr2:Fr)(σ2:St):Prop:=∃zs js,nJ k σ zs js σ2/\k<=js.length/\∀t,fr2.get t=.dead\/fz σ zs (fr.get t)=ren (rn js σ.length) (fr2.get t)
theorem fN{c:am}{Q:Ex->Fr->St->Prop}{fr2:Fr}{σ2:St}(d:GC k fr σ fr2 σ2)(h:Tri P nt k c Q fr2 σ2):Tri P nt k c Q fr σ:=by
 obtain⟨g,i,j,l,b⟩:=d;exact Ds g i fr2 σ2 j l b h
theorem eR{ι:Type}{x:am}{Q:Ex->Fr->St->Prop}(F:ι->Fr)(S:ι->St)(μ:ι->Nat)(d:ι->Prop)(x0:ι)(n:d x0)(f:GC k fr σ (F x0) (S x0))
 (a:∀i,d i->Tri P nt k x (fK (fun fr σ=>∃j,d j/\μ j<μ i/\GC k fr σ (F j) (S j)) Q) (F i) (S i)):Tri P nt k (.loop x) Q fr σ:=by
 refine rW (fun m fr σ=>∃i,d i/\μ i=m/\GC k fr σ (F i) (S i)) (μ x0) ⟨x0,n,rfl,f⟩ ?_;rintro m h σ1 ⟨i,o,rfl,p⟩;refine fN p (Tri.mono (a i o) fun e fr2 σ2 q=>?_);grind
def gH(σ:St)(zs:List Nat)(ρ:Nat->Nat):List AV->List AV->Prop
 |_,[]=>True
 |x::xs,y::ys=>(y=.dead\/fz σ zs x=ren ρ y)/\gH σ zs ρ xs ys
 | [],y::ys=>y=.dead/\gH σ zs ρ [] ys
theorem gH.get{σ:St}{c:List Nat}{ρ:Nat->Nat}:∀ {xs ys:List AV},gH σ c ρ xs ys->∀t,ys.getD t .dead=.dead\/fz σ c (xs.getD t .dead)=ren ρ (ys.getD t .dead)
 |_,[],_,t=>.inl af1
 | x :: xs, y :: ys, h, t => by
   cases t with
   |zero=>simpa using h.1
   |succ t=>simpa using gH.get h.2 t
 | [], y :: ys, h, t => by
   cases t with
   |zero=>exact .inl (by simpa using h.1)
   |succ t=>simpa using gH.get h.2 t
def gB(σ:St)(zs:List Nat)(ρ:Nat->Nat):List Nat->St->Prop
 | [],[]=>True
 |j::js,o::os=>(o=.gone\/(j∉zs/\(σ[j]?).map (fzO σ zs)=some (jh ρ o)))/\gB σ zs ρ js os
 |_,_=>False
theorem gB.len{σ:St}{c:List Nat}{ρ:Nat->Nat}:∀ {b:List Nat} {a:St},gB σ c ρ b a->a.length=b.length
 | [],[],_=>rfl
 |j::b,o::a,h=>by simp[gB.len h.2]
 | [],_::_,h|_::_,[],h=>h.elim
theorem gB.get{σ:St}{b:List Nat}{ρ:Nat->Nat}:∀ {a:List Nat} {c:St},gB σ b ρ a c->∀ (i:Nat) (o:bZ),c[i]?=some o->o=.gone\/∃j,a[i]?=some j/\j∉b/\(σ[j]?).map (fzO σ b)=some (jh ρ o)
 | [],[],_,i,o,h=>by grind
 | j :: a, o' :: c, h, i, o, g => by
   cases i with
   | zero =>
     rcases h.1 with e|e
     ·grind
     grind
   |succ i=>simpa using gB.get h.2 i o af3
 | [],_::_,h,_,_,_|_::_,[],h,_,_,_=>h.elim
theorem GC.mk'{f:Nat}{vs b:List AV}{n:List (Nat×AV)}{σ2:St}(c a:List Nat)(o:k<=a.length)(g:a.take k=List.range k)(e:a.Nodup)(d:∀j∈a,j<σ.length)(l:gB σ c (rn a σ.length) a σ2)
 (p:gH σ c (rn a σ.length) vs b):GC k ⟨f,vs,n⟩ σ ⟨f,b,[]⟩ σ2:=by
 refine⟨c,a,⟨fun i q=>?_,e,d,l.len,l.get⟩,o,fun t=>?_⟩
 ·have:(a.take k)[i]?=some i:=af3
  grind
 ·unfold Fr.get;split
  ·exact p.get t
  ·exact .inl rfl
end
def bts(bs:List UInt8):List (List AV):=bs.map fun b=>[.int .u8 (b.toNat:Int)]
def ah(k:IntKind)(ns:List Int):List (List AV):=ns.map fun n=>[.int k n]
@[simp] theorem Cf(bs:List UInt8):(bts bs).length=bs.length:=by simp[bts]
@[simp] theorem yW(k:IntKind)(ns:List Int):(ah k ns).length=ns.length:=by simp[ah]
theorem iP(bs:List UInt8):fU (bts bs):=by
 rw[nK];intro x c;obtain⟨b,_,rfl⟩:=acz.1 c;exact⟨trivial,trivial⟩
theorem aY(k:IntKind)(ns:List Int):fU (ah k ns):=by
 rw[nK];intro x c;obtain⟨b,_,rfl⟩:=acz.1 c;exact⟨trivial,trivial⟩
theorem lP(ρ:Nat->Nat)(bs:List UInt8):dm ρ (bts bs)=bts bs:=(iP bs).ren ρ
theorem nW(σ:St)(zs:List Nat)(bs:List UInt8):gm σ zs (bts bs)=bts bs:=(iP bs).fz σ zs
theorem fp(ρ:Nat->Nat)(k:IntKind)(ns:List Int):dm ρ (ah k ns)=ah k ns:=(aY k ns).ren ρ
theorem gN(σ:St)(zs:List Nat)(k:IntKind)(ns:List Int):gm σ zs (ah k ns)=ah k ns:=(aY k ns).fz σ zs
theorem Qm{k:IntKind}{ns:List Int}{i:Nat}(h:i<ns.length):(ah k ns).getD i []=[.int k ns[i]]:=by
 simp[ah,afy,h]
theorem kJ(a b:List UInt8):bts a++bts b=bts (a++b):=by simp[bts]
theorem WN(b:UInt8):[[AV.int .u8 (b.toNat:Int)]]=bts [b]:=rfl
theorem LC(bs:List UInt8):(bts bs).all mL=true:=by simp[bts,mL]
theorem UG(bs:List UInt8):(bts bs).map tI=bs:=by
 simp only[bts,afi];conv=>rhs;rw[<-List.map_id bs]
 apply acN
 simp[tI]
theorem ZT(σ:St)(e:Nat)(cl:Bool)(xs:List (List AV)):rdB σ (.sl e cl xs)=rdS σ 1 (.sl e cl xs):=rfl
theorem ZS(σ:St)(e id off len:Nat):rdB σ (.hs e id off len)=rdS σ 1 (.hs e id off len):=rfl
theorem ZU(σ:St)(e id off len:Nat):rdB σ (.va e id off len)=rdS σ 1 (.va e id off len):=rfl
theorem S7(n:Nat)(bs:List UInt8):(bts bs).take n=bts (bs.take n):=by simp[bts]
def byt(n:Int):UInt8:=UInt8.ofNat (IntKind.u8.wrap n).toNat
theorem Wu(n:Int):((byt n).toNat:Int)=IntKind.u8.wrap n:=by
 unfold byt
 have c:0<=IntKind.u8.wrap n/\IntKind.u8.wrap n<256:=by
  rw[IntKind.wrap_u8];omega
 simp only[aeK];omega
theorem S9(n:Nat):((no_index (OfNat.ofNat n):Nat):Int)=OfNat.ofNat n:=rfl
theorem ar{n:Int}(c:-9223372036854775808<=n)(b:n<=9223372036854775807):IntKind.i64.wrap n=n:=by rw[IntKind.wrap_i64];omega
theorem ae{i n:Nat}(c:i<n)(b:n<=9223372036854775807):IntKind.i64.wrap ((i:Int)+1)=((i+1:Nat):Int):=by rw[ar af0 af0];rfl
theorem lj(n:Int):IntKind.u64.wrap n=n%18446744073709551616:=by simp[IntKind.wrap,IntKind.bits,IntKind.signed]
theorem aC{n:Int}(c:0<=n)(b:n<18446744073709551616):IntKind.u64.wrap n=n:=by rw[lj];omega
theorem Aq(σ:St)(o:bZ):(σ++[bZ.gone]).set σ.length o=σ++[o]:=by
 simp
theorem VH(σ:St)(id:Nat)(o:bZ):((σ++[bZ.gone]).set id .gone).set σ.length o=σ.set id .gone++[o]:=by
 by_cases h:id<σ.length
 ·simp_all
 ·rw[aeU _ _ af0,List.set_eq_of_length_le (by omega:σ.length<=id)]
  have:([bZ.gone].set (id-σ.length) .gone)=[.gone]:=by
   cases id-σ.length<;>rfl
  grind
theorem Xe(σ:St){id:Nat}(h:id<σ.length):(σ++[bZ.gone])[id]?=σ[id]?:=afU h
theorem evF:
 (∀b vs h t,Fr.get ⟨b,vs,h⟩ t=if t<b then vs.getD t .dead else qB h t)/\
 (∀b vs h t v,Fr.put ⟨b,vs,h⟩ t v=if t<b then ⟨b,vs.set t v,h⟩else ⟨b,vs,(t,v)::h⟩)/\
 (∀f t v,Fr.putO f (some t) v=f.put t v)/\(∀f v,Fr.putO f none v=f)/\
 (∀t k v r,qB ((k,v)::r) t=if t=k then v else qB r t)/\(∀t,qB [] t=.dead)/\
 (∀g b vs h,Fr.wipe g ⟨b,vs,h⟩=⟨b,g.foldl (fun vs d=>vs.set d .dead) vs,[]⟩)/\
 (∀j n,Opd.ev j (.t n)=j.get n)/\(∀j v,Opd.ev j (.c v)=v)/\
 (∀ (x:AV) xs v,(x::xs).set 0 v=v::xs)/\(∀ (x:AV) xs n v,(x::xs).set (n+1) v=x::xs.set n v)/\
 (∀ (x:AV) xs d,(x::xs).getD 0 d=x)/\(∀ (x:AV) xs n d,(x::xs).getD (n+1) d=xs.getD n d)/\
 (∀ (x:AV) xs d,(x::xs).headD d=x)/\(∀ (xs:List AV),xs.drop 0=xs)/\(∀ (x:AV) xs n,(x::xs).drop (n+1)=xs.drop n)/\(∀ (xs:List AV),xs.take 0=[])/\(∀ (x:AV) xs n,(x::xs).take (n+1)=x::xs.take n)/\
 (∀ (x:AV),List.replicate 0 x=[])/\(∀ (x:AV) n,List.replicate (n+1) x=x::List.replicate n x)/\
 (∀ (xs:List AV),[]++xs=xs)/\(∀ (x:AV) xs ys,(x::xs)++ys=x::(xs++ys))/\(∀ (xs:List AV),xs++[]=xs)/\
 (∀ (g:List AV) (x:Nat) xs f,List.foldl f g (x::xs)=List.foldl f (f g x) xs)/\(∀ (g:List AV) (f:List AV->Nat->List AV),List.foldl f g []=g):=
 ⟨fun _ _ _ _=>rfl,fun _ _ _ _ _=>by simp only[Fr.put],fun _ _ _=>rfl,fun _ _=>rfl,fun _ _ _ _=>rfl,fun _=>rfl,fun _ _ _ _=>rfl,fun _ _=>rfl,fun _ _=>rfl,fun _ _ _=>rfl,fun _ _ _ _=>rfl,fun _ _ _=>rfl,fun _ _ _ _=>rfl,fun _ _ _=>rfl,fun _=>rfl,fun _ _ _=>rfl,fun _=>rfl,fun _ _ _=>rfl,fun _=>rfl,fun _ _=>rfl,fun _=>rfl,fun _ _ _=>rfl,fun _=>acH _,fun _ _ _ _=>rfl,fun _ _=>rfl⟩
theorem evR(P:Program):
 (∀Q fr σ,rD P [] Q fr σ=Q fr σ)/\
 (∀d op r Q nv vs ts,rD P (⟨d,op,none⟩::r) Q ⟨nv,vs,ts⟩ []=aDo P op ⟨nv,vs,ts⟩ [] fun av σ'=>rD P r Q (Fr.putO ⟨nv,vs,ts⟩ d av) σ')/\
 (∀d op r Q nv vs ts o os,rD P (⟨d,op,none⟩::r) Q ⟨nv,vs,ts⟩ (o::os)=aDo P op ⟨nv,vs,ts⟩ (o::os) fun av σ'=>rD P r Q (Fr.putO ⟨nv,vs,ts⟩ d av) σ')/\
 (∀d op g r Q nv vs ts,rD P (⟨d,op,some g⟩::r) Q ⟨nv,vs,ts⟩ []=aGd (some g) ⟨nv,vs,ts⟩ (fun fr=>aDo P op fr [] fun av σ'=>rD P r Q (fr.putO d av) σ') (fun fr=>rD P r Q (fr.putO d (.tup [])) []))/\
 (∀d op g r Q nv vs ts o os,rD P (⟨d,op,some g⟩::r) Q ⟨nv,vs,ts⟩ (o::os)=aGd (some g) ⟨nv,vs,ts⟩ (fun fr=>aDo P op fr (o::os) fun av σ'=>rD P r Q (fr.putO d av) σ') (fun fr=>rD P r Q (fr.putO d (.tup [])) (o::os))):=
 ⟨fun _ _ _=>rfl,fun _ _ _ _ _ _ _=>rfl,fun _ _ _ _ _ _ _ _ _=>rfl,fun _ _ _ _ _ _ _ _=>rfl,fun _ _ _ _ _ _ _ _ _ _=>rfl⟩
def gdV(v:AV)(want:Bool)(t:Nat)(fr:Fr)(yes no:Fr->Prop):Prop:=match v with
 |.bool b=>(b=want->yes (fr.put t (.bool want)))/\(b=!want->no (fr.put t (.bool !want)))
 |.tup []=>no fr
 |_=>False
theorem evQ:
 (∀t f a b e,aGd (some (t,f)) a b e=gdV (a.get t) f t a b e)/\
 (∀t a b e,gdV (.bool true) true t a b e=b (a.put t (.bool true)))/\(∀t a b e,gdV (.bool false) true t a b e=e (a.put t (.bool false)))/\
 (∀t a b e,gdV (.bool true) false t a b e=e (a.put t (.bool true)))/\(∀t a b e,gdV (.bool false) false t a b e=b (a.put t (.bool false)))/\
 (∀f t a b e,gdV (.tup []) f t a b e=e a)/\
 (∀c Q a σ,fK c Q .normal a σ=c a σ)/\(∀c Q i a σ,fK c Q (.exit i) a σ=Q (.exit i) a σ)/\(∀c Q a σ,fK c Q .ret a σ=Q .ret a σ)/\
 (∀id Q a σ,mo id Q .normal a σ=Q .normal a σ)/\(∀id Q a σ,mo id Q .ret a σ=Q .ret a σ)/\(∀id Q i a σ,mo id Q (.exit i) a σ=if i=id then Q .normal a σ else Q (.exit i) a σ):=
 ⟨fun _ _ _ _ _=>rfl,fun _ _ _ _=>by simp[gdV],fun _ _ _ _=>by simp[gdV],fun _ _ _ _=>by simp[gdV],fun _ _ _ _=>by simp[gdV],fun _ _ _ _ _=>rfl,fun _ _ _ _=>rfl,fun _ _ _ _ _=>rfl,fun _ _ _ _=>rfl,fun _ _ _ _=>rfl,fun _ _ _ _=>rfl,fun _ _ _ _ _=>rfl⟩
@[congr] theorem Zl{P:Program}{r:List cS}{Q:Fr->St->Prop}{c b:Fr}{σ σ':St}(e:c=b)(d:σ=σ'):rD P r Q c σ=rD P r Q b σ':=by grind
@[congr] theorem Zk{P:Program}{r:List (cS×Nat)}{Q:Fr->St->Prop}{i c n d:Nat}{H e:vt}{f b:Fr}{σ σ':St}(h:i=c)(j:n=d)(k:H=e)(l:f=b)(g:σ=σ'):qe P r i n H Q f σ=qe P r c d e Q b σ':=by grind
@[congr] theorem aaj{P:Program}{d:AOp}{K:AV->St->Prop}{c b:Fr}{σ σ':St}(f:c=b)(e:σ=σ'):aDo P d c σ K=aDo P d b σ' K:=by grind
@[congr] theorem Zj{P:Program}{n d:Nat}{e:AOp}{K:AV->List Nat->List Nat->St->Prop}{c b:Fr}{σ σ':St}(g:n=d)(h:c=b)(f:σ=σ'):fm P n e c σ K=fm P d e b σ' K:=by grind
@[congr] theorem aaQ{n b:Nat}{ρ:Opd->AV}{c:AOp}{K:AV->List Nat->Bool->St->Prop}{σ:St}(d:n=b):opF n σ ρ K c=opF b σ ρ K c:=by grind
@[congr] theorem aam{v d:AV}{a:Bool}{t:Nat}{e:Fr}{c f:Fr->Prop}(h:v=d):gdV v a t e c f=gdV d a t e c f:=by rw[h]
@[congr] theorem aak{g:Option (Nat×Bool)}{d b:Fr}{c e:Fr->Prop}(h:d=b):aGd g d c e=aGd g b c e:=by rw[h]
@[congr] theorem Y8{b:Fr->St->Prop}{Q:Ex->Fr->St->Prop}{e:Ex}{d c:Fr}{σ σ':St}(g:d=c)(f:σ=σ'):fK b Q e d σ=fK b Q e c σ':=by grind
@[congr] theorem TZ{id:Nat}{Q:Ex->Fr->St->Prop}{e:Ex}{c b:Fr}{σ σ':St}(f:c=b)(d:σ=σ'):mo id Q e c σ=mo id Q e b σ':=by grind
@[congr] theorem aah{P:Program}{e k:Nat}{c:am}{Q:Ex->Fr->St->Prop}{d b:Fr}{σ σ':St}(g:d=b)(f:σ=σ'):Tri P e k c Q d σ=Tri P e k c Q b σ':=by grind
@[congr] theorem S8{P:Program}{g c:AV}{xs b:List AV}{K:AV->St->Prop}{σ σ':St}(e:g=c)(f:xs=b)(d:σ=σ'):fL P g xs σ K=fL P c b σ' K:=by grind
@[congr] theorem Ww{neg:Bool}{x b:AV}{K:AV->St->Prop}{σ σ':St}(d:x=b)(c:σ=σ'):oN neg x σ K=oN neg b σ' K:=by grind
@[congr] theorem Wx{x b:AV}{K:AV->St->Prop}{σ σ':St}(d:x=b)(c:σ=σ'):qF x σ K=qF b σ' K:=by grind
@[congr] theorem aat{d:List fS}{r:AV}{e:Ex}{c b:Fr}{σ σ':St}(g:c=b)(f:σ=σ'):PQ d r e c σ=PQ d r e b σ':=by grind
@[congr] theorem Zf{d:List fS}{k:Nat}{τ:St}{r:AV}{e:Ex}{c b:Fr}{σ σ':St}(g:c=b)(f:σ=σ'):xC d k τ r e c σ=xC d k τ r e b σ':=by grind
theorem evL(P:Program):
 (∀i n H Q fr σ,qe P [] i n H Q fr σ=Q fr σ)/\
 (∀d op m r i n H Q nv vs ts,qe P ((⟨d,op,none⟩,m)::r) i n H Q ⟨nv,vs,ts⟩ []=fm P n op ⟨nv,vs,ts⟩ [] fun av ft wr σ'=>okH m H ft wr/\qe P r (i+1) (if op.allocs then n+1 else n) (oa i ft wr H) Q (Fr.putO ⟨nv,vs,ts⟩ d av) σ')/\
 (∀d op m r i n H Q nv vs ts o os,qe P ((⟨d,op,none⟩,m)::r) i n H Q ⟨nv,vs,ts⟩ (o::os)=fm P n op ⟨nv,vs,ts⟩ (o::os) fun av ft wr σ'=>okH m H ft wr/\qe P r (i+1) (if op.allocs then n+1 else n) (oa i ft wr H) Q (Fr.putO ⟨nv,vs,ts⟩ d av) σ')/\
 (∀d op g m r i n H Q nv vs ts,qe P ((⟨d,op,some g⟩,m)::r) i n H Q ⟨nv,vs,ts⟩ []=aGd (some g) ⟨nv,vs,ts⟩ (fun fr=>fm P n op fr [] fun av ft wr σ'=>okH m H ft wr/\qe P r (i+1) (if op.allocs then n+1 else n) (oa i ft wr H) Q (fr.putO d av) σ')
  (fun fr=>qe P r (i+1) (if op.allocs then n+1 else n) H Q (fr.putO d (.tup [])) []))/\
 (∀d op g m r i n H Q nv vs ts o os,qe P ((⟨d,op,some g⟩,m)::r) i n H Q ⟨nv,vs,ts⟩ (o::os)=aGd (some g) ⟨nv,vs,ts⟩ (fun fr=>fm P n op fr (o::os) fun av ft wr σ'=>okH m H ft wr/\qe P r (i+1) (if op.allocs then n+1 else n) (oa i ft wr H) Q (fr.putO d av) σ')
  (fun fr=>qe P r (i+1) (if op.allocs then n+1 else n) H Q (fr.putO d (.tup [])) (o::os))):=
 ⟨fun _ _ _ _ _ _=>rfl,fun _ _ _ _ _ _ _ _ _ _ _=>rfl,fun _ _ _ _ _ _ _ _ _ _ _ _ _=>rfl,fun _ _ _ _ _ _ _ _ _ _ _ _=>rfl,fun _ _ _ _ _ _ _ _ _ _ _ _ _ _=>rfl⟩
theorem evD(P:Program):
 (∀x n nv vs ts σ K,fm P n (.mv x) ⟨nv,vs,ts⟩ σ K=opF n σ (Opd.ev ⟨nv,vs,ts⟩) (fun v ft wr σ'=>K v ft (chg ft wr) σ') (.mv x))/\
 (∀c a b n nv vs ts σ K,fm P n (.pick c a b) ⟨nv,vs,ts⟩ σ K=opF n σ (Opd.ev ⟨nv,vs,ts⟩) (fun v ft wr σ'=>K v ft (chg ft wr) σ') (.pick c a b))/\
 (∀op x y n nv vs ts σ K,fm P n (.bin op x y) ⟨nv,vs,ts⟩ σ K=opF n σ (Opd.ev ⟨nv,vs,ts⟩) (fun v ft wr σ'=>K v ft (chg ft wr) σ') (.bin op x y))/\
 (∀kd neg x y n nv vs ts σ K,fm P n (.eqv kd neg x y) ⟨nv,vs,ts⟩ σ K=opF n σ (Opd.ev ⟨nv,vs,ts⟩) (fun v ft wr σ'=>K v ft (chg ft wr) σ') (.eqv kd neg x y))/\
 (∀ks neg x y n nv vs ts σ K,fm P n (.eqa ks neg x y) ⟨nv,vs,ts⟩ σ K=opF n σ (Opd.ev ⟨nv,vs,ts⟩) (fun v ft wr σ'=>K v ft (chg ft wr) σ') (.eqa ks neg x y))/\
 (∀op x n nv vs ts σ K,fm P n (.un op x) ⟨nv,vs,ts⟩ σ K=opF n σ (Opd.ev ⟨nv,vs,ts⟩) (fun v ft wr σ'=>K v ft (chg ft wr) σ') (.un op x))/\
 (∀k x n nv vs ts σ K,fm P n (.cvt k x) ⟨nv,vs,ts⟩ σ K=opF n σ (Opd.ev ⟨nv,vs,ts⟩) (fun v ft wr σ'=>K v ft (chg ft wr) σ') (.cvt k x))/\
 (∀x n nv vs ts σ K,fm P n (.b2s x) ⟨nv,vs,ts⟩ σ K=opF n σ (Opd.ev ⟨nv,vs,ts⟩) (fun v ft wr σ'=>K v ft (chg ft wr) σ') (.b2s x))/\
 (∀x n nv vs ts σ K,fm P n (.nilc x) ⟨nv,vs,ts⟩ σ K=opF n σ (Opd.ev ⟨nv,vs,ts⟩) (fun v ft wr σ'=>K v ft (chg ft wr) σ') (.nilc x))/\
 (∀ag off sz x n nv vs ts σ K,fm P n (.fld ag off sz x) ⟨nv,vs,ts⟩ σ K=opF n σ (Opd.ev ⟨nv,vs,ts⟩) (fun v ft wr σ'=>K v ft (chg ft wr) σ') (.fld ag off sz x))/\
 (∀off x n nv vs ts σ K,fm P n (.fldA off x) ⟨nv,vs,ts⟩ σ K=opF n σ (Opd.ev ⟨nv,vs,ts⟩) (fun v ft wr σ'=>K v ft (chg ft wr) σ') (.fldA off x))/\
 (∀ag m e x i n nv vs ts σ K,fm P n (.idx ag m e x i) ⟨nv,vs,ts⟩ σ K=opF n σ (Opd.ev ⟨nv,vs,ts⟩) (fun v ft wr σ'=>K v ft (chg ft wr) σ') (.idx ag m e x i))/\
 (∀m e x i n nv vs ts σ K,fm P n (.idxA m e x i) ⟨nv,vs,ts⟩ σ K=opF n σ (Opd.ev ⟨nv,vs,ts⟩) (fun v ft wr σ'=>K v ft (chg ft wr) σ') (.idxA m e x i))/\
 (∀e x i n nv vs ts σ K,fm P n (.idxS e x i) ⟨nv,vs,ts⟩ σ K=opF n σ (Opd.ev ⟨nv,vs,ts⟩) (fun v ft wr σ'=>K v ft (chg ft wr) σ') (.idxS e x i))/\
 (∀i x n nv vs ts σ K,fm P n (.ext i x) ⟨nv,vs,ts⟩ σ K=opF n σ (Opd.ev ⟨nv,vs,ts⟩) (fun v ft wr σ'=>K v ft (chg ft wr) σ') (.ext i x))/\
 (∀st x n nv vs ts σ K,fm P n (.len st x) ⟨nv,vs,ts⟩ σ K=opF n σ (Opd.ev ⟨nv,vs,ts⟩) (fun v ft wr σ'=>K v ft (chg ft wr) σ') (.len st x))/\
 (∀x n nv vs ts σ K,fm P n (.cap x) ⟨nv,vs,ts⟩ σ K=opF n σ (Opd.ev ⟨nv,vs,ts⟩) (fun v ft wr σ'=>K v ft (chg ft wr) σ') (.cap x))/\
 (∀f caps n nv vs ts σ K,fm P n (.mkf f caps) ⟨nv,vs,ts⟩ σ K=opF n σ (Opd.ev ⟨nv,vs,ts⟩) (fun v ft wr σ'=>K v ft (chg ft wr) σ') (.mkf f caps))/\
 (∀z ps n nv vs ts σ K,fm P n (.bld z ps) ⟨nv,vs,ts⟩ σ K=opF n σ (Opd.ev ⟨nv,vs,ts⟩) (fun v ft wr σ'=>K v ft (chg ft wr) σ') (.bld z ps))/\
 (∀e m z ps n nv vs ts σ K,fm P n (.bldS e m z ps) ⟨nv,vs,ts⟩ σ K=opF n σ (Opd.ev ⟨nv,vs,ts⟩) (fun v ft wr σ'=>K v ft (chg ft wr) σ') (.bldS e m z ps))/\
 (∀ag sz x n nv vs ts σ K,fm P n (.ld ag sz x) ⟨nv,vs,ts⟩ σ K=opF n σ (Opd.ev ⟨nv,vs,ts⟩) (fun v ft wr σ'=>K v ft (chg ft wr) σ') (.ld ag sz x))/\
 (∀sz x y n nv vs ts σ K,fm P n (.sto sz x y) ⟨nv,vs,ts⟩ σ K=opF n σ (Opd.ev ⟨nv,vs,ts⟩) (fun v ft wr σ'=>K v ft (chg ft wr) σ') (.sto sz x y))/\
 (∀z n nv vs ts σ K,fm P n (.new z) ⟨nv,vs,ts⟩ σ K=opF n σ (Opd.ev ⟨nv,vs,ts⟩) (fun v ft wr σ'=>K v ft (chg ft wr) σ') (.new z))/\
 (∀sz x n nv vs ts σ K,fm P n (.box sz x) ⟨nv,vs,ts⟩ σ K=opF n σ (Opd.ev ⟨nv,vs,ts⟩) (fun v ft wr σ'=>K v ft (chg ft wr) σ') (.box sz x))/\
 (∀e bytes z l c n nv vs ts σ K,fm P n (.mk e bytes z l c) ⟨nv,vs,ts⟩ σ K=opF n σ (Opd.ev ⟨nv,vs,ts⟩) (fun v ft wr σ'=>K v ft (chg ft wr) σ') (.mk e bytes z l c))/\
 (∀e bytes s x n nv vs ts σ K,fm P n (.app e bytes s x) ⟨nv,vs,ts⟩ σ K=opF n σ (Opd.ev ⟨nv,vs,ts⟩) (fun v ft wr σ'=>K v ft (chg ft wr) σ') (.app e bytes s x))/\
 (∀e d s n nv vs ts σ K,fm P n (.cpy e d s) ⟨nv,vs,ts⟩ σ K=opF n σ (Opd.ev ⟨nv,vs,ts⟩) (fun v ft wr σ'=>K v ft (chg ft wr) σ') (.cpy e d s))/\
 (∀e x lo hi mx n nv vs ts σ K,fm P n (.sli e x lo hi mx) ⟨nv,vs,ts⟩ σ K=opF n σ (Opd.ev ⟨nv,vs,ts⟩) (fun v ft wr σ'=>K v ft (chg ft wr) σ') (.sli e x lo hi mx))/\
 (∀e m x lo hi n nv vs ts σ K,fm P n (.sliA e m x lo hi) ⟨nv,vs,ts⟩ σ K=opF n σ (Opd.ev ⟨nv,vs,ts⟩) (fun v ft wr σ'=>K v ft (chg ft wr) σ') (.sliA e m x lo hi))/\
 (∀xs n nv vs ts σ K,fm P n (.mn xs) ⟨nv,vs,ts⟩ σ K=opF n σ (Opd.ev ⟨nv,vs,ts⟩) (fun v ft wr σ'=>K v ft (chg ft wr) σ') (.mn xs))/\
 (∀xs n nv vs ts σ K,fm P n (.mx xs) ⟨nv,vs,ts⟩ σ K=opF n σ (Opd.ev ⟨nv,vs,ts⟩) (fun v ft wr σ'=>K v ft (chg ft wr) σ') (.mx xs))/\
 (∀q xs n nv vs ts σ K,fm P n (.mop q xs) ⟨nv,vs,ts⟩ σ K=opF n σ (Opd.ev ⟨nv,vs,ts⟩) (fun v ft wr σ'=>K v ft (chg ft wr) σ') (.mop q xs))/\
 (∀g xs n nv vs ts σ K,fm P n (.call g xs) ⟨nv,vs,ts⟩ σ K=∃v ft wr σ',lw P n (Opd.ev ⟨nv,vs,ts⟩ g) (xs.map (Opd.ev ⟨nv,vs,ts⟩)) σ v ft wr σ'/\K v ft wr σ'):=
 ⟨fun _ _ _ _ _ _ _=>rfl,fun _ _ _ _ _ _ _ _ _=>rfl,fun _ _ _ _ _ _ _ _ _=>rfl,fun _ _ _ _ _ _ _ _ _ _=>rfl,fun _ _ _ _ _ _ _ _ _ _=>rfl,fun _ _ _ _ _ _ _ _=>rfl,fun _ _ _ _ _ _ _ _=>rfl,fun _ _ _ _ _ _ _=>rfl,fun _ _ _ _ _ _ _=>rfl,fun _ _ _ _ _ _ _ _ _ _=>rfl,fun _ _ _ _ _ _ _ _=>rfl,fun _ _ _ _ _ _ _ _ _ _ _=>rfl,fun _ _ _ _ _ _ _ _ _ _=>rfl,fun _ _ _ _ _ _ _ _ _=>rfl,fun _ _ _ _ _ _ _ _=>rfl,fun _ _ _ _ _ _ _ _=>rfl,fun _ _ _ _ _ _ _=>rfl,fun _ _ _ _ _ _ _ _=>rfl,fun _ _ _ _ _ _ _ _=>rfl,fun _ _ _ _ _ _ _ _ _ _=>rfl,fun _ _ _ _ _ _ _ _ _=>rfl,fun _ _ _ _ _ _ _ _ _=>rfl,fun _ _ _ _ _ _ _=>rfl,fun _ _ _ _ _ _ _ _=>rfl,fun _ _ _ _ _ _ _ _ _ _ _=>rfl,fun _ _ _ _ _ _ _ _ _ _=>rfl,fun _ _ _ _ _ _ _ _ _=>rfl,fun _ _ _ _ _ _ _ _ _ _ _=>rfl,fun _ _ _ _ _ _ _ _ _ _ _=>rfl,fun _ _ _ _ _ _ _=>rfl,fun _ _ _ _ _ _ _=>rfl,fun _ _ _ _ _ _ _ _=>rfl,fun _ _ _ _ _ _ _ _=>rfl⟩
section
variable(P:Program)(fr:Fr)(σ:St)(K:AV->St->Prop)
theorem evO:
 (∀x,aDo P (.mv x) fr σ K=K (x.ev fr) σ)/\
 (∀c a b,aDo P (.pick c a b) fr σ K=match c.ev fr with
  |.bool t=>K (zc t (a.ev fr) (b.ev fr)) σ
  |_=>False)/\
 (∀op x y,aDo P (.bin op x y) fr σ K=match x.ev fr,y.ev fr with
  |.int k a,.int k' b=>mZ op k a k' b fun v=>K v σ
  |_,_=>False)/\
 (∀kd neg x y,aDo P (.eqv kd neg x y) fr σ K=match qf kd (x.ev fr) (y.ev fr)with
  |some b=>K (.bool (b != neg)) σ
  |none=>False)/\
 (∀ks neg x y,aDo P (.eqa ks neg x y) fr σ K=match x.ev fr,y.ev fr with
  | .agg a, .agg b => iU ks a = true /\ iU ks b = true /\ match iB a b with
    |some r=>K (.bool (r != neg)) σ
    |none=>False
  |_,_=>False)/\
 (∀op x,aDo P (.un op x) fr σ K=match unV op (x.ev fr)with
  |some v=>K v σ
  |none=>False)/\
 (∀k x,aDo P (.cvt k x) fr σ K=match x.ev fr with
  |.int _ m=>K (.int k (k.wrap m)) σ
  |_=>False)/\
 (∀x,aDo P (.b2s x) fr σ K=match rdB σ (x.ev fr)with
  |some xs=>xs.all mL=true/\K (.str (xs.map tI)) σ
  |none=>False)/\
 (∀x,aDo P (.nilc x) fr σ K=match x.ev fr with
  |.ptr id o=>K (.ptr id o) σ
  |.vp e id i o=>K (.vp e id i o) σ
  |.elt e xs i o=>K (.elt e xs i o) σ
  |.fn (.func f) cs=>K (.fn (.func f) cs) σ
  |_=>False)/\
 (∀ag off sz x,aDo P (.fld ag off sz x) fr σ K=match x.ev fr with
  |.agg cs=>off+sz<=cs.length/\K (pack ag (cut cs off sz)) σ
  |_=>False)/\
 (∀off x,aDo P (.fldA off x) fr σ K=match x.ev fr with
  |.ptr id o=>K (.ptr id (o+off)) σ
  |.vp e id i o=>K (.vp e id i (o+off)) σ
  |.elt e xs i o=>K (.elt e xs i (o+off)) σ
  |_=>False)/\
 (∀ag m e x i,aDo P (.idx ag m e x i) fr σ K=match x.ev fr,i.ev fr with
  |.agg cs,.int _ j=>0<=j/\j<m/\cs.length=m*e/\K (pack ag (cut cs (j.toNat*e) e)) σ
  |_,_=>False)/\
 (∀m e x i,aDo P (.idxA m e x i) fr σ K=match x.ev fr,i.ev fr with
  |.ptr id o,.int _ j=>0<=j/\j<m/\K (.ptr id (o+j.toNat*e)) σ
  |.vp e' id q o,.int _ j=>0<=j/\j<m/\K (.vp e' id q (o+j.toNat*e)) σ
  |.elt e' xs q o,.int _ j=>0<=j/\j<m/\K (.elt e' xs q (o+j.toNat*e)) σ
  |_,_=>False)/\
 (∀e x i,aDo P (.idxS e x i) fr σ K=match x.ev fr,i.ev fr with
  |.sl e' cl xs,.int _ j=>e'=e/\0<=j/\j<xs.length/\K (.elt e xs j.toNat 0) σ
  |.hs e' id off len,.int _ j=>e'=e/\0<=j/\j<len/\K (.vp e id (off+j.toNat) 0) σ
  |.va e' id off len,.int _ j=>e'=e/\0<=j/\j<len/\K (.ptr id (off+j.toNat*e)) σ
  |_,_=>False)/\
 (∀i x,aDo P (.ext i x) fr σ K=match x.ev fr with
  |.tup vs=>i<vs.length/\K (vs.getD i .dead) σ
  |_=>False)/\
 (∀st x,aDo P (.len st x) fr σ K=match MA st (x.ev fr)with
  |some m=>K (.int .i64 m) σ
  |none=>False)/\
 (∀x,aDo P (.cap x) fr σ K=match x.ev fr with
  |.sl _ true xs=>K (.int .i64 xs.length) σ
  |_=>False)/\
 (∀f caps,aDo P (.mkf f caps) fr σ K=K (.fn f (caps.map (Opd.ev fr))) σ)/\
 (∀neg x,aDo P (.isn neg x) fr σ K=oN neg (x.ev fr) σ K)/\
 (∀x,aDo P (.nxt x) fr σ K=qF (x.ev fr) σ K)/\
 (∀kk z ok xs,aDo P (.mop (.lkp kk z ok) xs) fr σ K=mM 0 σ (fun av _ _ σ'=>K av σ') (.lkp kk z ok) (xs.map (Opd.ev fr)))/\
 (∀kk xs,aDo P (.mop (.upd kk) xs) fr σ K=mM 0 σ (fun av _ _ σ'=>K av σ') (.upd kk) (xs.map (Opd.ev fr)))/\
 (∀xs,aDo P (.mop .ent xs) fr σ K=mM 0 σ (fun av _ _ σ'=>K av σ') .ent (xs.map (Opd.ev fr)))/\
 (∀xs,aDo P (.mop .mkm xs) fr σ K=mM σ.length (σ++[.gone]) (fun av _ _ σ'=>K av σ') .mkm (xs.map (Opd.ev fr)))/\
 (∀xs,aDo P (.mop .rng xs) fr σ K=mM σ.length (σ++[.gone]) (fun av _ _ σ'=>K av σ') .rng (xs.map (Opd.ev fr)))/\
 (∀g xs,aDo P (.call g xs) fr σ K=fL P (g.ev fr) (xs.map (Opd.ev fr)) σ K)/\
 (∀z ps,aDo P (.bld z ps) fr σ K=(tq z.length (ps.map fun p=>(p.1,p.2.1,p.2.2.ev fr))=true/\K (.agg (JH z (ps.map fun p=>(p.1,p.2.1,p.2.2.ev fr)))) σ))/\
 (∀e m z ps,aDo P (.bldS e m z ps) fr σ K=(qH e m (ps.map fun p=>(p.1,p.2.ev fr))=true/\K (.sl e true (nU (List.replicate m z) (ps.map fun p=>(p.1,p.2.ev fr)))) σ)):=
 ⟨fun _=>rfl,fun _ _ _=>rfl,fun _ _ _=>rfl,fun _ _ _ _=>rfl,fun _ _ _ _=>rfl,fun _ _=>rfl,fun _ _=>rfl,fun _=>rfl,fun _=>rfl,fun _ _ _ _=>rfl,fun _ _=>rfl,fun _ _ _ _ _=>rfl,fun _ _ _ _=>rfl,fun _ _ _=>rfl,fun _ _=>rfl,fun _ _=>rfl,fun _=>rfl,fun _ _=>rfl,fun _ _=>rfl,fun _=>rfl,fun _ _ _ _=>rfl,fun _ _=>rfl,fun _=>rfl,fun _=>rfl,fun _=>rfl,fun _ _=>rfl,fun _ _=>rfl,fun _ _ _ _=>rfl⟩
theorem evM:
 (∀m f x,aDo P (.ld m f x) fr σ K=match x.ev fr with
  | .ptr id o => (match σ[id]? with
    |some (.var cs)=>o+f<=cs.length/\K (pack m (cut cs o f)) σ
    |_=>False)
  | .vp e id i o => (match σ[id]? with
    |some (.vec n xs)=>n=e/\o+f<=e/\i<xs.length/\K (pack m (cut (xs.getD i []) o f)) σ
    |_=>False)
  |.elt e xs i o=>o+f<=e/\i<xs.length/\K (pack m (cut (xs.getD i []) o f)) σ
  |_=>False)/\
 (∀f x y,aDo P (.sto f x y) fr σ K=((y.ev fr).cellsOf.length=f/\bK (y.ev fr).cellsOf=true/\match x.ev fr with
  | .ptr id o => (match σ[id]? with
    |some (.var cs)=>o+f<=cs.length/\K (.tup []) (σ.set id (.var (spl cs o (y.ev fr).cellsOf)))
    |_=>False)
  | .vp e id i o => (match σ[id]? with
    |some (.vec n xs)=>n=e/\o+f<=e/\i<xs.length/\K (.tup []) (σ.set id (.vec e (xs.set i (spl (xs.getD i []) o (y.ev fr).cellsOf))))
    |_=>False)
  |_=>False))/\
 (∀z,aDo P (.new z) fr σ K=K (.ptr σ.length 0) (σ++[.var z]))/\
 (∀f x,aDo P (.box f x) fr σ K=((x.ev fr).cellsOf.length=f/\bK (x.ev fr).cellsOf=true/\K (.ptr σ.length 0) (σ++[.var (x.ev fr).cellsOf])))/\
 (∀e bytes z l c,aDo P (.mk e bytes z l c) fr σ K=match l.ev fr,c.ev fr with
  |.int _ a,.int _ b=>0<=a/\a<=b/\(bytes:Int)*b<=281474976710656/\b<=9223372036854775807/\K (.hs e σ.length 0 a.toNat) (σ++[.vec e (List.replicate a.toNat z)])
  |_,_=>False):=by
 refine⟨fun _ _ _=>rfl,fun _ _ _=>rfl,fun z=>?_,fun f x=>?_,fun e bytes z l c=>?_⟩
 ·simp only[aDo,AOp.allocs,aco,opF,Aq]
 ·simp only[aDo,AOp.allocs,aco,opF,Aq]
 ·simp only[aDo,AOp.allocs,aco,opF,Aq];grind
theorem XV(e:Nat)(v:AV):rdS (σ++[bZ.gone]) e v=rdS σ e v:=by
 unfold rdS;grind
theorem evA:
 (∀e bytes s x,aDo P (.app e bytes s x) fr σ K=match rdS σ e (x.ev fr)with
  |none=>False
  | some ys => match s.ev fr with
    |.sl e' cl xs=>(e'=e\/xs=[])/\cl=true/\(xs=[]\/ys≠[])/\(xs.length+ys.length)*bytes<=140737488355328/\xs.length+ys.length<=9223372036854775807/\
     K (.hs e σ.length 0 (xs.length+ys.length)) (σ++[.vec e (xs++ys)])
    | .hs e' id off len => e' = e /\ match σ[id]? with
      |some (.vec p xs)=>p=e/\off+len<=xs.length/\(len+ys.length)*bytes<=140737488355328/\len+ys.length<=9223372036854775807/\
       K (.hs e σ.length 0 (len+ys.length)) (σ.set id .gone++[.vec e ((xs.drop off).take len++ys)])
      |_=>False
    |_=>False)/\
 (∀e d s,aDo P (.cpy e d s) fr σ K=match rdS σ e (s.ev fr)with
  |none=>False
  | some ys => match d.ev fr with
    | .hs e' id off len => e' = e /\ match σ[id]? with
      |some (.vec p xs)=>p=e/\off+len<=xs.length/\K (.int .i64 (min ys.length len:Nat)) (σ.set id (.vec e (xs.take off++ys.take (min ys.length len)++xs.drop (off+min ys.length len))))
      |_=>False
    | .va e' id off len => e' = e /\ match σ[id]? with
      |some (.var cs)=>off+len*e<=cs.length/\K (.int .i64 (min ys.length len:Nat)) (σ.set id (.var (spl cs off (ys.take (min ys.length len)).flatten)))
      |_=>False
    |_=>False)/\
 (∀e x c f mx,aDo P (.sli e x c f mx) fr σ K=match x.ev fr with
  |.sl e' cl xs=>(e'=e\/xs=[])/\0<=bz (Opd.ev fr) 0 c/\bz (Opd.ev fr) 0 c<=bz (Opd.ev fr) xs.length f/\bz (Opd.ev fr) xs.length f<=bz (Opd.ev fr) xs.length mx/\bz (Opd.ev fr) xs.length mx<=xs.length/\(mx=none\/f≠none)/\
   K (.sl e (match mx with|none=>cl&&f.isNone|some _=>decide (bz (Opd.ev fr) xs.length mx=bz (Opd.ev fr) xs.length f)) ((xs.drop (bz (Opd.ev fr) 0 c).toNat).take ((bz (Opd.ev fr) xs.length f).toNat-(bz (Opd.ev fr) 0 c).toNat))) σ
  | .hs e' id off len => e' = e /\ match mx with
    |none=>0<=bz (Opd.ev fr) 0 c/\bz (Opd.ev fr) 0 c<=bz (Opd.ev fr) len f/\bz (Opd.ev fr) len f<=len/\K (.hs e id (off+(bz (Opd.ev fr) 0 c).toNat) ((bz (Opd.ev fr) len f).toNat-(bz (Opd.ev fr) 0 c).toNat)) σ
    |some _=>f≠none/\bz (Opd.ev fr) 0 c=0/\bz (Opd.ev fr) len f=0/\bz (Opd.ev fr) len mx=0/\K (.sl e true []) σ
  |.va e' id off len=>e'=e/\mx=none/\0<=bz (Opd.ev fr) 0 c/\bz (Opd.ev fr) 0 c<=bz (Opd.ev fr) len f/\bz (Opd.ev fr) len f<=len/\K (.va e id (off+(bz (Opd.ev fr) 0 c).toNat*e) ((bz (Opd.ev fr) len f).toNat-(bz (Opd.ev fr) 0 c).toNat)) σ
  |_=>False)/\
 (∀e m x c f,aDo P (.sliA e m x c f) fr σ K=match x.ev fr with
  |.ptr id o=>0<=bz (Opd.ev fr) 0 c/\bz (Opd.ev fr) 0 c<=bz (Opd.ev fr) m f/\bz (Opd.ev fr) m f<=m/\K (.va e id (o+(bz (Opd.ev fr) 0 c).toNat*e) ((bz (Opd.ev fr) m f).toNat-(bz (Opd.ev fr) 0 c).toNat)) σ
  |_=>False)/\
 (∀xs,aDo P (.mn xs) fr σ K=match xs.map (Opd.ev fr)with
  | v :: r => (match MK v r with
    |some u=>K u σ
    |none=>False)
  | []=>False)/\
 (∀xs,aDo P (.mx xs) fr σ K=match xs.map (Opd.ev fr)with
  | v :: r => (match MI v r with
    |some u=>K u σ
    |none=>False)
  | []=>False):=by
 refine⟨fun e bytes s x=>?_,fun _ _ _=>rfl,fun _ _ _ _ _=>rfl,fun _ _ _ _ _=>rfl,fun _=>rfl,fun _=>rfl⟩;simp only[aDo,AOp.allocs,aco,opF,XV];cases rdS σ e (x.ev fr)with
 |none=>rfl
 | some ys =>
   cases s.ev fr
   case sl e' cl xs=>simp
   case hs e' id off len=>
    by_cases h:id<σ.length
    ·simp only[Xe σ h,VH];grind
    grind
   all_goals rfl
theorem aaE(n nv:Nat)(vs:List AV)(ts:List (Nat×AV))(K2:AV->List Nat->List Nat->St->Prop):
 (∀e m z ps,fm P n (.bldO e m z ps) ⟨nv,vs,ts⟩ σ K2=opF n σ (Opd.ev ⟨nv,vs,ts⟩) (fun v ft wr σ'=>K2 v ft (chg ft wr) σ') (.bldO e m z ps))/\
 (∀e bytes s x,fm P n (.apx e bytes s x) ⟨nv,vs,ts⟩ σ K2=opF n σ (Opd.ev ⟨nv,vs,ts⟩) (fun v ft wr σ'=>K2 v ft (chg ft wr) σ') (.apx e bytes s x))/\
 (∀e bytes z s x,fm P n (.apm e bytes z s x) ⟨nv,vs,ts⟩ σ K2=opF n σ (Opd.ev ⟨nv,vs,ts⟩) (fun v ft wr σ'=>K2 v ft (chg ft wr) σ') (.apm e bytes z s x))/\
 (∀e x y,fm P n (.ovl e x y) ⟨nv,vs,ts⟩ σ K2=opF n σ (Opd.ev ⟨nv,vs,ts⟩) (fun v ft wr σ'=>K2 v ft (chg ft wr) σ') (.ovl e x y))/\
 (∀e d s,fm P n (.cpx e d s) ⟨nv,vs,ts⟩ σ K2=opF n σ (Opd.ev ⟨nv,vs,ts⟩) (fun v ft wr σ'=>K2 v ft (chg ft wr) σ') (.cpx e d s))/\
 (∀e z x,fm P n (.clr e z x) ⟨nv,vs,ts⟩ σ K2=opF n σ (Opd.ev ⟨nv,vs,ts⟩) (fun v ft wr σ'=>K2 v ft (chg ft wr) σ') (.clr e z x))/\
 (∀e x lo hi mx,fm P n (.slx e x lo hi mx) ⟨nv,vs,ts⟩ σ K2=opF n σ (Opd.ev ⟨nv,vs,ts⟩) (fun v ft wr σ'=>K2 v ft (chg ft wr) σ') (.slx e x lo hi mx))/\
 (∀x y,fm P n (.cmb x y) ⟨nv,vs,ts⟩ σ K2=opF n σ (Opd.ev ⟨nv,vs,ts⟩) (fun v ft wr σ'=>K2 v ft (chg ft wr) σ') (.cmb x y))/\
 (∀x,fm P n (.cpq x) ⟨nv,vs,ts⟩ σ K2=opF n σ (Opd.ev ⟨nv,vs,ts⟩) (fun v ft wr σ'=>K2 v ft (chg ft wr) σ') (.cpq x)):=
 ⟨fun _ _ _ _=>rfl,fun _ _ _ _=>rfl,fun _ _ _ _ _=>rfl,fun _ _ _=>rfl,fun _ _ _=>rfl,fun _ _ _=>rfl,fun _ _ _ _ _=>rfl,fun _ _=>rfl,fun _=>rfl⟩
theorem aaF(nv:Nat)(vs:List AV)(ts:List (Nat×AV)):
 (∀e m z ps,aDo P (.bldO e m z ps) ⟨nv,vs,ts⟩ σ K=opF σ.length (σ++[.gone]) (Opd.ev ⟨nv,vs,ts⟩) (fun v _ _ σ'=>K v σ') (.bldO e m z ps))/\
 (∀e x y,aDo P (.ovl e x y) ⟨nv,vs,ts⟩ σ K=opF 0 σ (Opd.ev ⟨nv,vs,ts⟩) (fun v _ _ σ'=>K v σ') (.ovl e x y))/\
 (∀e bytes z s x,aDo P (.apm e bytes z s x) ⟨nv,vs,ts⟩ σ K=opF σ.length (σ++[.gone]) (Opd.ev ⟨nv,vs,ts⟩) (fun v _ _ σ'=>K v σ') (.apm e bytes z s x))/\
 (∀e d s,aDo P (.cpx e d s) ⟨nv,vs,ts⟩ σ K=opF 0 σ (Opd.ev ⟨nv,vs,ts⟩) (fun v _ _ σ'=>K v σ') (.cpx e d s))/\
 (∀e z x,aDo P (.clr e z x) ⟨nv,vs,ts⟩ σ K=opF 0 σ (Opd.ev ⟨nv,vs,ts⟩) (fun v _ _ σ'=>K v σ') (.clr e z x))/\
 (∀e x lo hi mx,aDo P (.slx e x lo hi mx) ⟨nv,vs,ts⟩ σ K=opF 0 σ (Opd.ev ⟨nv,vs,ts⟩) (fun v _ _ σ'=>K v σ') (.slx e x lo hi mx))/\
 (∀x y,aDo P (.cmb x y) ⟨nv,vs,ts⟩ σ K=opF 0 σ (Opd.ev ⟨nv,vs,ts⟩) (fun v _ _ σ'=>K v σ') (.cmb x y))/\
 (∀x,aDo P (.cpq x) ⟨nv,vs,ts⟩ σ K=opF 0 σ (Opd.ev ⟨nv,vs,ts⟩) (fun v _ _ σ'=>K v σ') (.cpq x))/\
 (∀e bytes s x,aDo P (.apx e bytes s x) ⟨nv,vs,ts⟩ σ K=opF σ.length (σ++[.gone]) (Opd.ev ⟨nv,vs,ts⟩) (fun v _ _ σ'=>K v σ') (.apx e bytes s x)):=
 ⟨fun _ _ _ _=>rfl,fun _ _ _=>rfl,fun _ _ _ _ _=>rfl,fun _ _ _=>rfl,fun _ _ _=>rfl,fun _ _ _ _ _=>rfl,fun _ _=>rfl,fun _=>rfl,fun _ _ _ _=>rfl⟩
theorem abw(e:Nat):(∀xs,rws (some (.vec e xs))=some (false,e,xs))/\(∀xs,rws (some (.vex e xs))=some (true,e,xs))/\(∀xs,mkr true e xs=.vex e xs)/\(∀xs,mkr false e xs=.vec e xs):=⟨fun _=>rfl,fun _=>rfl,fun _=>rfl,fun _=>rfl⟩
theorem abx(e:Nat):(∀e' cl xs,rdX σ e (.sl e' cl xs)=rdS σ e (.sl e' cl xs))/\(∀e' id off len,rdX σ e (.va e' id off len)=rdS σ e (.va e' id off len))/\(∀s,rdX σ e (.str s)=rdS σ e (.str s))/\
 (∀e' id off len,rdX σ e (.hs e' id off len)=if e'=e then match rws σ[id]? with
  |some (_,e2,xs)=>if e2=e/\off+len<=xs.length then some ((xs.drop off).take len)else none
  |none=>none else none):=⟨fun _ _ _=>rfl,fun _ _ _ _=>rfl,fun _=>rfl,fun _ _ _ _=>rfl⟩
theorem evH:
 (∀k a g b K,mZ .add k a g b K=(k=g/\K (.int k (k.wrap (a+b)))))/\(∀k a g b K,mZ .sub k a g b K=(k=g/\K (.int k (k.wrap (a-b)))))/\
 (∀k a g b K,mZ .mul k a g b K=(k=g/\K (.int k (k.wrap (a*b)))))/\(∀k a g b K,mZ .quo k a g b K=(k=g/\b≠0/\K (.int k (k.wrap (a.tdiv b)))))/\
 (∀k a g b K,mZ .rem k a g b K=(k=g/\b≠0/\K (.int k (a.tmod b))))/\
 (∀k a g b K,mZ .shl k a g b K=(0<=b/\K (.int k (Er k a b.toNat))))/\(∀k a g b K,mZ .shr k a g b K=(0<=b/\K (.int k (fd k a b.toNat))))/\
 (∀k a g b K,mZ .and k a g b K=(k=g/\K (.int k (gD k a b))))/\
 (∀k a g b K,mZ .or k a g b K=(k=g/\K (.int k (ior k a b))))/\
 (∀k a g b K,mZ .xor k a g b K=(k=g/\K (.int k (Qu k a b))))/\
 (∀k a g b K,mZ .andNot k a g b K=(k=g/\K (.int k (FR k a b))))/\
 (∀k a g b K,mZ .eql k a g b K=(k=g/\K (.bool (a==b))))/\(∀k a g b K,mZ .neq k a g b K=(k=g/\K (.bool (a != b))))/\
 (∀k a g b K,mZ .lss k a g b K=(k=g/\K (.bool (decide (a<b)))))/\(∀k a g b K,mZ .leq k a g b K=(k=g/\K (.bool (decide (a<=b)))))/\
 (∀k a g b K,mZ .gtr k a g b K=(k=g/\K (.bool (decide (b<a)))))/\(∀k a g b K,mZ .geq k a g b K=(k=g/\K (.bool (decide (b<=a)))))/\
 (∀e p xs,MA false (.sl e p xs)=some xs.length)/\(∀e id off i,MA false (.hs e id off i)=some i)/\(∀e id off i,MA false (.va e id off i)=some i)/\(∀s,MA true (.str s)=some s.length)/\
 (∀b x y,zc b (.bool x) (.bool y)=.bool (cond b x y))/\(∀cs,pack true cs=.agg cs)/\(∀cs,pack false cs=cs.headD .dead)/\
 (∀a b,qf 0 (.bool a) (.bool b)=some (a==b))/\(∀a b,qf 1 (.str a) (.str b)=some (a==b))/\(qf 2 .nilp .nilp=some true)/\(∀a b,qf 2 (.ptr a b) .nilp=some false)/\(∀a b,qf 2 .nilp (.ptr a b)=some false)/\
 (∀a b c d,qf 2 (.vp a b c d) .nilp=some false)/\(∀a b c d,qf 2 (.elt a b c d) .nilp=some false)/\(qf 3 .nilf .nilf=some true)/\(∀f c,qf 3 (.fn f c) .nilf=some false)/\
 (∀b,unV .not (.bool b)=some (.bool !b))/\(∀k n,unV .neg (.int k n)=some (.int k (k.wrap (0-n))))/\
 (∀neg e p xs σ K,oN neg (.sl e p xs) σ K=∀b:Bool,(b=true->xs=[])->K (.bool (b != neg)) σ)/\(∀neg e id off i σ K,oN neg (.hs e id off i) σ K=∀b:Bool,(b=true->i=0)->K (.bool (b != neg)) σ)/\
 (∀ρ d,bz ρ d none=d)/\(∀ρ d x,bz ρ d (some x)=WK (ρ x))/\(∀k n,WK (.int k n)=n)/\(∀cs,AV.cellsOf (.agg cs)=cs)/\(∀k n,AV.cellsOf (.int k n)=[.int k n])/\(∀b,AV.cellsOf (.bool b)=[.bool b])/\(∀e p xs,AV.cellsOf (.sl e p xs)=[.sl e p xs])/\
 (∀e id off i,AV.cellsOf (.hs e id off i)=[.hs e id off i])/\(∀id off,AV.cellsOf (.ptr id off)=[.ptr id off])/\(AV.cellsOf .nilp=[.nilp])/\(∀s,AV.cellsOf (.str s)=[.str s]):=by
 refine⟨?_,?_,?_,?_,?_,?_,?_,?_,?_,?_,?_,?_,?_,?_,?_,?_,?_,?_,?_,?_,?_,?_,?_,?_,?_,?_,?_,?_,?_,?_,?_,?_,?_,?_,?_,?_,?_,?_,?_,?_,?_,?_,?_,?_,?_,?_,?_,?_⟩<;>intros<;>rfl
end
section
variable{P:Program}{nt k:Nat}{fr:Fr}{σ:St}
theorem aJ.fact{f:FuncId}{d:List fS}{g:am}{args:List AV}{r:AV}{σ':St}(b:Nat)(j:cE P f=some (nt,d,g))(k:args.length<=nt)
 (h:Tri P nt σ.length g (xC d σ.length σ' r) ⟨b,args++List.replicate (b-args.length) .dead,[]⟩ σ) (a:σ.length<=σ'.length):aJ P f args σ r σ':=by
 obtain⟨s,c,n,o,m,p,rfl,q,l⟩:=Fb j;exact aJ.of_body b n o m p af1 q l k h a
theorem aJ.wk{f:FuncId}{xs args:List AV}{σs σs':St}{r:AV}(h:aJ P f args σs r σs')(hw:WkL xs args):aJ P f xs σs r σs':=
 ⟨h.1,h.2.1,fun X loc w vs hr hv=>h.2.2 X loc w vs hr (hw.rls hv)⟩
theorem WkL.refl:∀xs:List AV,WkL xs xs
 | []=>trivial
 |x::xs=>⟨Wk.refl x,WkL.refl xs⟩
theorem CD{f:FuncId}{args args' caps:List AV}{r:AV}{K:AV->St->Prop}(h:PC P f args' r)(hw:WkL (args++caps) args')(hp:PuL (args++caps))(hk:K r σ):fL P (.fn (.func f) caps) args σ K:=
 ap ⟨h.call.wk hw,hp,h.pr⟩ hk
theorem F9{f:FuncId}{xs caps args:List AV}{σs σs':St}{r:AV}{K:AV->St->Prop}(js:List Nat)(h:aJ P f args σs r σs')(hx:xs++caps=dN (rn js σ.length) args)(hp:iH σ js σs)
 (hk:K (ren (rn js σ.length) r) (aN σ js σs')):fL P (.fn (.func f) caps) xs σ K:=⟨args,σs,r,σs',js,h,hx,hp,hk⟩
def pn(σ:St)(ρ:Nat->Nat):List Nat->St->Prop
 | [],[]=>True
 |j::js,o::os=>σ[j]?=some (jh ρ o)/\pn σ ρ js os
 |_,_=>False
theorem pn.len{ρ:Nat->Nat}:∀ {b:List Nat} {a:St},pn σ ρ b a->b.length=a.length
 | [],[],_=>rfl
 |_::_,_::_,h=>by simp[pn.len h.2]
 | [],_::_,h|_::_,[],h=>h.elim
theorem pn.get{ρ:Nat->Nat}:∀ {b:List Nat} {a:St},pn σ ρ b a->∀i j:Nat,b[i]?=some j->σ[j]?=(a[i]?).map (jh ρ)
 | [],[],_,i,j,h=>by grind
 | e :: b, o :: a, h, i, j, c => by
   cases i with
   |zero=>simp only[adq,afC]at c;subst c;simpa using h.1
   |succ i=>simpa using pn.get h.2 i j af3
 | [],_::_,h,_,_,_|_::_,[],h,_,_,_=>h.elim
theorem iH.mk'{a:List Nat}{σs:St}(b:a.Nodup)(h:pn σ (rn a σ.length) a σs):iH σ a σs:=by
 refine⟨h.len,b,fun j c=>?_,h.get⟩;obtain⟨i,f,e⟩:=List.mem_iff_getElem.1 c;have d:=h.get i j af3;have:i<σs.length:=by rw[<-h.len];omega
 grind
theorem aP{n:Nat}{f:FuncId}{args a:List AV}{r:AV}{K:AV->List Nat->List Nat->St->Prop}(h:PC P f (args++a) r)(k:K r [] [] σ):
 ∃v ft d σ',lw P n (.fn (.func f) a) args σ v ft d σ'/\K v ft d σ':=by
 refine⟨r,[],[],σ,⟨args++a,[],r,[],h.call,(h.pa.ren _).symm,rfl,(h.pr.ren _).symm,(tX σ).symm,fun _ h=>h,.inl ⟨⟨rfl,ae6,af1,fun i j g=>af3⟩,fun _ _ _ _=>rfl⟩⟩,k⟩
theorem W3{n:Nat}{f:FuncId}{args args' caps:List AV}{r:AV}{K:AV->List Nat->List Nat->St->Prop}(h:PC P f args' r)(hw:WkL (args++caps) args')(hp:PuL (args++caps))(hk:K r [] [] σ):
 ∃v ft ch σ',lw P n (.fn (.func f) caps) args σ v ft ch σ'/\K v ft ch σ':=aP ⟨h.call.wk hw,hp,h.pr⟩ hk
theorem aaB{n:Nat}{f:FuncId}{xs caps args:List AV}{σs σs':St}{r:AV}{K:AV->List Nat->List Nat->St->Prop}(js:List Nat)(h:aJ P f args σs r σs')(hl:σs'.length=js.length)(hx:xs++caps=dN (rn js σ.length) args)(hp:iH σ js σs)
 (hk:K (ren (rn js σ.length) r) js js (aN σ js σs')):∃v ft ch σ',lw P n (.fn (.func f) caps) xs σ v ft ch σ'/\K v ft ch σ':=
 ⟨_,js,js,_,⟨args,σs,r,σs',h,hx,hl,rfl,rfl,fun _ h=>h,.inl ⟨hp,fun i j hij hn=>absurd (acP hij) hn⟩⟩,hk⟩
theorem To{n:Nat}{f:FuncId}{xs a args:List AV}{σs:St}{r:AV}{K:AV->List Nat->List Nat->St->Prop}(b:List Nat)(h:aJ P f args σs r σs)(k:xs++a=dN (rn b σ.length) args)(e:iH σ b σs)
 (l:K (ren (rn b σ.length) r) b [] σ):∃v ft g σ',lw P n (.fn (.func f) a) xs σ v ft g σ'/\K v ft g σ':=
 ⟨_,b,[],σ,⟨args,σs,r,σs,h,k,e.1.symm,rfl,(rE e).symm,fun _ h=>af3,.inl ⟨e,fun _ _ _ _=>rfl⟩⟩,l⟩
theorem Bv{n:Nat}{f:FuncId}{xs b args:List AV}{σs σs':St}{r:AV}{K:AV->List Nat->List Nat->St->Prop}(a:List Nat)(h:aJ P f args σs r σs')(l:σs'.length=a.length+1)(j:xs++b=dN (rn (a++[n]) σ.length) args)(i:qP σ a (a++[n]) σs)
 (k:K (ren (rn (a++[n]) σ.length) r) (a++[n]) (a++[n]) (aN σ (a++[n]) σs')):∃v ft e σ',lw P n (.fn (.func f) b) xs σ v ft e σ'/\K v ft e σ':=
 ⟨_,a++[n],a++[n],_,⟨args,σs,r,σs',h,j,af3,rfl,rfl,fun _ h=>h,.inr ⟨a,rfl,i,rfl⟩⟩,k⟩
theorem qP.mk'{js J:List Nat}{σs:St}(hnd:J.Nodup)(hlt:∀j∈J,j<σ.length)(h:pn σ (rn J σ.length) js σs):qP σ js J σs:=⟨h.len,hnd,hlt,h.get⟩
theorem Nv(fr:Fr)(σ:St):dy fr σ []=some []:=rfl
theorem KM(b:Fr)(σ:St)(t:Nat)(r:List fS):dy b σ (.tmp t::r)=(dy b σ r).map (b.get t::·):=by simp only[dy];cases dy b σ r<;>rfl
theorem KL(fr:Fr)(σ:St)(t:Nat)(ag:Bool)(sz:Nat)(r:List fS):dy fr σ (.cell t ag sz::r)=match yv fr σ (.cell t ag sz),dy fr σ r with
 |some a,some b=>some (a::b)
 |_,_=>none:=rfl
theorem aaG{h:List fS}{r:AV}{σ':St}{l:List AV}(b a:List Nat)(e:Ex)(u:∀i,e≠.exit i)(t:dy fr σ h=some l)(p:k<=a.length)(m:a.take k=List.range k)(g:a.Nodup)(f:∀j∈a,j<σ.length)(o:gB σ b (rn a σ.length) a σ')
 {c:AV} (q:fz σ b (fJ l)=ren (rn a σ.length) c) (s:Wk c r):xC h k σ' r e fr σ:=by
 have:∃l b a c,dy fr σ h=some l/\nJ k σ b a σ'/\k<=a.length/\fz σ b (fJ l)=ren (rn a σ.length) c/\Wk c r:=by
  refine⟨l,b,a,c,t,⟨fun i v=>?_,g,f,o.len,o.get⟩,p,q,s⟩;have:(a.take k)[i]?=some i:=af3
  grind
 cases e with
 |exit i=>grind
 |normal|ret=>exact this
theorem bp{rs:List fS}{r:AV}{σ':St}{l:List AV}(zs js:List Nat)(e:Ex)(he:∀i,e≠.exit i)(hl:dy fr σ rs=some l)(hk:k<=js.length)(hfix:js.take k=List.range k)(hnd:js.Nodup)(hlt:∀j∈js,j<σ.length)(ho:gB σ zs (rn js σ.length) js σ')
 (hr:fz σ zs (fJ l)=ren (rn js σ.length) r):xC rs k σ' r e fr σ:=aaG zs js e he hl hk hfix hnd hlt ho hr (Wk.refl r)
end
theorem evK:(∀m ft wr,okH m [] ft wr=True)/\(∀m H,okH m H [] []=True)/\(∀m i f H ft,okH m ((i,f,[])::H) ft []=okH m H ft [])/\(∀ft,chg ft true=ft)/\(∀ft,chg ft false=[]):=by
 refine⟨fun m ft wr=>?_,fun m H=>?_,fun m i f H ft=>?_,fun _=>rfl,fun _=>rfl⟩
 ·simp[okH]
 ·simp[okH,GE]
 ·simp[okH,GE]
def Oc(f1 c1 f2 c2:List Nat):Bool:=(c1.all fun i=>!f2.contains i)&&c2.all fun i=>!f1.contains i
def abI(m:Nat)(H:vt)(ft ch:List Nat):Bool:=H.all fun h=>m.testBit h.1 || Oc h.2.1 h.2.2 ft ch
theorem lM{m:Nat}{H:vt}{ft b:List Nat}(h:abI m H ft b=true):okH m H ft b:=by
 intro x d;have:=aew.1 h x d;rw[adm]at this;refine this.imp id fun e=>?_
 unfold Oc at e;refine⟨fun i c=>?_,fun i c=>?_⟩
 ·grind
 grind
end Go.FH
