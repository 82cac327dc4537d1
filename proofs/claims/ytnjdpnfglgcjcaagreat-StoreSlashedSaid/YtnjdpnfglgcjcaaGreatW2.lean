/-
 My texts Ba, Ak, Am, Bb, Bc, Bd, Be, Bf, Bg, Bh, Bi, Bj, Bk, Bl, Bm, Bn, joined.
-/
import Derived.Test.YtnjdpnfglgcjcaaGreatW1
import Derived.Laws.Externs
import Derived.Lib.AppendZerosOnto
import Derived.KernelRfl
import Derived.Maps.RangeRun
import Derived.MapKept
import Derived.Lib.LazyBuf
import Derived.Tactics
import Derived.Orders
import Derived.Laws.BitsLemmas
set_option linter.unusedVariables false
set_option linter.unusedSimpArgs false
namespace Go.FH
open Go Go.RowKit
section
variable{X:Nat->Prop}{loc loc':Nat->Option Loc}{σ σ':St}{w w':World}{n:Nat}{P:Program}{ρ:Operand->Value}{ρ':Opd->AV}{K:AV->List Nat->Bool->St->Prop}
theorem Rel.grow(hr:Rel X loc σ w)(ev:Ev (fun _=>False) w w'):Rel X loc σ w'/\jV (aR X loc σ w) (aR X loc σ w'):=by
 have hev:Ev (aS σ loc) w w':=⟨ev.size,fun b hb _=>ev.blk b hb id,ev.os,ev.tape,ev.output⟩
 exact⟨hr.change (fun _ _ h=>h) hev (fun b hb=>.inl hb) hr.beyond (fun j o h1 h2=>.inl ⟨h1,fun L h3 h4=>ev.blk _ (aS.lt hr ⟨j,o,L,h1,h2,h3,h4,rfl⟩) id⟩) hr.apart,
  lQ hr (fun _ _ h=>h) hev fun b hb=>.inl hb⟩
theorem Xt(hr:Rel X loc σ w):¬gq X σ loc w.heap.size:=by
 rintro (h|h)
 ·exact absurd (hr.out _ h).1 (Nat.lt_irrefl _)
 ·exact absurd (aS.lt hr h) (Nat.lt_irrefl _)
theorem YO(hr:Rel X loc σ w)(hρ:lw (aR X loc σ w) ρ ρ'){o:Oper}{t e:TypeId}{m:Nat}{ps:Array (Nat×Operand)}{qs:List (Nat×Opd)}{z:List AV}{ti:TypeInfo}(ho:o.op=.buildSlice t m ps)(ht:P.underlying t=some (.slice e))(hz:jT P e=some z)(hti:P.info? e=some ti)
 (hq:kU ps.toList=some qs) (hpos:0<ti.size) (hsm:m*ti.size<=2 ^ 24) (hmm:m<=maxLen) (h:opF n σ ρ' K (.bldS ti.size m z qs)):Snd X loc σ w n ((execOp ρ o).run P w) K:=by
 simp only[opF]at h;obtain⟨hok,h⟩:=h;obtain⟨i,zv,hi,hzv,hzs,hzc⟩:=iC hz;rw[hti]at hi;cases hi;obtain⟨hl,hpq⟩:=sM hq;have hzl:zv.cells.toList.length=ti.size:=by simpa using hzs
 have hz0:=RlE.rep (RlC.ofCells (aR X loc σ w) hzc) hzl m
 have hcells:(madeCells zv.cells (m*ti.size)).toList=(List.replicate m zv.cells.toList).flatten:=by
  have:=oW zv.cells.toList (by omega) m;rwa [hzl,Array.toArray_toList]at this
 obtain⟨us',g1,g2⟩:=N5 (E:=aR X loc σ w) ((ps.toList).map fun p=>(p.1,ρ p.2)) (qs.map fun p=>(p.1,ρ' p.2)) (List.replicate m z) _ hz0 (by simpa using hl) (fun j p q hj hq'=>by
  obtain⟨p0,hp0,rfl⟩:=List.getElem?_map ..▸hj |> Option.map_eq_some_iff.1
  obtain⟨q0,hq0,rfl⟩:=List.getElem?_map ..▸hq' |> Option.map_eq_some_iff.1
  obtain⟨k1,k2⟩:=hpq j p0 q0 hp0 hq0;exact⟨k1,hρ _ _ k2⟩) (by simpa using hok)
 have hgl:=g2.length;have hev:Ev (fun _=>False) w (w.alloc (.cells us'.toArray e)):=Ev.alloc _ _ _;obtain⟨hR,hle⟩:=hr.grow hev
 have hfl:∀ (xs:List (List AV)) (l:List (Nat×AV)),(yP xs l).length=xs.length:=by
  intro xs l;induction l generalizing xs with
  |nil=>rfl
  |cons p l ih=>obtain⟨i,v⟩:=p;simp[yP,ih]
 have hlen:(yP (List.replicate m z) (qs.map fun p=>(p.1,ρ' p.2))).length=m:=by rw[hfl];simp
 have hfill:Instr.fill (fun i=>some (i*ti.size,ti.size)) ((Array.range (m*ti.size)).map (zv.cells[·%zv.cells.size]!)) (ps.map fun p=>(p.1,ρ p.2)).toList=some us'.toArray:=by
  have e1:((Array.range (m*ti.size)).map (zv.cells[·%zv.cells.size]!))=((List.replicate m zv.cells.toList).flatten).toArray:=by
   apply Array.toList_inj.1
   rw[<-hcells];rfl
  rw[e1,<-g1];simp
 have hval:(execOp ρ o).run P w=.ok (.value (.slice (some ⟨w.heap.size,0,none⟩) m m)) (w.alloc (.cells us'.toArray e)):=by
  by_cases hm:m=0
  ·subst hm
   have hps:qs=[]:=by
    cases qs with
    |nil=>rfl
    |cons q qs=>simp[xx]at hok
   subst hps
   have hp0:ps=#[]:=by
    apply Array.toList_inj.1
    simpa using hl
   subst hp0
   have hu0:us'=[]:=by
    have:=g2.length;simp[yP]at this;exact this
   subst hu0;simp[execOp,ho,Instr.buildSlice,run_underlying ht,sizeOf,typeInfo,hti,Instr.fill,newRow,newObj,Sem.run];have h9:(Array.range 0).map (fun _=>(default:Value))=#[]:=by apply Array.toList_inj.1;simp
   rw[h9]
  ·have hmp:¬m*ti.size=0:=by
    intro h0;rcases Nat.mul_eq_zero.1 h0 with h1|h1<;>omega
   have:=run_buildSlice (P:=P) w t e m (ps.map fun p=>(p.1,ρ p.2)) us'.toArray ti zv ht hti hzv (by omega) hmp hfill;simp only[execOp,ho,Sem.run_bind];rw[this];rfl
 refine⟨_,[],false,σ,_,_,loc,h,.inl hval,⟨fun _ _ h=>h,hR,?_,⟨hev.size,fun b hb _=>hev.blk b hb id,rfl,rfl,rfl⟩,fun _ h=>.inl h⟩,fun _ _=>rfl,rfl⟩;refine⟨_,_,_,rfl,hlen.symm,Nat.le_refl _,hmm,fun _=>rfl,by simp,.inr ⟨w.heap.size,0,us',rfl,by simp,?_,?_,RlE.mono hle _ _ _ g2⟩⟩
 ·exact Xt hr
 ·have hb:(w.alloc (.cells us'.toArray e)).heap[w.heap.size]?=some (.cells us'.toArray e (0,0)):=_root_.Go.heap_alloc_new w _;have hul:us'.length=m*ti.size:=by rw[hgl,hlen]
  show range? (w.alloc (.cells us'.toArray e)) w.heap.size 0 (m*ti.size)=_
  rw[lY hb 0 (m*ti.size) (by omega)];simp[<-hul]
theorem Zh{zv:Array Value}(h:∀u∈zv.toList,u.oneCell'=true)(m:Nat):∀u∈(Builtin.zeroCells zv m).toList,u.oneCell'=true:=by
 intro u hu;unfold Builtin.zeroCells at hu;rw[Array.toList_map,List.mem_map]at hu;obtain⟨i,hi,rfl⟩:=hu;by_cases h0:0<zv.size
 ·have hlt:i%zv.size<zv.size:=Nat.mod_lt _ h0;rw[getElem!_pos zv (i%zv.size) hlt];exact h _ (by simp)
 ·have hz:zv.size=0:=by omega
  simp[hz]at hi
theorem oC(hr:Rel X loc σ w)(hn:n<σ.length)(hg:loc n=none)(σ0:St)(hσ0:∀ (id:Nat) (o:bO),σ0[id]?=some o->o.live=true->σ[id]?=some o)(h0l:σ0.length=σ.length)
 {e:TypeId} {ti:TypeInfo} {zv:Value} {olds news:List Value} {zs:List (List AV)} (hpos:0<ti.size) (hzs:zv.cells.size=ti.size) (hE:RlE (aR X loc σ w) ti.size zs (olds++news)) (hz1:∀u∈zv.cells.toList,u.oneCell'=true) {q cap:Nat} (hq:q=zs.length) (hcap:q<=cap) (hmax:cap<=maxLen)
 {r:Result Next} {ft:List Nat} {wr:Bool} (hrun:r=.ok (.value (.slice (some ⟨w.heap.size,0,none⟩) q cap)) (w.drew.alloc (.cells ((olds++news).toArray++Builtin.zeroCells zv.cells (cap-q)) e)))
 (h:K (.hs ti.size n 0 q) ft wr (σ0.set n (.vec ti.size zs))):Snd X loc σ w n r K:=by
 have hev:Ev (aS σ loc) w (w.drew.alloc (.cells ((olds++news).toArray++Builtin.zeroCells zv.cells (cap-q)) e)):=(Ev.drew _ w).trans (Ev.alloc _ _ _) fun b _ h=>h
 have hrows:((olds++news).toArray++Builtin.zeroCells zv.cells (cap-q)).size=cap*ti.size:=by
  have:=hE.length;rw[Array.size_append,size_zeroCells,hzs,List.size_toArray,this,<-hq,<-Nat.add_mul];congr 1;omega
 obtain⟨g1,g2⟩:=hr.add hn hg (.vec ti.size zs) ⟨true,w.heap.size,0,cap*ti.size⟩ _ hev σ0 hσ0 h0l (fun id o' L' k1 k2 k3 k4=>by
  have hlt:=aS.lt hr ⟨id,o',L',hσ0 _ _ k1 k2,k2,k3,k4,rfl⟩
  exact⟨fun _=>Nat.ne_of_lt hlt,Below.heap_alloc w.drew _ L'.blk hlt⟩) (fun _=>.inr (Nat.le_refl _)) fun E hE' hw=>by
   refine .inr ⟨rfl,[],olds++news,(Builtin.zeroCells zv.cells (cap-q)).toList,e,?_,rfl,?_,RlE.mono hE' _ _ _ hE,Zh hz1 _⟩
   ·rw[hw];have:=_root_.Go.heap_alloc_new w.drew (.cells ((olds++news).toArray++Builtin.zeroCells zv.cells (cap-q)) e);have e2:w.drew.heap.size=w.heap.size:=rfl;rw[e2]at this;rw[this];congr 2;apply Array.toList_inj.1
    simp
   ·rw[<-hrows];simp;omega
 exact⟨_,ft,wr,_,_,_,_,h,.inl hrun,⟨fv hg _,g1,⟨_,cap,⟨true,w.heap.size,0,cap*ti.size⟩,rfl,hcap,hmax,by simp,dT _ _ _,.inr ⟨rfl,by simp,by simp⟩⟩,hev,g2⟩,fun id hid=>ej _ _ _ hid,by simp[h0l]⟩
theorem ly{t tx e:TypeId}{i:TypeInfo}(ty:TypeId)(ht:P.underlying t=some (.slice e))(hi:P.info? e=some i)(base:Option Addr)(sLen sCap:Nat){x:Value}{m:Nat}{news:List Value}(hs:Src P i.size tx x m news w)(hroom:sLen+m<=sCap){W:World}
 (hst:(match base with|some a=>storeCells (a.add (sLen*i.size)) news|none=>pure ():Sem Unit).run P w=.ok () W):
 (Builtin.append_ #[t,tx] ty #[.slice base sLen sCap,x]).run P w=.ok (.slice base (sLen+m) sCap) W:=by
 cases base with
 | none =>
   simp only[Sem.run_pure,Result.ok.injEq,true_and]at hst;subst hst;rcases hs.kind with⟨e',hk⟩|hk<;>simp[Builtin.append_,run_underlying ht,run_underlying hk,sizeOf,typeInfo,hi,hs.len,hroom,hs.cells]
 | some a =>
   simp only at hst;rcases hs.kind with⟨e',hk⟩|hk<;>simp[Builtin.append_,run_underlying ht,run_underlying hk,sizeOf,typeInfo,hi,hs.len,hroom,hs.cells,hst]
theorem TA (hr : Rel X loc σ w) (hρ : lw (aR X loc σ w) ρ ρ') (hn : n < σ.length) (hg : loc n = none) (hgn : ∀ o : bO, σ[n]? = some o -> o.live = false) {o : Oper} {t u e : TypeId} {s x : Operand} {a b : Opd} {z : List AV} {ti : TypeInfo} (ho : o.op = .call { callee := .builtin .append, args := #[s, x], argTypes := #[t, u] })
 (ht:P.underlying t=some (.slice e)) (hu:(∃e',P.underlying u=some (.slice e'))\/P.underlying u=some .string) (hz:jT P e=some z) (hti:P.info? e=some ti) (hpos:0<ti.size)
 (hs:az s=some a) (hx:az x=some b) (h:opF n σ ρ' K (.app ti.size ti.bytes a b)):Snd X loc σ w n ((execOp ρ o).run P w) K:=by
 simp only[opF]at h;obtain⟨i,zv,hi,hzv,hzs,hzc⟩:=iC hz;rw[hti]at hi;cases hi;have hx':=hρ x b hx;have hs':=hρ s a hs;split at h
 ·exact h.elim
 ·rename_i ys hys
  obtain⟨news,hsrc,hE,hf⟩:=xJ (P:=P) hr (tx:=u) hu hpos hys hx'
  have hexec:∀ {r:Value} {W:World},(Builtin.append_ #[t,u] o.type #[ρ s,ρ x]).run P w=.ok r W->(execOp ρ o).run P w=.ok (.value r) W:=by
   intro r W k1;rw[eg ho];simp only[builtin,List.map_toArray,List.map_cons,List.map_nil,Sem.run_bind];rw[k1];rfl
  have grow:∀ {ad:Option Addr} {len cap:Nat} {zs:List (List AV)},ρ s=.slice ad len cap->rdS σ ti.size (ρ' a)=some zs->zs.length=len->cap<len+ys.length->(len+ys.length)*ti.bytes<=140737488355328->len+ys.length<=9223372036854775807->
   ∃olds,RlE (aR X loc σ w) ti.size zs olds/\(execOp ρ o).run P w=.ok (.value (.slice (some ⟨w.heap.size,0,none⟩) (len+ys.length) (grownCap w (len+ys.length) cap e))) (w.drew.alloc (.cells ((olds++news).toArray++Builtin.zeroCells zv.cells (grownCap w (len+ys.length) cap e-(len+ys.length))) e)):=by
   intro ad len cap zs k1 k2 k3 k4 k5 k6;obtain⟨olds,hso,hEo,_⟩:=xJ (P:=P) hr (tx:=t) (.inl ⟨e,ht⟩) hpos k2 hs';refine⟨olds,hEo,hexec ?_⟩;have hold:=hso.cellsD;rw[k3,k1]at hold;rw[k1];exact run_append_grow_src w t u o.type e ti zv ht hti hzv ad len cap olds hold (ρ x) ys.length news hsrc k4 (by omega) (growslice_fits k4 k5)
  have hnl:=hE.length;split at h
  ·rename_i e' cl xs hv
   obtain⟨he,rfl,hne,hb,hm,h⟩:=h;rw[hv]at hs';have hs2:=hs';obtain⟨ad,q,cap,g1,rfl,g3,g4,g5,g6,g7⟩:=hs2;obtain rfl:=g5 rfl;by_cases hroom:ys=[]
   ·have hx0:xs=[]:=hne.resolve_right fun h9=>h9 hroom
    subst hx0;subst hroom;have hnews:news=[]:=by simpa[RlE]using hE
    subst hnews;simp only[List.length_nil,Nat.add_zero,List.append_nil]at h g1 g6
    have hrun:(Builtin.append_ #[t,u] o.type #[ρ s,ρ x]).run P w=.ok (.slice ad 0 0) w:=by
     rw[g1];have:=ly (P:=P) (w:=w) o.type ht hti ad 0 0 hsrc (Nat.le_refl _) (W:=w) (by cases ad<;>rfl);simpa using this
    obtain⟨k1,k2⟩:=hr.add hn hg (.vec ti.size []) ⟨false,0,0,0⟩ w (Ev.refl _ _) σ (fun _ _ h _=>h) rfl (fun id o' L' _ _ _ _=>⟨(fun h=>by cases h),rfl⟩) (fun h=>by cases h) (fun E _ _=>.inl ⟨rfl,rfl⟩);exact⟨_,_,_,_,_,_,_,h,.inl (hexec hrun),⟨fv hg _,k1,⟨ad,0,_,rfl,Nat.le_refl _,by simp[maxLen],fun _=>rfl,dT _ _ _,.inl ⟨rfl,fun h=>(by cases h)⟩⟩,Ev.refl _ _,k2⟩,fun id hid=>ej _ _ _ hid,by simp⟩
   ·have hyl:0<ys.length:=by
     rcases Nat.eq_zero_or_pos ys.length with h0|h0
     ·exact absurd (List.eq_nil_of_length_eq_zero h0) hroom
     ·exact h0
    have hrd:rdS σ ti.size (ρ' a)=some xs:=by rw[hv];simp[rdS,he]
    obtain⟨olds,hEo,hrun⟩:=grow g1 hrd rfl (by omega) hb hm;exact oC hr hn hg σ (fun _ _ h _=>h) rfl hpos hzs (hEo.app hE) (jP hzc) (by simp) (grownCap_ge w _ _ e) (grownCap_le_maxLen w _ _ e (show _<=9223372036854775807 by omega)) hrun h
  ·rename_i e' id off len hv
   obtain⟨rfl,h⟩:=h;split at h
   ·rename_i e2 xs hσ
    obtain⟨rfl,hle,hb,hm,h⟩:=h;rw[hv]at hs';have hs2:=hs';obtain⟨ad,cap,L,g1,g2,g3,g4,g5,g6⟩:=hs2
    have hidn:id≠n:=by
     rintro rfl;have:=hgn _ hσ;cases this
    have hdr:((xs.drop off).take len).length=len:=by simp;omega
    have hrd:rdS σ ti.size (ρ' a)=some ((xs.drop off).take len):=by rw[hv];simp[rdS,hσ,hle]
    have h0l:(σ.set id .gone).length=σ.length:=by simp
    have hσ0:∀ (j:Nat) (o:bO),(σ.set id .gone)[j]?=some o->o.live=true->σ[j]?=some o:=by
     intro j o' k1 k2;rcases er σ id j .gone k1 with⟨_,rfl,_⟩|⟨_,k3⟩
     ·cases k2
     ·exact k3
    by_cases hroom:len+ys.length<=cap
    ·rcases g6 with ⟨g6, _⟩ | ⟨g6, rfl, g7⟩
     ·have hl0:len=0:=by omega
      have hy0:ys=[]:=List.eq_nil_of_length_eq_zero (by omega);subst hl0;subst hy0;subst g6;have hnews:news=[]:=by simpa[RlE]using hE
      subst hnews;simp only[List.length_nil,Nat.add_zero,List.take_zero,List.append_nil]at h
      have hrun:(Builtin.append_ #[t,u] o.type #[ρ s,ρ x]).run P w=.ok (.slice ad 0 0) w:=by
       rw[g1];have:=ly (P:=P) (w:=w) o.type ht hti ad 0 0 hsrc (Nat.le_refl _) (W:=w) (by cases ad<;>rfl);simpa using this
      obtain⟨k1,k2⟩:=hr.add hn hg (.vec ti.size []) ⟨false,0,0,0⟩ w (Ev.refl _ _) (σ.set id .gone) hσ0 h0l (fun id o' L' _ _ _ _=>⟨(fun h=>by cases h),rfl⟩) (fun h=>by cases h) (fun E _ _=>.inl ⟨rfl,rfl⟩);exact⟨_,_,_,_,_,_,_,h,.inl (hexec hrun),⟨fv hg _,k1,⟨ad,0,_,rfl,Nat.le_refl _,by simp[maxLen],fun _=>rfl,dT _ _ _,.inl ⟨rfl,fun h=>(by cases h)⟩⟩,Ev.refl _ _,k2⟩,fun id hid=>ej _ _ _ hid,by simp⟩
     ·rcases hr.vec hσ g5 with⟨k0,_⟩|⟨_,cs,vs,ws,tt,k2,k3,k4,k5,k51⟩
      ·rw[g6]at k0;cases k0
      ·have hvl:=k5.length
       have q1:(off+len)*ti.size<=vs.length:=by rw[hvl];exact Nat.mul_le_mul_right _ hle
       have q2:L.base+(off+(len+ys.length))*ti.size<=L.rows:=Nat.le_trans (Nat.add_le_add_left (Nat.mul_le_mul_right _ (by omega)) _) (Nat.le_of_eq g7);have q3:(off+(len+ys.length))*ti.size=off*ti.size+len*ti.size+ys.length*ti.size:=by rw[Nat.add_mul,Nat.add_mul,Nat.add_assoc]
       rw[Nat.add_mul]at q1;have hst:=run_storeCells_at (P:=P) L.blk (L.base+off*ti.size+len*ti.size) tt news 0 _ w k2 (by simp only[List.size_toArray,k4];omega) hsrc.one;simp only[Nat.add_zero]at hst;have hrun:=ly (P:=P) (w:=w) o.type ht hti (some ⟨L.blk,L.base+off*ti.size,none⟩) len cap hsrc hroom (by simp only[f4];exact hst);rw[<-g1]at hrun;have hlive:aS σ loc L.blk:=⟨id,_,L,hσ,rfl,g5,g6,rfl⟩;have hev:=Ev.setRow (w:=w) hlive (((cs++vs++ws).toArray.toList.take (L.base+off*ti.size+len*ti.size))++news++((cs++vs++ws).toArray.toList.drop (L.base+off*ti.size+len*ti.size+news.length))).toArray
       obtain ⟨m1, m2⟩ := hr.add hn hg (.vec ti.size ((xs.drop off).take len ++ ys)) ⟨true, L.blk, L.base + off * ti.size, L.rows⟩ _ hev (σ.set id .gone) hσ0 h0l (fun j o' L' p1 p2 p3 p4 => by
        have hj:j≠id:=by
         rintro rfl;rcases er σ j j .gone p1 with⟨_,rfl,_⟩|⟨p5,_⟩
         ·cases p2
         ·exact p5 rfl
        have hne:=hr.apart j id o' _ L' L hj (hσ0 _ _ p1 p2) hσ p2 rfl p3 g5 p4 g6
        exact ⟨fun _ => hne, setRow_other w L.blk L'.blk _ hne⟩) (fun _ => .inl hlive) fun E hE' hw => by
         have r1:(vs.take (off*ti.size)).length=off*ti.size:=by simp;omega
         have r2:((vs.drop (off*ti.size)).take (len*ti.size)).length=len*ti.size:=by simp;omega
         refine .inr ⟨rfl,cs++vs.take (off*ti.size),(vs.drop (off*ti.size)).take (len*ti.size)++news,(cs++vs++ws).drop (L.base+off*ti.size+len*ti.size+news.length),tt,?_,?_,?_,RlE.mono hE' _ _ _ (((k5.drop off).take len).app hE),fun u hu=>?_⟩;rotate_left 3
         ·have hu:=List.mem_of_mem_drop (by rw[<-k3,Nat.add_assoc,Nat.add_assoc,List.append_assoc,<-List.drop_drop,List.drop_left]at hu;exact hu);rcases List.mem_append.1 hu with hu|hu
          ·exact k5.one u hu
          ·exact k51 u hu
         ·rw[hw,oa w k2]
          congr 2;congr 1
          have:(cs++vs++ws).take (L.base+off*ti.size+len*ti.size)=cs++vs.take (off*ti.size)++(vs.drop (off*ti.size)).take (len*ti.size):=by
           rw[List.append_assoc cs vs ws,<-k3,Nat.add_assoc,List.take_append,List.take_of_length_le (Nat.le_add_right _ _),Nat.add_sub_cancel_left,List.take_append,Nat.sub_eq_zero_of_le (by omega),List.take_zero,List.append_nil,List.append_assoc,<-List.take_add]
          simp only[List.toList_toArray];rw[this];simp[List.append_assoc]
         ·rw[List.length_append,r1,k3]
         ·rw[<-k4];simp only[List.length_append,List.length_drop,r1,r2];rw[List.length_append,List.length_append]at k4;omega
       refine⟨_,_,_,_,_,_,_,h,.inl (hexec hrun),⟨fv hg _,m1,⟨_,cap,_,rfl,hroom,g3,by simp,dT _ _ _,.inr ⟨rfl,by simp,?_⟩⟩,hev,m2⟩,fun id hid=>ej _ _ _ hid,by simp⟩;simp only[Nat.zero_add];rw[Nat.add_mul]at g7;omega
    ·obtain⟨olds,hEo,hrun⟩:=grow g1 hrd hdr (by omega) hb hm;refine oC hr hn hg (σ.set id .gone) hσ0 h0l hpos hzs (hEo.app hE) (jP hzc) ?_ (grownCap_ge w _ _ e) (grownCap_le_maxLen w _ _ e (show _<=9223372036854775807 by omega)) hrun h;rw[List.length_append,hdr]
   ·exact h.elim
  ·exact h.elim
end
section
variable{X:Nat->Prop}{loc loc':Nat->Option Loc}{σ σ':St}{w w':World}{n:Nat}{P:Program}{ρ:Operand->Value}{ρ':Opd->AV}{K:AV->List Nat->Bool->St->Prop}
theorem xv{id:Nat}{o o':bO}(h:σ[id]?=some o)(h1:o.live=true)(h2:o'.live=true)(b:Nat):aS (σ.set id o') loc b↔aS σ loc b:=by
 have hid:id<σ.length:=(List.getElem?_eq_some_iff.1 h).1;constructor
 ·rintro⟨j,oj,L,g1,g2,g3,g4,g5⟩;rcases er σ id j o' g1 with⟨rfl,_,_⟩|⟨_,k⟩
  ·exact⟨id,o,L,h,h1,g3,g4,g5⟩
  ·exact⟨j,oj,L,k,g2,g3,g4,g5⟩
 ·rintro⟨j,oj,L,g1,g2,g3,g4,g5⟩
  by_cases hj:j=id
  ·subst hj;exact⟨j,o',L,by simp[hid],h2,g3,g4,g5⟩
  ·exact⟨j,oj,L,by rw[List.getElem?_set_ne (Ne.symm hj)];exact g1,g2,g3,g4,g5⟩
theorem D9{id:Nat}{o o':bO}(h:σ[id]?=some o)(h1:o.live=true)(h2:o'.live=true):aR X loc (σ.set id o') w=aR X loc σ w:=by
 have:gq X (σ.set id o') loc=gq X σ loc:=by
  funext b
  simp only[gq,xv h h1 h2]
 unfold aR;rw[this]
theorem Rel.weakL(hr:Rel X loc σ w){id:Nat}{o o':bO}(h:σ[id]?=some o)(h1:o.live=true)(h2:o'.live=true)(hw:∀L,loc id=some L->gw (aR X loc σ w) L o->gw (aR X loc σ w) L o'):Rel X loc (σ.set id o') w:=by
 have he:=D9 (X:=X) (w:=w) (loc:=loc) h h1 h2
 have hback:∀ (j:Nat) (oj:bO),(σ.set id o')[j]?=some oj->oj.live=true->∃o2,σ[j]?=some o2/\o2.live=true:=by
  intro j oj g1 g2;rcases er σ id j o' g1 with⟨rfl,_,_⟩|⟨_,k⟩
  ·exact⟨o,h,h1⟩
  ·exact⟨oj,k,g2⟩
 refine⟨fun j oj g1 g2=>?_,fun i j a b La Lb hij g1 g2 g3 g4 g5 g6 g7 g8=>?_,fun b hb=>⟨(hr.out b hb).1,fun h3=>(hr.out b hb).2 ((xv h h1 h2 b).1 h3)⟩,fun j hj=>hr.beyond j (by simpa using hj)⟩
 ·rw[he]
  rcases er σ id j o' g1 with⟨rfl,rfl,_⟩|⟨_,k⟩
  ·obtain⟨L,k1,k2⟩:=hr.obj id o h h1;exact⟨L,k1,hw _ k1 k2⟩
  ·exact hr.obj j oj k g2
 ·obtain⟨a',k1,k2⟩:=hback i a g1 g3;obtain⟨b',k3,k4⟩:=hback j b g2 g4;exact hr.apart i j a' b' La Lb hij k1 k3 k2 k4 g5 g6 g7 g8
theorem Rel.weak(hr:Rel X loc σ w){id:Nat}{o o':bO}(h:σ[id]?=some o)(h1:o.live=true)(h2:o'.live=true)(hw:∀E L,gw E L o->gw E L o'):Rel X loc (σ.set id o') w:=hr.weakL h h1 h2 fun L _=>hw _ L
theorem gw.unvex{E:Env}{L:Loc}{e:Nat}{xs:List (List AV)}(h:gw E L (.vex e xs)):gw E L (.vec e xs):=by
 rcases h with h1|⟨h1,cs,vs,t,h2,h3,h4,h5⟩
 ·exact .inl h1
 ·exact .inr ⟨h1,cs,vs,[],t,by simpa using h2,h3,by simpa using h4,h5,fun u hu=>(by cases hu)⟩
theorem Dw(hr:Rel X loc σ w){tx:TypeId}(hk:(∃e',P.underlying tx=some (.slice e'))\/P.underlying tx=some .string){e:Nat}(he:0<e){av:AV}{v:Value}{ys:List (List AV)}(h:rdX σ e av=some ys)(hv:Rl (aR X loc σ w) av v):
 ∃news,Src P e tx v ys.length news w/\RlE (aR X loc σ w) e ys news/\∀m,m<=ys.length->(Builtin.firstCells e m v).run P w=.ok (news.take (m*e)).toArray w:=by
 unfold rdX at h;split at h
 ·rename_i e' id off len
  split at h
  ·rename_i hee
   split at h
   ·rename_i ex e2 xs hσ
    unfold rws at hσ;split at hσ
    ·rename_i e3 xs3 hσ3;simp only[Option.some.injEq,Prod.mk.injEq]at hσ;obtain⟨rfl,rfl,rfl⟩:=hσ;exact xJ hr hk he (av:=.hs e' id off len) (by simp only[rdS,hee,if_true,hσ3];exact h) hv
    ·rename_i e3 xs3 hσ3;simp only[Option.some.injEq,Prod.mk.injEq]at hσ;obtain⟨rfl,rfl,rfl⟩:=hσ;have h1:=D9 (X:=X) (w:=w) (loc:=loc) (o':=.vec e3 xs3) hσ3 rfl rfl;have hid:id<σ.length:=(List.getElem?_eq_some_iff.1 hσ3).1;have h2:=xJ (P:=P) (hr.weak hσ3 rfl rfl fun _ _=>gw.unvex) hk he (av:=.hs e' id off len) (v:=v) (ys:=ys) (by simp only[rdS,hee,if_true,List.getElem?_set_self hid];exact h) (by rw[h1];exact hv);rw[h1]at h2;exact h2
    ·cases hσ
   ·cases h
  ·cases h
 ·exact xJ hr hk he h hv
theorem po(hr:Rel X loc σ w){id e off len:Nat}{ex:Bool}{xs:List (List AV)}{v:Value}(hσ:rws σ[id]?=some (ex,e,xs))(he:0<e)(hv:Rl (aR X loc σ w) (.hs e id off len) v)(hle:off+len<=xs.length):
 ∃ a cap L, v = .slice a len cap /\ len <= cap /\ cap <= maxLen /\ (a = none -> cap = 0) /\ loc id = some L /\ xs.length <= off + cap /\ (ex = true -> off + cap = xs.length) /\ (L.has = true -> L.base + (off + cap) * e = L.rows) /\ (L.has = false -> cap = 0) /\ (cap ≠ 0 -> a = some ⟨L.blk, L.base + off * e, none⟩) /\
   ((L.has=false/\xs=[])\/(L.has=true/\∃ (cs vs ws:List Value) (t:TypeId),w.heap[L.blk]?=some (.cells (cs++vs++ws).toArray t (0,0))/\cs.length=L.base/\(cs++vs++ws).length=L.rows/\RlE (aR X loc σ w) e xs vs/\Zm ex ws)):=by
 obtain⟨a,cap,L,g1,g2,g3,g4,g5,g6⟩:=hv;have g5:loc id=some L:=g5;obtain⟨_,h2⟩:=hr.rws hσ g5
 have h3:L.has=true->L.base+(off+cap)*e=L.rows:=by
  intro h;rcases g6 with⟨g6,g7⟩|⟨_,_,g7⟩
  ·rw[g6];exact g7 h
  ·exact g7
 have h4:L.has=false->cap=0:=by
  intro h;rcases g6 with⟨g6,_⟩|⟨g6,_,_⟩
  ·exact g6
  ·rw[h]at g6;cases g6
 have h5:xs.length<=off+cap/\(ex=true->off+cap=xs.length):=by
  rcases h2 with⟨h6,rfl⟩|⟨h6,cs,vs,ws,t,k1,k2,k3,k4,k5⟩
  ·simp only[List.length_nil]at hle ⊢;have:=h4 h6;omega
  ·have h7:=h3 h6
   have hl:=k4.length;simp only[List.length_append]at k3;constructor
   ·have:xs.length*e<=(off+cap)*e:=by omega
    exact Nat.le_of_mul_le_mul_right this he
   ·intro hx;have:=k5.1 hx;subst this;simp only[List.length_nil]at k3;have:(off+cap)*e=xs.length*e:=by omega
    exact Nat.eq_of_mul_eq_mul_right he this
 refine⟨a,cap,L,g1,g2,g3,g4,g5,h5.1,h5.2,h3,h4,fun h=>?_,h2⟩;rcases g6 with⟨g6,_⟩|⟨_,g6,_⟩
 ·exact absurd g6 h
 ·exact g6
theorem DX(zv:Array Value)(m:Nat)(hz:0<zv.size):(Builtin.zeroCells zv m).toList=(List.replicate m zv.toList).flatten:=by
 have:=oW zv.toList (by simpa using hz) m;simpa[Builtin.zeroCells,madeCells]using this
theorem QT{n:Nat}{p:Nat->Bool}:(List.range (n+1)).find? p=if p 0=true then some 0 else ((List.range n).find? fun i=>p (i+1)).map (·+1):=by
 rw[List.range_succ_eq_map,List.find?_cons];by_cases h:p 0=true
 ·rw[h];rfl
 ·have h2:p 0=false:=by simpa using h
  rw[h2,if_neg (by simp),List.find?_map];rfl
theorem UC : ∀ a b : List UInt8, Extern.BytealgCompare.cmp ⟨a.toArray⟩ ⟨b.toArray⟩ = G5 a b := by
 have g:∀ (l:List UInt8) (i:Nat),(⟨l.toArray⟩:ByteArray)[i]! = l[i]! := by
  intro l i;by_cases h:i<l.length
  ·rw[getElem!_pos (⟨l.toArray⟩:ByteArray) i (by show i<l.toArray.size;simpa using h),getElem!_pos l i h];show l.toArray[i]=l[i]
   simp
  ·rw[getElem!_neg (⟨l.toArray⟩:ByteArray) i (by show ¬i<l.toArray.size;simpa using h),getElem!_neg l i h]
 have z:∀l:List UInt8,(⟨l.toArray⟩:ByteArray).size=l.length:=fun l=>by show l.toArray.size=_;simp
 intro a;induction a with
 | nil =>
   intro b;unfold Extern.BytealgCompare.cmp;simp only[z,List.length_nil,Nat.zero_min,List.range_zero,List.find?_nil];cases b<;>simp[G5]
 | cons x a ih =>
   intro b;cases b with
   | nil =>
     unfold Extern.BytealgCompare.cmp;simp only[z,List.length_nil,Nat.min_zero,List.range_zero,List.find?_nil];simp[G5]
   | cons y b =>
     have h:=ih b;unfold Extern.BytealgCompare.cmp at h ⊢;simp only[z,g,List.length_cons]at h ⊢;rw[Nat.add_min_add_right,QT];simp only[List.getElem!_cons_zero,List.getElem!_cons_succ,G5];by_cases hxy:x=y
     ·subst hxy;simp only[bne_self_eq_false,Bool.false_eq_true,if_false,UInt8.lt_irrefl];rw[<-h];cases hf:(List.range (min a.length b.length)).find? (fun i=>a[i]! != b[i]!)with
      |none=>simp
      |some i=>simp
     ·have hne:(x != y)=true:=by simpa using hxy
      simp only[hne,if_true,List.getElem!_cons_zero];by_cases hlt:x<y
      ·simp[hlt]
      ·have hgt:y<x:=by
        rcases UInt8.lt_or_lt_of_ne hxy with h1|h1
        ·exact absurd h1 hlt
        ·exact h1
       simp[hlt,hgt]
theorem wc{P:Program}{w:World}{E:Env}{b:Nat}:∀ (ys:List (List AV)) (us:List Value) (o:Nat) (acc:ByteArray),RlE E 1 ys us->ys.all mj=true->(∀j u,us[j]?=some u->w.cell? ⟨b,o+j,none⟩=some u)->(Extern.Bytes.loadBytes ⟨b,o,none⟩ ys.length acc).run P w=.ok ((ys.map uC).foldl (fun r u=>r.push u) acc) w
 | [],_,o,acc,_,_,_=>rfl
 | y :: ys, _, o, acc, ⟨u1, ws, h0, h1, h2, h3⟩, hb, h => by
   subst h0;simp only[List.all_cons,Bool.and_eq_true]at hb;obtain⟨hb1,hb2⟩:=hb;unfold mj at hb1;split at hb1
   ·rename_i m
    obtain⟨u,us',rfl,_,hu,hus⟩:=h2;simp only[Rl]at hu;simp only[RlC]at hus;subst hu;subst hus;have h4:=h 0 (.int .u8 m) rfl
    have h5:(load ⟨b,o,none⟩).run P w=.ok (.int .u8 m) w:=by
     rw[Nat.add_zero]at h4;simp[load,Sem.run,h4]
    have h6:=wc (P:=P) ys ws (o+1) (acc.push m.toNat.toUInt8) h3 hb2 fun j v hj=>by
     have:=h (j+1) v (by simpa using hj);rw[show o+1+j=o+(j+1)by omega];exact this
    simp only[List.length_cons,Extern.Bytes.loadBytes,Sem.run_bind,h5,Result.andThen_ok,List.map_cons,List.foldl_cons,f4];exact h6
   ·cases hb1
theorem IY:∀ (l:List UInt8) (acc:ByteArray),l.foldl (fun r u=>r.push u) acc=⟨(acc.data.toList++l).toArray⟩
 | [],acc=>by simp
 | u :: l, acc => by
   rw[List.foldl_cons,IY l];simp[ByteArray.push]
theorem Xn (fn : Func) (h : fn.name = "internal/bytealg.Compare") (h2 : fn.origin = "") : Extern.find fn = some Extern.BytealgCompare.compare /\ Extern.findNext fn = none := by
 unfold Extern.find Extern.findNext;simp only[h,h2];exact⟨rfl,rfl⟩
variable(hr:Rel X loc σ w)(hρ:lw (aR X loc σ w) ρ ρ')
include hr hρ
theorem aaH{o:Oper}{t e:TypeId}{x:Operand}{lo hi mx:Option Operand}{a:Opd}{lo' hi' mx':Option Opd}{ti:TypeInfo}(ho:o.op=.slice t x lo hi mx)(ht:P.underlying t=some (.slice e))(hti:P.info? e=some ti)(hpos:0<ti.size)
 (hx:az x=some a) (hlo:eU lo=some lo') (hhi:eU hi=some hi') (hmx:eU mx=some mx') (h:opF n σ ρ' K (.slx ti.size a lo' hi' mx')):Snd X loc σ w n ((execOp ρ o).run P w) K:=by
 simp only[opF]at h;have hx':=hρ x a hx
 have run:∀ {ad:Option Addr} {m cap l hh q:Nat},ρ x=.slice ad m cap->((lo.map ρ=none/\l=0)\/∃k,lo.map ρ=some (.int k l))->((hi.map ρ=none/\hh=m)\/∃k,hi.map ρ=some (.int k hh))->
  ((mx.map ρ=none/\q=cap)\/((∃k,mx.map ρ=some (.int k q))/\hi.map ρ≠none))->l<=hh->hh<=q->q<=cap->(execOp ρ o).run P w=.ok (.value (.slice (rJ ad l q ti.size) (hh-l) (q-l))) w:=by
  intro ad m cap l hh q k1 k2 k3 k4 k5 k6 k7;have:=B9 (P:=P) (w:=w) ht hti ad m cap _ _ _ l hh q k2 k3 k4 k5 k6 k7;simp only[execOp,ho,Sem.run_bind,k1];rw[this];rfl
 split at h
 ·rename_i e' id off len hv
  rw[hv]at hx';obtain⟨rfl,h⟩:=h;split at h
  ·split at h
   ·rename_i ex e2 xs hσ
    obtain⟨rfl,hle,h0,h1,h2,h⟩:=h;obtain⟨ad,cap,L,g1,g2,g3,g4,g5,g6,g7,g8,g9,g10,_⟩:=po hr hσ hpos hx' hle;have k1:=ic hρ hlo 0 h0;have k2:=ic hρ hhi len (by omega);have hmn:mx=none:=(iG hmx).1 rfl;subst hmn;generalize hL:bz ρ' ((0:Nat):Int) lo'=l at *;generalize hH:bz ρ' (len:Int) hi'=hh at *;have a1:(lo.map ρ=none/\l.toNat=0)\/∃k,lo.map ρ=some (.int k l.toNat):=k1.imp (fun x=>x.2) (fun x=>x.2)
    have a2:(hi.map ρ=none/\hh.toNat=len)\/∃k,hi.map ρ=some (.int k hh.toNat):=k2.imp (fun x=>x.2) (fun x=>x.2)
    have r:=run g1 a1 a2 (.inl ⟨rfl,rfl⟩) (by omega) (by omega) (Nat.le_refl _);refine Snd.of hr h r ⟨_,_,L,rfl,by omega,by omega,fun hn=>?_,g5,?_⟩
    ·unfold rJ at hn;split at hn
     ·omega
     ·have:=g4 (by simpa using hn);omega
    ·have e3:off+l.toNat+(cap-l.toNat)=off+cap:=by omega
     by_cases hc:cap=l.toNat
     ·exact .inl ⟨by omega,fun h=>by rw[<-hc];exact g8 h⟩
     ·right
      have hc0:cap≠0:=by omega
      have hh1:L.has=true:=by
       cases hq:L.has with
       |true=>rfl
       |false=>exact absurd (g9 hq) hc0
      refine⟨hh1,by rw[g10 hc0];simp[rJ,hc,f4,Nat.add_mul,Nat.add_assoc],?_⟩;rw[e3];exact g8 hh1
   ·exact h.elim
  ·rename_i m
   obtain⟨hne,h0,h1,h2,h3,h⟩:=h;obtain⟨ad,cap,L,g1,g2,_⟩:=hx';have k1:=ic hρ hlo 0 h0;have k2:=ic hρ hhi len (by omega);have k3:=ic hρ hmx len (by omega);generalize hL:bz ρ' ((0:Nat):Int) lo'=l at *;generalize hH:bz ρ' (len:Int) hi'=hh at *;generalize hM:bz ρ' (len:Int) (some m)=q at *;have a1:(lo.map ρ=none/\l.toNat=0)\/∃k,lo.map ρ=some (.int k l.toNat):=k1.imp (fun x=>x.2) (fun x=>x.2)
   have a2:(hi.map ρ=none/\hh.toNat=len)\/∃k,hi.map ρ=some (.int k hh.toNat):=k2.imp (fun x=>x.2) (fun x=>x.2)
   rcases k3 with⟨b1,_⟩|⟨b1,b2⟩
   ·cases b1
   ·have hn2:hi.map ρ≠none:=by
     have h5:=(not_congr (iG hhi)).1 hne;simpa using h5
    have r:=run g1 a1 a2 (.inr ⟨b2,hn2⟩) (by omega) (by omega) (by omega);exact Snd.of hr h r trivial
 ·exact h.elim
theorem aaq{o:Oper}{t e:TypeId}{x:Operand}{a:Opd}(ho:o.op=.call { callee:=.builtin .cap,args:=#[x],argTypes:=#[t] })(ht:P.underlying t=some (.slice e))(hx:az x=some a)(h:opF n σ ρ' K (.cpq a)):Snd X loc σ w n ((execOp ρ o).run P w) K:=by
 simp only[opF]at h;have hx':=hρ x a hx;split at h
 ·rename_i e' id off len hv
  rw[hv]at hx';split at h
  ·rename_i e2 xs hσ;obtain⟨rfl,hpos,hle,h⟩:=h;obtain⟨ad,cap,L,g1,g2,g3,g4,g5,g6,g7,_⟩:=po hr (ex:=true) (xs:=xs) (by rw[hσ];rfl) hpos hx' hle;have hc:xs.length-off=cap:=by have:=g7 rfl;omega
   rw[hc]at h;refine Snd.of hr h (v:=.int .i64 cap) ?_ rfl;rw[eg ho];simp[builtin,Builtin.cap_,g1,run_underlying ht,goInt]
  ·exact h.elim
 ·exact h.elim
omit hρ in
theorem act{id e:Nat}{ex:Bool}{xs xs':List (List AV)}{L:Loc}(hσ:σ[id]?=some (mkr ex e xs))(hL:loc id=some L)(hh:L.has=true){cs vs ws us:List Value}{t:TypeId}
 (h3:w.heap[L.blk]?=some (.cells (cs++vs++ws).toArray t (0,0))) (h4:cs.length=L.base) (h5:(cs++vs++ws).length=L.rows) (h:RlE (aR X loc σ w) e xs' us) (hl:us.length=vs.length) (hx:Zm ex ws):
 Rel X loc (σ.set id (mkr ex e xs')) (w.setRow L.blk (cs++us++ws).toArray)/\(∀b,aS (σ.set id (mkr ex e xs')) loc b->aS σ loc b)/\Ev (aS σ loc) w (w.setRow L.blk (cs++us++ws).toArray):=
 hr.turn hσ (lV _ _ _) (lV _ _ _) hL hh _ fun E hE hw=>gw.mkr hh (by rw[hw];exact oa w h3 _) h4 (by simpa[hl]using h5) (RlE.mono hE _ _ _ h) hx
omit hr hρ in
theorem Pk{id:Nat}{o:bO}(hσ:σ[id]?=some o):σ.set id o=σ:=by
 apply List.ext_getElem?
 intro j;by_cases hj:id=j
 ·subst hj;obtain⟨hlt,hget⟩:=List.getElem?_eq_some_iff.1 hσ;simp[hlt,hget]
 ·rw[List.getElem?_set_ne hj]
omit hr hρ in
theorem qF:∀ {l:List Operand} {ys:List Opd},ed l=some ys->l.length=ys.length
 | [],ys,h=>by simp only[ed,Option.some.injEq]at h;subst h;rfl
 | x :: l, ys, h => by
   simp only[ed]at h;split at h
   ·rename_i a b h1 h2;simp only[Option.some.injEq]at h;subst h;simp[qF h2]
   ·cases h
theorem aap {o : Oper} {g : FuncId} {fn : Func} {xs : Array Operand} {ats : Array TypeId} {a b : Opd} (ho : o.op = .call { callee := .value (.func g), args := xs, argTypes := ats }) (hf : P.funcs[g]? = some fn) (hn0 : fn.body.isNone = true) (hn1 : fn.name = "internal/bytealg.Compare") (hn2 : fn.origin = "")
 (hxs:ed xs.toList=some [a,b]) (hcc:∀v,ρ' (.c v)=v) (h:opF n σ ρ' K (.cmb a b)):Snd X loc σ w n ((execOp ρ o).run P w) K:=by
 simp only[opF]at h
 obtain⟨x,y,hx,hy,hxy⟩:∃x y,az x=some a/\az y=some b/\xs=#[x,y]:=by
  have hl:=qF hxs;obtain⟨l⟩:=xs;simp only at hxs hl;match l,hl with
  | [x, y], _ =>
    simp only[ed]at hxs;cases hx:az x<;>cases hy:az y<;>rw[hx,hy]at hxs<;>simp only[reduceCtorEq,Option.some.injEq,List.cons.injEq]at hxs
    obtain⟨rfl,rfl,_⟩:=hxs;exact⟨x,y,hx,hy,rfl⟩
 subst hxy
 have hfn:ρ (.func g)=.func (.func g) #[] #[]:=by
  have h1:=hρ (.func g) _ rfl;rw[hcc]at h1;obtain⟨vs,h1,h2⟩:=h1;simp only[RlS]at h2;subst h2;exact h1
 have hx':=hρ x a hx;have hy':=hρ y b hy;split at h
 ·rename_i e1 ix ox nx e2 iy oy ny hvx hvy
  rw[hvx]at hx';rw[hvy]at hy'
  have key : ∀ {e i o m : Nat} {v : Value} {ys : List (List AV)}, rdS σ 1 (.va e i o m) = some ys -> ys.all mj = true -> Rl (aR X loc σ w) (.va e i o m) v -> (Extern.Bytes.bytesOf v).run P w = .ok ⟨(ys.map uC).toArray⟩ w := by
   intro e i o m v ys hr1 hall hv;simp only[rdS]at hr1;split at hr1
   ·rename_i he
    subst he;split at hr1
    ·rename_i cs hσ
     split at hr1
     ·rename_i hle
      simp only[Option.some.injEq]at hr1;obtain⟨ad,cap,L,rfl,h2,h3,h4,h5,h6,h7⟩:=hv;obtain⟨_,h8,vs,t,h9,h10⟩:=hr.var hσ h5;have g3:=RlE.chunk (e:=1) m (h10.drop o) (by simp;omega);rw[hr1]at g3;have hl:ys.length=m:=by rw[<-hr1,kx]
      cases ad with
      | none =>
        have:=h4 rfl;have h0:ys=[]:=List.eq_nil_of_length_eq_zero (by omega);subst h0;rfl
      | some ad =>
        have hb:(Extern.Bytes.loadBytes ad m .empty).run P w=.ok ((ys.map uC).foldl (fun r u=>r.push u) .empty) w:=by
         by_cases h0:cap=0
         ·have h0:ys=[]:=List.eq_nil_of_length_eq_zero (by omega);subst h0;obtain rfl:m=0:=by simpa using hl.symm
          rfl
         ·rcases h7 with h7|h7
          ·exact absurd h7 h0
          ·simp only[Option.some.injEq]at h7;subst h7;have g0:=lY h9 o (m*1) (by have:=h10.length;omega);obtain⟨g1,g2⟩:=na g0;have:=wc (P:=P) (b:=L.blk) ys _ (L.base+o) .empty g3 hall fun j u hj=>by have:=g2 j u hj;rw[h8,Nat.zero_add];exact this
           rw[hl]at this;exact this
        show (Extern.Bytes.loadBytes ad m .empty).run P w=_
        rw[hb,IY];rfl
     ·cases hr1
    ·cases hr1
   ·cases hr1
  split at h
  ·rename_i la lb hla hlb
   obtain⟨ha,hb,h⟩:=h;have k1:=key hla ha hx';have k2:=key hlb hb hy';obtain⟨f1,f2⟩:=Xn fn hn1 hn2;refine Snd.of hr h ?_ rfl
   have hne : (fn.name == "runtime.NumGoroutine") = false := by rw [hn1]; rfl
   have e:execOp ρ o=(do let d <-resolve ρ { callee:=.value (.func g),args:=#[x,y],argTypes:=ats } o.type;invoke d.target d.args:Sem Next):=by unfold execOp;rw[ho]
   rw[e];simp only[resolve,hfn,Deferred.ofValue,invoke,Sem.run_bind,Sem.run_pure,Result.andThen_ok];rw[run_callFunc_extern hf hne hn0 f2 f1]
   have e2:(Extern.BytealgCompare.compare #[ρ x,ρ y]).run P w=.ok (.int .i64 (G5 (la.map uC) (lb.map uC))) w:=by
    change Sem.run P (do pure (goInt (Extern.BytealgCompare.cmp (<-Extern.Bytes.bytesOf (ρ x)) (<-Extern.Bytes.bytesOf (ρ y))))) w=_
    simp only[Sem.run_bind,k1,k2,Result.andThen_ok,Sem.run_pure,UC,goInt]
   simp only[List.map_toArray,List.map_cons,List.map_nil,Array.append_empty,Array.empty_append];rw[e2];rfl
  ·exact h.elim
 ·exact h.elim
theorem aao{o:Oper}{t e:TypeId}{x:Operand}{a:Opd}{z:List AV}{ti:TypeInfo}(ho:o.op=.call { callee:=.builtin .clear,args:=#[x],argTypes:=#[t] })(ht:P.underlying t=some (.slice e))(hz:jT P e=some z)(hti:P.info? e=some ti)(hpos:0<ti.size)
 (hx:az x=some a) (h:opF n σ ρ' K (.clr ti.size z a)):Snd X loc σ w n ((execOp ρ o).run P w) K:=by
 simp only[opF]at h;obtain⟨i,zv,hi,hzv,hzs,hzc⟩:=iC hz;rw[hti]at hi;cases hi;have hx':=hρ x a hx;split at h
 ·rename_i e' id off len hv
  rw[hv]at hx';obtain⟨rfl,h⟩:=h;split at h
  ·rename_i ex e2 xs hσ
   obtain⟨rfl,hle,h⟩:=h;obtain⟨ad,cap,L,g1,g2,g3,g4,g5,g6,g7,g8,g9,g10,g11⟩:=po hr hσ hpos hx' hle;obtain⟨hσ2,_⟩:=hr.rws hσ g5
   have hexec:∀ {W:World},(Builtin.clear_ #[t] o.type #[ρ x]).run P w=.ok (.tuple #[]) W->(execOp ρ o).run P w=.ok (.value (.tuple #[])) W:=by
    intro W k1;rw[eg ho];simp only[builtin,List.map_toArray,List.map_cons,List.map_nil,Sem.run_bind];rw[k1];rfl
   by_cases h0:len=0
   ·subst h0;have e1:xs.take off++List.replicate 0 z++xs.drop (off+0)=xs:=by simp
    rw[e1,Pk hσ2]at h;refine Snd.of hr h (v:=.tuple #[]) (hexec ?_) ⟨[],rfl,rfl⟩;rw[g1];cases ad<;>simp[Builtin.clear_,run_underlying ht]
   ·have hc0:cap≠0:=by omega
    rcases g11 with⟨g11,_⟩|⟨g11,cs,vs,ws,tt,k1,k2,k3,k4,k5⟩
    ·exact absurd (g9 g11) hc0
    ·have hvl:=k4.length;have hzl:zv.cells.toList.length=ti.size:=by simpa using hzs
     have hzc2:RlE (aR X loc σ w) ti.size (List.replicate len z) (List.replicate len zv.cells.toList).flatten:=RlE.rep (RlC.ofCells _ hzc) hzl _;have hzlen:=hzc2.length;simp only[List.length_replicate]at hzlen;have q1:(off+len)*ti.size<=vs.length:=by rw[hvl];exact Nat.mul_le_mul_right _ hle
     rw[Nat.add_mul]at q1;have k7:=((k4.take off).app hzc2).app (k4.drop (off+len));have e1:vs.drop ((off+len)*ti.size)=vs.drop (off*ti.size+((List.replicate len zv.cells.toList).flatten).length):=by rw[hzlen,Nat.add_mul]
     rw[e1]at k7;have k9:=act hr hσ2 g5 g11 k1 k2 k3 k7 (by simp only[List.length_append,List.length_take,List.length_drop,hzlen];omega) k5;rw[<-oc cs vs ws _ (off*ti.size) (by omega)]at k9;refine Snd.turned k9 (by simp) h (.inl (hexec ?_)) ⟨[],rfl,rfl⟩;have hst:=run_storeCells_at (P:=P) L.blk (L.base+off*ti.size) tt ((List.replicate len zv.cells.toList).flatten) 0 _ w k1 (by simp only[List.size_toArray,k3,hzlen];simp only[List.length_append]at k3;omega) (fun u hu=>hzc2.one u hu);simp only[Nat.add_zero]at hst;rw[g1,g10 hc0];obtain⟨len',rfl⟩:∃m,len=m+1:=⟨len-1,by omega⟩
     have hcz:=DX zv.cells (len'+1) (by omega);simp only[Builtin.clear_,run_underlying ht,Sem.run_bind,Result.andThen_ok,zeroValue,typeInfo,hti,hzv,Sem.run_pure,hcz,List.getElem?_toArray,List.getElem?_cons_zero];have e9:∀ {r:Result Unit} {W:World},r=.ok () W->(r.andThen fun a w'=>Result.ok (Value.tuple #[]) w')=.ok (.tuple #[]) W:=fun h=>by rw[h];rfl
     have hst2:=e9 hst;simpa[k2,run_underlying ht,zeroValue,typeInfo,hti,hzv,hcz]using hst2
  ·exact h.elim
 ·exact h.elim
theorem aar{o:Oper}{t u e:TypeId}{d s:Operand}{a b:Opd}{ti:TypeInfo}(ho:o.op=.call { callee:=.builtin .copy,args:=#[d,s],argTypes:=#[t,u] })(ht:P.underlying t=some (.slice e))(hti:P.info? e=some ti)(hpos:0<ti.size)
 (hd:az d=some a) (hs:az s=some b) (h:opF n σ ρ' K (.cpx ti.size a b)):Snd X loc σ w n ((execOp ρ o).run P w) K:=by
 simp only[opF]at h;have hd':=hρ d a hd;have hs':=hρ s b hs;split at h
 ·exact h.elim
 ·rename_i ys hys
  obtain⟨news,hsrc,hE,hf⟩:=Dw (P:=P) hr (tx:=t) (.inl ⟨e,ht⟩) hpos hys hs';have hlen:=hsrc.len w
  have hexec:∀ {ad:Option Addr} {len cap:Nat} {W:World},ρ d=.slice ad len cap->((match ad with|some a=>storeCells a (news.take (min ys.length len*ti.size))|none=>pure ():Sem Unit)).run P w=.ok () W->(execOp ρ o).run P w=.ok (.value (.int .i64 (min ys.length len:Nat))) W:=by
   intro ad len cap W k1 k2;rw[eg ho];have h2:=hf (min ys.length len) (Nat.min_le_left _ _)
   have e0:(Builtin.copy_ #[t,u] o.type #[ρ d,ρ s]).run P w=.ok (.int .i64 (min ys.length len:Nat)) W:=by
    rw[k1];have hm:Nat.min ys.length len=min ys.length len:=rfl;cases ad with
    | none =>
      simp only[Sem.run_pure,Result.ok.injEq,true_and]at k2;subst k2;simp[Builtin.copy_,run_underlying ht,hlen,sizeOf,typeInfo,hti,hm,h2,goInt]
    | some ad =>
      simp only at k2;simp[Builtin.copy_,run_underlying ht,hlen,sizeOf,typeInfo,hti,hm,h2,k2,goInt]
   simp only[builtin,List.map_toArray,List.map_cons,List.map_nil,Sem.run_bind];rw[e0];rfl
  split at h
  ·rename_i e' id off len hv
   rw[hv]at hd';obtain⟨rfl,h⟩:=h;split at h
   ·rename_i ex e2 xs hσ
    obtain⟨rfl,hle,h⟩:=h;obtain⟨ad,cap,L,g1,g2,g3,g4,g5,g6,g7,g8,g9,g10,g11⟩:=po hr hσ hpos hd' hle;obtain⟨hσ2,_⟩:=hr.rws hσ g5;by_cases hz:min ys.length len=0
    ·have e0:(news.take (min ys.length len*ti.size))=[]:=by rw[hz];simp
     have e1:xs.take off++ys.take (min ys.length len)++xs.drop (off+min ys.length len)=xs:=by rw[hz];simp
     rw[e1,Pk hσ2]at h;exact Snd.of hr h (hexec g1 (W:=w) (by rw[e0];cases ad<;>rfl)) rfl
    ·have hc0:cap≠0:=by omega
     rcases g11 with⟨g11,_⟩|⟨g11,cs,vs,ws,tt,k2,k3,k4,k5,k6⟩
     ·exact absurd (g9 g11) hc0
     ·have hvl:=k5.length;have hnl:=hE.length;have k6':=(hE.take (min ys.length len));have k7:=((k5.take off).app k6').app (k5.drop (off+min ys.length len));have q1:(off+min ys.length len)*ti.size<=vs.length:=by rw[hvl];exact Nat.mul_le_mul_right _ (by omega)
      rw[Nat.add_mul]at q1;have q2:min ys.length len*ti.size<=ys.length*ti.size:=Nat.mul_le_mul_right _ (Nat.min_le_left _ _);have q3:(news.take (min ys.length len*ti.size)).length=min ys.length len*ti.size:=by simp;omega
      have e1:vs.drop ((off+min ys.length len)*ti.size)=vs.drop (off*ti.size+(news.take (min ys.length len*ti.size)).length):=by rw[q3,Nat.add_mul]
      rw[e1]at k7;have k9:=act hr hσ2 g5 g11 k2 k3 k4 k7 (by simp;omega) k6;rw[<-oc cs vs ws _ (off*ti.size) (by omega)]at k9;refine Snd.turned k9 (by simp) h (.inl (hexec g1 ?_)) rfl;rw[g10 hc0];have hst:=run_storeCells_at (P:=P) L.blk (L.base+off*ti.size) tt (news.take (min ys.length len*ti.size)) 0 _ w k2 (by simp;omega) (fun u hu=>hsrc.one u (List.mem_of_mem_take hu));simp only[Nat.add_zero]at hst;simpa[k3]using hst
   ·exact h.elim
  ·exact h.elim
theorem TB (hn : n < σ.length) (hg : loc n = none) (hgn : ∀ o : bO, σ[n]? = some o -> o.live = false) {o : Oper} {t u e : TypeId} {s x : Operand} {a b : Opd} {z : List AV} {ti : TypeInfo} (ho : o.op = .call { callee := .builtin .append, args := #[s, x], argTypes := #[t, u] })
 (ht:P.underlying t=some (.slice e)) (hu:(∃e',P.underlying u=some (.slice e'))\/P.underlying u=some .string) (hz:jT P e=some z) (hti:P.info? e=some ti) (hpos:0<ti.size)
 (hs:az s=some a) (hx:az x=some b) (h:opF n σ ρ' K (.apx ti.size ti.bytes a b)):Snd X loc σ w n ((execOp ρ o).run P w) K:=by
 simp only[opF]at h;obtain⟨i,zv,hi,hzv,hzs,hzc⟩:=iC hz;rw[hti]at hi;cases hi;have hx':=hρ x b hx;have hs':=hρ s a hs;split at h
 ·exact h.elim
 ·rename_i ys hys
  obtain⟨news,hsrc,hE,hf⟩:=Dw (P:=P) hr (tx:=u) hu hpos hys hx';have hnl:=hE.length
  have hexec:∀ {r:Value} {W:World},(Builtin.append_ #[t,u] o.type #[ρ s,ρ x]).run P w=.ok r W->(execOp ρ o).run P w=.ok (.value r) W:=by
   intro r W k1;rw[eg ho];simp only[builtin,List.map_toArray,List.map_cons,List.map_nil,Sem.run_bind];rw[k1];rfl
  split at h
  ·rename_i e' id off len hv
   rw[hv]at hs';obtain⟨rfl,h⟩:=h;split at h
   ·rename_i ex e2 xs hσ
    obtain⟨rfl,hle,h⟩:=h;obtain⟨ad,cap,L,g1,g2,g3,g4,g5,g6,g7,g8,g9,g10,g11⟩:=po hr hσ hpos hs' hle;obtain⟨hσ2,_⟩:=hr.rws hσ g5
    have hidn:id≠n:=by
     rintro rfl;have:=hgn _ hσ2;rw[lV]at this;cases this
    have h0l:(σ.set id .gone).length=σ.length:=by simp
    have hσ0:∀ (j:Nat) (o:bO),(σ.set id .gone)[j]?=some o->o.live=true->σ[j]?=some o:=by
     intro j o' k1 k2;rcases er σ id j .gone k1 with⟨_,rfl,_⟩|⟨_,k3⟩
     ·cases k2
     ·exact k3
    split at h
    ·rename_i hin
     have hroom:len+ys.length<=cap:=by omega
     by_cases hc0:cap=0
     ·have hl0:len=0:=by omega
      have hy0:ys=[]:=List.eq_nil_of_length_eq_zero (by omega);subst hl0;subst hy0;have hnews:news=[]:=by simpa[RlE]using hE
      subst hnews;have hxd:xs.drop off=[]:=List.drop_of_length_le (by omega);simp only[List.length_nil,Nat.add_zero,List.take_zero,List.append_nil,List.nil_append,hxd]at h
      have hrun:(Builtin.append_ #[t,u] o.type #[ρ s,ρ x]).run P w=.ok (.slice ad 0 0) w:=by
       rw[g1,hc0];have:=ly (P:=P) (w:=w) o.type ht hti ad 0 0 hsrc (Nat.le_refl _) (W:=w) (by cases ad<;>rfl);simpa using this
      obtain⟨k1,k2⟩:=hr.add hn hg (mkr ex ti.size []) ⟨false,0,0,0⟩ w (Ev.refl _ _) (σ.set id .gone) hσ0 h0l (fun id o' L' _ _ _ _=>⟨(fun h=>by cases h),rfl⟩) (fun h=>by cases h) (fun E _ _=>by cases ex<;>exact .inl ⟨rfl,rfl⟩);exact⟨_,_,_,_,_,_,_,h,.inl (hexec hrun),⟨fv hg _,k1,⟨ad,0,_,rfl,Nat.le_refl _,by simp[maxLen],fun _=>rfl,dT _ _ _,.inl ⟨rfl,fun h=>(by cases h)⟩⟩,Ev.refl _ _,k2⟩,fun id hid=>ej _ _ _ hid,by simp⟩
     ·rcases g11 with⟨g11,_⟩|⟨g11,cs,vs,ws,tt,k2,k3,k4,k5,k6⟩
      ·exact absurd (g9 g11) hc0
      ·have had:=g10 hc0
       have hvl:=k5.length;have q1:(off+len+ys.length)*ti.size<=vs.length:=by rw[hvl];exact Nat.mul_le_mul_right _ hin
       have q3:(off+len+ys.length)*ti.size=off*ti.size+len*ti.size+ys.length*ti.size:=by rw[Nat.add_mul,Nat.add_mul]
       have q4:(off+len)*ti.size=off*ti.size+len*ti.size:=Nat.add_mul _ _ _;have hst:=run_storeCells_at (P:=P) L.blk (L.base+off*ti.size+len*ti.size) tt news 0 _ w k2 (by simp only[List.size_toArray,k4];simp only[List.length_append]at k4;omega) hsrc.one;simp only[Nat.add_zero]at hst;have hrun:=ly (P:=P) (w:=w) o.type ht hti (some ⟨L.blk,L.base+off*ti.size,none⟩) len cap hsrc hroom (by simp only[f4];exact hst);rw[<-had,<-g1]at hrun;have hlive:aS σ loc L.blk:=⟨id,_,L,hσ2,lV _ _ _,g5,g11,rfl⟩;have hsp:=oc cs vs ws news (off*ti.size+len*ti.size) (by omega);rw[k3,<-Nat.add_assoc]at hsp
       have hrow:(((cs++vs++ws).toArray.toList.take (L.base+off*ti.size+len*ti.size))++news++((cs++vs++ws).toArray.toList.drop (L.base+off*ti.size+len*ti.size+news.length))).toArray=(cs++(vs.take (off*ti.size+len*ti.size)++news++vs.drop (off*ti.size+len*ti.size+news.length))++ws).toArray:=by
        simp only[List.toList_toArray];rw[hsp]
       rw[hrow]at hrun;have hev:=Ev.setRow (w:=w) hlive (cs++(vs.take (off*ti.size+len*ti.size)++news++vs.drop (off*ti.size+len*ti.size+news.length))++ws).toArray;have hRl:=(((k5.drop off).take len).app hE).app (k5.drop (off+len+ys.length));have hsplit:vs.take (off*ti.size+len*ti.size)=vs.take (off*ti.size)++(vs.drop (off*ti.size)).take (len*ti.size):=List.take_add;have hdrop:vs.drop ((off+len+ys.length)*ti.size)=vs.drop (off*ti.size+len*ti.size+news.length):=by rw[q3,hnl]
       rw[hdrop]at hRl;have r1:(vs.take (off*ti.size)).length=off*ti.size:=by simp;omega
       obtain⟨m1,m2⟩:=hr.add hn hg (mkr ex ti.size ((xs.drop off).take len++ys++xs.drop (off+len+ys.length))) ⟨true,L.blk,L.base+off*ti.size,L.rows⟩ _ hev (σ.set id .gone) hσ0 h0l (fun j o' L' p1 p2 p3 p4=>by
        have hj:j≠id:=by
         rintro rfl;rcases er σ j j .gone p1 with⟨_,rfl,_⟩|⟨p5,_⟩
         ·cases p2
         ·exact p5 rfl
        have hne:=hr.apart j id o' _ L' L hj (hσ0 _ _ p1 p2) hσ2 p2 (lV _ _ _) p3 g5 p4 g11
        exact⟨fun _=>hne,setRow_other w L.blk L'.blk _ hne⟩) (fun _=>.inl hlive) fun E hE' hw=>by
         refine gw.mkr (cs:=cs++vs.take (off*ti.size)) (vs:=(vs.drop (off*ti.size)).take (len*ti.size)++news++vs.drop (off*ti.size+len*ti.size+news.length)) (ws:=ws) (t:=tt) rfl ?_ ?_ ?_ (RlE.mono hE' _ _ _ hRl) k6
         ·rw[hw,oa w k2];congr 2;congr 1;rw[hsplit];simp only[List.append_assoc]
         ·rw[List.length_append,r1,k3]
         ·rw[<-k4];simp only[List.length_append,List.length_drop,List.length_take]at k4 ⊢;omega
       refine⟨_,_,_,_,_,_,_,h,.inl (hexec hrun),⟨fv hg _,m1,⟨_,cap,_,rfl,hroom,g3,by rw[had];simp,dT _ _ _,.inr ⟨rfl,by rw[had];simp,?_⟩⟩,hev,m2⟩,fun id hid=>ej _ _ _ hid,by simp⟩;have:=g8 g11;simp only[Nat.zero_add];rw[Nat.add_mul]at this;omega
    ·rename_i hout
     obtain⟨rfl,hb,hm,h⟩:=h;have hcap:=g7 rfl;have hrd:rdX σ ti.size (ρ' a)=some ((xs.drop off).take len):=by rw[hv];simp[rdX,hσ,hle]
     obtain⟨olds,hso,hEo,_⟩:=Dw (P:=P) hr (tx:=t) (.inl ⟨e,ht⟩) hpos hrd (by rw[hv];exact hs');have hdr:((xs.drop off).take len).length=len:=by simp;omega
     have hrun:(execOp ρ o).run P w=.ok (.value (.slice (some ⟨w.heap.size,0,none⟩) (len+ys.length) (grownCap w (len+ys.length) cap e))) (w.drew.alloc (.cells ((olds++news).toArray++Builtin.zeroCells zv.cells (grownCap w (len+ys.length) cap e-(len+ys.length))) e)):=by
      refine hexec ?_;have hold:=hso.cellsD;rw[hdr,g1]at hold;rw[g1];exact run_append_grow_src w t u o.type e ti zv ht hti hzv ad len cap olds hold (ρ x) ys.length news hsrc (by omega) (by omega) (growslice_fits (by omega) hb)
     refine oC hr hn hg σ (fun _ _ h _=>h) rfl hpos hzs (hEo.app hE) (jP hzc) ?_ (grownCap_ge w _ _ e) (grownCap_le_maxLen w _ _ e (show _<=9223372036854775807 by omega)) hrun h;rw[List.length_append,hdr]
   ·exact h.elim
  ·exact h.elim
theorem aaj(hn:n<σ.length)(hg:loc n=none)(hgn:∀o:bO,σ[n]?=some o->o.live=false){o:Oper}{t u e:TypeId}{kn:IntKind}{s x:Operand}{a b:Opd}{z:List AV}{ti:TypeInfo}(ho:o.op=.call { callee:=.builtin .append,args:=#[s,x],argTypes:=#[t,u] })
 (ht:P.underlying t=some (.slice e)) (hu:P.underlying u=some (.int kn)) (hz:jT P e=some z) (hti:P.info? e=some ti) (hpos:0<ti.size)
 (hs:az s=some a) (hx:az x=some b) (h:opF n σ ρ' K (.apm ti.size ti.bytes z a b)):Snd X loc σ w n ((execOp ρ o).run P w) K:=by
 simp only[opF]at h;obtain⟨i,zv,hi,hzv,hzs,hzc⟩:=iC hz;rw[hti]at hi;cases hi;have hx':=hρ x b hx;have hs':=hρ s a hs
 have hexec:∀ {r:Value} {W:World},(Builtin.append_ #[t,u] o.type #[ρ s,ρ x]).run P w=.ok r W->(execOp ρ o).run P w=.ok (.value r) W:=by
  intro r W k1;rw[eg ho];simp only[builtin,List.map_toArray,List.map_cons,List.map_nil,Sem.run_bind];rw[k1];rfl
 split at h
 ·rename_i e' id off len kq m hv hvx
  rw[hv]at hs';rw[hvx]at hx';obtain⟨rfl,h⟩:=h;split at h
  ·rename_i e2 xs hσ
   obtain⟨rfl,hle,hm0,hm1,hout,hb,hm,h⟩:=h;have hrw:rws σ[id]?=some (true,ti.size,xs):=by rw[hσ];rfl
   obtain⟨ad,cap,L,g1,g2,g3,g4,g5,g6,g7,g8,g9,g10,g11⟩:=po hr hrw hpos hs' hle;have hcap:=g7 rfl;have hrd:rdX σ ti.size (ρ' a)=some ((xs.drop off).take len):=by rw[hv];simp[rdX,hrw,hle]
   obtain⟨olds,hso,hEo,_⟩:=Dw (P:=P) hr (tx:=t) (.inl ⟨e,ht⟩) hpos hrd (by rw[hv];exact hs');have hdr:((xs.drop off).take len).length=len:=by simp;omega
   obtain⟨q,rfl⟩:∃q:Nat,m=q:=⟨m.toNat,by omega⟩
   simp only[Int.toNat_natCast]at h hout hb hm;have hzl:zv.cells.toList.length=ti.size:=by simpa using hzs
   have hEz:RlE (aR X loc σ w) ti.size (List.replicate q z) (List.replicate q zv.cells.toList).flatten:=RlE.rep (RlC.ofCells _ hzc) hzl _
   have hzz:Builtin.zeroCells zv.cells q=(List.replicate q zv.cells.toList).flatten.toArray:=by
    apply Array.toList_inj.1
    rw[DX zv.cells q (by omega)]
   have hrun:(execOp ρ o).run P w=.ok (.value (.slice (some ⟨w.heap.size,0,none⟩) (len+q) (grownCap w (len+q) cap e))) (w.drew.alloc (.cells ((olds++(List.replicate q zv.cells.toList).flatten).toArray++Builtin.zeroCells zv.cells (grownCap w (len+q) cap e-(len+q))) e)):=by
    refine hexec ?_;have hold:=hso.cellsD;rw[hdr,g1]at hold;rw[g1,show ρ x=.int kq (q:Int)from hx'];have:=Lib.run_append_grow_zeros (P:=P) w t u o.type e ti zv kq kn ht hu hti hzv ad len cap olds hold q hm0 hpos (by omega) (by omega) (by have:=Nat.mul_le_mul_right ti.bytes (show q<=len+q by omega);omega) (growslice_fits (by omega) hb);rw[this,hzz];congr 3;simp
   refine oC hr hn hg σ (fun _ _ h _=>h) rfl hpos hzs (hEo.app hEz) (jP hzc) ?_ (grownCap_ge w _ _ e) (grownCap_le_maxLen w _ _ e (show _<=9223372036854775807 by omega)) hrun h;rw[List.length_append,hdr,List.length_replicate]
  ·exact h.elim
 ·exact h.elim
omit hr hρ in
theorem Xo (fn : Func) (h : zd fn.name = true) (h2 : fn.origin = "slices.overlaps") : Extern.find fn = some (Extern.SlicesOverlaps.overlaps fn.params fn.resultTypes) /\ Extern.findNext fn = none := by
 unfold zd at h;simp only[Bool.or_eq_true,beq_iff_eq]at h;unfold Extern.find Extern.findNext;rcases h with (h|h)|h<;>simp only[h,h2]<;>exact⟨by kernel_rfl,by kernel_rfl⟩
omit hr hρ in
theorem aad(params res:Array TypeId)(t e:TypeId)(hp:params[0]?=some t)(ht:P.underlying t=some (.slice e)){ti:TypeInfo}(hti:P.info? e=some ti)(a b:Option Addr)(la ca lb cb:Nat)
 (hA:∀x y,a=some x->b=some y->la≠0->lb≠0->x.block≠y.block/\(∃tA kA,w.shape? x.block=some (tA,kA)/\kA≠0)/\∃c tB,w.heap[y.block]?=some (.cells c tB (0,0))):
 (Extern.SlicesOverlaps.overlaps params res #[.slice a la ca,.slice b lb cb]).run P w=.ok (.bool false) w:=by
 change Sem.run P (α:=Value) (do
  let some t := params[0]? | stuck "slices.overlaps: no parameter types"
  let .slice elem <- underlying t | stuck "slices.overlaps: slice type expected"
  let size <-sizeOf elem
  match a,b with
  | some a, some b =>
    if la=0\/lb=0\/size=0 then pure (Value.bool false)
    else if a.block != b.block&&(<-frozen a)&&(<-frozen b)then unsupported .addressObserved
    else do
     if a.block != b.block then do
      noView a;noView b
      if <- mayBeOne a b then return Value.bool ((<- choose (.extern "sameAddr.stringBytes" 2)) == 1)
     pure (Value.bool (a.block==b.block&&a.off<b.off+lb*size&&b.off<a.off+la*size))
  |_,_=>pure (Value.bool false)) w=_
 cases a with
 |none=>simp[hp,run_underlying ht,sizeOf,typeInfo,hti]
 | some x =>
   cases b with
   |none=>simp[hp,run_underlying ht,sizeOf,typeInfo,hti]
   | some y =>
     by_cases h0:la=0\/lb=0\/ti.size=0
     ·simp[hp,run_underlying ht,sizeOf,typeInfo,hti,h0]
     ·obtain⟨hne,⟨tA,kA,hsa,hkA⟩,c,tB,hb⟩:=hA x y rfl rfl (fun h=>h0 (.inl h)) (fun h=>h0 (.inr (.inl h)))
      have hnb:(x.block != y.block)=true:=by simpa using hne
      have hnb':(x.block==y.block)=false:=by simpa using hne
      have hsb:w.shape? y.block=some (tB,c.size):=by unfold World.shape?;rw[hb]
      have hfb:∀q,w.frozen? ⟨y.block,q,none⟩=false:=fun q=>by unfold World.frozen?;rw[show (⟨y.block,q,none⟩:Addr).block=y.block from rfl,hb];simp
      have hfy:w.frozen? y=false:=by unfold World.frozen?;rw[hb];simp
      cases kA with
      |zero=>exact absurd rfl hkA
      | succ kA =>
        cases hfa:w.frozen? x<;>cases hfe:w.frozen? ⟨x.block,kA+1,none⟩ <;>
         simp[hp,run_underlying ht,sizeOf,typeInfo,hti,h0,hnb,hnb',frozen,noView,viewAt,mayBeOne,stringish,shape,Sem.run,hsa,hsb,hfb,hfy,hfa,hfe]
theorem aaE {o : Oper} {g : FuncId} {fn : Func} {xs : Array Operand} {ats : Array TypeId} {a b : Opd} {t e : TypeId} {ts : List TypeId} {ti : TypeInfo} (ho : o.op = .call { callee := .value (.func g), args := xs, argTypes := ats }) (hf : P.funcs[g]? = some fn) (hn0 : fn.body.isNone = true) (hn1 : zd fn.name = true) (hn2 : fn.origin = "slices.overlaps")
 (hp:fn.params.toList=t::ts) (ht:P.underlying t=some (.slice e)) (hti:P.info? e=some ti) (hxs:ed xs.toList=some [a,b]) (hcc:∀v,ρ' (.c v)=v) (h:opF n σ ρ' K (.ovl ti.size a b)):Snd X loc σ w n ((execOp ρ o).run P w) K:=by
 simp only[opF]at h
 obtain⟨x,y,hx,hy,hxy⟩:∃x y,az x=some a/\az y=some b/\xs=#[x,y]:=by
  have hl:=qF hxs;obtain⟨l⟩:=xs;simp only at hxs hl;match l,hl with
  | [x, y], _ =>
    simp only[ed]at hxs;cases hx:az x<;>cases hy:az y<;>rw[hx,hy]at hxs<;>simp only[reduceCtorEq,Option.some.injEq,List.cons.injEq]at hxs
    obtain⟨rfl,rfl,_⟩:=hxs;exact⟨x,y,hx,hy,rfl⟩
 subst hxy
 have hfn:ρ (.func g)=.func (.func g) #[] #[]:=by
  have h1:=hρ (.func g) _ rfl;rw[hcc]at h1;obtain⟨vs,h1,h2⟩:=h1;simp only[RlS]at h2;subst h2;exact h1
 have hx':=hρ x a hx;have hy':=hρ y b hy
 have hp0:fn.params[0]?=some t:=by
  have h1:fn.params.toList[0]?=some t:=by rw[hp];rfl
  simpa using h1
 obtain⟨f1,f2⟩:=Xo fn hn1 hn2
 have hne : (fn.name == "runtime.NumGoroutine") = false := by
  unfold zd at hn1;simp only[Bool.or_eq_true,beq_iff_eq]at hn1;rcases hn1 with (h|h)|h<;>rw[h]<;>rfl
 have e0:execOp ρ o=(do let d <-resolve ρ { callee:=.value (.func g),args:=#[x,y],argTypes:=ats } o.type;invoke d.target d.args:Sem Next):=by unfold execOp;rw[ho]
 have fin:∀ {ad bd:Option Addr} {la ca lb cb:Nat},ρ x=.slice ad la ca->ρ y=.slice bd lb cb->(∀p q,ad=some p->bd=some q->la≠0->lb≠0->p.block≠q.block/\(∃tA kA,w.shape? p.block=some (tA,kA)/\kA≠0)/\∃c tB,w.heap[q.block]?=some (.cells c tB (0,0)))->
  (execOp ρ o).run P w=.ok (.value (.bool false)) w:=fun {ad bd la ca lb cb} hxv hyv hA=>by
  rw[e0];simp only[resolve,hfn,Deferred.ofValue,invoke,Sem.run_bind,Sem.run_pure,Result.andThen_ok];rw[run_callFunc_extern hf hne hn0 f2 f1];have:=aad (P:=P) (w:=w) fn.params fn.resultTypes t e hp0 ht hti ad bd la ca lb cb hA;simp only[List.map_toArray,List.map_cons,List.map_nil,Array.append_empty,Array.empty_append];rw[hxv,hyv,this];rfl
 split at h
 ·rename_i ex i ox nx ey j oy ny hvx hvy
  rw[hvx]at hx';rw[hvy]at hy';split at h
  ·rename_i b1 e1 us b2 e2 vs hσ1 hσ2;obtain⟨rfl,rfl,rfl,rfl,hpos,hij,hl1,hl2,h⟩:=h;obtain⟨ad,cap,L,g1,g2,g3,g4,g5,g6,g7,g8,g9,g10,g11⟩:=po hr hσ1 hpos hx' hl1;obtain⟨bd,cap',L',k1,k2,k3,k4,k5,k6,k7,k8,k9,k10,k11⟩:=po hr hσ2 hpos hy' hl2;refine Snd.of hr h (fin g1 k1 fun p q hp1 hq1 hla hlb=>?_) rfl;have c0:cap≠0:=by omega
   have c1:cap'≠0:=by omega
   have a1:=g10 c0;have a2:=k10 c1;rw[a1]at hp1;rw[a2]at hq1;cases hp1;cases hq1;rcases g11 with⟨g11,_⟩|⟨g11,cs,vs1,ws,tt,m1,m2,m3,m4,_⟩
   ·exact absurd (g9 g11) c0
   rcases k11 with⟨k11,_⟩|⟨k11,cs',vs',ws',tt',n1,n2,n3,n4,_⟩
   ·exact absurd (k9 k11) c1
   obtain⟨s1,_⟩:=hr.rws hσ1 g5;obtain⟨s2,_⟩:=hr.rws hσ2 k5;refine⟨hr.apart i j _ _ L L' hij s1 s2 (lV _ _ _) (lV _ _ _) g5 k5 g11 k11,⟨tt,_,by unfold World.shape?;rw[m1],?_⟩,_,_,n1⟩;have:=g8 g11;have h5:0<(ox+cap)*ti.size:=Nat.mul_pos (by omega) hpos;simp only[List.size_toArray];omega
  ·exact h.elim
 ·rename_i ex cl us ey j oy ny hvx hvy
  rw[hvx]at hx';rw[hvy]at hy';split at h
  ·rename_i b2 e2 vs hσ2
   obtain⟨rfl,rfl,rfl,hpos,hl2,h⟩:=h;obtain⟨ad,m,cap,g1,g2,g3,g4,g5,g6,g7⟩:=hx';obtain⟨bd,cap',L',k1,k2,k3,k4,k5,k6,k7,k8,k9,k10,k11⟩:=po hr hσ2 hpos hy' hl2;refine Snd.of hr h (fin g1 k1 fun p q hp1 hq1 hla hlb=>?_) rfl;have c1:cap'≠0:=by omega
   have a2:=k10 c1;rw[a2]at hq1;cases hq1;rcases k11 with⟨k11,_⟩|⟨k11,cs',vs',ws',tt',n1,n2,n3,n4,_⟩
   ·exact absurd (k9 k11) c1
   obtain⟨s2,_⟩:=hr.rws hσ2 k5;rcases g7 with g7|⟨b',off',vs1,q1,q2,q3,q4,q5⟩
   ·exact absurd g7 hla
   rw[q1]at hp1;cases hp1;have hlive:aS σ loc L'.blk:=⟨j,_,L',s2,lV _ _ _,k5,k11,rfl⟩;refine⟨fun he=>q3 (.inr (by show aS σ loc b';rw[show b'=L'.blk from he];exact hlive)),?_,_,_,n1⟩;obtain⟨r1,r2⟩:=na q4;have hlen:0<vs1.length:=by rw[r1];exact Nat.mul_pos (by omega) hpos
   have h0:=r2 0 (vs1[0]'hlen) (by simp[hlen]);unfold World.cell? at h0;unfold World.shape?;dsimp only at h0 ⊢;cases hh:w.heap[b']? with
   |none=>rw[hh]at h0;cases h0
   | some ob =>
     rw[hh]at h0;cases ob with
     | cells c tt fr =>
       have h1:c[off'+0]?=some (vs1[0]'hlen):=by simpa using h0
       refine⟨tt,c.size,rfl,fun hz=>?_⟩;rw[Array.getElem?_eq_none (by omega)]at h1;cases h1
     |_=>cases h0
  ·exact h.elim
 ·exact h.elim
end
end Go.FH
namespace Go.FH
open Go Go.RowKit Go.MapKept
open Go.ChangeMaps (setBlock)
section
variable{X:Nat->Prop}{loc loc':Nat->Option Loc}{σ σ':St}{w w':World}{n:Nat}{P:Program}{ρ:Operand->Value}{ρ':Opd->AV}{K:AV->List Nat->Bool->St->Prop}
theorem Rel.turnW(hr:Rel X loc σ w){id:Nat}{o o':bO}{L:Loc}(h1:σ[id]?=some o)(h2:o.live=true)(h2':o'.live=true)(hL:loc id=some L)(hh:L.has=true)(hev:Ev (fun b=>b=L.blk) w w')
 (ho:∀E:Env,jV (aR X loc σ w) E->E.loc=loc->E.w=w'->gw E L o'):
 Rel X loc (σ.set id o') w'/\(∀b,aS (σ.set id o') loc b->aS σ loc b)/\Ev (aS σ loc) w w':=by
 have hlive:aS σ loc L.blk:=⟨id,o,L,h1,h2,hL,hh,rfl⟩
 have hold:∀b,aS (σ.set id o') loc b->aS σ loc b:=by
  rintro b ⟨j,oj,Lj,g1,g2,g3,g4,rfl⟩;rcases er σ id j o' g1 with⟨rfl,_,_⟩|⟨_,g5⟩
  ·rw[hL]at g3;cases g3;exact hlive
  ·exact⟨j,oj,Lj,g5,g2,g3,g4,rfl⟩
 have hev':Ev (aS σ loc) w w':=⟨hev.size,fun b hb hn=>hev.blk b hb fun e=>hn (e▸hlive),hev.os,hev.tape,hev.output⟩;have hle:=lQ (X:=X) hr (fun _ _ h=>h) hev' fun b hb=>.inl (hold b hb)
 refine⟨hr.change (fun _ _ h=>h) hev' (fun b hb=>.inl (hold b hb)) (fun j hj=>hr.beyond j (by simpa using hj)) ?_ ?_,hold,hev'⟩
 ·intro j oj g1 g2
  rcases er σ id j o' g1 with⟨rfl,rfl,_⟩|⟨g4,g5⟩
  ·exact .inr ⟨L,hL,ho _ hle rfl rfl⟩
  ·refine .inl ⟨g5,fun Lj g6 g7=>hev.blk _ (aS.lt hr ⟨j,oj,Lj,g5,g2,g6,g7,rfl⟩) ?_⟩;exact hr.apart j id oj o Lj L g4 g5 h1 g2 h2 g6 hL g7 hh
 ·intro i j a b La Lb hij g1 g2 g3 g4 g5 g6 g7 g8
  have:∀ (i:Nat) (a:bO),(σ.set id o')[i]?=some a->a.live=true->∃a',σ[i]?=some a'/\a'.live=true:=by
   intro i a g1 g3;rcases er σ id i o' g1 with⟨rfl,_,_⟩|⟨_,g5⟩
   ·exact⟨o,h1,h2⟩
   ·exact⟨a,g5,g3⟩
  obtain⟨a',k1,k2⟩:=this i a g1 g3;obtain⟨b',k3,k4⟩:=this j b g2 g4;exact hr.apart i j a' b' La Lb hij k1 k3 k2 k4 g5 g6 g7 g8
theorem Ev.setB{b:Nat}(w:World)(ob:Obj):Ev (fun c=>c=b) w (setBlock w b ob):=by
 refine⟨by simp[setBlock],fun c hc hn=>?_,rfl,rfl,rfl⟩;simp only[setBlock];rw[Array.getElem?_setIfInBounds_ne (fun e=>hn e.symm)]
theorem On{w:World}{b:Nat}(ob:Obj)(hb:b<w.heap.size):(setBlock w b ob).heap[b]?=some ob:=by
 simp[setBlock,hb]
theorem Rel.map(hr:Rel X loc σ w){id:Nat}{es:List (List AV)}{L:Loc}(h:σ[id]?=some (.map es))(hL:loc id=some L):
 L.has=true/\∃ents:List MapEntry,w.heap[L.blk]?=some (.map ents.toArray es.length)/\RlM (aR X loc σ w) es ents 0:=by
 obtain⟨L',h1,h2⟩:=hr.obj id _ h rfl;rw[hL]at h1;cases h1;exact h2
theorem Rel.iter(hr:Rel X loc σ w){id m N:Nat}{seen:List Nat}{L:Loc}(h:σ[id]?=some (.iter m N seen))(hL:loc id=some L):
 L.has=true/\L.base=0/\∃Lm,loc m=some Lm/\Lm.has=true/\w.heap[L.blk]?=some (.mapIter (some Lm.blk) N seen.toArray N):=by
 obtain⟨L',h1,h2⟩:=hr.obj id _ h rfl;rw[hL]at h1;cases h1;exact h2
theorem NR(n k:Nat):eh [(n,k)]=List.replicate n k:=by simp[eh]
theorem yX{kt:TypeId}(h:Ff P kt=some none):∃ki,P.underlying kt=some (.int ki):=by
 unfold Ff at h;split at h
 ·rename_i ki hu;exact⟨ki,hu⟩
 ·exfalso;revert h;(repeat' split)<;>intro h<;>cases h
 ·cases h
theorem yW{kt:TypeId}{m:Nat}(h:Ff P kt=some (some m)):∃e ke,P.underlying kt=some (.array m e)/\P.underlying e=some (.int ke)/\jl P 40 kt=some (List.replicate m 1)/\P.cellsOf e=1:=by
 unfold Ff at h;split at h
 ·cases h
 ·rename_i n e hu
  split at h
  ·rename_i ke he
   split at h
   ·rename_i hc;simp only[Option.some.injEq]at h;subst h;exact⟨e,ke,hu,he,hc.1,hc.2.1⟩
   ·cases h
  ·cases h
 ·cases h
theorem nT{E:Env}{k:AV}{v:Value}(h:pp none k=true)(hv:Rl E k v):∃ki a,k=.int ki a/\v=.int ki a:=by
 cases k<;>simp only[pp,Bool.false_eq_true]at h
 exact⟨_,_,rfl,hv⟩
theorem tu{E:Env}{k:AV}{v:Value}{m:Nat}(h:pp (some m) k=true)(hv:Rl E k v):∃cs us,k=.agg cs/\v=.agg us.toArray/\RlC E cs us/\us.map gG=List.replicate m 1:=by
 cases k<;>simp only[pp,Bool.false_eq_true]at h
 rename_i cs;obtain⟨us,h1,h2⟩:=hv;refine⟨cs,us,rfl,h1,h2,?_⟩;have:=yY h2 h (by simp);rwa [NR]at this
theorem FY{E:Env}{kt:TypeId}{kk:Option Nat}(hk:Ff P kt=some kk){a b:AV}{u v:Value}(fa:pp kk a=true)(fb:pp kk b=true)(ha:Rl E a u)(hb:Rl E b v){r:Bool}(h:keq a b=some r)(w:World):
 (Op.equal kt u v).run P w=.ok r w:=by
 cases kk with
 | none =>
   obtain⟨ki,hu⟩:=yX hk;obtain⟨k1,x,rfl,rfl⟩:=nT fa ha;obtain⟨k2,y,rfl,rfl⟩:=nT fb hb;simp only[keq]at h;split at h
   ·rename_i e;subst e;simp only[Option.some.injEq]at h;subst h;exact run_equalIn_int w 9999 kt k1 ki x y hu
   ·cases h
 | some m =>
   obtain⟨e,ke,hu,he,hl,hc⟩:=yW hk;obtain⟨cs,us,rfl,rfl,h1,h2⟩:=tu fa ha;obtain⟨ds,vs,rfl,rfl,h3,h4⟩:=tu fb hb;simp only[keq]at h;have:=tQ 40 hl h2 h4 (DB h1 h3 h) 9960 w;have hat:rH P kt=true:=by simp[rH,hu]
   simp only[pk,hat,if_true]at this;exact this
theorem wb{E:Env}{kt:TypeId}{kk:Option Nat}(hk:Ff P kt=some kk){a:AV}{u:Value}(fa:pp kk a=true)(ha:Rl E a u)(em:Bool)(w:World):
 (Instr.checkKey em 10000 kt u).run P w=.ok () w:=by
 cases kk with
 | none =>
   obtain⟨ki,hu⟩:=yX hk;obtain⟨k1,x,rfl,rfl⟩:=nT fa ha;rw[show (10000:Nat)=9999+1 from rfl,Instr.checkKey];simp only[Sem.run_bind,run_underlying hu,Result.andThen_ok,Sem.run_pure]
 | some m =>
   obtain⟨e,ke,hu,he,hl,hc⟩:=yW hk;obtain⟨cs,us,rfl,rfl,h1,h2⟩:=tu fa ha;have hlen:us.length=m:=by simpa using congrArg List.length h2
   obtain⟨i,hi⟩:∃i,P.info? e=some i:=by
    unfold Program.underlying at he;cases hi:P.info? e with
    |none=>simp[hi]at he
    |some i=>exact⟨i,rfl⟩
   have hs:i.size=1:=by simpa[Program.cellsOf,hi]using hc
   rw[show (10000:Nat)=9999+1 from rfl,Instr.checkKey];simp only[Sem.run_bind,run_underlying hu,Result.andThen_ok];simp only[Std.Legacy.Range.forIn_eq_forIn_range',Std.Legacy.Range.size,Nat.sub_zero,Nat.add_one_sub_one,Nat.div_one];have each:∀j∈List.range' 0 m,j<m:=fun j hj=>by simpa using hj
   generalize List.range' 0 m=is at each;induction is with
   |nil=>simp
   | cons j is ih =>
     have hj:j<us.length:=by rw[hlen];exact each j (by simp)
     have p1:(part e us.toArray (j*P.cellsOf e)).run P w=.ok us[j] w:=by
      have hag:(isAgg e).run P w=.ok false w:=by
       unfold isAgg;rw[Sem.run_bind,run_underlying he w];simp
      simp[part,Sem.run_bind,hag,hc,hj]
     have hkind:gG us[j]=1:=by
      have:(us.map gG)[j]?=some 1:=by rw[h2];simp[each j (by simp)]
      simpa[hj]using this
     have p2:(Instr.checkKey em 9999 e us[j]).run P w=.ok () w:=by
      generalize us[j]=x at hkind;cases x<;>simp[gG]at hkind
      rw[show (9999:Nat)=9998+1 from rfl,Instr.checkKey];simp only[Sem.run_bind,run_underlying he,Result.andThen_ok,Sem.run_pure]
     simp only[List.forIn_cons,Sem.run_bind,run_sizeOf w hi,Result.andThen_ok,p1,p2,Sem.run_pure];exact ih (fun y hy=>each y (by simp[hy]))
theorem mX {E : Env} {kt : TypeId} {kk : Option Nat} (hk : Ff P kt = some kk) {a : AV} {u : Value} (fa : pp kk a = true) (ha : Rl E a u) (w : World) : ∀ {xs : List (List AV)} {es : List MapEntry} {b : Nat} {r : Option Nat}, RlM E xs es b -> qj kk a xs = some r ->
 (∀j,r=some j->j<xs.length/\∃k v,xs.getD j []=[k,v]/\keq a k=some true/\pp kk k=true)/\(Instr.findKey kt u es).run P w=.ok (r.map fun j=>(j,(es.getD j default).val)) w:=by
 have now:∀ {xs:List (List AV)} {es:List MapEntry} {b:Nat} {r:Option Nat},RlM E xs es b->qj kk a xs=some r->∀d,P.underlying kt=some d->∀i,Instr.findNow d u es i=none\/Instr.findNow d u es i=some (r.map fun j=>(i+j,(es.getD j default).val)):=by
  intro xs;induction xs with
  | nil =>
    intro es b r hm h d hd i;simp only[RlM]at hm;subst hm;simp only[qj,Option.some.injEq]at h;subst h;exact .inr rfl
  | cons x xs ih =>
    intro es b r hm h d hd i;obtain⟨e,es',rfl,h1,h2,h3⟩:=hm;simp only[qj]at h;split at h
    ·rename_i k v
     obtain⟨u1,us1,q1,q2,q3⟩:=h1;simp only[List.cons.injEq]at q1;obtain⟨rfl,_⟩:=q1;split at h
     ·rename_i hf
      have same:Instr.sameNow d u e.key=none\/∃q,Instr.sameNow d u e.key=some q/\keq a k=some q:=by
       cases kk with
       | none =>
         obtain⟨ki,hu⟩:=yX hk;obtain⟨k1,x1,rfl,rfl⟩:=nT fa ha;obtain⟨k2,y1,rfl,hv2⟩:=nT hf q2;rw[hu]at hd;cases hd;rw[hv2];simp only[Instr.sameNow,keq];split
         ·exact .inr ⟨_,rfl,rfl⟩
         ·exact .inl rfl
       | some m =>
         obtain⟨e',ke,hu,_⟩:=yW hk;rw[hu]at hd;cases hd;exact .inl rfl
      rcases same with hs|⟨q,hs,hq⟩
      ·left;simp[Instr.findNow,hs]
      ·rw [hq] at h
       cases q
       ·simp only at h
        obtain⟨r',hr',rfl⟩:=Option.map_eq_some_iff.1 h;rcases ih h3 hr' d hd (i+1)with h5|h5
        ·left;simp[Instr.findNow,hs,h5]
        ·right
         simp only[Instr.findNow,hs,h5,Option.map_map];cases r'<;>simp[Nat.add_assoc,Nat.add_comm 1]
       ·simp only[Option.some.injEq]at h;subst h;right
        simp[Instr.findNow,hs]
     ·cases h
    ·cases h
 have ask:∀ {xs:List (List AV)} {es:List MapEntry} {b:Nat} {r:Option Nat},RlM E xs es b->qj kk a xs=some r->∀i,(Instr.findAsking kt u es i).run P w=.ok (r.map fun j=>(i+j,(es.getD j default).val)) w:=by
  intro xs;induction xs with
  | nil =>
    intro es b r hm h i;simp only[RlM]at hm;subst hm;simp only[qj,Option.some.injEq]at h;subst h;simp[Instr.findAsking]
  | cons x xs ih =>
    intro es b r hm h i;obtain⟨e,es',rfl,h1,h2,h3⟩:=hm;simp only[qj]at h;split at h
    ·rename_i k v
     obtain⟨u1,us1,q1,q2,q3⟩:=h1;simp only[List.cons.injEq]at q1;obtain⟨rfl,_⟩:=q1;split at h
     ·rename_i hf
      split at h
      ·rename_i hq;simp only[Option.some.injEq]at h;subst h;simp[Instr.findAsking,Sem.run_bind,FY hk fa hf ha q2 hq w]
      ·rename_i hq;obtain⟨r',hr',rfl⟩:=Option.map_eq_some_iff.1 h;have:=ih h3 hr' (i+1);simp only[Instr.findAsking,Sem.run_bind,FY hk fa hf ha q2 hq w,Result.andThen_ok,Bool.false_eq_true,if_false,this];cases r'<;>simp[Nat.add_assoc,Nat.add_comm 1]
      ·cases h
     ·cases h
    ·cases h
 intro xs es b r hm h;refine⟨fun j hj=>?_,?_⟩
 ·subst hj
  clear now ask hm;induction xs generalizing j with
  |nil=>simp[qj]at h
  | cons x xs ih =>
    simp only[qj]at h;split at h
    ·rename_i k v
     split at h
     ·rename_i hf
      split at h
      ·rename_i hq;simp only[Option.some.injEq]at h;subst h;exact⟨by simp,k,v,rfl,hq,hf⟩
      ·obtain⟨r',hr',hr2⟩:=Option.map_eq_some_iff.1 h
       cases r' with
       |none=>cases hr2
       | some j' =>
         simp only[Option.map_some,Option.some.injEq]at hr2;subst hr2;obtain⟨g1,g2⟩:=ih j' hr';exact⟨by simp;omega,by simpa using g2⟩
      ·cases h
     ·cases h
    ·cases h
 ·have hd:∃d,P.underlying kt=some d:=by
   cases kk with
   |none=>exact⟨_,(yX hk).choose_spec⟩
   |some m=>exact⟨_,(yW hk).choose_spec.choose_spec.1⟩
  obtain⟨d,hd⟩:=hd;unfold Instr.findKey;rw[Sem.run_bind,run_underlying hd,Result.andThen_ok];rcases now hm h d hd 0 with h5|h5
  ·simp only[h5];have:=ask hm h 0;simpa using this
  ·simp only[h5];simp
theorem PM:∀ {us vs:List Value},us.map gG=List.replicate us.length 1->vs.map gG=List.replicate vs.length 1->pA us vs=some true->us=vs
 | [],[],_,_,_=>rfl
 | [],_::_,_,_,h=>by simp[pA]at h
 |_::_,[],_,_,h=>by simp[pA]at h
 | u :: us, v :: vs, h1, h2, h => by
   simp only[List.map_cons,List.length_cons,List.replicate_succ,List.cons.injEq]at h1 h2;simp only[pA]at h;split at h
   ·rename_i p q e1 e2
    simp only[Option.some.injEq,Bool.and_eq_true]at h;obtain⟨rfl,rfl⟩:=h;have:=PM h1.2 h2.2 e2;subst this;obtain⟨g1,_⟩:=h1;obtain⟨g2,_⟩:=h2;cases u<;>simp[gG]at g1
    cases v<;>simp[gG]at g2
    simp only[Io]at e1;split at e1
    ·rename_i e;subst e;simp only[Option.some.injEq,beq_iff_eq]at e1;rw[e1]
    ·cases e1
   ·cases h
theorem XO{E:Env}{kk:Option Nat}{a b:AV}{u v:Value}(fa:pp kk a=true)(fb:pp kk b=true)(ha:Rl E a u)(hb:Rl E b v)(h:keq a b=some true):u=v/\Instr.sameBits 10000 v u=true:=by
 cases kk with
 | none =>
   obtain⟨k1,x,rfl,rfl⟩:=nT fa ha;obtain⟨k2,y,rfl,rfl⟩:=nT fb hb;simp only[keq]at h;split at h
   ·rename_i e;subst e;simp only[Option.some.injEq,beq_iff_eq]at h;subst h;exact⟨rfl,by simp[Instr.sameBits]⟩
   ·cases h
 | some m =>
   obtain⟨cs,us,rfl,rfl,h1,h2⟩:=tu fa ha;obtain⟨ds,vs,rfl,rfl,h3,h4⟩:=tu fb hb;simp only[keq]at h;have e1:us.length=m:=by simpa using congrArg List.length h2
   have e2:vs.length=m:=by simpa using congrArg List.length h4
   have:=PM (by rw[h2,e1]) (by rw[h4,e2]) (DB h1 h3 h);subst this;refine⟨rfl,?_⟩;rw[show (10000:Nat)=9999+1 from rfl,Instr.sameBits];simp only[List.size_toArray,beq_self_eq_true,Bool.true_and]
   have key:∀ (us:List Value) (q:Nat),us.map gG=List.replicate us.length 1->((us.zip us).all fun(x,y)=>Instr.sameBits q x y)=true:=by
    intro us q;induction us with
    |nil=>intro _;rfl
    | cons u us ih =>
      intro h;simp only[List.map_cons,List.length_cons,List.replicate_succ,List.cons.injEq]at h;obtain⟨g1,g2⟩:=h;simp only[List.zip_cons_cons,List.all_cons,Bool.and_eq_true];refine⟨?_,ih g2⟩;cases u<;>simp[gG]at g1
      simp[Instr.sameBits]
   exact key us _ (by rw[h2,e1])
theorem RlM.get{E:Env}:∀ {xs:List (List AV)} {es:List MapEntry} {b:Nat},RlM E xs es b->∀j,j<xs.length->RlS E (xs.getD j []) [(es.getD j default).key,(es.getD j default).val]/\(es.getD j default).born=b+j
 | [],_,_,_,j,hj=>by simp at hj
 |x::xs,_,b,⟨e,r,rfl,h2,h3,h4⟩,0,_=>⟨by simpa using h2,by simpa using h3⟩
 | x :: xs, _, b, ⟨e, r, rfl, h2, h3, h4⟩, j + 1, hj => by
   obtain⟨g1,g2⟩:=RlM.get h4 j (by simpa using hj);exact⟨by simpa using g1,by simp only[List.getD_cons_succ];omega⟩
theorem RlM.set{E:Env}{y:List AV}:∀ {xs:List (List AV)} {es:List MapEntry} {b:Nat},RlM E xs es b->∀j (e:MapEntry),RlS E y [e.key,e.val]->e.born=b+j->RlM E (xs.set j y) (es.set j e) b
 | [],_,_,h,j,e,_,_=>by simp only[RlM]at h;subst h;simp[RlM]
 |x::xs,_,b,⟨e,r,rfl,h2,h3,h4⟩,0,e',g1,g2=>⟨e',r,rfl,g1,by simpa using g2,h4⟩
 |x::xs,_,b,⟨e,r,rfl,h2,h3,h4⟩,j+1,e',g1,g2=>⟨e,r.set j e',rfl,h2,h3,RlM.set h4 j e' g1 (by omega)⟩
theorem RlM.push{E:Env}{y:List AV}:∀ {xs:List (List AV)} {es:List MapEntry} {b:Nat},RlM E xs es b->∀ (e:MapEntry),RlS E y [e.key,e.val]->e.born=b+xs.length->RlM E (xs++[y]) (es++[e]) b
 | [],_,_,h,e,g1,g2=>by simp only[RlM]at h;subst h;exact⟨e,[],rfl,g1,by simpa using g2,rfl⟩
 |x::xs,_,b,⟨e,r,rfl,h2,h3,h4⟩,e',g1,g2=>⟨e,r++[e'],rfl,h2,h3,RlM.push h4 e' g1 (by simp only[List.length_cons]at g2;omega)⟩
theorem RlM.borns{E:Env}:∀ {xs:List (List AV)} {es:List MapEntry} {b:Nat},RlM E xs es b->es.map (·.born)=List.range' b xs.length
 | [],_,_,h=>by simp only[RlM]at h;subst h;rfl
 |x::xs,_,b,⟨e,r,rfl,h2,h3,h4⟩=>by simp[h3,RlM.borns h4,List.range'_succ]
theorem RlS.two{E:Env}{x:List AV}{k v:AV}{a b:Value}(h:RlS E x [a,b])(hx:x=[k,v]):Rl E k a/\Rl E v b:=by
 subst hx;obtain⟨u,us,h1,h2,h3⟩:=h;obtain⟨u',us',h4,h5,h6⟩:=h3;simp only[List.cons.injEq]at h1;obtain⟨rfl,rfl⟩:=h1;simp only[List.cons.injEq]at h4;obtain⟨rfl,rfl⟩:=h4;exact⟨h2,h5⟩
theorem RlS.mk2{E:Env}{k v:AV}{a b:Value}(h1:Rl E k a)(h2:Rl E v b):RlS E [k,v] [a,b]:=⟨a,[b],rfl,h1,b,[],rfl,h2,rfl⟩
theorem WG{t:TypeId}{z:AV}(h:TR P t=some z)(E:Env)(w:World):∃v,(zeroValue t).run P w=.ok v w/\Rl E z v:=by
 unfold TR at h;split at h
 ·rename_i i hi
  split at h
  ·rename_i v hv;exact⟨v,by simp[zeroValue,typeInfo,Sem.run_bind,hi,hv],(Rl.ofCell E h).2⟩
  ·cases h
 ·cases h
variable(hr:Rel X loc σ w)(hρ:lw (aR X loc σ w) ρ ρ')
include hr hρ
theorem aaz{o:Oper}{t kt et:TypeId}{m k:Operand}{ok:Bool}{a b:Opd}{kk:Option Nat}{z:AV}(ho:o.op=.lookup t m k ok)(ht:P.underlying t=some (.map kt et))(hm:az m=some a)(hk:az k=some b)(hkk:Ff P kt=some kk)(hz:TR P et=some z)
 (h:opF n σ ρ' K (.mop (.lkp kk z ok) [a,b])):Snd X loc σ w n ((execOp ρ o).run P w) K:=by
 simp only[opF,List.map_cons,List.map_nil]at h;have hm':=hρ m a hm;have hk':=hρ k b hk;generalize ρ' a=A at *;generalize ρ' b=B at *;cases A<;>simp only[lW]at h
 rename_i id;obtain⟨fit,h⟩:=h;obtain⟨L,hL,hh,hv⟩:=hm';split at h
 ·rename_i es hσ
  obtain⟨_,ents,hb,hR⟩:=hr.map hσ hL;have chk:=wb hkk fit hk' ents.isEmpty w;split at h
  ·rename_i j hj
   obtain⟨g1,g2⟩:=mX hkk fit hk' w hR hj;obtain⟨hlt,k2,v2,e2,e3,e4⟩:=g1 j rfl;have hget:=(hR.get j hlt).1;obtain⟨q1,q2⟩:=hget.two e2;have hval:(es.getD j []).getD 1 .dead=v2:=by rw[e2];rfl
   rw[hval]at h;cases ok
   ·refine Snd.of hr h (v:=(ents.getD j default).val) ?_ q2;simp[execOp,ho,hv,Instr.lookup,Sem.run_bind,run_underlying ht,MapKept.run_getObj_map hb,chk,g2]
   ·refine Snd.of hr h (v:=.tuple #[(ents.getD j default).val,.bool true]) ?_ ⟨_,rfl,RlS.mk2 q2 rfl⟩;simp[execOp,ho,hv,Instr.lookup,Sem.run_bind,run_underlying ht,MapKept.run_getObj_map hb,chk,g2]
  ·rename_i hj
   obtain⟨_,g2⟩:=mX hkk fit hk' w hR hj;obtain⟨zv,hz1,hz2⟩:=WG hz (aR X loc σ w) w;cases ok
   ·refine Snd.of hr h (v:=zv) ?_ hz2;simp[execOp,ho,hv,Instr.lookup,Sem.run_bind,run_underlying ht,MapKept.run_getObj_map hb,chk,g2,hz1]
   ·refine Snd.of hr h (v:=.tuple #[zv,.bool false]) ?_ ⟨_,rfl,RlS.mk2 hz2 rfl⟩;simp[execOp,ho,hv,Instr.lookup,Sem.run_bind,run_underlying ht,MapKept.run_getObj_map hb,chk,g2,hz1]
  ·exact h.elim
 ·exact h.elim
theorem aaJ{o:Oper}{t kt et:TypeId}{m k x:Operand}{a b c:Opd}{kk:Option Nat}(ho:o.op=.mapUpdate t m k x)(ht:P.underlying t=some (.map kt et))(hm:az m=some a)(hk:az k=some b)(hx:az x=some c)(hkk:Ff P kt=some kk)
 (h:opF n σ ρ' K (.mop (.upd kk) [a,b,c])):Snd X loc σ w n ((execOp ρ o).run P w) K:=by
 simp only[opF,List.map_cons,List.map_nil]at h;have hm':=hρ m a hm;have hk':=hρ k b hk;have hx':=hρ x c hx;generalize ρ' a=A at *;generalize ρ' b=B at *;generalize ρ' c=C at *;cases A<;>simp only[lW]at h
 rename_i id;obtain⟨fit,h⟩:=h;obtain⟨L,hL,hh,hv⟩:=hm';split at h
 ·rename_i es hσ
  obtain⟨_,ents,hb,hR⟩:=hr.map hσ hL;have chk:=wb hkk fit hk' false w;have hlt:L.blk<w.heap.size:=(Array.getElem?_eq_some_iff.1 hb).1
  have fin:∀ (es':List (List AV)) (ents':List MapEntry) (cl:Nat),cl=es'.length->RlM (aR X loc σ w) es' ents' 0->K (.tup []) [id] true (σ.set id (.map es'))->(execOp ρ o).run P w=.ok .skip (setBlock w L.blk (.map ents'.toArray cl))->Snd X loc σ w n ((execOp ρ o).run P w) K:=by
   intro es' ents' cl hcl h1 h2 h3;obtain⟨g1,g2,g3⟩:=hr.turnW hσ rfl (o':=.map es') rfl hL hh (Ev.setB (b:=L.blk) w (.map ents'.toArray cl)) (fun E hE hloc hw=>⟨hh,ents',by rw[hw,On _ hlt,hcl],h1.mono hE⟩);exact⟨_,_,_,_,undef,_,loc,h2,.inr ⟨h3,rfl⟩,⟨fun _ _ h=>h,g1,⟨[],rfl,rfl⟩,g3,fun b hb=>.inl (g2 b hb)⟩,fun _ _=>rfl,by simp⟩
  split at h
  ·rename_i j hj
   obtain⟨g1,g2⟩:=mX hkk fit hk' w hR hj;obtain⟨hlt2,k2,v2,e2,e3,e4⟩:=g1 j rfl;obtain⟨hget,hborn⟩:=hR.get j hlt2;obtain⟨q1,q2⟩:=hget.two e2;obtain⟨q3,q4⟩:=XO fit e4 hk' q1 e3;have hle:=hR.length;have hje:j<ents.length:=by omega
   have hgd:ents.getD j default=ents[j]:=by simp[List.getD_eq_getElem?_getD,hje]
   refine fin _ (ents.set j { ents[j]with key:=ρ k,val:=ρ x }) es.length (by simp) (hR.set j _ (RlS.mk2 hk' hx') (by rw[<-hgd];exact hborn)) h ?_
   have hmod:(ents.modify j fun e=>{ key:=ρ k,val:=ρ x,born:=e.born })=ents.set j { key:=ρ k,val:=ρ x,born:=ents[j].born }:=by
    apply List.ext_getElem?
    intro q;simp only[List.getElem?_modify,List.getElem?_set];by_cases hq:j=q
    ·subst hq;simp[hje]
    ·simp[hq]
   rw[hgd]at q3 q4
   have stay:(Instr.keyThatStays ((Option.map (fun x=>x.key) ents[j]?).getD (ρ k)) (ρ k)).run P w=.ok (ρ k) w:=by
    have e1:ents[j]?=some ents[j]:=by simp[hje]
    rw[e1];simp[Instr.keyThatStays,q4]
   simp[execOp,ho,hv,Instr.mapUpdate,Sem.run_bind,run_underlying ht,MapKept.run_getObj_map hb,chk,g2,stay,hmod,MapKept.run_setObj_map _ hb,setBlock]
  ·rename_i hj;obtain⟨_,g2⟩:=mX hkk fit hk' w hR hj;have hle:=hR.length;refine fin _ (ents++[{ key:=ρ k,val:=ρ x,born:=es.length }]) (es.length+1) (by simp) (hR.push _ (RlS.mk2 hk' hx') (by simp)) h ?_;simp[execOp,ho,hv,Instr.mapUpdate,Sem.run_bind,run_underlying ht,MapKept.run_getObj_map hb,chk,g2,MapKept.run_setObj_map _ hb,setBlock]
  ·exact h.elim
 ·exact h.elim
theorem aau{o:Oper}{x:Operand}{a:Opd}(ho:o.op=.entry x)(hx:az x=some a)(h:opF n σ ρ' K (.mop .ent [a])):Snd X loc σ w n ((execOp ρ o).run P w) K:=by
 simp only[opF,List.map_cons,List.map_nil]at h;have hx':=hρ x a hx;generalize ρ' a=A at *;cases A<;>simp only[lW]at h
 rename_i id off;cases off<;>simp only[lW]at h
 obtain⟨L,hL,hh,hv⟩:=hx';split at h
 ·rename_i m N seen hσ
  obtain⟨_,hbase,Lm,hLm,hhm,hb⟩:=hr.iter hσ hL;split at h
  ·rename_i i es hlast hσm
   obtain⟨hlen,hi,h⟩:=h;obtain⟨_,ents,hbm,hR⟩:=hr.map hσm hLm;have hle:=hR.length;have hie:i<ents.length:=by omega
   obtain⟨hget,hborn⟩:=hR.get i (by omega);have hgd:ents.getD i default=ents[i]:=by simp[List.getD_eq_getElem?_getD,hie]
   rw[hgd]at hget hborn;refine Snd.of hr h (v:=.tuple #[ents[i].key,ents[i].val]) ?_ ⟨_,rfl,hget⟩;rw[hbase]at hv
   have hseen:seen.toArray=seen.dropLast.toArray.push ents[i].born:=by
    have h1:seen=seen.dropLast++[i]:=by
     obtain⟨r,rfl⟩:=List.getLast?_eq_some_iff.1 hlast;simp
    rw[hborn];apply Array.toList_inj.1
    simp only[Array.toList_push,Nat.zero_add];exact h1
   rw[hseen]at hb;have hst:N=es.length:=hlen.symm;subst hst;have:=run_entry_at (P:=P) w L.blk Lm.blk es.length seen.dropLast.toArray ents.toArray es.length ents[i] hb hbm (by simp) (by simp[hR.borns,List.nodup_range']);simp[execOp,ho,hv,Sem.run_bind,this]
  ·exact h.elim
 ·exact h.elim
end
section
variable{X:Nat->Prop}{loc loc':Nat->Option Loc}{σ σ':St}{w w':World}{n:Nat}{P:Program}{ρ:Operand->Value}{ρ':Opd->AV}{K:AV->List Nat->Bool->St->Prop}
variable(hr:Rel X loc σ w)(hρ:lw (aR X loc σ w) ρ ρ')(hn:n<σ.length)(hg:loc n=none)(hgn:∀o:bO,σ[n]?=some o->o.live=false)
include hr hρ hn hg
theorem aaB{o:Oper}{t:TypeId}(ho:o.op=.makeMap t none)(h:opF n σ ρ' K (.mop .mkm [])):Snd X loc σ w n ((execOp ρ o).run P w) K:=by
 have _:=hρ;simp only[opF,List.map_nil,lW]at h;refine Snd.alloc hr hn hg (.map []) ⟨true,w.heap.size,0,0⟩ rfl rfl (.map #[] 0) (v:=.map (some w.heap.size)) h (fun E hE hw=>⟨rfl,[],?_,rfl⟩) ?_ (fun E hE=>⟨_,hE,rfl,rfl⟩)
 ·rw[hw,_root_.Go.heap_alloc_new];rfl
 ·simp[execOp,ho,Instr.makeMap,newObj,Sem.run]
include hgn
theorem aaF{o:Oper}{t kt et:TypeId}{m:Operand}{a:Opd}(ho:o.op=.range t m)(ht:P.underlying t=some (.map kt et))(hm:az m=some a)(h:opF n σ ρ' K (.mop .rng [a])):Snd X loc σ w n ((execOp ρ o).run P w) K:=by
 simp only[opF,List.map_cons,List.map_nil]at h;have hm':=hρ m a hm;generalize ρ' a=A at *;cases A<;>simp only[lW]at h
 rename_i id;obtain⟨L,hL,hh,hv⟩:=hm';split at h
 ·rename_i es hσ;obtain⟨_,ents,hb,hR⟩:=hr.map hσ hL;have hne:id≠n:=by rintro rfl;have:loc id=some L:=hL;rw[hg]at this;cases this
  refine Snd.alloc hr hn hg (.iter id es.length []) ⟨true,w.heap.size,0,0⟩ rfl rfl (.mapIter (some L.blk) es.length #[] es.length) (v:=.pointer (some ⟨w.heap.size,0,none⟩)) h (fun E hE hw=>⟨rfl,rfl,L,hE.loc _ _ hL,hh,?_⟩) ?_ (fun E hE=>⟨_,hE,rfl,rfl⟩)
  ·rw[hw,_root_.Go.heap_alloc_new]
  ·simp[execOp,ho,hv,Instr.range,Sem.run_bind,run_underlying ht,MapKept.run_getObj_map hb,newObj,Sem.run]
 ·exact h.elim
end
section
variable{X:Nat->Prop}{loc loc':Nat->Option Loc}{σ σ':St}{w w':World}{n:Nat}{P:Program}{ρ:Operand->Value}{ρ':Opd->AV}
theorem aaD{K:AV->St->Prop}(hr:Rel X loc σ w)(hρ:lw (aR X loc σ w) ρ ρ'){o:Oper}{x:Operand}{a:Opd}(ho:o.op=.next x false)(hx:az x=some a)(h:qQ (ρ' a) σ K):Snd X loc σ w n ((execOp ρ o).run P w) (fun av _ _ σ'=>K av σ'):=by
 have hx':=hρ x a hx;generalize ρ' a=A at *;cases A<;>simp only[qQ]at h
 rename_i id off;cases off<;>simp only at h
 obtain⟨L,hL,hh,hv⟩:=hx';split at h
 ·rename_i m N seen hσ
  obtain⟨_,hbase,Lm,hLm,hhm,hb⟩:=hr.iter hσ hL;split at h
  ·rename_i es hσm
   obtain⟨hne,hlen,h1,h2⟩:=h;obtain⟨_,ents,hbm,hR⟩:=hr.map hσm hLm;have hle:=hR.length;have hlt:L.blk<w.heap.size:=(Array.getElem?_eq_some_iff.1 hb).1;rw[hbase]at hv
   have born:∀e∈ents,∃i,i<ents.length/\ents[i]?=some e/\e.born=i:=by
    intro e he;obtain⟨i,hi,rfl⟩:=List.getElem_of_mem he;have:=(hR.get i (by omega)).2;rw[show ents.getD i default=ents[i]by simp[List.getD_eq_getElem?_getD,hi]]at this;exact⟨i,hi,by simp[hi],by omega⟩
   rcases run_next_at (P:=P) w o.type L.blk Lm.blk N N seen.toArray ents.toArray es.length hb hbm (fun e he=>by obtain⟨i,hi,_,hbi⟩:=born e (by simpa using he);omega) (Nat.le_refl _)with⟨g1,g2⟩|⟨e,he,w1,hw1,g2⟩
   ·refine Snd.of (ft:=[]) (wr:=false) hr (h2 fun i hi=>?_) (v:=.tuple #[.bool false]) ?_ ⟨_,rfl,_,_,rfl,rfl,rfl⟩
    ·have hie:i<ents.length:=by omega
     have hbi:=(hR.get i (by omega)).2;rw[show ents.getD i default=ents[i]by simp[List.getD_eq_getElem?_getD,hie]]at hbi;by_cases hs:i∈seen
     ·exact hs
     ·exfalso
      have:ents[i]∈leftOf ents.toArray seen.toArray:=by
       unfold leftOf;rw[Array.mem_filter];refine⟨by simp,?_⟩;rw[hbi];simpa using hs
      have:=Array.size_pos_of_mem this;omega
    ·simp[execOp,ho,hv,Sem.run_bind,g2]
   ·have hmem:e∈ents/\e.born∉seen:=by
     have:=Array.mem_toList_iff.1 he;unfold leftOf at this;rw[Array.mem_filter]at this;exact⟨by simpa using this.1,by simpa using this.2⟩
    obtain⟨i,hi,hei,hbi⟩:=born e hmem.1;have hk:=h1 i (by omega) (by rw[<-hbi];exact hmem.2)
    have hev:Ev (fun b=>b=L.blk) w (setBlock w1 L.blk (.mapIter (some Lm.blk) N (seen.toArray.push e.born) es.length)):=by
     have:=Ev.setB (b:=L.blk) w1 (.mapIter (some Lm.blk) N (seen.toArray.push e.born) es.length);rcases hw1 with rfl|rfl
     ·exact this
     ·exact⟨this.size,this.blk,this.os,this.tape,this.output⟩
    have hlt1:L.blk<w1.heap.size:=by rcases hw1 with rfl|rfl<;>exact hlt
    obtain⟨k1,k2,k3⟩:=hr.turnW hσ rfl (o':=.iter m N (seen++[i])) rfl hL hh hev (fun E hE hloc hw=>⟨hh,hbase,Lm,hE.loc _ _ hLm,hhm,by rw[hw,On _ hlt1,hlen,hbi];simp⟩);refine⟨_,[],false,_,.tuple #[.bool true,e.key,e.val],_,loc,hk,.inl ?_,⟨fun _ _ h=>h,k1,⟨_,rfl,_,_,rfl,rfl,?_⟩,k3,fun b hb=>.inl (k2 b hb)⟩,fun _ _=>rfl,by simp⟩
    ·simp[execOp,ho,hv,Sem.run_bind,g2]
    ·have hget:=(hR.get i (by omega)).1;rw[show ents.getD i default=e by simp[List.getD_eq_getElem?_getD,hei]]at hget;exact RlS.mono (lQ hr (fun _ _ h=>h) k3 fun b hb=>.inl (k2 b hb)) _ _ hget
  ·exact h.elim
 ·exact h.elim
end
end Go.FH
namespace Go.FH
open Go Go.RowKit
def AOp.allocs:AOp->Bool
 |.new _|.box _ _|.mk _ _ _ _ _|.app _ _ _ _|.apx _ _ _ _|.apm _ _ _ _ _|.call _ _|.mop .mkm _|.mop .rng _=>true
 |_=>false
theorem S8{n m:Nat}{σ:St}{ρ:Opd->AV}{K:AV->List Nat->Bool->St->Prop}{op:AOp}(h:op.allocs=false)(hs:opF n σ ρ K op):opF m σ ρ K op:=by
 cases op;case mop q xs=>cases q<;>first|(cases h;done)|(simp only[opF]at hs ⊢;exact XW (by simp) hs)
 all_goals first|exact hs|cases h
theorem Dl{P:Program}{t:TypeId}(h:(∃fs,P.underlying t=some (.struct fs))\/∃n e,P.underlying t=some (.array n e)):rH P t=true:=by
 unfold rH;rcases h with⟨fs,h⟩|⟨n,e,h⟩<;>rw[h]
theorem Fi {P : Program} : ∀ (d : Nat) {t : TypeId} {ks : List Nat}, jl P d t = some ks -> ∀ k ∈ ks, k <= 2
 |0,_,_,h,_,_=>by simp[jl]at h
 | d + 1, t, ks, h, k, hk => by
   have ih:=@Fi P d;unfold jl at h;cases hu:P.underlying t with
   |none=>simp[hu]at h
   | some td =>
     simp only[hu]at h;cases td<;>simp only[reduceCtorEq,Option.some.injEq]at h
     case bool=>subst h;simp at hk;omega
     case int=>subst h;simp at hk;omega
     case string=>subst h;simp at hk;omega
     case array n e=>
      split at h
      ·rename_i l hl
       split at h
       ·simp only[Option.some.injEq]at h;subst h;obtain⟨q,hq,hk2⟩:=List.mem_flatten.1 hk;have:=(List.mem_replicate.1 hq).2;rw[this]at hk2;exact ih hl k hk2
       ·cases h
      ·cases h
     case struct fs =>
      split at h
      ·cases h
      ·have key:∀ (gs:List Field) (off:Nat) (ks:List Nat),BV (jl P d) P gs off=some ks->∀k∈ks,k<=2:=by
        intro gs;induction gs with
        |nil=>intro off ks h k hk;simp only[BV,Option.some.injEq]at h;subst h;cases hk
        | cons g gs ihg =>
          intro off ks h k hk;simp only[BV]at h;split at h
          ·rename_i a b ha hb
           split at h
           ·simp only[Option.some.injEq]at h;subst h;rcases List.mem_append.1 hk with h1|h1
            ·exact ih ha k h1
            ·exact ihg _ _ hb k h1
           ·cases h
          ·cases h
       exact key _ _ _ h k hk
theorem MF:∀ (l:List Nat) (k n:Nat) (p:Nat×Nat),p∈sqG k n l->p.2=k\/p.2∈l
 | [], k, n, p, h => by
   rcases List.mem_cons.1 h with rfl|h1
   ·exact .inl rfl
   ·cases h1
 | x :: r, k, n, p, h => by
   unfold sqG at h;split at h
   ·rcases MF r _ _ p h with h1|h1
    ·exact .inl h1
    ·exact .inr (List.mem_cons_of_mem _ h1)
   ·rcases List.mem_cons.1 h with rfl|h1
    ·exact .inl rfl
    ·rcases MF r _ _ p h1 with h2|h2
     ·exact .inr (h2▸List.mem_cons_self ..)
     ·exact .inr (List.mem_cons_of_mem _ h2)
theorem zr:∀ (l:List Nat) (p:Nat×Nat),p∈kD l->p.2∈l
 | [],p,h=>by simp[kD]at h
 | k :: r, p, h => by
   rcases MF r k 1 p h with h1|h1
   ·exact h1▸List.mem_cons_self ..
   ·exact List.mem_cons_of_mem _ h1
section
variable{X:Nat->Prop}{loc:Nat->Option Loc}{σ:St}{w:World}{n:Nat}{P:Program}{ρ:Operand->Value}{ρ':Opd->AV}{K:AV->List Nat->Bool->St->Prop}
theorem FA (hr : Rel X loc σ w) (hρ : lw (aR X loc σ w) ρ ρ') {o : Oper} {op : AOp} (hc : kl P o.op = some op) (hn : op.allocs = true -> n < σ.length /\ loc n = none /\ ∀ o : bO, σ[n]? = some o -> o.live = false)
 (h:opF n σ ρ' K op):Snd X loc σ w n ((execOp ρ o).run P w) K:=by
 cases ho:o.op<;>rw[ho]at hc<;>simp only[kl,reduceCtorEq]at hc
 case move x=>obtain⟨a,h1,rfl⟩:=Option.map_eq_some_iff.1 hc;exact YS hr hρ (.inl ho) h1 h
 case assign x=>obtain⟨a,h1,rfl⟩:=Option.map_eq_some_iff.1 hc;exact YS hr hρ (.inr ho) h1 h
 case pick c x y=>
  split at hc
  ·rename_i c' a b h1 h2 h3;simp only[Option.some.injEq]at hc;subst hc;exact YU hr hρ ho h1 h2 h3 h
  ·cases hc
 case binOp op t x y yt=>
  split at hc
  ·rename_i a b h1 h2
   split at hc
   ·simp only[Option.some.injEq]at hc;subst hc;exact aal hr hρ ho h1 h2 h
   ·rename_i hu;cases op<;>simp only[reduceCtorEq,Option.some.injEq]at hc<;>subst hc
    ·exact oY (neg:=false) hr hρ ho h1 h2 (.inl ⟨rfl,hu⟩) h
    ·exact oY (neg:=true) hr hρ ho h1 h2 (.inl ⟨rfl,hu⟩) h
   ·rename_i hu;cases op<;>simp only[reduceCtorEq,Option.some.injEq]at hc<;>subst hc
    ·exact oY (neg:=false) hr hρ ho h1 h2 (.inr (.inl ⟨rfl,hu⟩)) h
    ·exact oY (neg:=true) hr hρ ho h1 h2 (.inr (.inl ⟨rfl,hu⟩)) h
   ·rename_i hu;cases op<;>simp only[reduceCtorEq,Option.some.injEq]at hc<;>subst hc
    ·exact oY (neg:=false) hr hρ ho h1 h2 (.inr (.inr (.inl ⟨rfl,_,hu⟩))) h
    ·exact oY (neg:=true) hr hρ ho h1 h2 (.inr (.inr (.inl ⟨rfl,_,hu⟩))) h
   ·rename_i hu;cases op<;>simp only[reduceCtorEq,Option.some.injEq]at hc<;>subst hc
    ·exact oY (neg:=false) hr hρ ho h1 h2 (.inr (.inr (.inr ⟨rfl,_,_,_,hu⟩))) h
    ·exact oY (neg:=true) hr hρ ho h1 h2 (.inr (.inr (.inr ⟨rfl,_,_,_,hu⟩))) h
   ·rename_i fs hu
    split at hc
    ·rename_i l hl
     split at hc
     ·rename_i hcond;obtain⟨he,hg⟩:=hcond;have hl':jl P 40 t=some (eh (kD l)):=by rw[he];exact hl
      have h3:∀p∈kD l,p.2<=2:=fun p hp=>Fi 40 hl _ (zr l p hp)
      cases op<;>simp only[reduceCtorEq,Option.some.injEq]at hc<;>subst hc
      ·exact Du (neg:=false) hr hρ ho h1 h2 (Dl (.inl ⟨_,hu⟩)) hl' h3 hg h
      ·exact Du (neg:=true) hr hρ ho h1 h2 (Dl (.inl ⟨_,hu⟩)) hl' h3 hg h
     ·cases hc
    ·cases hc
   ·rename_i fs hu
    split at hc
    ·rename_i l hl
     split at hc
     ·rename_i hcond;obtain⟨he,hg⟩:=hcond;have hl':jl P 40 t=some (eh (kD l)):=by rw[he];exact hl
      have h3:∀p∈kD l,p.2<=2:=fun p hp=>Fi 40 hl _ (zr l p hp)
      cases op<;>simp only[reduceCtorEq,Option.some.injEq]at hc<;>subst hc
      ·exact Du (neg:=false) hr hρ ho h1 h2 (Dl (.inr ⟨_,_,hu⟩)) hl' h3 hg h
      ·exact Du (neg:=true) hr hρ ho h1 h2 (Dl (.inr ⟨_,_,hu⟩)) hl' h3 hg h
     ·cases hc
    ·cases hc
   ·exfalso
    revert hc;(repeat' split)<;>intro hc<;>first|(cases hc;done)|(simp only[Option.some.injEq]at hc;subst hc;exact h)
   ·cases hc
  ·cases hc
 case unOp op t x=>obtain⟨a,h1,rfl⟩:=Option.map_eq_some_iff.1 hc;exact abV hr hρ ho h1 h
 case convert s d x=>
  split at hc
  ·rename_i h1 h2 h3;simp only[Option.some.injEq]at hc;subst hc;exact aat hr hρ ho h1 h2 h3 h
  ·rename_i h1 h2 h3;split at hc
   ·rename_i h4;simp only[Option.some.injEq]at hc;subst hc;exact aak hr hρ ho h1 h4 h2 h3 h
   ·cases hc
  ·cases hc
 case nilCheck x=>obtain⟨a,h1,rfl⟩:=Option.map_eq_some_iff.1 hc;exact YT hr hρ ho h1 h
 case field t x i=>
  split at hc
  ·rename_i fs a h1 h2
   split at hc
   ·rename_i f h3;obtain⟨⟨ag,sz⟩,h4,rfl⟩:=Option.map_eq_some_iff.1 hc;exact aaw hr hρ ho h1 h3 h4 h2 h
   ·cases hc
  ·cases hc
 case fieldAddr t x i=>
  split at hc
  ·rename_i fs a h1 h2
   split at hc
   ·rename_i f h3
    split at hc
    ·rename_i ti h4;split at hc
     ·cases hc
     ·rename_i h5;simp only[Option.some.injEq]at hc;subst hc;exact YP hr hρ ho h1 h3 h4 h5 h2 h
    ·cases hc
   ·cases hc
  ·cases hc
 case index t x i=>
  split at hc
  ·rename_i m e a b h1 h2 h3;obtain⟨⟨ag,sz⟩,h4,rfl⟩:=Option.map_eq_some_iff.1 hc;exact aax hr hρ ho h1 h4 h2 h3 h
  ·cases hc
 case indexAddr t x i=>
  split at hc
  ·rename_i m e a b h1 h2 h3;obtain⟨ti,h4,rfl⟩:=Option.map_eq_some_iff.1 hc;exact YQ hr hρ ho h1 h4 h2 h3 h
  ·rename_i e a b h1 h2 h3
   split at hc
   ·rename_i ti h4;split at hc
    ·simp only[Option.some.injEq]at hc;subst hc;exact YR hr hρ ho h1 h4 h2 h3 h
    ·cases hc
   ·cases hc
  ·cases hc
 case load t x=>
  split at hc
  ·rename_i p a h1 h2;simp only[Option.some.injEq]at hc;subst hc;exact abR hr hρ ho h1 h2 h
  ·cases hc
 case store t x y=>
  split at hc
  ·rename_i i a b h1 h2 h3;simp only[Option.some.injEq]at hc;subst hc;exact aaI hr hρ ho h1 h2 h3 h
  ·cases hc
 case alloc t=>
  split at hc
  ·rename_i z i h1 h2;simp only[Option.some.injEq]at hc;subst hc;exact aaC hr (hn rfl).1 (hn rfl).2.1 ho h1 h
  ·cases hc
 case box t x=>
  split at hc
  ·rename_i i a h1 h2;simp only[Option.some.injEq]at hc;subst hc;exact aam hr hρ (hn rfl).1 (hn rfl).2.1 ho h2 h
  ·cases hc
 case build t ps=>
  split at hc
  ·rename_i fs z h1 h2;obtain⟨q,h3,h4⟩:=Option.bind_eq_some_iff.1 hc;split at h4
   ·rename_i h5;simp only[Option.some.injEq]at h4;subst h4;exact V0 hr hρ ho h1 h2 h3 h5 h
   ·cases h4
  ·rename_i m e z h1 h2;obtain⟨ti,h3,h4⟩:=Option.bind_eq_some_iff.1 hc;obtain⟨q,h5,rfl⟩:=Option.map_eq_some_iff.1 h4;exact YN hr hρ ho h1 h2 h3 h5 h
  ·cases hc
 case buildSlice t m ps=>
  split at hc
  ·rename_i e h1
   split at hc
   ·rename_i z i q h2 h3 h4
    split at hc
    ·rename_i h5
     simp only[Option.some.injEq]at hc;subst hc
     have hmm:m<=maxLen:=by
      have:m<=m*i.size:=Nat.le_mul_of_pos_right _ h5.1;simp only[maxLen];omega
     exact YO hr hρ ho h1 h2 h3 h4 h5.1 h5.2 hmm h
    ·cases hc
   ·cases hc
  ·cases hc
 case makeSlice t l c=>
  split at hc
  ·rename_i e h1
   split at hc
   ·rename_i z i a b h2 h3 h4 h5;split at hc
    ·rename_i h6;simp only[Option.some.injEq]at hc;subst hc;exact abS hr hρ (hn rfl).1 (hn rfl).2.1 ho h1 h2 h3 h6 h4 h5 h
    ·cases hc
   ·cases hc
  ·cases hc
 case slice t x lo hi mx=>
  split at hc
  ·rename_i e a l hh m h1 h2 h3 h4 h5
   split at hc
   ·rename_i ti h6;split at hc
    ·simp only[Option.some.injEq]at hc;subst hc;exact aaG hr hρ ho h1 h6 h2 h3 h4 h5 h
    ·cases hc
   ·cases hc
  ·rename_i m e a l hh h1 h2 h3 h4 h5
   split at hc
   ·rename_i ti h6
    split at hc
    ·rename_i h7;simp only[Option.some.injEq]at hc;subst hc;have:=(iG h5).1 rfl;subst this;exact YV hr hρ ho h1 h6 h7.2 h2 h3 h4 h
    ·cases hc
   ·cases hc
  ·cases hc
 case extract x i=>obtain⟨a,h1,rfl⟩:=Option.map_eq_some_iff.1 hc;exact aav hr hρ ho h1 h
 case makeFunc f first caps=>
  split at hc
  ·rename_i h0;obtain⟨ys,h1,rfl⟩:=Option.map_eq_some_iff.1 hc;exact aaA hr hρ ho (by simpa using h0) h1 h
  ·cases hc
 case makeMap t r=>
  cases r with
  |some x=>simp at hc
  | none =>
    simp only[Option.isSome_none,Bool.false_eq_true,if_false]at hc;split at hc
    ·simp only[Option.some.injEq]at hc;subst hc;exact aaB hr hρ (hn rfl).1 (hn rfl).2.1 ho h
    ·cases hc
 case lookup t m k ok=>
  split at hc
  ·rename_i kt et a b h1 h2 h3;split at hc
   ·rename_i kk z h4 h5;simp only[Option.some.injEq]at hc;subst hc;exact aaz hr hρ ho h1 h2 h3 h4 h5 h
   ·cases hc
  ·cases hc
 case mapUpdate t m k v=>
  split at hc
  ·rename_i kt et a b c h1 h2 h3 h4;obtain⟨kk,h5,rfl⟩:=Option.map_eq_some_iff.1 hc;exact aaJ hr hρ ho h1 h2 h3 h4 h5 h
  ·cases hc
 case range t m=>
  split at hc
  ·rename_i kt et a h1 h2;simp only[Option.some.injEq]at hc;subst hc;exact aaF hr hρ (hn rfl).1 (hn rfl).2.1 (hn rfl).2.2 ho h1 h2 h
  ·cases hc
 case next it st=>
  cases st with
  |true=>simp at hc
  | false =>
    simp only[Bool.false_eq_true,if_false]at hc;obtain⟨a,h1,rfl⟩:=Option.map_eq_some_iff.1 hc;exact h.elim
 case entry it=>obtain⟨a,h1,rfl⟩:=Option.map_eq_some_iff.1 hc;exact aau hr hρ ho h1 h
 case call c =>
  obtain⟨callee,args,ats⟩:=c;unfold ig at hc;split at hc
  ·split at hc
   ·simp only[Option.some.injEq]at hc;subst hc;exact h.elim
   ·cases hc
  ·rename_i b hb
   simp only at hb;subst hb;split at hc
   ·rename_i x t h1 h2;have e1:args=#[x]:=Array.toList_inj.1 h1;have e2:ats=#[t]:=Array.toList_inj.1 h2;subst e1;subst e2;split at hc
    ·rename_i hu;obtain⟨a,h3,rfl⟩:=Option.map_eq_some_iff.1 hc;exact TC hr hρ ho (.inl ⟨rfl,_,hu⟩) h3 h
    ·rename_i hu;obtain⟨a,h3,rfl⟩:=Option.map_eq_some_iff.1 hc;exact TC hr hρ ho (.inr ⟨rfl,hu⟩) h3 h
    ·cases hc
   ·rename_i x t h1 h2;have e1:args=#[x]:=Array.toList_inj.1 h1;have e2:ats=#[t]:=Array.toList_inj.1 h2;subst e1;subst e2;split at hc
    ·rename_i hu;obtain⟨a,h3,rfl⟩:=Option.map_eq_some_iff.1 hc;exact aan hr hρ ho hu h3 h
    ·cases hc
   ·rename_i s x t u h1 h2
    have e1:args=#[s,x]:=Array.toList_inj.1 h1;have e2:ats=#[t,u]:=Array.toList_inj.1 h2;subst e1;subst e2;split at hc
    ·rename_i e hu
     split at hc
     ·rename_i i z a b h3 h4 h5 h6
      split at hc
      ·rename_i e' hu2;split at hc
       ·rename_i h7;simp only[Option.some.injEq]at hc;subst hc;exact TA hr hρ (hn rfl).1 (hn rfl).2.1 (hn rfl).2.2 ho hu (.inl ⟨_,hu2⟩) h4 h3 h7.1 h5 h6 h
       ·cases hc
      ·rename_i hu2;split at hc
       ·rename_i h7;simp only[Option.some.injEq]at hc;subst hc;exact TA hr hρ (hn rfl).1 (hn rfl).2.1 (hn rfl).2.2 ho hu (.inr hu2) h4 h3 h7.1 h5 h6 h
       ·cases hc
      ·cases hc
     ·cases hc
    ·cases hc
   ·rename_i d s t u h1 h2
    have e1:args=#[d,s]:=Array.toList_inj.1 h1;have e2:ats=#[t,u]:=Array.toList_inj.1 h2;subst e1;subst e2;split at hc
    ·rename_i e hu
     split at hc
     ·rename_i i a b h3 h4 h5;split at hc
      ·rename_i h7;simp only[Option.some.injEq]at hc;subst hc;exact aas hr hρ ho hu h3 h7 h4 h5 h
      ·cases hc
     ·cases hc
    ·cases hc
   ·obtain⟨ys,h3,rfl⟩:=Option.map_eq_some_iff.1 hc;exact abT hr hρ ho h3 h
   ·obtain⟨ys,h3,rfl⟩:=Option.map_eq_some_iff.1 hc;exact abU hr hρ ho h3 h
   ·cases hc
  ·cases hc
theorem ul {fx : Bool} (hr : Rel X loc σ w) (hρ : lw (aR X loc σ w) ρ ρ') (hcc : ∀ v, ρ' (.c v) = v) {o : Oper} {op : AOp} (hc : SH fx P o.op = some op) (hn : op.allocs = true -> n < σ.length /\ loc n = none /\ ∀ o : bO, σ[n]? = some o -> o.live = false)
 (h:opF n σ ρ' K op):Snd X loc σ w n ((execOp ρ o).run P w) K:=by
 cases fx with
 |false=>exact FA hr hρ hc hn h
 | true =>
   have hc:IP P o.op=some op:=hc;cases ho:o.op
   case slice t x lo hi mx=>
    rw[ho]at hc;simp only[IP]at hc;split at hc
    ·rename_i e a l hh m h1 h2 h3 h4 h5
     split at hc
     ·rename_i ti h6;split at hc
      ·rename_i h7;simp only[Option.some.injEq]at hc;subst hc;exact aaH hr hρ ho h1 h6 h7 h2 h3 h4 h5 h
      ·cases hc
     ·cases hc
    ·cases hc
   case call c =>
    rw[ho]at hc;simp only[IP]at hc;have old:ig P c=some op->Snd X loc σ w n ((execOp ρ o).run P w) K:=fun h1=>FA hr hρ (by rw[ho];exact h1) hn h
    obtain⟨callee,args,ats⟩:=c;split at hc
    ·split at hc
     ·rename_i g hg _ _ fn a b hf hxs
      obtain rfl:callee=.value (.func g):=hg;split at hc
      ·rename_i hcond
       simp only[Bool.and_eq_true,beq_iff_eq]at hcond;split at hc
       ·rename_i t ts hp
        split at hc
        ·rename_i e ht
         split at hc
         ·rename_i ti hti
          split at hc
          ·simp only[Option.some.injEq]at hc;subst hc;exact aaE hr hρ ho hf hcond.1.1 hcond.2 hcond.1.2 hp ht hti hxs hcc h
          ·cases hc
         ·cases hc
        ·cases hc
       ·cases hc
      ·split at hc
       ·rename_i _ hcond;simp only[Bool.and_eq_true,beq_iff_eq]at hcond;simp only[Option.some.injEq]at hc;subst hc;exact aap hr hρ ho hf hcond.1.1 hcond.1.2 hcond.2 hxs hcc h
       ·exact old hc
     ·exact old hc
    ·rename_i b hb
     simp only at hb;subst hb;simp only at hc;split at hc
     ·rename_i x t h1 h2;have e1:args=#[x]:=Array.toList_inj.1 h1;have e2:ats=#[t]:=Array.toList_inj.1 h2;subst e1;subst e2;split at hc
      ·rename_i hu;obtain⟨a,h3,rfl⟩:=Option.map_eq_some_iff.1 hc;exact aaq hr hρ ho hu h3 h
      ·cases hc
     ·rename_i s x t u h1 h2
      have e1:args=#[s,x]:=Array.toList_inj.1 h1;have e2:ats=#[t,u]:=Array.toList_inj.1 h2;subst e1;subst e2;split at hc
      ·rename_i e hu
       split at hc
       ·rename_i i z a b h3 h4 h5 h6
        split at hc
        ·rename_i e' hu2;split at hc
         ·rename_i h7;simp only[Option.some.injEq]at hc;subst hc;exact TB hr hρ (hn rfl).1 (hn rfl).2.1 (hn rfl).2.2 ho hu (.inl ⟨_,hu2⟩) h4 h3 h7.1 h5 h6 h
         ·cases hc
        ·rename_i hu2;split at hc
         ·rename_i h7;simp only[Option.some.injEq]at hc;subst hc;exact TB hr hρ (hn rfl).1 (hn rfl).2.1 (hn rfl).2.2 ho hu (.inr hu2) h4 h3 h7.1 h5 h6 h
         ·cases hc
        ·rename_i kn hu2
         split at hc
         ·rename_i z' hz';split at hc
          ·rename_i h7;simp only[Option.some.injEq]at hc;subst hc;exact aaj hr hρ (hn rfl).1 (hn rfl).2.1 (hn rfl).2.2 ho hu hu2 hz' h3 h7 h5 h6 h
          ·cases hc
         ·cases hc
        ·cases hc
       ·cases hc
      ·cases hc
     ·rename_i d s t u h1 h2
      have e1:args=#[d,s]:=Array.toList_inj.1 h1;have e2:ats=#[t,u]:=Array.toList_inj.1 h2;subst e1;subst e2;split at hc
      ·rename_i e hu
       split at hc
       ·rename_i i a b h3 h4 h5;split at hc
        ·rename_i h7;simp only[Option.some.injEq]at hc;subst hc;exact aar hr hρ ho hu h3 h7 h4 h5 h
        ·cases hc
       ·cases hc
      ·cases hc
     ·rename_i x t h1 h2
      have e1:args=#[x]:=Array.toList_inj.1 h1;have e2:ats=#[t]:=Array.toList_inj.1 h2;subst e1;subst e2;split at hc
      ·rename_i e hu
       split at hc
       ·rename_i i z a h3 h4 h5;split at hc
        ·rename_i h7;simp only[Option.some.injEq]at hc;subst hc;exact aao hr hρ ho hu h4 h3 h7 h5 h
        ·cases hc
       ·cases hc
      ·cases hc
     ·exact old hc
    ·exact old hc
   all_goals exact FA hr hρ (by rw[ho]at hc ⊢;exact hc) hn h
end
def iZ(r:Nat->Nat):bO->bO
 |.gone=>.gone
 |.var cs=>.var (dP r cs)
 |.vec e xs=>.vec e (dF r xs)
 |.vex e xs=>.vex e (dF r xs)
 |.map es=>.map (dF r es)
 |.iter m n seen=>.iter (r m) n seen
theorem SA{E E':Env}{r:Nat->Nat}(h:∀id,E'.loc id=E.loc (r id))(hw:E'.w=E.w)(hF:E'.F=E.F):∀ (xs:List (List AV)) (es:List MapEntry) (b:Nat),RlM E' xs es b↔RlM E (dF r xs) es b
 | [],_,_=>Iff.rfl
 |x::xs,es,b=>by simp only[RlM,dF,tY h hw hF x,SA h hw hF xs]
theorem cJ(r:Nat->Nat)(o:bO):(iZ r o).live=o.live:=by cases o<;>rfl
theorem rT{E E':Env}{r:Nat->Nat}(h:∀id,E'.loc id=E.loc (r id))(hw:E'.w=E.w)(hF:E'.F=E.F)(L:Loc)(o:bO):gw E' L o↔gw E L (iZ r o):=by
 cases o with
 |gone=>exact Iff.rfl
 |var cs=>simp only[gw,iZ,Dk h hw hF cs,hw]
 | vec e xs =>
   have:(dF r xs=[])↔xs=[]:=by cases xs<;>simp[dF]
   simp only[gw,iZ,xR h hw hF e xs,hw,this]
 | vex e xs =>
   have:(dF r xs=[])↔xs=[]:=by cases xs<;>simp[dF]
   simp only[gw,iZ,xR h hw hF e xs,hw,this]
 |map es=>simp only[gw,iZ,SA h hw hF es,hw,qN]
 |iter m n seen=>simp only[gw,iZ,h,hw]
def pX(P:Program)(f:FuncId):Bool:=match P.funcs[f]? with
 | some fn => fn.name != "runtime.NumGoroutine" && fn.body.isSome
 |none=>false
def aI(P:Program)(f:FuncId)(args:List AV)(σ:St)(r:AV)(σ':St):Prop:=
 pX P f=true/\σ.length<=σ'.length/\∀ (X:Nat->Prop) (loc:Nat->Option Loc) (w:World) (vs:List Value),Rel X loc σ w->RlS (aR X loc σ w) args vs->
  Calls P f vs.toArray w fun e w'=>∃v loc',e=.returned v/\Out X loc σ w r σ' v w' loc'/\∀id,id<σ.length->loc' id=loc id
def rn(js:List Nat)(n:Nat)(i:Nat):Nat:=js.getD i (n+(i-js.length))
def ky(σ:St):List Nat->St->St
 |j::js,o::os=>ky (σ.set j o) js os
 |_,_=>σ
@[simp] theorem eJ:∀ (js:List Nat) (os σ:St),(ky σ js os).length=σ.length
 | [],_,_=>by simp[ky]
 |_::_,[],_=>by simp[ky]
 |j::js,o::os,σ=>by simp[ky,eJ js os]
theorem m9:∀ (js:List Nat) (os σ:St) (id:Nat),id∉js->(ky σ js os)[id]?=σ[id]?
 | [],_,_,_,_=>by simp[ky]
 |_::_,[],_,_,_=>by simp[ky]
 | j :: js, o :: os, σ, id, h => by
   simp only[List.mem_cons,not_or]at h;rw[ky,m9 js os _ id h.2,List.getElem?_set_ne (Ne.symm h.1)]
theorem nZ:∀ (js:List Nat) (os σ:St),js.Nodup->(∀j∈js,j<σ.length)->∀ (i j:Nat) (o:bO),js[i]?=some j->os[i]?=some o->(ky σ js os)[j]?=some o
 | [],_,_,_,_,i,j,o,h,_=>by simp at h
 |_::_,[],_,_,_,i,j,o,_,h=>by simp at h
 | k :: js, o' :: os, σ, hn, hl, i, j, o, h1, h2 => by
   rw[ky];have hn':=List.nodup_cons.1 hn;cases i with
   | zero =>
     simp only[List.getElem?_cons_zero,Option.some.injEq]at h1 h2;subst h1;subst h2;rw[m9 js os _ k hn'.1];simp[hl k (List.mem_cons_self ..)]
   | succ i =>
     exact nZ js os (σ.set k o') hn'.2 (fun q hq=>by simpa using hl q (List.mem_cons_of_mem _ hq)) i j o (by simpa using h1) (by simpa using h2)
def aN(σ:St)(js:List Nat)(σs':St):St:=
 ky σ js ((σs'.take js.length).map (iZ (rn js σ.length)))++(σs'.drop js.length).map (iZ (rn js σ.length))
def bx(σ:St)(js:List Nat)(σs:St):Prop:=
 js.length=σs.length/\js.Nodup/\(∀j∈js,j<σ.length)/\∀i j:Nat,js[i]?=some j->σ[j]?=(σs[i]?).map (iZ (rn js σ.length))
def dt(σ:St)(js J:List Nat)(σs:St):Prop:=
 js.length=σs.length/\J.Nodup/\(∀j∈J,j<σ.length)/\∀i j:Nat,js[i]?=some j->σ[j]?=(σs[i]?).map (iZ (rn J σ.length))
section
variable{X:Nat->Prop}{loc:Nat->Option Loc}{σ σs σs':St}{w:World}{P:Program}{js:List Nat}
theorem aI.frame{f:FuncId}{args:List AV}{r:AV}(h:aI P f args σs r σs')(hr:Rel X loc σ w)(hp:bx σ js σs){vs:List Value}(hv:RlS (aR X loc σ w) (dP (rn js σ.length) args) vs):
 Calls P f vs.toArray w fun e w'=>∃v loc',e=.returned v/\Out X loc σ w (ren (rn js σ.length) r) (aN σ js σs') v w' loc'/\∀id,id<σ.length->loc' id=loc id:=by
 obtain⟨_,hlen,hcall⟩:=h;obtain⟨hjl,hnd,hjs,hobj⟩:=hp;have hR:∀i j:Nat,js[i]?=some j->rn js σ.length i=j:=fun i j hij=>by simp[rn,List.getD,hij]
 have hR2:∀i:Nat,js.length<=i->rn js σ.length i=σ.length+(i-js.length):=fun i hi=>by simp[rn,List.getD,List.getElem?_eq_none hi]
 let locs:Nat->Option Loc:=fun i=>loc (rn js σ.length i)
 have hlocs:∀i,locs i=loc (rn js σ.length i):=fun _=>rfl
 -- live blocks of the objects that are handed on
 have live1:∀b,aS σs locs b->∃ (i j:Nat) (o:bO) (L:Loc),js[i]?=some j/\σs[i]?=some o/\o.live=true/\σ[j]?=some (iZ (rn js σ.length) o)/\loc j=some L/\L.has=true/\L.blk=b:=by
  rintro b ⟨i,o,L,g1,g2,g3,g4,g5⟩;have hi:i<js.length:=by rw[hjl];exact(List.getElem?_eq_some_iff.1 g1).1
  have hij:js[i]?=some js[i]:=List.getElem?_eq_getElem hi;refine⟨i,js[i],o,L,hij,g1,g2,by rw[hobj i _ hij,g1];rfl,?_,g4,g5⟩;rw[hlocs,hR i _ hij]at g3;exact g3
 have live2:∀b,aS σs locs b->aS σ loc b:=fun b hb=>by
  obtain⟨i,j,o,L,g1,g2,g3,g4,g5,g6,g7⟩:=live1 b hb;exact⟨j,_,L,g4,by rw[cJ];exact g3,g5,g6,g7⟩
 have live3:∀ (i j:Nat) (o:bO) (L:Loc),js[i]?=some j->σ[j]?=some o->o.live=true->loc j=some L->L.has=true->aS σs locs L.blk:=by
  intro i j o L g1 g2 g3 g4 g5;have hi:i<σs.length:=by rw[<-hjl];exact(List.getElem?_eq_some_iff.1 g1).1
  have g6:=hobj i j g1;rw[g2,List.getElem?_eq_getElem hi]at g6;simp only[Option.map_some,Option.some.injEq]at g6;refine⟨i,σs[i],L,List.getElem?_eq_getElem hi,?_,by rw[hlocs,hR i j g1];exact g4,g5,rfl⟩;rw[<-cJ (rn js σ.length),<-g6];exact g3
 let Xs:Nat->Prop:=fun b=>gq X σ loc b/\¬aS σs locs b
 have hF1:gq Xs σs locs=gq X σ loc:=by
  funext b
  apply propext
  constructor
  ·rintro (⟨h1,_⟩|h1)
   ·exact h1
   ·exact .inr (live2 b h1)
  ·intro h1;by_cases h2:aS σs locs b
   ·exact .inr h2
   ·exact .inl ⟨h1,h2⟩
 have hrs:Rel Xs locs σs w:=by
  refine⟨fun i o g1 g2=>?_,fun i j a b La Lb hij g1 g2 g3 g4 g5 g6 g7 g8=>?_,fun b hb=>⟨?_,hb.2⟩,fun i hi=>?_⟩
  ·have hi:i<js.length:=by rw[hjl];exact(List.getElem?_eq_some_iff.1 g1).1
   have hij:js[i]?=some js[i]:=List.getElem?_eq_getElem hi;have g3:σ[js[i]]?=some (iZ (rn js σ.length) o):=by rw[hobj i _ hij,g1];rfl
   obtain⟨L,g4,g5⟩:=hr.obj js[i] _ g3 (by rw[cJ];exact g2);exact⟨L,by rw[hlocs,hR i _ hij];exact g4,(rT (E':=aR Xs locs σs w) (E:=aR X loc σ w) (r:=rn js σ.length) hlocs rfl hF1 L o).2 g5⟩
  ·have hi:i<js.length:=by rw[hjl];exact(List.getElem?_eq_some_iff.1 g1).1
   have hj:j<js.length:=by rw[hjl];exact(List.getElem?_eq_some_iff.1 g2).1
   have e1:js[i]?=some js[i]:=List.getElem?_eq_getElem hi;have e2:js[j]?=some js[j]:=List.getElem?_eq_getElem hj;rw[hlocs,hR i _ e1]at g5;rw[hlocs,hR j _ e2]at g6;refine hr.apart js[i] js[j] _ _ La Lb (fun e=>hij ((List.getElem_inj hnd).1 e)) (by rw[hobj i _ e1,g1];rfl) (by rw[hobj j _ e2,g2];rfl) (by rw[cJ];exact g3) (by rw[cJ];exact g4) g5 g6 g7 g8
  ·rcases hb.1 with h1|h1
   ·exact(hr.out b h1).1
   ·exact aS.lt hr h1
  ·rw[hlocs,hR2 i (by omega)];exact hr.beyond _ (by omega)
 have hvs:RlS (aR Xs locs σs w) args vs:=(tY (E':=aR Xs locs σs w) (E:=aR X loc σ w) (r:=rn js σ.length) hlocs rfl hF1 args vs).2 hv;refine(hcall Xs locs w vs hrs hvs).mono fun e w' ⟨v,locs',he,ho,hkeep⟩=>?_
 let loc':Nat->Option Loc:=fun id=>if id<σ.length then loc id else locs' (js.length+(id-σ.length))
 have hl1:∀id,id<σ.length->loc' id=loc id:=fun id hid=>by simp[loc',hid]
 have hl2:∀id,σ.length<=id->loc' id=locs' (js.length+(id-σ.length)):=fun id hid=>by simp[loc',Nat.not_lt.2 hid]
 have hlr:∀i,locs' i=loc' (rn js σ.length i):=by
  intro i;by_cases hi:i<js.length
  ·have e1:js[i]?=some js[i]:=List.getElem?_eq_getElem hi;rw[hR i _ e1,hl1 _ (hjs _ (List.getElem_mem hi)),hkeep i (by omega),hlocs,hR i _ e1]
  ·rw[hR2 i (by omega),hl2 _ (by omega)];congr 1;omega
 have hσ1:∀ (i j:Nat) (o:bO),js[i]?=some j->σs'[i]?=some o->(aN σ js σs')[j]?=some (iZ (rn js σ.length) o):=by
  intro i j o g1 g2;have hi:i<js.length:=(List.getElem?_eq_some_iff.1 g1).1;unfold aN;rw[List.getElem?_append_left (by rw[eJ];exact hjs j (List.mem_of_getElem? g1))];exact nZ js _ σ hnd hjs i j _ g1 (by rw[List.getElem?_map,List.getElem?_take,if_pos hi,g2];rfl)
 have hσ2:∀id,id<σ.length->id∉js->(aN σ js σs')[id]?=σ[id]?:=by
  intro id h1 h2;unfold aN;rw[List.getElem?_append_left (by rw[eJ];exact h1),m9 _ _ _ _ h2]
 have hσ3:∀id,σ.length<=id->(aN σ js σs')[id]?=(σs'[js.length+(id-σ.length)]?).map (iZ (rn js σ.length)):=by
  intro id h1;unfold aN;rw[List.getElem?_append_right (by rw[eJ];exact h1),eJ,List.getElem?_map,List.getElem?_drop]
 have hlen':(aN σ js σs').length=σ.length+(σs'.length-js.length):=by simp[aN]
 -- an object behind the call: one of the callee's, or an old one
 have hcase:∀ (id:Nat) (o:bO),(aN σ js σs')[id]?=some o->(∃ (i:Nat) (o':bO),σs'[i]?=some o'/\o=iZ (rn js σ.length) o'/\loc' id=locs' i/\id=rn js σ.length i)\/(id<σ.length/\id∉js/\σ[id]?=some o/\loc' id=loc id):=by
  intro id o g1;by_cases hid:id<σ.length
  ·by_cases hj:id∈js
   ·obtain⟨i,hi,rfl⟩:=List.getElem_of_mem hj;have e1:js[i]?=some js[i]:=List.getElem?_eq_getElem hi;have hi':i<σs'.length:=by omega
    have g2:=hσ1 i js[i] σs'[i] e1 (List.getElem?_eq_getElem hi');rw[g1]at g2;exact .inl ⟨i,σs'[i],List.getElem?_eq_getElem hi',Option.some.inj g2,by rw[hlr i,hR i _ e1],(hR i _ e1).symm⟩
   ·rw[hσ2 id hid hj]at g1;exact .inr ⟨hid,hj,g1,hl1 id hid⟩
  ·rw[hσ3 id (by omega)]at g1;obtain⟨o',g2,g3⟩:=Option.map_eq_some_iff.1 g1;exact .inl ⟨_,o',g2,g3.symm,hl2 id (by omega),by rw[hR2 _ (by omega)];omega⟩
 have hback:∀ (i:Nat) (o:bO),σs'[i]?=some o->(aN σ js σs')[rn js σ.length i]?=some (iZ (rn js σ.length) o):=by
  intro i o g1;by_cases hi:i<js.length
  ·have e1:js[i]?=some js[i]:=List.getElem?_eq_getElem hi;rw[hR i _ e1];exact hσ1 i _ o e1 g1
  ·rw[hR2 i (by omega),hσ3 _ (by omega)];have:js.length+(σ.length+(i-js.length)-σ.length)=i:=by omega
   rw[this,g1];rfl
 have live4:∀b,aS σs' locs' b->aS (aN σ js σs') loc' b:=by
  rintro b ⟨i,o,L,g1,g2,g3,g4,g5⟩;exact⟨rn js σ.length i,_,L,hback i o g1,by rw[cJ];exact g2,by rw[<-hlr];exact g3,g4,g5⟩
 have live5:∀b,aS (aN σ js σs') loc' b->aS σs' locs' b\/∃ (id:Nat) (o:bO) (L:Loc),id<σ.length/\id∉js/\σ[id]?=some o/\o.live=true/\loc id=some L/\L.has=true/\L.blk=b:=by
  rintro b ⟨id,o,L,g1,g2,g3,g4,g5⟩;rcases hcase id o g1 with⟨i,o',k1,rfl,k3,_⟩|⟨k1,k2,k3,k4⟩
  ·exact .inl ⟨i,o',L,k1,by rw[cJ]at g2;exact g2,by rw[<-k3];exact g3,g4,g5⟩
  ·exact .inr ⟨id,o,L,k1,k2,k3,g2,by rw[<-k4];exact g3,g4,g5⟩
 have notlive:∀ (id:Nat) (o:bO) (L:Loc),id∉js->σ[id]?=some o->o.live=true->loc id=some L->L.has=true->¬aS σs locs L.blk:=by
  intro id o L h1 h2 h3 h4 h5 h6;obtain⟨i,j,o',L',g1,g2,g3,g4,g5,g6,g7⟩:=live1 _ h6;exact hr.apart j id _ o L' L (by rintro rfl;exact h1 (List.mem_of_getElem? g1)) g4 h2 (by rw[cJ];exact g3) h3 g5 h4 g6 h5 g7
 have hF2:gq Xs σs' locs'=gq X (aN σ js σs') loc':=by
  funext b
  apply propext
  constructor
  ·rintro (⟨h1,h2⟩|h1)
   ·rcases h1 with h1|⟨id,o,L,g1,g2,g3,g4,g5⟩
    ·exact .inl h1
    ·have hj:id∉js:=by
      intro hj;obtain⟨i,hi,rfl⟩:=List.getElem_of_mem hj;exact h2 (by rw[<-g5];exact live3 i _ o L (List.getElem?_eq_getElem hi) g1 g2 g3 g4)
     have hid:id<σ.length:=(List.getElem?_eq_some_iff.1 g1).1;exact .inr ⟨id,o,L,by rw[hσ2 id hid hj];exact g1,g2,by rw[hl1 id hid];exact g3,g4,g5⟩
   ·exact .inr (live4 b h1)
  ·rintro (h1|h1)
   ·exact .inl ⟨.inl h1,fun h2=>(hr.out b h1).2 (live2 b h2)⟩
   ·rcases live5 b h1 with h2|⟨id,o,L,k1,k2,k3,k4,k5,k6,rfl⟩
    ·exact .inr h2
    ·exact .inl ⟨.inr ⟨id,o,L,k3,k4,k5,k6,rfl⟩,notlive id o L k2 k3 k4 k5 k6⟩
 have hold:∀b,aS (aN σ js σs') loc' b->aS σ loc b\/w.heap.size<=b:=by
  intro b hb;rcases live5 b hb with h2|⟨id,o,L,k1,k2,k3,k4,k5,k6,rfl⟩
  ·exact(ho.old b h2).imp (live2 b) id
  ·exact .inl ⟨id,o,L,k3,k4,k5,k6,rfl⟩
 have hev:Ev (aS σ loc) w w':=⟨ho.ev.size,fun b hb hn=>ho.ev.blk b hb fun h1=>hn (live2 b h1),ho.ev.os,ho.ev.tape,ho.ev.output⟩
 have hlocs':∀id L,loc id=some L->loc' id=some L:=by
  intro id L h1;by_cases hid:id<σ.length
  ·rw[hl1 id hid];exact h1
  ·rw[hr.beyond id (by omega)]at h1;cases h1
 refine⟨v,loc',he,⟨hlocs',?_,?_,hev,hold⟩,hl1⟩
 ·refine hr.change hlocs' hev hold (fun id hid=>?_) (fun id o g1 g2=>?_) (fun i j a b La Lb hij g1 g2 g3 g4 g5 g6 g7 g8=>?_)
  ·rw[hlen']at hid;rw[hl2 id (by omega)];exact ho.rel.beyond _ (by omega)
  ·rcases hcase id o g1 with⟨i,o',k1,rfl,k3,_⟩|⟨k1,k2,k3,k4⟩
   ·obtain⟨L,m1,m2⟩:=ho.rel.obj i o' k1 (by rw[cJ]at g2;exact g2);exact .inr ⟨L,by rw[k3];exact m1,(rT (E':=aR Xs locs' σs' w') (E:=aR X loc' (aN σ js σs') w') (r:=rn js σ.length) hlr rfl hF2 L o').1 m2⟩
   ·refine .inl ⟨k3,fun L m1 m2=>ho.ev.blk _ (aS.lt hr ⟨id,o,L,k3,g2,m1,m2,rfl⟩) (notlive id o L k2 k3 g2 m1 m2)⟩
  ·rcases hcase i a g1 with⟨i',a',k1,rfl,k3,k4⟩|⟨k1,k2,k3,k4⟩<;>rcases hcase j b g2 with⟨j',b',q1,rfl,q3,q4⟩|⟨q1,q2,q3,q4⟩
   ·rw[cJ]at g3 g4;exact ho.rel.apart i' j' a' b' La Lb (by rintro rfl;exact hij (k4.trans q4.symm)) k1 q1 g3 g4 (by rw[<-k3];exact g5) (by rw[<-q3];exact g6) g7 g8
   ·rw[cJ]at g3;rw[q4]at g6;intro e1;rcases ho.old La.blk ⟨i',a',La,k1,g3,by rw[<-k3];exact g5,g7,rfl⟩with h1|h1
    ·exact notlive j b Lb q2 q3 g4 g6 g8 (by rw[<-e1];exact h1)
    ·have:=aS.lt hr ⟨j,b,Lb,q3,g4,g6,g8,rfl⟩;omega
   ·rw[cJ]at g4;rw[k4]at g5;intro e1;rcases ho.old Lb.blk ⟨j',b',Lb,q1,g4,by rw[<-q3];exact g6,g8,rfl⟩with h1|h1
    ·exact notlive i a La k2 k3 g3 g5 g7 (by rw[e1];exact h1)
    ·have:=aS.lt hr ⟨i,a,La,k3,g3,g5,g7,rfl⟩;omega
   ·rw[k4]at g5;rw[q4]at g6;exact hr.apart i j a b La Lb hij k3 q3 g3 g4 g5 g6 g7 g8
 ·exact(DF (E':=aR Xs locs' σs' w') (E:=aR X loc' (aN σ js σs') w') (r:=rn js σ.length) hlr rfl hF2 r v).1 ho.val
theorem aI.frameS{n:Nat}{f:FuncId}{args:List AV}{r:AV}(h:aI P f args σs r σs')(hr:Rel X loc σ w)(hp:dt σ js (js++[n]) σs)(hn:loc n=none)(hlen1:σs'.length=js.length+1){vs:List Value}(hv:RlS (aR X loc σ w) (dP (rn (js++[n]) σ.length) args) vs):
 Calls P f vs.toArray w fun e w'=>∃v loc',e=.returned v/\Out X loc σ w (ren (rn (js++[n]) σ.length) r) (aN σ (js++[n]) σs') v w' loc'/\∀id,id≠n->loc' id=loc id:=by
 obtain⟨_,hlen,hcall⟩:=h;obtain⟨hjl,hndJ,hjsJ,hobj⟩:=hp;have hnd:js.Nodup:=(List.nodup_append.1 hndJ).1;have hjs:∀j∈js,j<σ.length:=fun j hj=>hjsJ j (List.mem_append_left _ hj)
 have hnl:n<σ.length:=hjsJ n (by simp);have hnj:∀j∈js,j≠n:=fun j hj e=>(List.nodup_append.1 hndJ).2.2 j hj n (by simp) e
 have hR:∀i j:Nat,js[i]?=some j->rn (js++[n]) σ.length i=j:=fun i j hij=>by simp[rn,List.getD,List.getElem?_append_left (List.getElem?_eq_some_iff.1 hij).1,hij]
 have hRn:rn (js++[n]) σ.length js.length=n:=by simp[rn,List.getD]
 have hR2:∀i:Nat,js.length<i->rn (js++[n]) σ.length i=σ.length+(i-(js.length+1)):=fun i hi=>by simp[rn,List.getD,List.getElem?_eq_none (l:=js++[n]) (i:=i) (by simp;omega)]
 let locs:Nat->Option Loc:=fun i=>loc (rn (js++[n]) σ.length i)
 have hlocs:∀i,locs i=loc (rn (js++[n]) σ.length i):=fun _=>rfl
 -- live blocks of the objects that are handed on
 have live1:∀b,aS σs locs b->∃ (i j:Nat) (o:bO) (L:Loc),js[i]?=some j/\σs[i]?=some o/\o.live=true/\σ[j]?=some (iZ (rn (js++[n]) σ.length) o)/\loc j=some L/\L.has=true/\L.blk=b:=by
  rintro b ⟨i,o,L,g1,g2,g3,g4,g5⟩;have hi:i<js.length:=by rw[hjl];exact(List.getElem?_eq_some_iff.1 g1).1
  have hij:js[i]?=some js[i]:=List.getElem?_eq_getElem hi;refine⟨i,js[i],o,L,hij,g1,g2,by rw[hobj i _ hij,g1];rfl,?_,g4,g5⟩;rw[hlocs,hR i _ hij]at g3;exact g3
 have live2:∀b,aS σs locs b->aS σ loc b:=fun b hb=>by
  obtain⟨i,j,o,L,g1,g2,g3,g4,g5,g6,g7⟩:=live1 b hb;exact⟨j,_,L,g4,by rw[cJ];exact g3,g5,g6,g7⟩
 have live3:∀ (i j:Nat) (o:bO) (L:Loc),js[i]?=some j->σ[j]?=some o->o.live=true->loc j=some L->L.has=true->aS σs locs L.blk:=by
  intro i j o L g1 g2 g3 g4 g5;have hi:i<σs.length:=by rw[<-hjl];exact(List.getElem?_eq_some_iff.1 g1).1
  have g6:=hobj i j g1;rw[g2,List.getElem?_eq_getElem hi]at g6;simp only[Option.map_some,Option.some.injEq]at g6;refine⟨i,σs[i],L,List.getElem?_eq_getElem hi,?_,by rw[hlocs,hR i j g1];exact g4,g5,rfl⟩;rw[<-cJ (rn (js++[n]) σ.length),<-g6];exact g3
 let Xs:Nat->Prop:=fun b=>gq X σ loc b/\¬aS σs locs b
 have hF1:gq Xs σs locs=gq X σ loc:=by
  funext b
  apply propext
  constructor
  ·rintro (⟨h1,_⟩|h1)
   ·exact h1
   ·exact .inr (live2 b h1)
  ·intro h1;by_cases h2:aS σs locs b
   ·exact .inr h2
   ·exact .inl ⟨h1,h2⟩
 have hrs:Rel Xs locs σs w:=by
  refine⟨fun i o g1 g2=>?_,fun i j a b La Lb hij g1 g2 g3 g4 g5 g6 g7 g8=>?_,fun b hb=>⟨?_,hb.2⟩,fun i hi=>?_⟩
  ·have hi:i<js.length:=by rw[hjl];exact(List.getElem?_eq_some_iff.1 g1).1
   have hij:js[i]?=some js[i]:=List.getElem?_eq_getElem hi;have g3:σ[js[i]]?=some (iZ (rn (js++[n]) σ.length) o):=by rw[hobj i _ hij,g1];rfl
   obtain⟨L,g4,g5⟩:=hr.obj js[i] _ g3 (by rw[cJ];exact g2);exact⟨L,by rw[hlocs,hR i _ hij];exact g4,(rT (E':=aR Xs locs σs w) (E:=aR X loc σ w) (r:=rn (js++[n]) σ.length) hlocs rfl hF1 L o).2 g5⟩
  ·have hi:i<js.length:=by rw[hjl];exact(List.getElem?_eq_some_iff.1 g1).1
   have hj:j<js.length:=by rw[hjl];exact(List.getElem?_eq_some_iff.1 g2).1
   have e1:js[i]?=some js[i]:=List.getElem?_eq_getElem hi;have e2:js[j]?=some js[j]:=List.getElem?_eq_getElem hj;rw[hlocs,hR i _ e1]at g5;rw[hlocs,hR j _ e2]at g6;refine hr.apart js[i] js[j] _ _ La Lb (fun e=>hij ((List.getElem_inj hnd).1 e)) (by rw[hobj i _ e1,g1];rfl) (by rw[hobj j _ e2,g2];rfl) (by rw[cJ];exact g3) (by rw[cJ];exact g4) g5 g6 g7 g8
  ·rcases hb.1 with h1|h1
   ·exact(hr.out b h1).1
   ·exact aS.lt hr h1
  ·rw[hlocs]
   rcases Nat.eq_or_lt_of_le (show js.length<=i by omega)with e|e
   ·rw[<-e,hRn];exact hn
   ·rw[hR2 i e];exact hr.beyond _ (by omega)
 have hvs:RlS (aR Xs locs σs w) args vs:=(tY (E':=aR Xs locs σs w) (E:=aR X loc σ w) (r:=rn (js++[n]) σ.length) hlocs rfl hF1 args vs).2 hv;refine(hcall Xs locs w vs hrs hvs).mono fun e w' ⟨v,locs',he,ho,hkeep⟩=>?_
 let loc':Nat->Option Loc:=fun id=>if id=n then locs' js.length else loc id
 have hl1:∀id,id≠n->loc' id=loc id:=fun id hid=>by simp[loc',hid]
 have hl2:loc' n=locs' js.length:=by simp[loc']
 have hlr:∀i,locs' i=loc' (rn (js++[n]) σ.length i):=by
  intro i;by_cases hi:i<js.length
  ·have e1:js[i]?=some js[i]:=List.getElem?_eq_getElem hi;rw[hR i _ e1,hl1 _ (hnj _ (List.getElem_mem hi)),hkeep i (by omega),hlocs,hR i _ e1]
  ·rcases Nat.eq_or_lt_of_le (Nat.le_of_not_lt hi)with e|e
   ·rw[<-e,hRn,hl2]
   ·rw[hR2 i e,hl1 _ (by omega),hr.beyond _ (by omega)];exact ho.rel.beyond _ (by omega)
 have hJl:(js++[n]).length=js.length+1:=by simp
 have hσ1:∀ (i j:Nat) (o:bO),(js++[n])[i]?=some j->σs'[i]?=some o->(aN σ (js++[n]) σs')[j]?=some (iZ (rn (js++[n]) σ.length) o):=by
  intro i j o g1 g2;have hi:i<js.length+1:=by rw[<-hJl];exact(List.getElem?_eq_some_iff.1 g1).1
  unfold aN;rw[List.getElem?_append_left (by rw[eJ];exact hjsJ j (List.mem_of_getElem? g1))];exact nZ (js++[n]) _ σ hndJ hjsJ i j _ g1 (by rw[List.getElem?_map,List.getElem?_take,if_pos (by rw[hJl];exact hi),g2];rfl)
 have hσ2:∀id,id<σ.length->id∉js++[n]->(aN σ (js++[n]) σs')[id]?=σ[id]?:=by
  intro id h1 h2;unfold aN;rw[List.getElem?_append_left (by rw[eJ];exact h1),m9 _ _ _ _ h2]
 have hlen':(aN σ (js++[n]) σs').length=σ.length:=by simp[aN,hlen1]
 -- an object behind the call: one of the callee's, or an old one
 have hRJ:∀i j:Nat,(js++[n])[i]?=some j->rn (js++[n]) σ.length i=j:=fun i j hij=>by simp[rn,List.getD,hij]
 have hcase:∀ (id:Nat) (o:bO),(aN σ (js++[n]) σs')[id]?=some o->(∃ (i:Nat) (o':bO),σs'[i]?=some o'/\o=iZ (rn (js++[n]) σ.length) o'/\loc' id=locs' i/\id=rn (js++[n]) σ.length i)\/(id<σ.length/\id∉js++[n]/\σ[id]?=some o/\loc' id=loc id):=by
  intro id o g1;have hid:id<σ.length:=by rw[<-hlen'];exact(List.getElem?_eq_some_iff.1 g1).1
  by_cases hj:id∈js++[n]
  ·obtain⟨i,hi,e⟩:=List.getElem_of_mem hj;have e1:(js++[n])[i]?=some id:=by rw[List.getElem?_eq_getElem hi,e]
   have hi':i<σs'.length:=by rw[hlen1,<-hJl];exact hi
   have g2:=hσ1 i id σs'[i] e1 (List.getElem?_eq_getElem hi');rw[g1]at g2;exact .inl ⟨i,σs'[i],List.getElem?_eq_getElem hi',Option.some.inj g2,by rw[hlr i,hRJ i _ e1],(hRJ i _ e1).symm⟩
  ·rw[hσ2 id hid hj]at g1;exact .inr ⟨hid,hj,g1,hl1 id fun e=>hj (by simp[e])⟩
 have hback:∀ (i:Nat) (o:bO),σs'[i]?=some o->(aN σ (js++[n]) σs')[rn (js++[n]) σ.length i]?=some (iZ (rn (js++[n]) σ.length) o):=by
  intro i o g1;have hi:i<(js++[n]).length:=by rw[hJl,<-hlen1];exact(List.getElem?_eq_some_iff.1 g1).1
  have e1:(js++[n])[i]?=some (js++[n])[i]:=List.getElem?_eq_getElem hi;rw[hRJ i _ e1];exact hσ1 i _ o e1 g1
 have live4:∀b,aS σs' locs' b->aS (aN σ (js++[n]) σs') loc' b:=by
  rintro b ⟨i,o,L,g1,g2,g3,g4,g5⟩;exact⟨rn (js++[n]) σ.length i,_,L,hback i o g1,by rw[cJ];exact g2,by rw[<-hlr];exact g3,g4,g5⟩
 have live5:∀b,aS (aN σ (js++[n]) σs') loc' b->aS σs' locs' b\/∃ (id:Nat) (o:bO) (L:Loc),id<σ.length/\id∉js++[n]/\σ[id]?=some o/\o.live=true/\loc id=some L/\L.has=true/\L.blk=b:=by
  rintro b ⟨id,o,L,g1,g2,g3,g4,g5⟩;rcases hcase id o g1 with⟨i,o',k1,rfl,k3,_⟩|⟨k1,k2,k3,k4⟩
  ·exact .inl ⟨i,o',L,k1,by rw[cJ]at g2;exact g2,by rw[<-k3];exact g3,g4,g5⟩
  ·exact .inr ⟨id,o,L,k1,k2,k3,g2,by rw[<-k4];exact g3,g4,g5⟩
 have notlive:∀ (id:Nat) (o:bO) (L:Loc),id∉js->σ[id]?=some o->o.live=true->loc id=some L->L.has=true->¬aS σs locs L.blk:=by
  intro id o L h1 h2 h3 h4 h5 h6;obtain⟨i,j,o',L',g1,g2,g3,g4,g5,g6,g7⟩:=live1 _ h6;exact hr.apart j id _ o L' L (by rintro rfl;exact h1 (List.mem_of_getElem? g1)) g4 h2 (by rw[cJ];exact g3) h3 g5 h4 g6 h5 g7
 have hF2:gq Xs σs' locs'=gq X (aN σ (js++[n]) σs') loc':=by
  funext b
  apply propext
  constructor
  ·rintro (⟨h1, h2⟩ | h1)
   ·rcases h1 with h1|⟨id,o,L,g1,g2,g3,g4,g5⟩
    ·exact .inl h1
    ·have hjn:id≠n:=by rintro rfl;rw[hn]at g3;cases g3
     have hj:id∉js++[n]:=by
      intro hj;rcases List.mem_append.1 hj with hj|hj
      ·obtain⟨i,hi,rfl⟩:=List.getElem_of_mem hj;exact h2 (by rw[<-g5];exact live3 i _ o L (List.getElem?_eq_getElem hi) g1 g2 g3 g4)
      ·exact hjn (by simpa using hj)
     have hid:id<σ.length:=(List.getElem?_eq_some_iff.1 g1).1;exact .inr ⟨id,o,L,by rw[hσ2 id hid hj];exact g1,g2,by rw[hl1 id hjn];exact g3,g4,g5⟩
   ·exact .inr (live4 b h1)
  ·rintro (h1|h1)
   ·exact .inl ⟨.inl h1,fun h2=>(hr.out b h1).2 (live2 b h2)⟩
   ·rcases live5 b h1 with h2|⟨id,o,L,k1,k2,k3,k4,k5,k6,rfl⟩
    ·exact .inr h2
    ·exact .inl ⟨.inr ⟨id,o,L,k3,k4,k5,k6,rfl⟩,notlive id o L (fun hh=>k2 (List.mem_append_left _ hh)) k3 k4 k5 k6⟩
 have hold:∀b,aS (aN σ (js++[n]) σs') loc' b->aS σ loc b\/w.heap.size<=b:=by
  intro b hb;rcases live5 b hb with h2|⟨id,o,L,k1,k2,k3,k4,k5,k6,rfl⟩
  ·exact(ho.old b h2).imp (live2 b) id
  ·exact .inl ⟨id,o,L,k3,k4,k5,k6,rfl⟩
 have hev:Ev (aS σ loc) w w':=⟨ho.ev.size,fun b hb hn=>ho.ev.blk b hb fun h1=>hn (live2 b h1),ho.ev.os,ho.ev.tape,ho.ev.output⟩
 have hlocs':∀id L,loc id=some L->loc' id=some L:=by
  intro id L h1;by_cases hid:id=n
  ·subst hid;rw[hn]at h1;cases h1
  ·rw[hl1 id hid];exact h1
 refine⟨v,loc',he,⟨hlocs',?_,?_,hev,hold⟩,hl1⟩
 ·refine hr.change hlocs' hev hold (fun id hid=>?_) (fun id o g1 g2=>?_) (fun i j a b La Lb hij g1 g2 g3 g4 g5 g6 g7 g8=>?_)
  ·rw[hlen']at hid;rw[hl1 id (by omega)];exact hr.beyond _ hid
  ·rcases hcase id o g1 with⟨i,o',k1,rfl,k3,_⟩|⟨k1,k2,k3,k4⟩
   ·obtain⟨L,m1,m2⟩:=ho.rel.obj i o' k1 (by rw[cJ]at g2;exact g2);exact .inr ⟨L,by rw[k3];exact m1,(rT (E':=aR Xs locs' σs' w') (E:=aR X loc' (aN σ (js++[n]) σs') w') (r:=rn (js++[n]) σ.length) hlr rfl hF2 L o').1 m2⟩
   ·refine .inl ⟨k3,fun L m1 m2=>ho.ev.blk _ (aS.lt hr ⟨id,o,L,k3,g2,m1,m2,rfl⟩) (notlive id o L (fun hh=>k2 (List.mem_append_left _ hh)) k3 g2 m1 m2)⟩
  ·rcases hcase i a g1 with⟨i',a',k1,rfl,k3,k4⟩|⟨k1,k2,k3,k4⟩<;>rcases hcase j b g2 with⟨j',b',q1,rfl,q3,q4⟩|⟨q1,q2,q3,q4⟩
   ·rw[cJ]at g3 g4;exact ho.rel.apart i' j' a' b' La Lb (by rintro rfl;exact hij (k4.trans q4.symm)) k1 q1 g3 g4 (by rw[<-k3];exact g5) (by rw[<-q3];exact g6) g7 g8
   ·rw[cJ]at g3;rw[q4]at g6;intro e1;rcases ho.old La.blk ⟨i',a',La,k1,g3,by rw[<-k3];exact g5,g7,rfl⟩with h1|h1
    ·exact notlive j b Lb (fun hh=>q2 (List.mem_append_left _ hh)) q3 g4 g6 g8 (by rw[<-e1];exact h1)
    ·have:=aS.lt hr ⟨j,b,Lb,q3,g4,g6,g8,rfl⟩;omega
   ·rw[cJ]at g4;rw[k4]at g5;intro e1;rcases ho.old Lb.blk ⟨j',b',Lb,q1,g4,by rw[<-q3];exact g6,g8,rfl⟩with h1|h1
    ·exact notlive i a La (fun hh=>k2 (List.mem_append_left _ hh)) k3 g3 g5 g7 (by rw[e1];exact h1)
    ·have:=aS.lt hr ⟨i,a,La,k3,g3,g5,g7,rfl⟩;omega
   ·rw[k4]at g5;rw[q4]at g6;exact hr.apart i j a b La Lb hij k3 q3 g3 g4 g5 g6 g7 g8
 ·exact(DF (E':=aR Xs locs' σs' w') (E:=aR X loc' (aN σ (js++[n]) σs') w') (r:=rn (js++[n]) σ.length) hlr rfl hF2 r v).1 ho.val
end
inductive ab where
 |skip
 |reg (ops:List cI)
 |dreg (ops:List (cI×Nat))
 |seq (a b:ab)
 |cond (c:Opd) (a b:ab)
 |block (id:Nat) (b:ab)
 |loop (b:ab)
 |exit (id:Nat)
 |ret
def Xi(nt:Nat):Option Nat->Bool
 |some d=>decide (d<nt)
 |none=>true
def oN(fx:Bool)(P:Program)(nt:Nat)(ops:List Oper)(o:Oper):Option cI:=
 match SH fx P o.op,Xi nt o.dst,o.guard with
 |some op,true,none=>some ⟨o.dst,op,none⟩
 | some op, true, some (j, want) => match (ops[j]?).bind (·.dst) with
   |some t=>some ⟨o.dst,op,some (t,want)⟩
   |none=>none
 |_,_,_=>none
theorem iF{fx:Bool}{P:Program}{nt:Nat}{all:List Oper}{o:Oper}{ao:cI}(hc:oN fx P nt all o=some ao):SH fx P o.op=some ao.op/\ao.dst=o.dst/\(∀t,o.dst=some t->t<nt)/\
 ((o.guard=none/\ao.gd=none)\/∃j want t,o.guard=some (j,want)/\(all[j]?).bind (·.dst)=some t/\ao.gd=some (t,want)):=by
 have hd:Xi nt o.dst=true->∀t,o.dst=some t->t<nt:=by
  intro h t ht;rw[ht]at h;simpa[Xi]using h
 unfold oN at hc;split at hc
 ·rename_i op h1 h2 h3;simp only[Option.some.injEq]at hc;subst hc;exact⟨h1,rfl,hd h2,.inl ⟨h3,rfl⟩⟩
 ·rename_i op j want h1 h2 h3
  split at hc
  ·rename_i t ht;simp only[Option.some.injEq]at hc;subst hc;exact⟨h1,rfl,hd h2,.inr ⟨j,want,t,h3,ht,rfl⟩⟩
  ·cases hc
 ·cases hc
def ko(fx:Bool)(P:Program)(nt:Nat)(all:List Oper):List Oper->Option (List cI)
 | []=>some []
 | o :: r => match oN fx P nt all o, ko fx P nt all r with
   |some a,some b=>some (a::b)
   |_,_=>none
def AOp.opds:AOp->List Opd
 |.mv x|.un _ x|.cvt _ x|.b2s x|.nilc x|.fld _ _ _ x|.fldA _ x|.ld _ _ x|.box _ x|.ext _ x|.len _ x|.cap x|.isn _ x|.nxt x|.clr _ _ x|.cpq x=>[x]
 |.pick c a b=>[c,a,b]
 |.bin _ x y|.eqv _ _ x y|.eqa _ _ x y|.idx _ _ _ x y|.idxA _ _ x y|.idxS _ x y|.sto _ x y|.mk _ _ _ x y|.app _ _ x y|.cpy _ x y|.apx _ _ x y|.apm _ _ _ x y|.cpx _ x y|.ovl _ x y|.cmb x y=>[x,y]
 |.new _=>[]
 |.bld _ ps=>ps.map (·.2.2)
 |.bldS _ _ _ ps=>ps.map (·.2)
 |.sli _ x lo hi m' | .slx _ x lo hi m'=>x::(lo.toList++hi.toList++m'.toList)
 |.sliA _ _ x lo hi=>x::(lo.toList++hi.toList)
 |.mn xs|.mx xs=>xs
 |.mkf _ xs|.mop _ xs=>xs
 |.call g xs=>g::xs
def cI.looks(o:cI):List Nat:=(o.op.opds.filterMap fun|.t n=>some n|.c _=>none)++(match o.gd with|some (t,_)=>[t]|none=>[])
def qy(x y:cI):Bool:=
 (match x.dst with
  |some d=>!y.looks.contains d&&y.dst != some d
  |none=>true) &&
 (match y.dst with
  |some d=>!x.looks.contains d&&x.dst != some d
  |none=>true)
def oU(o:Oper):List Nat:=(o.after.toList.filter (Region.binds .any)).map (·.on)
def KF:List Oper->List Nat->List Nat
 | [],acc=>acc
 |o::r,acc=>KF r (acc++[(oU o).foldl (fun s e=>s ||| 2 ^ e ||| acc.getD e 0) 0])
def pF(n:Nat)(f:Nat->Bool):Bool:=(List.range n).all f
def QE(ops:List Oper)(als:List cI)(bf:List Nat):Bool:=
 bf.length==ops.length&&als.length==ops.length &&
 (pF ops.length fun j=>(oU (ops.getD j default)).all fun e=>decide (e<j)) &&
 (pF ops.length fun j=>pF ops.length fun i=>!(bf.getD j 0).testBit i || (oU (ops.getD j default)).any fun e=>e==i || (bf.getD e 0).testBit i) &&
 (pF ops.length fun j=>pF j fun i=>(bf.getD j 0).testBit i || qy (als.getD i default) (als.getD j default))
def kj(fx:Bool)(P:Program)(nt:Nat):Code->Option ab
 |.skip=>some .skip
 | .region _ ops draw => match ko fx P nt ops.toList ops.toList with
   |some l=>if draw then (if QE ops.toList l (KF ops.toList [])=true/\P.follows .mixedOrders=true then some (.dreg (l.zip (KF ops.toList [])))else none)else some (.reg l)
   |none=>none
 | .seq a b => match kj fx P nt a, kj fx P nt b with
   |some x,some y=>some (.seq x y)
   |_,_=>none
 | .cond c a b => match az c, kj fx P nt a, kj fx P nt b with
   |some c,some x,some y=>some (.cond c x y)
   |_,_,_=>none
 |.block id b=>(kj fx P nt b).map (.block id)
 |.loop b=>(kj fx P nt b).map .loop
 |.exit id=>some (.exit id)
 |.ret=>some .ret
 |_=>none
inductive Ex where
 |normal
 |exit (id:Nat)
 |ret
def Ex.to:Ex->Exit
 |.normal=>.normal
 |.exit id=>.exit id
 |.ret=>.ret
def jd(P:Program)(g:AV)(xs:List AV)(σ:St)(K:AV->St->Prop):Prop:=match g with
 |.fn (.func f) caps=>∃ (args:List AV) (σs:St) (r:AV) (σs':St) (js:List Nat),aI P f args σs r σs'/\xs++caps=dP (rn js σ.length) args/\bx σ js σs/\K (ren (rn js σ.length) r) (aN σ js σs')
 |_=>False
def oS(neg:Bool)(x:AV)(σ:St)(K:AV->St->Prop):Prop:=match x with
 |.sl _ _ xs=>∀b:Bool,(b=true->xs=[])->K (.bool (b != neg)) σ
 |.hs _ _ _ len=>∀b:Bool,(b=true->len=0)->K (.bool (b != neg)) σ
 |_=>False
def aDo(P:Program)(op:AOp)(fr:Fr)(σ:St)(K:AV->St->Prop):Prop:=match op with
 |.call g xs=>jd P (g.ev fr) (xs.map (Opd.ev fr)) σ K
 |.isn neg x=>oS neg (x.ev fr) σ K
 |.nxt x=>qQ (x.ev fr) σ K
 |op=>if op.allocs then opF σ.length (σ++[.gone]) (Opd.ev fr) (fun av _ _ σ'=>K av σ') op else opF 0 σ (Opd.ev fr) (fun av _ _ σ'=>K av σ') op
def aGd(gd:Option (Nat×Bool))(fr:Fr)(yes no:Fr->Prop):Prop:=match gd with
 |none=>yes fr
 | some (t, want) => match fr.get t with
   |.bool b=>(b=want->yes (fr.put t (.bool want)))/\(b=!want->no (fr.put t (.bool !want)))
   |.tup []=>no fr
   |_=>False
def rG(P:Program):List cI->(Fr->St->Prop)->Fr->St->Prop
 | [],Q,fr,σ=>Q fr σ
 |o::r,Q,fr,σ=>aGd o.gd fr (fun fr=>aDo P o.op fr σ fun av σ'=>rG P r Q (fr.putO o.dst av) σ') (fun fr=>rG P r Q (fr.putO o.dst (.tup [])) σ)
section
variable{P:Program}{C:Cx}{nt k:Nat}{fr:Fr}{σ:St}{loc:Nat->Option Loc}{a:Act}{w:World}
theorem SR.pad(h:SR C nt k fr σ loc a w)(l:Nat):SR C nt k fr (σ++List.replicate l .gone) loc a w:=by
 have hl:∀b,aS (σ++List.replicate l .gone) loc b↔aS σ loc b:=by
  intro b;constructor
  ·rintro⟨id,o,L,g1,g2,g3⟩
   rcases Nat.lt_or_ge id σ.length with h1|h1
   ·rw[List.getElem?_append_left h1]at g1;exact⟨id,o,L,g1,g2,g3⟩
   ·rw[List.getElem?_append_right h1]at g1;have:=List.mem_of_getElem? g1;rw[(List.mem_replicate.1 this).2]at g2;cases g2
  ·rintro⟨id,o,L,g1,g2,g3⟩;exact⟨id,o,L,by rw[List.getElem?_append_left (List.getElem?_eq_some_iff.1 g1).1];exact g1,g2,g3⟩
 have hF:gq C.X (σ++List.replicate l .gone) loc=gq C.X σ loc:=by funext b;unfold gq;rw[hl b]
 have hget:∀ (id:Nat) (o:bO),(σ++List.replicate l .gone)[id]?=some o->o.live=true->σ[id]?=some o:=by
  intro id o g1 g2;rcases Nat.lt_or_ge id σ.length with h1|h1
  ·rw[List.getElem?_append_left h1]at g1;exact g1
  ·rw[List.getElem?_append_right h1]at g1;rw[(List.mem_replicate.1 (List.mem_of_getElem? g1)).2]at g2;cases g2
 refine⟨⟨fun id o g1 g2=>?_,fun i j x y La Lb hij g1 g2 g3 g4=>h.rel.apart i j x y La Lb hij (hget i x g1 g3) (hget j y g2 g4) g3 g4,fun b hb=>?_,fun id hid=>?_⟩,fun t=>?_,h.size,h.dfr,h.ev,fun b hb=>h.old b ((hl b).1 hb),h.pre,by simp;have:=h.klen;omega⟩
 ·obtain⟨L,m1,m2⟩:=h.rel.obj id o (hget id o g1 g2) g2;refine⟨L,m1,?_⟩;show gw ⟨loc,gq C.X (σ++List.replicate l .gone) loc,w⟩ L o
  rw[hF];exact m2
 ·rw[hl b];exact h.rel.out b hb
 ·exact h.rel.beyond id (by simp at hid;omega)
 ·show Rl ⟨loc,gq C.X (σ++List.replicate l .gone) loc,w⟩ _ _
  rw[hF];exact h.frm t
theorem SR.opd(h:SR C nt k fr σ loc a w):lw (aR C.X loc σ w) a.eval (Opd.ev fr):=fun x y hx=>K0 h.frm hx
theorem SR.putSame(h:SR C nt k fr σ loc a w)(t:Nat)(v:AV)(hv:Rl (aR C.X loc σ w) v (a.tmps.getD t undef)):SR C nt k (fr.put t v) σ loc a w:=
 ⟨h.rel,fun u=>by
  by_cases htu:t=u
  ·subst htu;rcases Fr.get_put_same fr t v with h1|h1
   ·rw[h1];exact hv
   ·rw[h1];trivial
  ·rw[Fr.get_put_ne fr v htu];exact h.frm u,h.size,h.dfr,h.ev,h.old,h.pre,h.klen⟩
theorem SR.skip(h:SR C nt k fr σ loc a w)(dst:Option Nat)(hd:∀t,dst=some t->t<nt):SR C nt k (fr.putO dst (.tup [])) σ loc (a.put dst undef) w:=
 h.step (loc':=loc) (show Out C.X loc σ w (.tup []) σ undef w loc from ⟨fun _ _ h=>h,h.rel,⟨[],rfl,rfl⟩,Ev.refl _ _,fun _ h=>.inl h⟩) (fun _ _=>rfl) (Nat.le_refl _) dst hd
theorem BZ{ρ:Operand->Value}{c:Operand}{xs:Array Operand}{ats:Array TypeId}{ty:TypeId}{f:FuncId}{caps:Array Value}(hc:ρ c=.func (.func f) #[] caps)(hf:pX P f=true)(dst:Option Tmp)(pos:String)(aft:Array Edge)(gd:Option (Nat×Bool)):
 (execOp ρ ⟨dst,.call { callee:=.value c,args:=xs,argTypes:=ats },ty,pos,aft,gd⟩).run P w=.ok (.enter f (xs.map ρ++caps)) w:=by
 unfold pX at hf;split at hf
 ·rename_i fn hfn
  rw[Bool.and_eq_true]at hf;obtain⟨h1,h2⟩:=hf
  have h1' : (fn.name == "runtime.NumGoroutine") = false := by
   simpa using h1
  have h3:fn.body.isNone=false:=by
   cases hb:fn.body with
   |none=>rw[hb]at h2;cases h2
   |some b=>rfl
  have e:execOp ρ ⟨dst,.call { callee:=.value c,args:=xs,argTypes:=ats },ty,pos,aft,gd⟩=(do let d <-resolve ρ { callee:=.value c,args:=xs,argTypes:=ats } ty;invoke d.target d.args:Sem Next):=rfl;rw[e]
  have hne : ¬ fn.name = "runtime.NumGoroutine" := by simpa using h1'
  simp only[resolve,hc,Deferred.ofValue,invoke,callFunc,Sem.run_bind,Sem.run_pure,Result.andThen_ok,run_program,hfn];simp[hne,h3]
 ·cases hf
theorem BM{op:Op}{g:Opd}{xs:List Opd}(h:kl P op=some (.call g xs)):∃c,op=.call c:=by
 cases op<;>simp only[kl,reduceCtorEq]at h
 case call c=>exact⟨c,rfl⟩
 case build t ps=>
  exfalso
  split at h
  ·obtain⟨_,_,h⟩:=Option.bind_eq_some_iff.1 h;split at h<;>simp at h
  ·obtain⟨_,_,h⟩:=Option.bind_eq_some_iff.1 h;obtain⟨_,_,h⟩:=Option.map_eq_some_iff.1 h;cases h
  ·cases h
 all_goals(exfalso;revert h;repeat' split)
 all_goals simp
theorem Qs{op:Op}{neg:Bool}{a:Opd}(h:kl P op=some (.isn neg a)):∃t e x yt,op=.binOp (if neg then .neq else .eql) t x (.const (.slice none 0 0)) yt/\P.underlying t=some (.slice e)/\az x=some a:=by
 cases op<;>simp only[kl]at h
 case binOp op t x y yt=>
  split at h
  ·rename_i a' b' h1 h2
   split at h
   case h_8 hu=>
    split at h
    ·cases op<;>first|(cases h;done)|(simp only[Option.some.injEq,AOp.isn.injEq]at h;obtain⟨rfl,rfl⟩:=h;exact⟨t,_,x,yt,rfl,hu,h1⟩)
    ·cases h
   all_goals(exfalso;revert h;(repeat' split)<;>intro h<;>cases h)
  ·cases h
 case call c=>
  exfalso
  revert h;unfold ig;(repeat' split)<;>intro h<;>first|(cases h;done)|(obtain⟨_,_,h⟩:=Option.map_eq_some_iff.1 h;cases h;done)
 all_goals(exfalso;revert h;(repeat' split)<;>intro h<;>first|(cases h;done)|(obtain⟨_,_,h⟩:=Option.map_eq_some_iff.1 h;cases h;done)|(obtain⟨_,_,h⟩:=Option.bind_eq_some_iff.1 h;revert h;(repeat' split)<;>intro h<;>first|(cases h;done)|(obtain⟨_,_,h⟩:=Option.map_eq_some_iff.1 h;cases h;done)))
theorem Qt{op:Op}{a:Opd}(h:kl P op=some (.nxt a)):∃x,op=.next x false/\az x=some a:=by
 cases op<;>simp only[kl]at h
 case next it st=>
  cases st with
  |true=>simp at h
  | false =>
    simp only[Bool.false_eq_true,if_false]at h;obtain⟨b,h1,h2⟩:=Option.map_eq_some_iff.1 h;simp only[AOp.nxt.injEq]at h2;subst h2;exact⟨it,rfl,h1⟩
 case call c=>
  exfalso
  revert h;unfold ig;(repeat' split)<;>intro h<;>first|(cases h;done)|(obtain⟨_,_,h⟩:=Option.map_eq_some_iff.1 h;cases h;done)
 all_goals(exfalso;revert h;(repeat' split)<;>intro h<;>first|(cases h;done)|(obtain⟨_,_,h⟩:=Option.map_eq_some_iff.1 h;cases h;done)|(obtain⟨_,_,h⟩:=Option.bind_eq_some_iff.1 h;revert h;(repeat' split)<;>intro h<;>first|(cases h;done)|(obtain⟨_,_,h⟩:=Option.map_eq_some_iff.1 h;cases h;done)))
theorem aay{X:Nat->Prop}{n:Nat}{ρ:Operand->Value}{ρ':Opd->AV}{o:Oper}{neg:Bool}{x:Opd}{K:AV->St->Prop}(hr:Rel X loc σ w)(hρ:lw (aR X loc σ w) ρ ρ')(hnc:∀v,ρ (.const v)=v)(hc:kl P o.op=some (.isn neg x))(h:oS neg (ρ' x) σ K):
 Snd X loc σ w n ((execOp ρ o).run P w) (fun av _ _ σ'=>K av σ'):=by
 obtain⟨t,e,y,yt,ho,hu,hy⟩:=Qs hc;have hv:=hρ y x hy;have hn:=hnc (.slice none 0 0)
 have key:∀ (a:Option Addr) (l c:Nat),ρ y=.slice a l c->(execOp ρ o).run P w=.ok (.value (.bool (a.isNone != neg))) w:=by
  intro a l c hyv;have h1:=Go.run_eql_slice_nil (P:=P) w t e a l c hu;have h2:=Go.run_neq_slice_nil (P:=P) w t e a l c hu;cases neg<;>simp[execOp,ho,hyv,hn,eqGuard,h1,h2]
 unfold oS at h;split at h
 ·rename_i e' cl xs hx;rw[hx]at hv;obtain⟨a,l,c,g1,g2,g3,_,_,g5,_⟩:=hv;refine Snd.of (ft:=[]) (wr:=false) hr (h a.isNone fun hb=>?_) (key a l c g1) rfl;have:a=none:=by simpa using hb
  have:=g5 this;exact List.eq_nil_of_length_eq_zero (by omega)
 ·rename_i e' id off len hx;rw[hx]at hv;obtain⟨a,c,L,g1,g2,g3,g5,_⟩:=hv;refine Snd.of (ft:=[]) (wr:=false) hr (h a.isNone fun hb=>?_) (key a len c g1) rfl;have:a=none:=by simpa using hb
  have:=g5 this;omega
 ·exact h.elim
theorem ab0{fx:Bool}{Q:Exit->Act->World->Prop}{o:Oper}{ao:cI}{all:List Oper}(hc:oN fx P nt all o=some ao){next:Fr->St->Prop}(K:Act->World->Prop)
 (hK:∀fr' σ' loc' a' w',next fr' σ'->SR C nt k fr' σ' loc' a' w'->K a' w') (h:SR C nt k fr σ loc a w) (hop:aDo P ao.op fr σ fun av σ'=>next (fr.putO ao.dst av) σ'):o.wp P a w K Q:=by
 have hs:=iF hc;have hop':=hs.1;have e2:=hs.2.1;have hd:=hs.2.2.1;clear hs hc;rw[e2]at hop
 -- a call
 by_cases hcall:∃g xs,ao.op=.call g xs
 ·obtain ⟨g, xs, hg⟩ := hcall
  rw[hg]at hop hop';simp only[aDo]at hop;obtain⟨dst,op0,ty,pos,aft,gd⟩:=o;simp only at hop' hd hop;have hop':=uc hop' (.inl ⟨_,_,rfl⟩);obtain⟨c,rfl⟩:=BM hop';simp only[kl]at hop';obtain⟨callee,args,ats⟩:=c;unfold ig at hop';split at hop'
  ·rename_i f hcf
   simp only at hcf;subst hcf;split at hop'
   ·rename_i g' ys h1 h2
    simp only[Option.some.injEq,AOp.call.injEq]at hop';obtain⟨rfl,rfl⟩:=hop';unfold jd at hop;split at hop
    ·rename_i f' caps hcaps
     obtain⟨args',σs,r,σs',js,k1,k2,k3,k4⟩:=hop;have hv:=h.opd f g' h1;rw[hcaps]at hv;obtain⟨cvs,hv1,hv2⟩:=hv;have hxs:=gH h.opd h2;have hall:=hxs.app hv2;rw[k2]at hall;have hrun:=BZ (P:=P) (w:=w) (xs:=args) (ats:=ats) (ty:=ty) hv1 k1.1 dst pos aft gd;unfold Oper.wp;rw[hrun,Oper.upon_enter];have hfr:=aI.frame k1 h.rel k3 hall
     have e3:(args.map a.eval++cvs.toArray)=(List.map a.eval args.toList++cvs).toArray:=by
      apply Array.toList_inj.1
      simp
     rw[e3];refine hfr.mono fun e w' ⟨v,loc',he,ho,hk⟩=>?_
     subst he;refine hK _ _ loc' _ _ k4 (h.step ho (fun id hid=>hk id (Nat.lt_of_lt_of_le hid h.klen)) ?_ dst hd);unfold aN;simp
    ·exact hop.elim
   ·cases hop'
  ·exfalso
   revert hop';repeat' split
   all_goals simp
  ·cases hop'
 ·by_cases hisn:∃neg x,ao.op=.isn neg x
  ·obtain⟨neg,x,hg⟩:=hisn;rw[hg]at hop hop';simp only[aDo]at hop;obtain⟨av,ft,wr,σ',v,w',loc',k1,k2,k3,k4,k5⟩:=aay (n:=σ.length) h.rel h.opd (fun _=>rfl) (uc hop' (.inr (.inl ⟨_,_,rfl⟩))) hop;have h2:=h.step k3 (fun id hid=>k4 id fun e=>by have:=h.klen;omega) (by omega) o.dst hd;unfold Oper.wp;rcases k2 with k2|⟨k2,rfl⟩
   ·rw[k2];exact hK _ _ _ _ _ k1 h2
   ·rw[k2];exact hK _ _ _ _ _ k1 h2
  by_cases hnx:∃x,ao.op=.nxt x
  ·obtain⟨x,hg⟩:=hnx;rw[hg]at hop hop';simp only[aDo]at hop;obtain⟨y,ho,hy⟩:=Qt (uc hop' (.inr (.inr ⟨_,rfl⟩)));obtain⟨av,ft,wr,σ',v,w',loc',k1,k2,k3,k4,k5⟩:=aaD (n:=σ.length) h.rel h.opd ho hy hop;have h2:=h.step k3 (fun id hid=>k4 id fun e=>by have:=h.klen;omega) (by omega) o.dst hd;unfold Oper.wp;rcases k2 with k2|⟨k2,rfl⟩
   ·rw[k2];exact hK _ _ _ _ _ k1 h2
   ·rw[k2];exact hK _ _ _ _ _ k1 h2
  have hop2:if ao.op.allocs then opF σ.length (σ++[.gone]) (Opd.ev fr) (fun av _ _ σ'=>next (fr.putO o.dst av) σ') ao.op else opF 0 σ (Opd.ev fr) (fun av _ _ σ'=>next (fr.putO o.dst av) σ') ao.op:=by
   unfold aDo at hop;split at hop
   ·rename_i g xs hg;exact absurd ⟨g,xs,hg⟩ hcall
   ·rename_i neg x hg;exact absurd ⟨neg,x,hg⟩ hisn
   ·rename_i x hg;exact absurd ⟨x,hg⟩ hnx
   ·exact hop
  clear hop
  have fin:∀ {σ1:St} {n:Nat},SR C nt k fr σ1 loc a w->k<=n\/ao.op.allocs=false->σ.length<=σ1.length->Snd C.X loc σ1 w n ((execOp a.eval o).run P w) (fun av _ _ σ'=>next (fr.putO o.dst av) σ')->(∀id,id<k->id=n->False)->o.wp P a w K Q:=by
   intro σ1 n h1 _ hl ⟨av,ft,wr,σ',v,w',loc',k1,k2,k3,k4,k5⟩ hkn;have h2:=h1.step k3 (fun id hid=>k4 id fun e=>hkn id hid e) (by omega) o.dst hd;unfold Oper.wp;rcases k2 with k2|⟨k2,rfl⟩
   ·rw[k2];exact hK _ _ _ _ _ k1 h2
   ·rw[k2];exact hK _ _ _ _ _ k1 h2
  by_cases hal:ao.op.allocs=true
  ·rw[if_pos hal]at hop2
   have h1:=h.pad 1;have hgone:(σ++[bO.gone])[σ.length]?=some .gone:=by simp
   refine fin h1 (.inl h.klen) (by simp) (ul h1.rel h1.opd (fun _=>rfl) hop' (fun _=>⟨by simp,h.rel.beyond _ (Nat.le_refl _),fun o' ho'=>?_⟩) hop2) fun id hid e=>?_
   ·have:=hgone.symm.trans ho';cases this;rfl
   ·have:=h.klen;omega
  ·rw[if_neg hal]at hop2
   have hsnd:=ul (n:=σ.length) h.rel h.opd (fun _=>rfl) hop' (fun h'=>absurd h' hal) (show opF σ.length σ (Opd.ev fr) (fun av _ _ σ'=>next (fr.putO o.dst av) σ') ao.op from by
    exact S8 (by simpa using hal) hop2)
   exact fin h (.inr (by simpa using hal)) (Nat.le_refl _) hsnd fun id hid e=>by have:=h.klen;omega
theorem WF{fx:Bool}{all:List Oper}{o:Oper}{ao:cI}(hc:oN fx P nt all o=some ao){yes no:Fr->Prop}(h:SR C nt k fr σ loc a w)(hg:aGd ao.gd fr yes no):
 ∃fr',SR C nt k fr' σ loc a w/\((Region.wanted o (yielded all.toArray a.tmps)=true/\yes fr')\/(Region.wanted o (yielded all.toArray a.tmps)=false/\no fr')):=by
 rcases (iF hc).2.2.2 with⟨h1,h2⟩|⟨j,want,t,h1,h2,h3⟩
 ·rw[h2]at hg;exact⟨fr,h,.inl ⟨by simp[Region.wanted,h1],hg⟩⟩
 ·rw [h3] at hg
  simp only[aGd]at hg
  have hy:yielded all.toArray a.tmps j=match a.tmps[t]? with|some (.bool b)=>some b|_=>none:=by
   have:((all.toArray[j]?).bind (·.dst))=some t:=by simpa using h2
   unfold yielded;rw[this];simp only[Option.bind_some];cases a.tmps[t]? with
   |none=>rfl
   |some v=>cases v<;>rfl
  have hslot:=h.frm t;split at hg
  ·rename_i b hb
   rw[hb]at hslot;simp only[Rl]at hslot
   have ht:a.tmps[t]?=some (.bool b):=by
    rw[Array.getD_eq_getD_getElem?]at hslot;cases hq:a.tmps[t]? with
    |none=>rw[hq]at hslot;simp[undef]at hslot
    |some v=>rw[hq]at hslot;simp at hslot;rw[hslot]
   by_cases hbw:b=want
   ·subst hbw;exact⟨_,h.putSame t (.bool b) hslot,.inl ⟨by simp[Region.wanted,h1,hy,ht],hg.1 rfl⟩⟩
   ·have hbn:b=!want:=by cases b<;>cases want<;>simp_all
    exact⟨_,h.putSame t (.bool !want) (by rw[<-hbn];exact hslot),.inr ⟨by simp[Region.wanted,h1,hy,ht,hbw],hg.2 hbn⟩⟩
  ·rename_i hb
   rw[hb]at hslot;obtain⟨vs,hv1,hv2⟩:=hslot;simp only[RlS]at hv2;subst hv2;refine⟨fr,h,.inr ⟨?_,hg⟩⟩
   have:yielded all.toArray a.tmps j=none:=by
    rw[hy];rw[Array.getD_eq_getD_getElem?]at hv1;cases hq:a.tmps[t]? with
    |none=>rfl
    |some v=>rw[hq]at hv1;simp at hv1;rw[hv1]
   simp[Region.wanted,h1,this]
  ·exact hg.elim
end
section
variable{P:Program}{C:Cx}{nt k:Nat}{fr:Fr}{σ:St}{loc:Nat->Option Loc}{a:Act}{w:World}
theorem FZ{fx:Bool}{all:List Oper}{Q:Exit->Act->World->Prop}{Q':Fr->St->Prop}(hQ:∀fr' σ' loc' a' w',Q' fr' σ'->SR C nt k fr' σ' loc' a' w'->Q .normal a' w'):
 ∀ (l:List Oper) (al:List cI) (fr:Fr) (σ:St) (loc:Nat->Option Loc) (a:Act) (w:World),ko fx P nt all l=some al->SR C nt k fr σ loc a w->rG P al Q' fr σ->wpList P all.toArray Q l a w
 | [], al, fr, σ, loc, a, w, hc, h, hr => by
   simp only[ko,Option.some.injEq]at hc;subst hc;exact hQ _ _ _ _ _ hr h
 | o :: l, al, fr, σ, loc, a, w, hc, h, hr => by
   simp only[ko]at hc;split at hc
   ·rename_i ao r h1 h2
    simp only[Option.some.injEq]at hc;subst hc;simp only[rG]at hr;obtain⟨fr',hs,hw|hw⟩:=WF h1 h hr
    ·simp only[wpList,hw.1,if_true];refine .inl (ab0 h1 _ (fun fr' σ' loc' a' w' k1 k2=>FZ hQ l r fr' σ' loc' a' w' h2 k2 k1) hs hw.2)
    ·simp only[wpList,hw.1,Bool.false_eq_true,if_false];have hd:=iF h1;have:=hs.skip o.dst hd.2.2.1;rw[hd.2.1]at hw;exact FZ hQ l r _ _ _ _ _ h2 this hw.2
   ·cases hc
theorem Sw{c:Code}{Q:Exit->Act->World->Prop}(I:Nat->Act->World->Prop)(m:Nat)(h₀:I m a w)
 (round:∀m a w,I m a w->c.wp P (Exit.then (fun a' w'=>∃m',m'<m/\I m' a' w') Q) a w):(Code.loop c).wp P Q a w:=by
 intro b k cs
 have key:∀n a w,I n a w->∃e a' w',Q e a' w'/\Arrives P (lone (b.at a (.code c::.inLoop c::k)) cs w) b k cs e a' w':=by
  intro n;induction n using Nat.strongRecOn with
  | _ n ih =>
    intro a w hI;obtain⟨e,a₁,w₁,hq,harr⟩:=round n a w hI b (.inLoop c::k) cs;cases e with
    | normal =>
      obtain⟨m',hlt,hI₁⟩:=hq;obtain⟨e₂,a₂,w₂,hq₂,harr₂⟩:=ih m' hlt a₁ w₁ hI₁;exact⟨e₂,a₂,w₂,hq₂,.of_steps (Steps.trans harr (.one step_inLoop)) harr₂⟩
    |exit id=>exact⟨_,a₁,w₁,hq,.pass (x:=.inLoop c) rfl (fun _ _=>.inl (by simp)) harr⟩
    |goto l=>exact⟨_,a₁,w₁,hq,.pass (x:=.inLoop c) rfl (fun _ _=>.inl (by simp)) harr⟩
    |ret=>exact⟨_,a₁,w₁,hq,.pass (x:=.inLoop c) rfl (fun _ _=>.inl (by simp)) harr⟩
    |panic ch=>exact⟨_,a₁,w₁,hq,.pass (x:=.inLoop c) rfl (fun _ _=>.inl (by simp)) harr⟩
    |outgrown=>exact⟨_,a₁,w₁,hq,.pass (x:=.inLoop c) rfl (fun _ _=>.inl (by simp)) harr⟩
 obtain⟨e,a',w',hq,harr⟩:=key m a w h₀;exact⟨e,a',w',hq,.of_steps (.one step_loop) harr⟩
def Tri(P:Program)(nt k:Nat)(c:ab)(Q:Ex->Fr->St->Prop)(fr:Fr)(σ:St):Prop:=
 ∀ (fx : Bool) (code : Code), kj fx P nt code = some c -> ∀ (C : Cx) (loc : Nat -> Option Loc) (a : Act) (w : World), SR C nt k fr σ loc a w ->
   code.wp P (fun ex a' w'=>∃e fr' σ' loc',ex=Ex.to e/\Q e fr' σ'/\SR C nt k fr' σ' loc' a' w') a w
theorem Tri.mono{c:ab}{Q Q':Ex->Fr->St->Prop}(h:Tri P nt k c Q fr σ)(hq:∀e fr σ,Q e fr σ->Q' e fr σ):Tri P nt k c Q' fr σ:=
 fun fx code hc C loc a w hs=>wp_mono (h fx code hc C loc a w hs) fun ex a' w' ⟨e,fr',σ',loc',h1,h2,h3⟩=>⟨e,fr',σ',loc',h1,hq _ _ _ h2,h3⟩
def jt(next:Fr->St->Prop)(Q:Ex->Fr->St->Prop):Ex->Fr->St->Prop
 |.normal,fr,σ=>next fr σ
 |e,fr,σ=>Q e fr σ
def lT(id:Nat)(Q:Ex->Fr->St->Prop):Ex->Fr->St->Prop
 |.exit i,fr,σ=>if i=id then Q .normal fr σ else Q (.exit i) fr σ
 |e,fr,σ=>Q e fr σ
theorem ma{Q:Ex->Fr->St->Prop}(h:Q .normal fr σ):Tri P nt k .skip Q fr σ:=by
 intro fx code hc C loc a w hs;cases code<;>simp only[kj,reduceCtorEq]at hc
 case skip=>exact wp_skip ⟨.normal,fr,σ,loc,rfl,h,hs⟩
 all_goals(exfalso;revert hc;(repeat' split)<;>intro hc<;>first|(cases hc;done)|(obtain⟨_,_,hc⟩:=Option.map_eq_some_iff.1 hc;cases hc;done))
theorem kE{id:Nat}{Q:Ex->Fr->St->Prop}(h:Q (.exit id) fr σ):Tri P nt k (.exit id) Q fr σ:=by
 intro fx code hc C loc a w hs;cases code<;>simp only[kj,reduceCtorEq]at hc
 case exit i=>simp only[Option.some.injEq,ab.exit.injEq]at hc;subst hc;exact wp_exit ⟨.exit i,fr,σ,loc,rfl,h,hs⟩
 all_goals(exfalso;revert hc;(repeat' split)<;>intro hc<;>first|(cases hc;done)|(obtain⟨_,_,hc⟩:=Option.map_eq_some_iff.1 hc;cases hc;done))
theorem o6{Q:Ex->Fr->St->Prop}(h:Q .ret fr σ):Tri P nt k .ret Q fr σ:=by
 intro fx code hc C loc a w hs;cases code<;>simp only[kj,reduceCtorEq]at hc
 case ret=>exact wp_ret ⟨.ret,fr,σ,loc,rfl,h,hs⟩
 all_goals(exfalso;revert hc;(repeat' split)<;>intro hc<;>first|(cases hc;done)|(obtain⟨_,_,hc⟩:=Option.map_eq_some_iff.1 hc;cases hc;done))
theorem iO{x y:ab}{Q:Ex->Fr->St->Prop}(h:Tri P nt k x (jt (Tri P nt k y Q) Q) fr σ):Tri P nt k (.seq x y) Q fr σ:=by
 intro fx code hc C loc a w hs;cases code<;>simp only[kj,reduceCtorEq]at hc
 case seq u v=>
  split at hc
  ·rename_i x' y' h1 h2;simp only[Option.some.injEq,ab.seq.injEq]at hc;obtain⟨rfl,rfl⟩:=hc;refine wp_seq (wp_mono (h fx u h1 C loc a w hs) fun ex a' w' ⟨e,fr',σ',loc',k1,k2,k3⟩=>?_);subst k1;cases e with
   |normal=>exact k2 fx v h2 C loc' a' w' k3
   |exit id=>exact⟨.exit id,fr',σ',loc',rfl,k2,k3⟩
   |ret=>exact⟨.ret,fr',σ',loc',rfl,k2,k3⟩
  ·cases hc
 all_goals(exfalso;revert hc;(repeat' split)<;>intro hc<;>first|(cases hc;done)|(obtain⟨_,_,hc⟩:=Option.map_eq_some_iff.1 hc;cases hc;done))
theorem du{c:Opd}{x y:ab}{Q:Ex->Fr->St->Prop}{t:Bool}(hb:c.ev fr=.bool t)(h1:t=true->Tri P nt k x Q fr σ)(h2:t=false->Tri P nt k y Q fr σ):Tri P nt k (.cond c x y) Q fr σ:=by
 intro fx code hc C loc a w hs;cases code<;>simp only[kj,reduceCtorEq]at hc
 case cond c0 u v=>
  split at hc
  ·rename_i c' x' y' k1 k2 k3;simp only[Option.some.injEq,ab.cond.injEq]at hc;obtain⟨rfl,rfl,rfl⟩:=hc;have hv:=hs.opd c0 c' k1;rw[hb]at hv;simp only[Rl]at hv;cases t
   ·exact wp_cond hv (h2 rfl fx v k3 C loc a w hs)
   ·exact wp_cond hv (h1 rfl fx u k2 C loc a w hs)
  ·cases hc
 all_goals(exfalso;revert hc;(repeat' split)<;>intro hc<;>first|(cases hc;done)|(obtain⟨_,_,hc⟩:=Option.map_eq_some_iff.1 hc;cases hc;done))
theorem jS{id:Nat}{x:ab}{Q:Ex->Fr->St->Prop}(h:Tri P nt k x (lT id Q) fr σ):Tri P nt k (.block id x) Q fr σ:=by
 intro fx code hc C loc a w hs;cases code<;>simp only[kj,reduceCtorEq]at hc
 case block i u=>
  obtain⟨x',k1,k2⟩:=Option.map_eq_some_iff.1 hc;simp only[ab.block.injEq]at k2;obtain⟨rfl,rfl⟩:=k2;refine wp_block (wp_mono (h fx u k1 C loc a w hs) fun ex a' w' ⟨e,fr',σ',loc',g1,g2,g3⟩=>?_);subst g1;cases e with
  |normal=>exact⟨.normal,fr',σ',loc',rfl,g2,g3⟩
  |ret=>exact⟨.ret,fr',σ',loc',rfl,g2,g3⟩
  | exit j =>
    simp only[Ex.to,Exit.inBlock];simp only[lT]at g2;split at g2
    ·rename_i hj;rw[if_pos hj];exact⟨.normal,fr',σ',loc',rfl,g2,g3⟩
    ·rename_i hj;rw[if_neg hj];exact⟨.exit j,fr',σ',loc',rfl,g2,g3⟩
 all_goals(exfalso;revert hc;(repeat' split)<;>intro hc<;>first|(cases hc;done)|(obtain⟨_,_,hc⟩:=Option.map_eq_some_iff.1 hc;cases hc;done))
theorem Gq{x:ab}{Q:Ex->Fr->St->Prop}(I:Nat->Fr->St->Prop)(m:Nat)(h0:I m fr σ)(round:∀m fr σ,I m fr σ->Tri P nt k x (jt (fun fr σ=>∃m',m'<m/\I m' fr σ) Q) fr σ):Tri P nt k (.loop x) Q fr σ:=by
 intro fx code hc C loc a w hs;cases code<;>simp only[kj,reduceCtorEq]at hc
 case loop u=>
  obtain⟨x',k1,k2⟩:=Option.map_eq_some_iff.1 hc;simp only[ab.loop.injEq]at k2;subst k2;refine Sw (fun m a w=>∃fr σ loc,I m fr σ/\SR C nt k fr σ loc a w) m ⟨fr,σ,loc,h0,hs⟩ fun m a w ⟨fr1,σ1,loc1,g1,g2⟩=>?_
  refine wp_mono (round m fr1 σ1 g1 fx u k1 C loc1 a w g2) fun ex a' w' ⟨e,fr',σ',loc',q1,q2,q3⟩=>?_
  subst q1;cases e with
  | normal =>
    obtain⟨m',hm,hI'⟩:=q2;exact⟨m',hm,fr',σ',loc',hI',q3⟩
  |exit id=>exact⟨.exit id,fr',σ',loc',rfl,q2,q3⟩
  |ret=>exact⟨.ret,fr',σ',loc',rfl,q2,q3⟩
 all_goals(exfalso;revert hc;(repeat' split)<;>intro hc<;>first|(cases hc;done)|(obtain⟨_,_,hc⟩:=Option.map_eq_some_iff.1 hc;cases hc;done))
theorem iN{l:List cI}{Q:Ex->Fr->St->Prop}(h:rG P l (fun fr σ=>Q .normal fr σ) fr σ):Tri P nt k (.reg l) Q fr σ:=by
 intro fx code hc C loc a w hs;cases code<;>simp only[kj,reduceCtorEq]at hc
 case region id ops draw=>
  split at hc
  ·rename_i l' h1
   cases draw
   ·simp only[Bool.false_eq_true,if_false,Option.some.injEq,ab.reg.injEq]at hc;subst hc;refine wp_region_list ?_;have:=FZ (C:=C) (k:=k) (Q:=fun ex a' w'=>∃e fr' σ' loc',ex=Ex.to e/\Q e fr' σ'/\SR C nt k fr' σ' loc' a' w') (Q':=fun fr σ=>Q .normal fr σ) (fun fr' σ' loc' a' w' g1 g2=>⟨.normal,fr',σ',loc',rfl,g1,g2⟩) ops.toList l' fr σ loc a w h1 hs h;simpa using this
   ·simp only[if_true]at hc;split at hc
    ·cases hc
    ·cases hc
  ·cases hc
 all_goals(exfalso;revert hc;(repeat' split)<;>intro hc<;>first|(cases hc;done)|(obtain⟨_,_,hc⟩:=Option.map_eq_some_iff.1 hc;cases hc;done))
end
mutual
def fz(σ:St)(zs:List Nat):AV->AV
 |.dead=>.dead
 |.bool b=>.bool b
 |.int k n=>.int k n
 |.str s=>.str s
 |.agg cs=>.agg (fzL σ zs cs)
 |.sl e cl xs=>.sl e cl (gX σ zs xs)
 |.tup us=>.tup (fzL σ zs us)
 |.ptr id off=>.ptr id off
 |.nilp=>.nilp
 | .hs e id off len => if zs.contains id then match σ[id]? with
   |some (.vec e' xs)=>if e'=e/\off+len<=xs.length then .sl e false ((xs.drop off).take len)else .hs e id off len
   |_=>.hs e id off len else .hs e id off len
 |.va e id off len=>.va e id off len
 |.elt e xs i off=>.elt e (gX σ zs xs) i off
 |.vp e id i off=>.vp e id i off
 |.fn f caps=>.fn f (fzL σ zs caps)
 |.nilf=>.nilf
 |.mp id=>.mp id
 |.any=>.any
def fzL(σ:St)(zs:List Nat):List AV->List AV
 | []=>[]
 |c::cs=>fz σ zs c::fzL σ zs cs
def gX(σ:St)(zs:List Nat):List (List AV)->List (List AV)
 | []=>[]
 |x::xs=>fzL σ zs x::gX σ zs xs
end
@[simp] theorem Rk(σ:St)(zs:List Nat):∀cs,(fzL σ zs cs).length=cs.length
 | []=>rfl
 |c::cs=>by simp[fzL,Rk σ zs cs]
@[simp] theorem OE(σ:St)(zs:List Nat):∀cs,(gX σ zs cs).length=cs.length
 | []=>rfl
 |c::cs=>by simp[gX,OE σ zs cs]
def fzO(σ:St)(zs:List Nat):bO->bO
 |.gone=>.gone
 |.var cs=>.var (fzL σ zs cs)
 |.vec e xs=>.vec e (gX σ zs xs)
 |.vex e xs=>.vex e (gX σ zs xs)
 |.map es=>.map (gX σ zs es)
 |.iter m n seen=>.iter m n seen
theorem XQ(σ:St)(zs:List Nat)(o:bO):(fzO σ zs o).live=o.live:=by cases o<;>rfl
theorem Zv(σ:St)(zs:List Nat)(c:AV):(fz σ zs c).cell=c.cell:=by
 cases c
 case hs e id off len=>
  show (fz σ zs (.hs e id off len)).cell=true
  simp only[fz];(repeat' split)<;>rfl
 all_goals rfl
section
variable{X:Nat->Prop}{loc:Nat->Option Loc}{σ:St}{w:World}{zs:List Nat}{F':Nat->Prop}
theorem acj (hr : Rel X loc σ w) (hF1 : ∀ b, F' b -> gq X σ loc b) (hF2 : ∀ (id : Nat) (o : bO) (L : Loc), id ∈ zs -> σ[id]? = some o -> o.live = true -> loc id = some L -> L.has = true -> ¬ F' L.blk)
 {e id off len:Nat} {v:Value} (h:Rl (aR X loc σ w) (.hs e id off len) v):Rl ⟨loc,F',w⟩ (fz σ zs (.hs e id off len)) v:=by
 simp only[fz];split
 ·rename_i hz
  have hz':id∈zs:=by simpa using hz
  split
  ·rename_i e' xs hσ
   split
   ·rename_i hc
    obtain⟨rfl,hle⟩:=hc;obtain⟨a,cap,L,rfl,h2,h3,h4,h5,h6⟩:=h;refine⟨a,len,cap,rfl,by simp;omega,h2,h3,by simp,h4,?_⟩;by_cases h0:len=0
    ·exact .inl h0
    ·rcases h6 with h6|⟨h6,rfl,h7⟩
     ·omega
     ·rcases hr.vec hσ h5 with⟨h8,_⟩|⟨_,cs,vs,ws,t,h9,h10,h11,h12,_⟩
      ·rw[h6]at h8;cases h8
      ·have hvl:=h12.length;have hq:off*e'+len*e'<=vs.length:=by rw[hvl,<-Nat.add_mul];exact Nat.mul_le_mul_right _ hle
       have g0:=ql (ls h9) (off*e') (len*e') hq;rw[h10]at g0;have hle2:jV (aR X loc σ w) ⟨loc,F',w⟩:=⟨fun _ _ h=>h,Nat.le_refl _,fun b _ hb=>⟨fun h=>hb (hF1 b h),rfl⟩⟩;exact .inr ⟨L.blk,L.base+off*e',_,rfl,aS.lt hr ⟨id,_,L,hσ,rfl,h5,h6,rfl⟩,hF2 id _ L hz' hσ rfl h5 h6,g0,RlE.mono hle2 _ _ _ ((h12.drop off).take len)⟩
   ·exact h
  ·exact h
 ·exact h
mutual
theorem WK(hr:Rel X loc σ w)(hF1:∀b,F' b->gq X σ loc b)(hF2:∀ (id:Nat) (o:bO) (L:Loc),id∈zs->σ[id]?=some o->o.live=true->loc id=some L->L.has=true->¬F' L.blk):
 ∀ (av:AV) (v:Value),Rl (aR X loc σ w) av v->Rl ⟨loc,F',w⟩ (fz σ zs av) v
 |.dead,v,_=>trivial
 |.bool b,v,h=>h
 |.int k n,v,h=>h
 |.str s,v,h=>h
 | .agg cs, v, h => by
   obtain⟨vs,h1,h2⟩:=h;exact⟨vs,h1,Km hr hF1 hF2 cs vs h2⟩
 | .sl e cl xs, v, h => by
   obtain⟨a,n,cap,h1,h2,h3,h4,h5,h6,h7⟩:=h;refine⟨a,n,cap,h1,by simpa using h2,h3,h4,h5,h6,h7.imp id ?_⟩;rintro⟨b,off,vs,g1,g2,g3,g4,g5⟩;exact⟨b,off,vs,g1,g2,fun h=>g3 (hF1 b h),g4,DE hr hF1 hF2 e xs vs g5⟩
 | .tup us, v, h => by
   obtain⟨vs,h1,h2⟩:=h;exact⟨vs,h1,Kv hr hF1 hF2 us vs h2⟩
 |.ptr id off,v,h=>h
 |.nilp,v,h=>h
 |.hs e id off len,v,h=>acj hr hF1 hF2 h
 |.va e id off len,v,h=>h
 | .elt e xs i off, v, h => by
   obtain⟨b,o,vs,g1,g2,g3,g4,g5⟩:=h;exact⟨b,o,vs,g1,g2,fun h=>g3 (hF1 b h),by simpa using g4,DE hr hF1 hF2 e xs vs g5⟩
 |.vp e id i off,v,h=>h
 | .fn f caps, v, h => by
   obtain⟨vs,h1,h2⟩:=h;exact⟨vs,h1,Kv hr hF1 hF2 caps vs h2⟩
 |.nilf,v,h=>h
 |.mp id,v,h=>h
 |.any,v,h=>h
theorem Km(hr:Rel X loc σ w)(hF1:∀b,F' b->gq X σ loc b)(hF2:∀ (id:Nat) (o:bO) (L:Loc),id∈zs->σ[id]?=some o->o.live=true->loc id=some L->L.has=true->¬F' L.blk):
 ∀ (cs:List AV) (vs:List Value),RlC (aR X loc σ w) cs vs->RlC ⟨loc,F',w⟩ (fzL σ zs cs) vs
 | [],_,h=>h
 | c :: cs, _, h => by
   obtain⟨u,us,rfl,h2,h3,h4⟩:=h;exact⟨u,us,rfl,by rw[Zv];exact h2,WK hr hF1 hF2 c u h3,Km hr hF1 hF2 cs us h4⟩
theorem Kv(hr:Rel X loc σ w)(hF1:∀b,F' b->gq X σ loc b)(hF2:∀ (id:Nat) (o:bO) (L:Loc),id∈zs->σ[id]?=some o->o.live=true->loc id=some L->L.has=true->¬F' L.blk):
 ∀ (cs:List AV) (vs:List Value),RlS (aR X loc σ w) cs vs->RlS ⟨loc,F',w⟩ (fzL σ zs cs) vs
 | [],_,h=>h
 | c :: cs, _, h => by
   obtain⟨u,us,rfl,h3,h4⟩:=h;exact⟨u,us,rfl,WK hr hF1 hF2 c u h3,Kv hr hF1 hF2 cs us h4⟩
theorem DE(hr:Rel X loc σ w)(hF1:∀b,F' b->gq X σ loc b)(hF2:∀ (id:Nat) (o:bO) (L:Loc),id∈zs->σ[id]?=some o->o.live=true->loc id=some L->L.has=true->¬F' L.blk)(e:Nat):
 ∀ (xs:List (List AV)) (vs:List Value),RlE (aR X loc σ w) e xs vs->RlE ⟨loc,F',w⟩ e (gX σ zs xs) vs
 | [],_,h=>h
 | x :: xs, _, h => by
   obtain⟨us,ws,rfl,h2,h3,h4⟩:=h;exact⟨us,ws,rfl,h2,Km hr hF1 hF2 x us h3,DE hr hF1 hF2 e xs ws h4⟩
end
theorem WJ(hr:Rel X loc σ w)(hF1:∀b,F' b->gq X σ loc b)(hF2:∀ (id:Nat) (o:bO) (L:Loc),id∈zs->σ[id]?=some o->o.live=true->loc id=some L->L.has=true->¬F' L.blk):
 ∀ (xs:List (List AV)) (es:List MapEntry) (b:Nat),RlM (aR X loc σ w) xs es b->RlM ⟨loc,F',w⟩ (gX σ zs xs) es b
 | [],_,_,h=>h
 |x::xs,_,_,⟨e,r,h1,h2,h3,h4⟩=>⟨e,r,h1,Kv hr hF1 hF2 x _ h2,h3,WJ hr hF1 hF2 xs r _ h4⟩
theorem Zk(hr:Rel X loc σ w)(hF1:∀b,F' b->gq X σ loc b)(hF2:∀ (id:Nat) (o:bO) (L:Loc),id∈zs->σ[id]?=some o->o.live=true->loc id=some L->L.has=true->¬F' L.blk)(L:Loc)(o:bO)(h:gw (aR X loc σ w) L o):
 gw ⟨loc,F',w⟩ L (fzO σ zs o):=by
 cases o with
 |gone=>trivial
 | var cs =>
   obtain⟨h1,h2,vs,t,h3,h4⟩:=h;exact⟨h1,h2,vs,t,h3,Km hr hF1 hF2 _ _ h4⟩
 | vec e xs =>
   rcases h with⟨h1,h2⟩|⟨h1,cs,vs,ws,t,h3,h4,h5,h6,h7⟩
   ·subst h2;exact .inl ⟨h1,rfl⟩
   ·exact .inr ⟨h1,cs,vs,ws,t,h3,h4,h5,DE hr hF1 hF2 _ _ _ h6,h7⟩
 | vex e xs =>
   rcases h with⟨h1,h2⟩|⟨h1,cs,vs,t,h3,h4,h5,h6⟩
   ·subst h2;exact .inl ⟨h1,rfl⟩
   ·exact .inr ⟨h1,cs,vs,t,h3,h4,h5,DE hr hF1 hF2 _ _ _ h6⟩
 | map es =>
   obtain⟨h1,ents,h2,h3⟩:=h;exact⟨h1,ents,by simpa using h2,WJ hr hF1 hF2 _ _ _ h3⟩
 |iter m n seen=>exact h
structure nc(k:Nat)(σ:St)(zs js:List Nat)(σ2:St):Prop where
 fix:∀i,i<k->js[i]?=some i
 nodup:js.Nodup
 lt:∀j∈js,j<σ.length
 len:σ2.length=js.length
 obj:∀ (i:Nat) (o:bO),σ2[i]?=some o->o=.gone\/∃j,js[i]?=some j/\j∉zs/\(σ[j]?).map (fzO σ zs)=some (iZ (rn js σ.length) o)
theorem nc.rel{k:Nat}{js:List Nat}{σ2:St}(hf:nc k σ zs js σ2)(hr:Rel X loc σ w):
 ∃loc2:Nat->Option Loc,(∀i,loc2 i=loc (rn js σ.length i))/\Rel X loc2 σ2 w/\(∀b,aS σ2 loc2 b->aS σ loc b)/\∀av v,Rl (aR X loc σ w) av v->∀av2,fz σ zs av=ren (rn js σ.length) av2->Rl (aR X loc2 σ2 w) av2 v:=by
 have hR:∀i j:Nat,js[i]?=some j->rn js σ.length i=j:=fun i j hij=>by simp[rn,List.getD,hij]
 have hR2:∀i:Nat,js.length<=i->rn js σ.length i=σ.length+(i-js.length):=fun i hi=>by simp[rn,List.getD,List.getElem?_eq_none hi]
 let loc2:Nat->Option Loc:=fun i=>loc (rn js σ.length i)
 have hl2:∀i,loc2 i=loc (rn js σ.length i):=fun _=>rfl
 have hcase:∀ (i:Nat) (o:bO),σ2[i]?=some o->o.live=true->∃ (j:Nat) (o':bO),js[i]?=some j/\j∉zs/\σ[j]?=some o'/\fzO σ zs o'=iZ (rn js σ.length) o/\o'.live=true/\loc2 i=loc j:=by
  intro i o g1 g2;rcases hf.obj i o g1 with rfl|⟨j,h1,h2,h3⟩
  ·cases g2
  ·obtain⟨o',h4,h5⟩:=Option.map_eq_some_iff.1 h3;refine⟨j,o',h1,h2,h4,h5,?_,by rw[hl2,hR i j h1]⟩;rw[<-XQ σ zs,h5,cJ];exact g2
 have hlive:∀b,aS σ2 loc2 b->aS σ loc b:=by
  rintro b ⟨i,o,L,g1,g2,g3,g4,g5⟩;obtain⟨j,o',h1,h2,h3,h4,h5,h6⟩:=hcase i o g1 g2;exact⟨j,o',L,h3,h5,by rw[<-h6];exact g3,g4,g5⟩
 have hF1:∀b,gq X σ2 loc2 b->gq X σ loc b:=fun b hb=>hb.imp id (hlive b)
 have hF2:∀ (id:Nat) (o:bO) (L:Loc),id∈zs->σ[id]?=some o->o.live=true->loc id=some L->L.has=true->¬gq X σ2 loc2 L.blk:=by
  intro id o L g1 g2 g3 g4 g5 g6;rcases g6 with g6|⟨i,o2,L2,k1,k2,k3,k4,k5⟩
  ·exact(hr.out _ g6).2 ⟨id,o,L,g2,g3,g4,g5,rfl⟩
  ·obtain⟨j,o',h1,h2,h3,h4,h5,h6⟩:=hcase i o2 k1 k2;refine hr.apart j id o' o L2 L (by rintro rfl;exact h2 g1) h3 g2 h5 g3 (by rw[<-h6];exact k3) g4 k4 g5 k5
 refine⟨loc2,hl2,⟨fun i o g1 g2=>?_,fun i j a b La Lb hij g1 g2 g3 g4 g5 g6 g7 g8=>?_,fun b hb=>⟨(hr.out b hb).1,fun h=>(hr.out b hb).2 (hlive b h)⟩,fun i hi=>?_⟩,hlive,fun av v h1 av2 h2=>?_⟩
 ·obtain⟨j,o',h1,h2,h3,h4,h5,h6⟩:=hcase i o g1 g2;obtain⟨L,m1,m2⟩:=hr.obj j o' h3 h5;refine⟨L,by rw[h6];exact m1,?_⟩;have m3:=Zk (F':=gq X σ2 loc2) hr hF1 hF2 L o' m2;rw[h4]at m3;exact(rT (E':=aR X loc2 σ2 w) (E:=⟨loc,gq X σ2 loc2,w⟩) (r:=rn js σ.length) hl2 rfl rfl L o).2 m3
 ·obtain⟨i',a',h1,h2,h3,h4,h5,h6⟩:=hcase i a g1 g3;obtain⟨j',b',q1,q2,q3,q4,q5,q6⟩:=hcase j b g2 g4;refine hr.apart i' j' a' b' La Lb ?_ h3 q3 h5 q5 (by rw[<-h6];exact g5) (by rw[<-q6];exact g6) g7 g8;rintro rfl;obtain⟨hi1,e1⟩:=List.getElem?_eq_some_iff.1 h1;obtain⟨hj1,e2⟩:=List.getElem?_eq_some_iff.1 q1;exact hij ((List.getElem_inj hf.nodup).1 (e1.trans e2.symm))
 ·rw[hl2,hR2 i (by rw[<-hf.len];exact hi)];exact hr.beyond _ (by omega)
 ·have h3:=WK (F':=gq X σ2 loc2) hr hF1 hF2 av v h1;rw[h2]at h3;exact(DF (E':=aR X loc2 σ2 w) (E:=⟨loc,gq X σ2 loc2,w⟩) (r:=rn js σ.length) hl2 rfl rfl av2 v).2 h3
end
section
variable{P:Program}{C:Cx}{nt k:Nat}{fr:Fr}{σ:St}{loc:Nat->Option Loc}{a:Act}{w:World}
theorem SR.forget(h:SR C nt k fr σ loc a w){zs js:List Nat}{σ2:St}(hf:nc k σ zs js σ2)(hk:k<=js.length){fr2:Fr}(hfr:∀t,fr2.get t=.dead\/fz σ zs (fr.get t)=ren (rn js σ.length) (fr2.get t)):
 ∃loc2,SR C nt k fr2 σ2 loc2 a w:=by
 obtain⟨loc2,h1,h2,h3,h4⟩:=hf.rel h.rel;refine⟨loc2,h2,fun t=>?_,h.size,h.dfr,h.ev,fun b hb=>h.old b (h3 b hb),fun i hi=>?_,by rw[hf.len];exact hk⟩
 ·rcases hfr t with h5|h5
  ·rw[h5];trivial
  ·exact h4 _ _ (h.frm t) _ h5
 ·rw[h1,<-h.pre i hi];congr 1;simp[rn,List.getD,hf.fix i hi]
theorem Gn{c:ab}{Q:Ex->Fr->St->Prop}(zs js:List Nat)(fr2:Fr)(σ2:St)(hf:nc k σ zs js σ2)(hk:k<=js.length)(hfr:∀t,fr2.get t=.dead\/fz σ zs (fr.get t)=ren (rn js σ.length) (fr2.get t))(h:Tri P nt k c Q fr2 σ2):Tri P nt k c Q fr σ:=by
 intro fx code hc C loc a w hs;obtain⟨loc2,h2⟩:=hs.forget hf hk hfr;exact h fx code hc C loc2 a w h2
theorem SR.slots(h:SR C nt k fr σ loc a w){fr2:Fr}(hfr:∀t,fr2.get t=.dead\/fr2.get t=fr.get t):SR C nt k fr2 σ loc a w:=
 ⟨h.rel,fun t=>by rcases hfr t with h5|h5<;>rw[h5];trivial;exact h.frm t,h.size,h.dfr,h.ev,h.old,h.pre,h.klen⟩
theorem Ws{c:ab}{Q:Ex->Fr->St->Prop}(fr2:Fr)(hfr:∀t,fr2.get t=.dead\/fr2.get t=fr.get t)(h:Tri P nt k c Q fr2 σ):Tri P nt k c Q fr σ:=
 fun fx code hc C loc a w hs=>h fx code hc C loc a w (hs.slots hfr)
inductive gO where
 |tmp (t:Nat)
 |cell (t:Nat) (ag:Bool) (sz:Nat)
 deriving Inhabited
def Dn(P:Program):ResultVar->Option gO
 |.tmp t=>some (.tmp t)
 |.cell a t=>(gf P t).map fun p=>.cell a p.1 p.2
def lP(P:Program):List ResultVar->Option (List gO)
 | []=>some []
 | r :: rs => match Dn P r, lP P rs with
   |some a,some b=>some (a::b)
   |_,_=>none
def xD(fr:Fr)(σ:St):gO->Option AV
 |.tmp t=>some (fr.get t)
 | .cell t ag sz => match fr.get t with
   | .ptr id o => match σ[id]? with
     |some (.var cs)=>if o+sz<=cs.length then some (pack ag (cut cs o sz))else none
     |_=>none
   |_=>none
def dQ(fr:Fr)(σ:St):List gO->Option (List AV)
 | []=>some []
 | x :: r => match xD fr σ x, dQ fr σ r with
   |some a,some b=>some (a::b)
   |_,_=>none
def gm(l:List AV):AV:=match l with
 | [x]=>x
 |xs=>.tup xs
def Wk(v r:AV):Prop:=∀E u,Rl E v u->Rl E r u
theorem Wk.refl(v:AV):Wk v v:=fun _ _ h=>h
theorem Wk.empty(e e':Nat)(cl:Bool):Wk (.sl e true []) (.sl e' cl []):=by
 rintro E u ⟨a,n,cap,rfl,h1,h2,h3,h4,h5,h6⟩;have:n=0:=by simpa using h1
 subst this;exact⟨a,0,cap,rfl,rfl,h2,h3,fun _=>h4 rfl,h5,.inl rfl⟩
theorem Wk.open_(e:Nat)(cl:Bool)(xs:List (List AV)):Wk (.sl e cl xs) (.sl e false xs):=by
 rintro E u ⟨a,n,cap,rfl,h1,h2,h3,h4,h5,h6⟩;exact⟨a,n,cap,rfl,h1,h2,h3,(fun h=>Bool.noConfusion h),h5,h6⟩
theorem Wk.dead(v:AV):Wk v .dead:=fun _ _ _=>trivial
def WkL:List AV->List AV->Prop
 | [],[]=>True
 |v::vs,r::rs=>Wk v r/\WkL vs rs
 |_,_=>False
theorem WkL.rls{E:Env}:∀ {vs rs:List AV} {us:List Value},WkL vs rs->RlS E vs us->RlS E rs us
 | [],[],us,_,h=>h
 | v :: vs, r :: rs, us, hw, h => by
   obtain⟨u,us',rfl,h1,h2⟩:=h;exact⟨u,us',rfl,hw.1 _ _ h1,WkL.rls hw.2 h2⟩
 | [],_::_,_,h,_|_::_,[],_,h,_=>h.elim
theorem Wk.tup{vs rs:List AV}(h:WkL vs rs):Wk (.tup vs) (.tup rs):=by
 rintro E u ⟨us,rfl,h1⟩;exact⟨us,rfl,h.rls h1⟩
def Ni(rs:List gO)(k:Nat)(σ':St)(r:AV):Ex->Fr->St->Prop
 |.exit _,_,_=>False
 |_,fr,σ1=>∃l zs js r0,dQ fr σ1 rs=some l/\nc k σ1 zs js σ'/\k<=js.length/\fz σ1 zs (gm l)=ren (rn js σ1.length) r0/\Wk r0 r
def aac(tmps:Array Value):ResultVar->Sem Value
 |.tmp t=>pure (tmps.getD t undef)
 |.cell a t=>do loadVar t (<-asAddr (tmps.getD a undef))
theorem R0(fn:Func)(tmps:Array Value):results fn tmps=(do
 let vs <-fn.results.mapM (aac tmps)
 pure (if h:vs.size=1 then vs[0]else .tuple vs)):=by
 unfold results;congr 2
theorem gv{X:Nat->Prop}{loc:Nat->Option Loc}{σ:St}{w:World}{fr:Fr}{tmps:Array Value}(hr:Rel X loc σ w)(hf:∀t,Rl (aR X loc σ w) (fr.get t) (tmps.getD t undef)){x:ResultVar}{y:gO}(hx:Dn P x=some y){av:AV}(h:xD fr σ y=some av):
 ∃v,Rl (aR X loc σ w) av v/\(aac tmps x).run P w=.ok v w:=by
 cases x with
 | tmp t =>
   cases hx;cases h;exact⟨_,hf t,by simp[aac]⟩
 | cell a t =>
   simp only[Dn]at hx;obtain⟨⟨ag,sz⟩,hs,rfl⟩:=Option.map_eq_some_iff.1 hx;simp only[xD]at h;split at h
   ·rename_i id oo hv
    have ha:=hf a;rw[hv]at ha;obtain⟨L,g1,g2,g3⟩:=ha;split at h
    ·rename_i cs hσ
     split at h
     ·rename_i hl;cases h;obtain⟨_,k1,vs,tt,k2,k3⟩:=hr.var hσ g1;have hvl:=k3.length;have k4:=lY k2 oo sz (by omega);rw[k1,Nat.zero_add]at g3;have hlen:((cs.drop oo).take sz).length=sz:=by simp;omega
      refine⟨tK ag ((vs.drop oo).take sz),Rl.pack ((k3.drop oo).take sz) fun h0=>by subst h0;exact hlen.trans (fT hs).1,?_⟩;have:=tR P w L.blk oo hs k4;simp[aac,g3,asAddr,this]
     ·cases h
    ·cases h
   ·cases h
theorem eB{P:Program}{x:ResultVar}{rs:List ResultVar}{ys:List gO}(h:lP P (x::rs)=some ys):∃y ys',ys=y::ys'/\Dn P x=some y/\lP P rs=some ys':=by
 simp only[lP]at h;split at h
 ·rename_i a b h1 h2;cases h;exact⟨a,b,rfl,h1,h2⟩
 ·cases h
theorem dG{fr:Fr}{σ:St}{y:gO}{ys:List gO}{l:List AV}(h:dQ fr σ (y::ys)=some l):∃a l',l=a::l'/\xD fr σ y=some a/\dQ fr σ ys=some l':=by
 simp only[dQ]at h;split at h
 ·rename_i a b h1 h2;cases h;exact⟨a,b,rfl,h1,h2⟩
 ·cases h
theorem O8{X:Nat->Prop}{loc:Nat->Option Loc}{σ:St}{w:World}{fr:Fr}{tmps:Array Value}(hr:Rel X loc σ w)(hf:∀t,Rl (aR X loc σ w) (fr.get t) (tmps.getD t undef)){fn:Func}{l:List AV}{rs:List ResultVar}{ys:List gO}(hrs:fn.results=rs.toArray)(hl:rs.length<=5)(hc:lP P rs=some ys)(h:dQ fr σ ys=some l):
 ∃v,Rl (aR X loc σ w) (gm l) v/\(results fn tmps).run P w=.ok v w:=by
 rw[R0,hrs];match rs,hl with
 | [], _ =>
   cases hc;cases h;exact⟨.tuple #[],⟨[],rfl,rfl⟩,by simp⟩
 | [x1], _ =>
   obtain⟨y1,ys,rfl,c1,hc⟩:=eB hc;obtain⟨a1,l,rfl,b1,h⟩:=dG h;cases hc;cases h;obtain⟨v1,e1,d1⟩:=gv hr hf c1 b1;exact⟨v1,e1,by simp[Sem.run_bind,d1]⟩
 | [x1, x2], _ =>
   obtain⟨y1,ys,rfl,c1,hc⟩:=eB hc;obtain⟨y2,ys,rfl,c2,hc⟩:=eB hc;obtain⟨a1,l,rfl,b1,h⟩:=dG h;obtain⟨a2,l,rfl,b2,h⟩:=dG h;cases hc;cases h;obtain⟨v1,e1,d1⟩:=gv hr hf c1 b1;obtain⟨v2,e2,d2⟩:=gv hr hf c2 b2;exact⟨.tuple #[v1,v2],⟨[_,_],rfl,_,_,rfl,e1,_,_,rfl,e2,rfl⟩,by simp[Sem.run_bind,d1,d2]⟩
 | [x1, x2, x3], _ =>
   obtain⟨y1,ys,rfl,c1,hc⟩:=eB hc;obtain⟨y2,ys,rfl,c2,hc⟩:=eB hc;obtain⟨y3,ys,rfl,c3,hc⟩:=eB hc;obtain⟨a1,l,rfl,b1,h⟩:=dG h;obtain⟨a2,l,rfl,b2,h⟩:=dG h;obtain⟨a3,l,rfl,b3,h⟩:=dG h;cases hc;cases h;obtain⟨v1,e1,d1⟩:=gv hr hf c1 b1;obtain⟨v2,e2,d2⟩:=gv hr hf c2 b2;obtain⟨v3,e3,d3⟩:=gv hr hf c3 b3;exact⟨.tuple #[v1,v2,v3],⟨[_,_,_],rfl,_,_,rfl,e1,_,_,rfl,e2,_,_,rfl,e3,rfl⟩,by simp[Sem.run_bind,d1,d2,d3]⟩
 | [x1, x2, x3, x4], _ =>
   obtain⟨y1,ys,rfl,c1,hc⟩:=eB hc;obtain⟨y2,ys,rfl,c2,hc⟩:=eB hc;obtain⟨y3,ys,rfl,c3,hc⟩:=eB hc;obtain⟨y4,ys,rfl,c4,hc⟩:=eB hc;obtain⟨a1,l,rfl,b1,h⟩:=dG h;obtain⟨a2,l,rfl,b2,h⟩:=dG h;obtain⟨a3,l,rfl,b3,h⟩:=dG h;obtain⟨a4,l,rfl,b4,h⟩:=dG h;cases hc;cases h;obtain⟨v1,e1,d1⟩:=gv hr hf c1 b1;obtain⟨v2,e2,d2⟩:=gv hr hf c2 b2;obtain⟨v3,e3,d3⟩:=gv hr hf c3 b3;obtain⟨v4,e4,d4⟩:=gv hr hf c4 b4;exact⟨.tuple #[v1,v2,v3,v4],⟨[_,_,_,_],rfl,_,_,rfl,e1,_,_,rfl,e2,_,_,rfl,e3,_,_,rfl,e4,rfl⟩,by simp[Sem.run_bind,d1,d2,d3,d4]⟩
 | [x1, x2, x3, x4, x5], _ =>
   obtain⟨y1,ys,rfl,c1,hc⟩:=eB hc;obtain⟨y2,ys,rfl,c2,hc⟩:=eB hc;obtain⟨y3,ys,rfl,c3,hc⟩:=eB hc;obtain⟨y4,ys,rfl,c4,hc⟩:=eB hc;obtain⟨y5,ys,rfl,c5,hc⟩:=eB hc;obtain⟨a1,l,rfl,b1,h⟩:=dG h;obtain⟨a2,l,rfl,b2,h⟩:=dG h;obtain⟨a3,l,rfl,b3,h⟩:=dG h;obtain⟨a4,l,rfl,b4,h⟩:=dG h;obtain⟨a5,l,rfl,b5,h⟩:=dG h;cases hc;cases h;obtain⟨v1,e1,d1⟩:=gv hr hf c1 b1;obtain⟨v2,e2,d2⟩:=gv hr hf c2 b2;obtain⟨v3,e3,d3⟩:=gv hr hf c3 b3;obtain⟨v4,e4,d4⟩:=gv hr hf c4 b4;obtain⟨v5,e5,d5⟩:=gv hr hf c5 b5;exact⟨.tuple #[v1,v2,v3,v4,v5],⟨[_,_,_,_,_],rfl,_,_,rfl,e1,_,_,rfl,e2,_,_,rfl,e3,_,_,rfl,e4,_,_,rfl,e5,rfl⟩,by simp[Sem.run_bind,d1,d2,d3,d4,d5]⟩
theorem aI.of_body{f:FuncId}{fn:Func}{c:Code}{ac:ab}{rs:List ResultVar}{ys:List gO}{args:List AV}{r:AV}{σ':St}(nv:Nat)(hf:P.funcs[f]?=some fn)(hb:fn.body=some c)(hn:pX P f=true){fx:Bool}(hc:kj fx P fn.ntmps c=some ac)
 (hrs:fn.results=rs.toArray) (hl:rs.length<=5) (hys:lP P rs=some ys) (ha:args.length<=fn.ntmps)
 (h:Tri P fn.ntmps σ.length ac (Ni ys σ.length σ' r) ⟨nv,args++List.replicate (nv-args.length) .dead,[]⟩ σ) (hlen:σ.length<=σ'.length):aI P f args σ r σ':=by
 refine⟨hn,hlen,fun X loc w vs hr hv=>?_⟩;have hvl:=hv.length;let C:Cx:=⟨X,w,aS σ loc,loc⟩
 have hs : SR C fn.ntmps σ.length ⟨nv, args ++ List.replicate (nv - args.length) .dead, []⟩ σ loc { tmps := vs.toArray ++ Array.replicate (fn.ntmps - vs.toArray.size) undef, defers := [] } w := by
  refine⟨hr,fun t=>?_,?_,rfl,Ev.refl _ _,fun b hb=>.inl hb,fun _ _=>rfl,Nat.le_refl _⟩
  ·unfold Fr.get
   simp only;split
   ·by_cases ht:t<args.length
    ·obtain⟨u,h1,h2⟩:=hv.get t ht
     have e1:(args++List.replicate (nv-args.length) AV.dead).getD t .dead=args[t]:=by
      rw[List.getD_eq_getElem?_getD,List.getElem?_append_left ht,List.getElem?_eq_getElem ht];rfl
     have e2:(vs.toArray++Array.replicate (fn.ntmps-vs.toArray.size) undef).getD t undef=u:=by
      rw[Array.getD_eq_getD_getElem?,Array.getElem?_append_left (by simp;omega)];simp[h1]
     rw[e1,e2];exact h2
    ·have e1:(args++List.replicate (nv-args.length) AV.dead).getD t .dead=.dead:=by
      rw[List.getD_eq_getElem?_getD,List.getElem?_append_right (by omega),List.getElem?_replicate];split<;>rfl
     rw[e1];trivial
   ·simp[qO];trivial
  ·simp;omega
 have hw:=h fx c hc C loc _ w hs;refine calls_of_wp hf hb (wp_mono hw fun ex a' w' ⟨e,fr',σ1,loc1,he,hq,hs'⟩=>?_)
 have key:e=.normal\/e=.ret->∃v,(results fn a'.tmps).run P w'=.ok v w'/\∃loc',Out X loc σ w r σ' v w' loc'/\∀id,id<σ.length->loc' id=loc id:=by
  intro hcase
  have hq':∃l zs js r0,dQ fr' σ1 ys=some l/\nc σ.length σ1 zs js σ'/\σ.length<=js.length/\fz σ1 zs (gm l)=ren (rn js σ1.length) r0/\Wk r0 r:=by
   rcases hcase with rfl|rfl<;>exact hq
  obtain⟨l,zs,js,r0,q1,q2,q3,q4,q5⟩:=hq';obtain⟨v,g1,g2⟩:=O8 (P:=P) hs'.rel hs'.frm hrs hl hys q1;obtain⟨loc2,m1,m2,m3,m4⟩:=q2.rel hs'.rel
  have hfix:∀id,id<σ.length->loc2 id=loc id:=by
   intro id hlt;rw[m1];have:rn js σ1.length id=id:=by simp[rn,List.getD,q2.fix id hlt]
   rw[this,hs'.pre id hlt]
  refine⟨v,g2,loc2,⟨fun id L hid=>?_,m2,q5 _ _ (m4 _ _ g1 _ q4),hs'.ev,fun b hb=>hs'.old b (m3 b hb)⟩,hfix⟩
  have hlt:id<σ.length:=by
   rcases Nat.lt_or_ge id σ.length with h1|h1
   ·exact h1
   ·rw[hr.beyond id h1]at hid;cases hid
  rw[hfix id hlt];exact hid
 subst he;cases e with
 |exit id=>exact hq.elim
 | normal =>
   obtain⟨v,g1,loc',g2,g3⟩:=key (.inl rfl);exact⟨hs'.dfr,v,g1,v,loc',rfl,g2,g3⟩
 | ret =>
   obtain⟨v,g1,loc',g2,g3⟩:=key (.inr rfl);exact⟨hs'.dfr,v,g1,v,loc',rfl,g2,g3⟩
end
theorem ib{ρ ρ2:Opd->AV}{d:Int}{lo:Option Opd}(h:∀x∈lo.toList,ρ x=ρ2 x):bz ρ d lo=bz ρ2 d lo:=by
 cases lo with
 |none=>rfl
 |some x=>simp only[bz,h x (by simp)]
theorem Vh{n:Nat}{σ:St}{ρ ρ2:Opd->AV}{K:AV->List Nat->Bool->St->Prop}{op:AOp}(h:∀x∈op.opds,ρ x=ρ2 x):opF n σ ρ K op=opF n σ ρ2 K op:=by
 cases op<;>simp only[AOp.opds,List.mem_cons,List.not_mem_nil,or_false,forall_eq_or_imp,forall_eq]at h<;>simp only[opF]
 case pick c a b=>rw[h.1,h.2.1,h.2.2]
 case bld z ps=>
  have e:(ps.map fun p=>(p.1,p.2.1,ρ p.2.2))=ps.map fun p=>(p.1,p.2.1,ρ2 p.2.2):=List.map_congr_left fun p hp=>by rw[h _ (List.mem_map.2 ⟨p,hp,rfl⟩)]
  rw[e]
 case bldS e m z ps=>
  have e:(ps.map fun p=>(p.1,ρ p.2))=ps.map fun p=>(p.1,ρ2 p.2):=List.map_congr_left fun p hp=>by rw[h _ (List.mem_map.2 ⟨p,hp,rfl⟩)]
  rw[e]
 case sli e x lo hi mx=>
  obtain⟨h0,h1⟩:=h;have a1:∀d,bz ρ d lo=bz ρ2 d lo:=fun d=>ib fun x hx=>h1 x (by simp at hx ⊢;simp[hx])
  have a2:∀d,bz ρ d hi=bz ρ2 d hi:=fun d=>ib fun x hx=>h1 x (by simp at hx ⊢;simp[hx])
  have a3:∀d,bz ρ d mx=bz ρ2 d mx:=fun d=>ib fun x hx=>h1 x (by simp at hx ⊢;simp[hx])
  simp only[h0,a1,a2,a3]
 case sliA e m x lo hi=>
  obtain⟨h0,h1⟩:=h;have a1:∀d,bz ρ d lo=bz ρ2 d lo:=fun d=>ib fun x hx=>h1 x (by simp at hx ⊢;simp[hx])
  have a2:∀d,bz ρ d hi=bz ρ2 d hi:=fun d=>ib fun x hx=>h1 x (by simp at hx ⊢;simp[hx])
  simp only[h0,a1,a2]
 case slx e x lo hi mx=>
  obtain⟨h0,h1⟩:=h;have a1:∀d,bz ρ d lo=bz ρ2 d lo:=fun d=>ib fun x hx=>h1 x (by simp at hx ⊢;simp[hx])
  have a2:∀d,bz ρ d hi=bz ρ2 d hi:=fun d=>ib fun x hx=>h1 x (by simp at hx ⊢;simp[hx])
  have a3:∀d,bz ρ d mx=bz ρ2 d mx:=fun d=>ib fun x hx=>h1 x (by simp at hx ⊢;simp[hx])
  simp only[h0,a1,a2,a3]
 case mn xs=>rw[List.map_congr_left h]
 case mx xs=>rw[List.map_congr_left h]
 case mkf f xs=>rw[List.map_congr_left h]
 case mop q xs=>rw[List.map_congr_left h]
 all_goals first
  |rfl
  |(rw[h])
  |(rw[h.1,h.2])
theorem WV{op:BinOp}{k k':IntKind}{a b:Int}{K:AV->Prop}(h:mL op k a k' b K):∃v,K v/\∀K':AV->Prop,K' v->mL op k a k' b K':=by
 cases op<;>simp only[mL]at h ⊢<;>first
  |(obtain⟨h1,h2⟩:=h;exact⟨_,h2,fun K' hk=>⟨h1,hk⟩⟩)
  |(obtain⟨h1,h0,h2⟩:=h;exact⟨_,h2,fun K' hk=>⟨h1,h0,hk⟩⟩)
def uV(τ:St)(ft:List Nat)(σ':St):St:=(List.range τ.length).map fun i=>if ft.contains i then σ'.getD i .gone else τ.getD i .gone
@[simp] theorem fu(τ:St)(ft:List Nat)(σ':St):(uV τ ft σ').length=τ.length:=by simp[uV]
theorem XE(τ:St)(ft:List Nat)(σ':St)(i:Nat)(hi:i<τ.length):(uV τ ft σ')[i]?=some (if i∈ft then σ'.getD i .gone else τ.getD i .gone):=by
 simp[uV,hi]
theorem ue{σ:St}{i:Nat}(h:i<σ.length):σ[i]?=some (σ.getD i .gone):=by simp[List.getD,h]
theorem tT{σ τ:St}(hl:σ.length=τ.length)(h:∀i,i<σ.length->σ.getD i .gone=τ.getD i .gone):σ=τ:=by
 apply List.ext_getElem? 
 intro i;by_cases hi:i<σ.length
 ·rw[ue hi,ue (by omega),h i hi]
 ·rw[List.getElem?_eq_none (by omega),List.getElem?_eq_none (by omega)]
theorem gK(τ:St)(ft:List Nat)(σ':St)(i:Nat)(hi:i<τ.length):(uV τ ft σ').getD i .gone=if i∈ft then σ'.getD i .gone else τ.getD i .gone:=by
 rw[List.getD_eq_getElem?_getD,XE τ ft σ' i hi];rfl
theorem nR(σ:St)(j:Nat)(o:bO)(i:Nat):(σ.set j o).getD i .gone=if i=j/\j<σ.length then o else σ.getD i .gone:=by
 simp only[List.getD_eq_getElem?_getD,List.getElem?_set];by_cases h:j=i
 ·subst h;by_cases hl:j<σ.length
  ·simp[hl]
  ·simp[hl,List.getElem?_eq_none (Nat.not_lt.1 hl)]
 ·simp[h,Ne.symm h]
theorem jM(σ:St){j:Nat}(o:bO){i:Nat}(h:i≠j):(σ.set j o).getD i .gone=σ.getD i .gone:=by
 rw[nR,if_neg (fun h1=>h h1.1)]
structure uW(σ:St)(ft:List Nat)(wr:Bool)(σ':St)(R:St->St->Prop):Prop where
 len:σ'.length=σ.length
 keep:∀i,i∉ft->σ'.getD i .gone=σ.getD i .gone
 same:wr=false->σ'=σ
 else_:∀τ:St,τ.length=σ.length->(∀i∈ft,τ.getD i .gone=σ.getD i .gone)->R τ (uV τ ft σ')
theorem uW.pure{σ:St}{ft:List Nat}{wr:Bool}{R:St->St->Prop}(h:∀τ:St,τ.length=σ.length->(∀i∈ft,τ.getD i .gone=σ.getD i .gone)->R τ τ):uW σ ft wr σ R:=
 ⟨rfl,fun _ _=>rfl,fun _=>rfl,fun τ hl ht=>by
  have:uV τ ft σ=τ:=tT (by simp) fun i hi=>by
   rw[fu]at hi;rw[gK τ ft σ i hi];split
   ·rename_i h1;exact(ht i h1).symm
   ·rfl
  rw[this];exact h τ hl ht⟩
theorem uW.set{σ:St}{ft:List Nat}{id:Nat}{o:bO}{R:St->St->Prop}(hid:id∈ft)(h:∀τ:St,τ.length=σ.length->(∀i∈ft,τ.getD i .gone=σ.getD i .gone)->R τ (τ.set id o)):uW σ ft true (σ.set id o) R:=
 ⟨by simp, fun i hi => by exact jM σ o (show i ≠ id from fun e => hi (e ▸ hid)), (fun h => by cases h), fun τ hl ht => by
  have:uV τ ft (σ.set id o)=τ.set id o:=tT (by simp) fun i hi=>by
   rw[fu]at hi;rw[gK τ ft _ i hi];split
   ·rename_i h1;rw[nR,nR,ht i h1,hl]
   ·rename_i h1;rw[jM τ o (show i≠id from fun e=>h1 (e▸hid))]
  rw[this];exact h τ hl ht⟩
theorem uW.set2{σ:St}{ft:List Nat}{id n:Nat}{o o2:bO}{R:St->St->Prop}(hid:id∈ft)(hn:n∈ft)(h:∀τ:St,τ.length=σ.length->(∀i∈ft,τ.getD i .gone=σ.getD i .gone)->R τ ((τ.set id o).set n o2)):uW σ ft true ((σ.set id o).set n o2) R:=
 ⟨by simp, fun i hi => by rw [jM _ o2 (show i ≠ n from fun e => hi (e ▸ hn)), jM _ o (show i ≠ id from fun e => hi (e ▸ hid))], (fun h => by cases h), fun τ hl ht => by
  have:uV τ ft ((σ.set id o).set n o2)=(τ.set id o).set n o2:=tT (by simp) fun i hi=>by
   rw[fu]at hi;rw[gK τ ft _ i hi];split
   ·rename_i h1;rw[nR,nR,nR,nR];simp only[List.length_set];rw[ht i h1,hl]
   ·rename_i h1;rw[jM _ o2 (show i≠n from fun e=>h1 (e▸hn)),jM τ o (show i≠id from fun e=>h1 (e▸hid))]
  rw[this];exact h τ hl ht⟩
theorem bm{σ τ:St}{id:Nat}{o:bO}(hl:τ.length=σ.length)(h:τ.getD id .gone=σ.getD id .gone)(hσ:σ[id]?=some o):τ[id]?=some o:=by
 have hi:id<σ.length:=(List.getElem?_eq_some_iff.1 hσ).1;rw[ue (by omega),h,<-ue hi,hσ]
theorem jQ{σ τ:St}{e:Nat}{av:AV}{ys:List (List AV)}(hl:τ.length=σ.length)(h:rdS σ e av=some ys)(ht:∀i∈mF av,τ.getD i .gone=σ.getD i .gone):rdS τ e av=some ys:=by
 cases av<;>simp only[rdS,reduceCtorEq]at h ⊢
 case sl=>exact h
 case str=>exact h
 case hs e' id off len=>
  split at h
  ·rename_i he
   split at h
   ·rename_i e2 xs hσ;rw[bm hl (ht id (by simp[mF])) hσ];simpa[he]using h
   ·cases h
  ·cases h
 case va e' id off len=>
  split at h
  ·rename_i he
   split at h
   ·rename_i cs hσ;rw[bm hl (ht id (by simp[mF])) hσ];simpa[he]using h
   ·cases h
  ·cases h
theorem iK{σ τ:St}{id:Nat}{p:Bool×Nat×List (List AV)}(hl:τ.length=σ.length)(ht:τ.getD id .gone=σ.getD id .gone)(h:rws σ[id]?=some p):rws τ[id]?=some p:=by
 unfold rws at h ⊢;split at h
 ·rename_i hσ;rw[bm hl ht hσ];exact h
 ·rename_i hσ;rw[bm hl ht hσ];exact h
 ·cases h
theorem AI{σ τ:St}{e:Nat}{av:AV}{ys:List (List AV)}(hl:τ.length=σ.length)(h:rdX σ e av=some ys)(ht:∀i∈mF av,τ.getD i .gone=σ.getD i .gone):rdX τ e av=some ys:=by
 unfold rdX at h ⊢;split at h
 ·rename_i e' id off len
  split at h
  ·rename_i he
   split at h
   ·rename_i hσ;rw[iK hl (ht id (by simp[mF])) hσ];simpa[he]using h
   ·cases h
  ·cases h
 ·exact jQ hl h ht
theorem Jw {n : Nat} {σ : St} {ρ : Opd -> AV} {K : AV -> List Nat -> Bool -> St -> Prop} {op : AOp} (h : opF n σ ρ K op) :
 ∃v ft wr σ',K v ft wr σ'/\uW σ ft wr σ' (fun τ τ'=>opF n τ ρ (fun v1 f1 w1 t1=>v1=v/\f1=ft/\w1=wr/\t1=τ') op):=by
 cases op<;>simp only[opF]at h ⊢
 case mv x=>exact⟨_,_,_,_,h,.pure fun τ _ _=>⟨rfl,rfl,rfl,rfl⟩⟩
 case pick c a b=>
  split at h
  ·rename_i t ht;exact⟨_,_,_,_,h,.pure fun τ _ _=>⟨rfl,rfl,rfl,rfl⟩⟩
  ·exact h.elim
 case bin op x y=>
  split at h
  ·obtain⟨v,h1,h2⟩:=WV h;exact⟨_,_,_,_,h1,.pure fun τ _ _=>h2 _ ⟨rfl,rfl,rfl,rfl⟩⟩
  ·exact h.elim
 case eqv kd neg x y=>
  split at h
  ·exact⟨_,_,_,_,h,.pure fun τ _ _=>⟨rfl,rfl,rfl,rfl⟩⟩
  ·exact h.elim
 case eqa ks neg x y=>
  split at h
  ·obtain⟨h1,h2,h⟩:=h;split at h
   ·exact⟨_,_,_,_,h,.pure fun τ _ _=>⟨h1,h2,rfl,rfl,rfl,rfl⟩⟩
   ·exact h.elim
  ·exact h.elim
 case un op x=>
  split at h
  ·exact⟨_,_,_,_,h,.pure fun τ _ _=>⟨rfl,rfl,rfl,rfl⟩⟩
  ·exact h.elim
 case cvt k x=>
  split at h
  ·exact⟨_,_,_,_,h,.pure fun τ _ _=>⟨rfl,rfl,rfl,rfl⟩⟩
  ·exact h.elim
 case b2s x=>
  split at h
  ·rename_i xs hxs
   obtain⟨hb,h⟩:=h;refine⟨_,_,_,_,h,.pure fun τ hl ht=>?_⟩
   have:rdB τ (ρ x)=some xs:=by
    generalize ρ x=A at *;cases A<;>simp only[rdB]at hxs ⊢<;>first|exact absurd hxs (by simp)|exact jQ hl hxs ht
   rw[this];exact⟨hb,rfl,rfl,rfl,rfl⟩
  ·exact h.elim
 case nilc x=>
  split at h<;>first|exact h.elim|exact⟨_,_,_,_,h,.pure fun τ _ _=>⟨rfl,rfl,rfl,rfl⟩⟩
 case fld ag off sz x=>
  split at h
  ·obtain⟨h1,h⟩:=h;exact⟨_,_,_,_,h,.pure fun τ _ _=>⟨h1,rfl,rfl,rfl,rfl⟩⟩
  ·exact h.elim
 case fldA off x=>
  split at h<;>first|exact h.elim|exact⟨_,_,_,_,h,.pure fun τ _ _=>⟨rfl,rfl,rfl,rfl⟩⟩
 case idx ag m e x i=>
  split at h
  ·obtain⟨h1,h2,h3,h⟩:=h;exact⟨_,_,_,_,h,.pure fun τ _ _=>⟨h1,h2,h3,rfl,rfl,rfl,rfl⟩⟩
  ·exact h.elim
 case idxA m e x i=>
  split at h<;>first|exact h.elim|(obtain⟨h1,h2,h⟩:=h;exact⟨_,_,_,_,h,.pure fun τ _ _=>⟨h1,h2,rfl,rfl,rfl,rfl⟩⟩)
 case idxS e x i=>
  split at h<;>first|exact h.elim|(obtain⟨h0,h1,h2,h⟩:=h;exact⟨_,_,_,_,h,.pure fun τ _ _=>⟨h0,h1,h2,rfl,rfl,rfl,rfl⟩⟩)
 case ld ag sz x=>
  split at h
  ·split at h
   ·rename_i hσ;obtain⟨h1,h⟩:=h;refine⟨_,_,_,_,h,.pure fun τ hl ht=>?_⟩;rw[bm hl (ht _ (by simp)) hσ];exact⟨h1,rfl,rfl,rfl,rfl⟩
   ·exact h.elim
  ·split at h
   ·rename_i hσ;obtain⟨h1,h2,h3,h⟩:=h;refine⟨_,_,_,_,h,.pure fun τ hl ht=>?_⟩;rw[bm hl (ht _ (by simp)) hσ];exact⟨h1,h2,h3,rfl,rfl,rfl,rfl⟩
   ·exact h.elim
  ·obtain⟨h1,h2,h⟩:=h;exact⟨_,_,_,_,h,.pure fun τ _ _=>⟨h1,h2,rfl,rfl,rfl,rfl⟩⟩
  ·exact h.elim
 case sto sz x y=>
  obtain⟨k1,k2,h⟩:=h;split at h
  ·split at h
   ·rename_i hσ;obtain⟨h1,h⟩:=h;refine⟨_,_,_,_,h,.set (by simp) fun τ hl ht=>?_⟩;rw[bm hl (ht _ (by simp)) hσ];exact⟨k1,k2,h1,rfl,rfl,rfl,rfl⟩
   ·exact h.elim
  ·split at h
   ·rename_i hσ;obtain⟨h1,h2,h3,h⟩:=h;refine⟨_,_,_,_,h,.set (by simp) fun τ hl ht=>?_⟩;rw[bm hl (ht _ (by simp)) hσ];exact⟨k1,k2,h1,h2,h3,rfl,rfl,rfl,rfl⟩
   ·exact h.elim
  ·exact h.elim
 case new z=>exact⟨_,_,_,_,h,.set (by simp) fun τ _ _=>⟨rfl,rfl,rfl,rfl⟩⟩
 case box sz x=>
  obtain⟨k1,k2,h⟩:=h;exact⟨_,_,_,_,h,.set (by simp) fun τ _ _=>⟨k1,k2,rfl,rfl,rfl,rfl⟩⟩
 case bld z ps=>obtain⟨k1,h⟩:=h;exact⟨_,_,_,_,h,.pure fun τ _ _=>⟨k1,rfl,rfl,rfl,rfl⟩⟩
 case bldS e m z ps=>obtain⟨k1,h⟩:=h;exact⟨_,_,_,_,h,.pure fun τ _ _=>⟨k1,rfl,rfl,rfl,rfl⟩⟩
 case mk e bytes z l c=>
  split at h
  ·obtain⟨h1,h2,h3,h4,h⟩:=h;exact⟨_,_,_,_,h,.set (by simp) fun τ _ _=>⟨h1,h2,h3,h4,rfl,rfl,rfl,rfl⟩⟩
  ·exact h.elim
 case sli e x lo hi mx=>
  split at h
  ·obtain⟨h1,h2,h3,h4,h5,h6,h⟩:=h;exact⟨_,_,_,_,h,.pure fun τ _ _=>⟨h1,h2,h3,h4,h5,h6,rfl,rfl,rfl,rfl⟩⟩
  ·obtain⟨h1,h⟩:=h;split at h
   ·obtain⟨h2,h3,h4,h⟩:=h;exact⟨_,_,_,_,h,.pure fun τ _ _=>⟨h1,h2,h3,h4,rfl,rfl,rfl,rfl⟩⟩
   ·obtain⟨h2,h3,h4,h5,h⟩:=h;exact⟨_,_,_,_,h,.pure fun τ _ _=>⟨h1,h2,h3,h4,h5,rfl,rfl,rfl,rfl⟩⟩
  ·obtain⟨h1,h2,h3,h4,h5,h⟩:=h;exact⟨_,_,_,_,h,.pure fun τ _ _=>⟨h1,h2,h3,h4,h5,rfl,rfl,rfl,rfl⟩⟩
  ·exact h.elim
 case sliA e m x lo hi=>
  split at h
  ·obtain⟨h1,h2,h3,h⟩:=h;exact⟨_,_,_,_,h,.pure fun τ _ _=>⟨h1,h2,h3,rfl,rfl,rfl,rfl⟩⟩
  ·exact h.elim
 case ext i x=>
  split at h
  ·obtain⟨h1,h⟩:=h;exact⟨_,_,_,_,h,.pure fun τ _ _=>⟨h1,rfl,rfl,rfl,rfl⟩⟩
  ·exact h.elim
 case len st x=>
  split at h
  ·exact⟨_,_,_,_,h,.pure fun τ _ _=>⟨rfl,rfl,rfl,rfl⟩⟩
  ·exact h.elim
 case cap x=>
  split at h
  ·exact⟨_,_,_,_,h,.pure fun τ _ _=>⟨rfl,rfl,rfl,rfl⟩⟩
  ·exact h.elim
 case app e bytes s x=>
  split at h
  ·exact h.elim
  ·rename_i ys hys
   split at h
   ·obtain⟨h1,h2,h3,h4,h5,h⟩:=h;refine⟨_,_,_,_,h,.set (by simp) fun τ hl ht=>?_⟩;rw[jQ hl hys fun i hi=>ht i (List.mem_cons_of_mem _ hi)];exact⟨h1,h2,h3,h4,h5,rfl,rfl,rfl,rfl⟩
   ·obtain⟨h1,h⟩:=h
    split at h
    ·rename_i hσ;obtain⟨h2,h3,h4,h5,h⟩:=h;refine⟨_,_,_,_,h,.set2 (by simp) (by simp) fun τ hl ht=>?_⟩;rw[jQ hl hys fun i hi=>ht i (List.mem_cons_of_mem _ (List.mem_cons_of_mem _ hi)),bm hl (ht _ (by simp)) hσ];exact⟨h1,h2,h3,h4,h5,rfl,rfl,rfl,rfl⟩
    ·exact h.elim
   ·exact h.elim
 case cpy e d s=>
  split at h
  ·exact h.elim
  ·rename_i ys hys
   split at h
   ·obtain⟨h1,h⟩:=h
    split at h
    ·rename_i hσ;obtain⟨h2,h3,h⟩:=h;refine⟨_,_,_,_,h,.set (by simp) fun τ hl ht=>?_⟩;rw[jQ hl hys fun i hi=>ht i (List.mem_cons_of_mem _ hi),bm hl (ht _ (by simp)) hσ];exact⟨h1,h2,h3,rfl,rfl,rfl,rfl⟩
    ·exact h.elim
   ·obtain⟨h1,h⟩:=h
    split at h
    ·rename_i hσ;obtain⟨h3,h⟩:=h;refine⟨_,_,_,_,h,.set (by simp) fun τ hl ht=>?_⟩;rw[jQ hl hys fun i hi=>ht i (List.mem_cons_of_mem _ hi),bm hl (ht _ (by simp)) hσ];exact⟨h1,h3,rfl,rfl,rfl,rfl⟩
    ·exact h.elim
   ·exact h.elim
 case mn xs=>
  split at h
  ·split at h
   ·exact⟨_,_,_,_,h,.pure fun τ _ _=>⟨rfl,rfl,rfl,rfl⟩⟩
   ·exact h.elim
  ·exact h.elim
 case mx xs=>
  split at h
  ·split at h
   ·exact⟨_,_,_,_,h,.pure fun τ _ _=>⟨rfl,rfl,rfl,rfl⟩⟩
   ·exact h.elim
  ·exact h.elim
 case mkf f xs=>exact⟨_,_,_,_,h,.pure fun τ _ _=>⟨rfl,rfl,rfl,rfl⟩⟩
 case mop q xs=>
  generalize xs.map ρ=l at *;unfold lW at h;split at h
  ·exact⟨_,_,_,_,h,.set (by simp) fun τ _ _=>⟨rfl,rfl,rfl,rfl⟩⟩
  ·obtain⟨h1,h⟩:=h
   split at h
   ·rename_i hσ
    split at h
    ·rename_i hj;refine⟨_,_,_,_,h,.pure fun τ hl ht=>?_⟩;simp[lW,bm hl (ht _ (by simp)) hσ,hj,h1]
    ·rename_i hj;refine⟨_,_,_,_,h,.pure fun τ hl ht=>?_⟩;simp[lW,bm hl (ht _ (by simp)) hσ,hj,h1]
    ·exact h.elim
   ·exact h.elim
  ·obtain⟨h1,h⟩:=h
   split at h
   ·rename_i hσ
    split at h
    ·rename_i hj;refine⟨_,_,_,_,h,.set (by simp) fun τ hl ht=>?_⟩;simp[lW,bm hl (ht _ (by simp)) hσ,hj,h1]
    ·rename_i hj;refine⟨_,_,_,_,h,.set (by simp) fun τ hl ht=>?_⟩;simp[lW,bm hl (ht _ (by simp)) hσ,hj,h1]
    ·exact h.elim
   ·exact h.elim
  ·split at h
   ·rename_i hσ;refine⟨_,_,_,_,h,.set (by simp) fun τ hl ht=>?_⟩;simp[lW,bm hl (ht _ (by simp)) hσ]
   ·exact h.elim
  ·split at h
   ·rename_i hσ
    split at h
    ·rename_i hla hσm;obtain⟨h1,h2,h⟩:=h;refine⟨_,_,_,_,h,.pure fun τ hl ht=>?_⟩;simp[lW,bm hl (ht _ (by simp)) hσ,hla,bm hl (ht _ (by simp)) hσm,h1,h2]
    ·exact h.elim
   ·exact h.elim
  ·exact h.elim
 case slx e x lo hi mx=>
  split at h
  ·obtain⟨h1,h⟩:=h
   split at h
   ·split at h
    ·rename_i hσ;obtain⟨h2,h3,h4,h5,h6,h⟩:=h;refine⟨_,_,_,_,h,.pure fun τ hl ht=>?_⟩;rw[iK hl (ht _ (by simp)) hσ];exact⟨h1,h2,h3,h4,h5,h6,rfl,rfl,rfl,rfl⟩
    ·exact h.elim
   ·obtain⟨h2,h3,h4,h5,h6,h⟩:=h;exact⟨_,_,_,_,h,.pure fun τ _ _=>⟨h1,h2,h3,h4,h5,h6,rfl,rfl,rfl,rfl⟩⟩
  ·exact h.elim
 case apx e bytes s x=>
  split at h
  ·exact h.elim
  ·rename_i ys hys
   split at h
   ·obtain⟨h1,h⟩:=h
    split at h
    ·rename_i hσ
     obtain⟨h2,h3,h⟩:=h;split at h
     ·rename_i hin;refine⟨_,_,_,_,h,.set2 (by simp) (by simp) fun τ hl ht=>?_⟩;rw[AI hl hys fun i hi=>ht i (List.mem_cons_of_mem _ (List.mem_cons_of_mem _ hi)),iK hl (ht _ (by simp)) hσ];refine⟨h1,h2,h3,?_⟩;rw[if_pos hin];exact⟨rfl,rfl,rfl,rfl⟩
     ·rename_i hin;obtain⟨h4,h5,h6,h⟩:=h;refine⟨_,_,_,_,h,.set (by simp) fun τ hl ht=>?_⟩;rw[AI hl hys fun i hi=>ht i (List.mem_cons_of_mem _ (List.mem_cons_of_mem _ hi)),iK hl (ht _ (by simp)) hσ];refine⟨h1,h2,h3,?_⟩;rw[if_neg hin];exact⟨h4,h5,h6,rfl,rfl,rfl,rfl⟩
    ·exact h.elim
   ·exact h.elim
 case apm e bytes z s x=>
  split at h
  ·obtain⟨h1,h⟩:=h
   split at h
   ·rename_i hσ;obtain⟨h2,h3,h4,h5,h6,h7,h8,h⟩:=h;refine⟨_,_,_,_,h,.set (by simp) fun τ hl ht=>?_⟩;rw[bm hl (ht _ (by simp)) hσ];exact⟨h1,h2,h3,h4,h5,h6,h7,h8,rfl,rfl,rfl,rfl⟩
   ·exact h.elim
  ·exact h.elim
 case ovl e x y=>
  split at h
  ·split at h
   ·rename_i hσ2 hσ1;obtain⟨h1,h2,h3,h4,h5,h6,h7,h8,h⟩:=h;refine⟨_,_,_,_,h,.pure fun τ hl ht=>?_⟩;rw[iK hl (ht _ (by simp)) hσ1,iK hl (ht _ (by simp)) hσ2];exact⟨h1,h2,h3,h4,h5,h6,h7,h8,rfl,rfl,rfl,rfl⟩
   ·exact h.elim
  ·split at h
   ·rename_i hσ;obtain⟨h1,h2,h3,h4,h5,h⟩:=h;refine⟨_,_,_,_,h,.pure fun τ hl ht=>?_⟩;rw[iK hl (ht _ (by simp)) hσ];exact⟨h1,h2,h3,h4,h5,rfl,rfl,rfl,rfl⟩
   ·exact h.elim
  ·exact h.elim
 case clr e z x=>
  split at h
  ·obtain⟨h1,h⟩:=h
   split at h
   ·rename_i hσ;obtain⟨h2,h3,h⟩:=h;refine⟨_,_,_,_,h,.set (by simp) fun τ hl ht=>?_⟩;rw[iK hl (ht _ (by simp)) hσ];exact⟨h1,h2,h3,rfl,rfl,rfl,rfl⟩
   ·exact h.elim
  ·exact h.elim
 case cpx e d s=>
  split at h
  ·exact h.elim
  ·rename_i ys hys
   split at h
   ·obtain⟨h1,h⟩:=h
    split at h
    ·rename_i hσ;obtain⟨h2,h3,h⟩:=h;refine⟨_,_,_,_,h,.set (by simp) fun τ hl ht=>?_⟩;rw[AI hl hys fun i hi=>ht i (List.mem_cons_of_mem _ hi),iK hl (ht _ (by simp)) hσ];exact⟨h1,h2,h3,rfl,rfl,rfl,rfl⟩
    ·exact h.elim
   ·exact h.elim
 case cmb x y=>
  split at h
  ·split at h
   ·rename_i hb ha;obtain⟨h1,h2,h⟩:=h;refine⟨_,_,_,_,h,.pure fun τ hl ht=>?_⟩;rw[jQ hl hb fun i hi=>ht i (by simp[mF]at hi;simp[hi]),jQ hl ha fun i hi=>ht i (by simp[mF]at hi;simp[hi])];exact⟨h1,h2,rfl,rfl,rfl,rfl⟩
   ·exact h.elim
  ·exact h.elim
 case cpq x=>
  split at h
  ·split at h
   ·rename_i hσ;obtain⟨h1,h2,h3,h⟩:=h;refine⟨_,_,_,_,h,.pure fun τ hl ht=>?_⟩;rw[bm hl (ht _ (by simp)) hσ];exact⟨h1,h2,h3,rfl,rfl,rfl,rfl⟩
   ·exact h.elim
  ·exact h.elim
def chg(ft:List Nat)(wr:Bool):List Nat:=if wr then ft else []
structure zG(σ:St)(ft ch:List Nat)(σ':St)(R:St->St->Prop):Prop where
 len:σ'.length=σ.length
 sub:∀i∈ch,i∈ft
 keep:∀i,i∉ch->σ'.getD i .gone=σ.getD i .gone
 else_:∀τ:St,τ.length=σ.length->(∀i∈ft,τ.getD i .gone=σ.getD i .gone)->R τ (uV τ ch σ')
theorem zG.mono{σ:St}{ft ch:List Nat}{σ':St}{R R':St->St->Prop}(h:zG σ ft ch σ' R)(hR:∀τ τ',R τ τ'->R' τ τ'):zG σ ft ch σ' R':=⟨h.len,h.sub,h.keep,fun τ hl ht=>hR _ _ (h.else_ τ hl ht)⟩
theorem uW.toC{σ:St}{ft:List Nat}{wr:Bool}{σ':St}{R:St->St->Prop}(h:uW σ ft wr σ' R):zG σ ft (chg ft wr) σ' R:=by
 cases wr
 ·have e:=h.same rfl
  subst e;refine⟨rfl,fun i hi=>by simp[chg]at hi,fun _ _=>rfl,fun τ hl ht=>?_⟩;have h1:=h.else_ τ hl ht
  have e1:uV τ ft σ'=τ:=tT (by simp) fun i hi=>by
   rw[fu]at hi;rw[gK τ ft σ' i hi];split
   ·rename_i h1;exact(ht i h1).symm
   ·rfl
  have e2:uV τ (chg ft false) σ'=τ:=tT (by simp) fun i hi=>by
   rw[fu]at hi;rw[gK τ _ σ' i hi,if_neg (by simp[chg])]
  rw[e2];rw[e1]at h1;exact h1
 ·exact⟨h.len,fun _ h=>h,h.keep,h.else_⟩
def vO(P:Program)(n:Nat)(g:AV)(xs:List AV)(σ:St)(v:AV)(ft ch:List Nat)(σ':St):Prop:=match g with
 |.fn (.func f) caps=>∃ (args:List AV) (σs:St) (r:AV) (σs':St),aI P f args σs r σs'/\xs++caps=dP (rn ft σ.length) args/\σs'.length=ft.length/\v=ren (rn ft σ.length) r/\σ'=aN σ ft σs'/\(∀j∈ch,j∈ft)/\
  ((bx σ ft σs/\(∀i j:Nat,ft[i]?=some j->j∉ch->σs'[i]?=σs[i]?))\/∃js,ft=js++[n]/\dt σ js ft σs/\ch=ft)
 |_=>False
def pE(P:Program)(n:Nat)(op:AOp)(ρ:Opd->AV)(σ:St)(v:AV)(ft ch:List Nat)(σ':St):Prop:=match op with
 |.call g xs=>vO P n (ρ g) (xs.map ρ) σ v ft ch σ'
 |op=>∃wr,chg ft wr=ch/\opF n σ ρ (fun v1 f1 w1 t1=>v1=v/\f1=ft/\w1=wr/\t1=σ') op
def fc(P:Program)(n:Nat)(op:AOp)(fr:Fr)(σ:St)(K:AV->List Nat->List Nat->St->Prop):Prop:=match op with
 |.call g xs=>∃v ft ch σ',vO P n (g.ev fr) (xs.map (Opd.ev fr)) σ v ft ch σ'/\K v ft ch σ'
 |op=>opF n σ (Opd.ev fr) (fun v ft wr σ'=>K v ft (chg ft wr) σ') op
theorem Py{P:Program}{n:Nat}{op:AOp}{ρ ρ2:Opd->AV}(h:∀x∈op.opds,ρ x=ρ2 x){σ:St}{v:AV}{ft ch:List Nat}{σ':St}(hs:pE P n op ρ σ v ft ch σ'):pE P n op ρ2 σ v ft ch σ':=by
 cases op
 case call g xs=>
  simp only[pE]at hs ⊢;rw[<-h g (by simp[AOp.opds]),List.map_congr_left fun x hx=>(h x (by simp[AOp.opds,hx])).symm];exact hs
 all_goals(simp only[pE]at hs ⊢;obtain⟨wr,hw,hs⟩:=hs;refine⟨wr,hw,?_⟩;rw[<-Vh h];exact hs)
theorem DI{σ σs:St}{js:List Nat}(hp:bx σ js σs):aN σ js σs=σ:=by
 obtain⟨h1,h2,h3,h4⟩:=hp;unfold aN;rw[h1,List.drop_length,List.take_length,List.map_nil,List.append_nil];apply List.ext_getElem?
 intro i;by_cases hi:i∈js
 ·obtain⟨q,hq,rfl⟩:=List.getElem_of_mem hi;have hj:js[q]?=some js[q]:=List.getElem?_eq_getElem hq;have h5:=h4 q _ hj;have h6:σs[q]?=some (σs[q]'(by omega)):=List.getElem?_eq_getElem (by omega);rw[h6]at h5;rw[h5];exact nZ js _ σ h2 h3 q _ _ hj (by rw[List.getElem?_map,h6];rfl)
 ·exact m9 js _ σ i hi
theorem Pz {P : Program} {n : Nat} {op : AOp} {ρ : Opd -> AV} {σ : St} {v : AV} {ft ch : List Nat} {σ' : St} (hs : pE P n op ρ σ v ft ch σ') : zG σ ft ch σ' (fun τ τ' => pE P n op ρ τ v ft ch τ') := by
 cases op
 case call g xs =>
  simp only[pE,vO]at hs ⊢;split at hs
  ·rename_i f caps hg
   obtain⟨args,σs,r,σs',h1,h2,h4,h5,h6,hsub,h37⟩:=hs
   have hnd:ft.Nodup:=by
    rcases h37 with⟨h3,_⟩|⟨js,_,h3,_⟩
    ·exact h3.2.1
    ·exact h3.2.1
   have hltf:∀j∈ft,j<σ.length:=by
    rcases h37 with⟨h3,_⟩|⟨js,_,h3,_⟩
    ·exact h3.2.2.1
    ·exact h3.2.2.1
   have e:∀ (ρ:St) (q:Nat) (hq:q<ft.length),ρ.length=σ.length->(aN ρ ft σs')[ft[q]]?=some (iZ (rn ft σ.length) (σs'[q]'(by omega))):=by
    intro ρ q hq hρ;have hj:ft[q]?=some ft[q]:=List.getElem?_eq_getElem hq;unfold aN;rw[List.getElem?_append_left (by rw[eJ,hρ];exact hltf _ (List.getElem_mem hq))];refine nZ ft _ ρ hnd (fun j hj=>by rw[hρ];exact hltf j hj) q _ _ hj ?_;rw[List.getElem?_map,List.getElem?_take,if_pos hq,List.getElem?_eq_getElem (by omega),hρ];rfl
   have hget:∀ (τ:St) (i:Nat),τ.length=σ.length->i∈ft->(aN τ ft σs').getD i .gone=(aN σ ft σs').getD i .gone:=by
    intro τ i hl hi;obtain⟨q,hq,rfl⟩:=List.getElem_of_mem hi;rw[List.getD_eq_getElem?_getD,List.getD_eq_getElem?_getD,e τ q hq hl,e σ q hq rfl]
   have hlen:∀τ:St,(aN τ ft σs').length=τ.length:=by
    intro τ;simp[aN,h4]
   have hkeep:∀ (τ:St) (i:Nat),i∉ft->(aN τ ft σs').getD i .gone=τ.getD i .gone:=by
    intro τ i hi;by_cases hlt:i<τ.length
    ·rw[List.getD_eq_getElem?_getD,List.getD_eq_getElem?_getD];unfold aN;rw[List.getElem?_append_left (by rw[eJ];exact hlt),m9 _ _ _ _ hi]
    ·rw[List.getD_eq_getElem?_getD,List.getD_eq_getElem?_getD,List.getElem?_eq_none (by rw[hlen];omega),List.getElem?_eq_none (by omega)]
   have hkeep2:∀i,i∉ch->(aN σ ft σs').getD i .gone=σ.getD i .gone:=by
    intro i hi;by_cases hif:i∈ft
    ·rcases h37 with⟨h3,h7⟩|⟨js,_,_,h7⟩
     ·obtain⟨q,hq,rfl⟩:=List.getElem_of_mem hif;have hj:ft[q]?=some ft[q]:=List.getElem?_eq_getElem hq;have h8:=h7 q _ hj hi;have h9:=h3.2.2.2 q _ hj;rw[<-h8,List.getElem?_eq_getElem (show q<σs'.length by omega)]at h9;rw[List.getD_eq_getElem?_getD,List.getD_eq_getElem?_getD,e σ q hq rfl,h9];rfl
     ·rw[h7]at hi;exact absurd hif hi
    ·exact hkeep σ i hif
   refine⟨by rw[h6,hlen],hsub,fun i hi=>by rw[h6,hkeep2 i hi],fun τ hl ht=>?_⟩;refine⟨args,σs,r,σs',h1,by rw[hl];exact h2,h4,by rw[hl];exact h5,?_,hsub,?_⟩;rotate_left
   ·have hto:∀j∈ft,τ[j]?=σ[j]?:=by
     intro j hj;have hlt:=hltf j hj;rw[ue (show j<τ.length by omega),ue hlt,ht j hj]
    rcases h37 with⟨h3,h7⟩|⟨js,rfl,h3,h7⟩
    ·refine .inl ⟨⟨h3.1,h3.2.1,fun j hj=>by rw[hl];exact h3.2.2.1 j hj,fun i j hij=>?_⟩,h7⟩;rw[hl,hto j (List.mem_of_getElem? hij)];exact h3.2.2.2 i j hij
    ·refine .inr ⟨js,rfl,⟨h3.1,h3.2.1,fun j hj=>by rw[hl];exact h3.2.2.1 j hj,fun i j hij=>?_⟩,h7⟩;rw[hl,hto j (List.mem_append_left _ (List.mem_of_getElem? hij))];exact h3.2.2.2 i j hij
   ·refine tT (by rw[fu,hlen]) fun i hi=>?_
    rw[fu]at hi;rw[gK τ ch σ' i hi];split
    ·rename_i hic;rw[h6,hget τ i hl (hsub i hic)]
    ·rename_i hic;by_cases hif:i∈ft
     ·rw[hget τ i hl hif,hkeep2 i hic,ht i hif]
     ·rw[hkeep τ i hif]
  ·exact hs.elim
 all_goals(
  simp only[pE]at hs ⊢;obtain⟨wr,hw,hs⟩:=hs;obtain⟨v2,ft2,wr2,σ2,⟨rfl,rfl,rfl,rfl⟩,hL⟩:=Jw hs;subst hw;exact hL.toC.mono fun _ _ h=>⟨_,rfl,h⟩)
def jC(gd:Option (Nat×Bool))(fr:Fr):Option Bool:=match gd with
 |none=>some true
 | some (t, want) => match fr.get t with
   |.bool b=>some (b==want)
   |.tup []=>some false
   |_=>none
def jF(P:Program)(n:Nat)(o:cI)(fr:Fr)(σ:St)(v:AV)(ft ch:List Nat)(σ':St):Prop:=match jC o.gd fr with
 |some true=>pE P n o.op (Opd.ev fr) σ v ft ch σ'
 |some false=>v=.tup []/\ft=[]/\ch=[]/\σ'=σ
 |none=>False
theorem tV{P:Program}{n:Nat}{o:cI}{fr:Fr}{σ:St}{v:AV}{ft ch:List Nat}{σ':St}(h:jF P n o fr σ v ft ch σ'):zG σ ft ch σ' (fun τ τ'=>jF P n o fr τ v ft ch τ'):=by
 unfold jF at h ⊢;split at h
 ·exact Pz h
 ·obtain⟨rfl,rfl,rfl,rfl⟩:=h;exact(uW.pure (wr:=false) fun τ _ _=>⟨rfl,rfl,rfl,rfl⟩).toC
 ·exact h.elim
theorem o0{P:Program}{n:Nat}{o:cI}{fr fr2:Fr}(h:∀t∈o.looks,fr.get t=fr2.get t){σ:St}{v:AV}{ft ch:List Nat}{σ':St}(hs:jF P n o fr σ v ft ch σ'):jF P n o fr2 σ v ft ch σ':=by
 have hg:jC o.gd fr2=jC o.gd fr:=by
  unfold jC;split
  ·rfl
  ·rename_i t want hgd;rw[h t (by simp[cI.looks,hgd])]
 unfold jF at hs ⊢;rw[hg];split at hs
 ·refine Py (fun x hx=>?_) hs;cases x with
  |t u=>exact h u (by simp only[cI.looks,List.mem_append,List.mem_filterMap];exact .inl ⟨_,hx,rfl⟩)
  |c v=>rfl
 ·exact hs
 ·exact hs.elim
structure wq(f g:Fr):Prop where
 lf:f.vs.length=f.nv
 lg:g.vs.length=g.nv
 eq:∀t,f.get t=g.get t
theorem wq.refl{f:Fr}(h:f.vs.length=f.nv):wq f f:=⟨h,h,fun _=>rfl⟩
theorem Fr.get_put_exact(f:Fr)(h:f.vs.length=f.nv)(t:Nat)(v:AV)(u:Nat):(f.put t v).get u=if u=t then v else f.get u:=by
 by_cases hut:u=t
 ·subst hut;rw[if_pos rfl];unfold Fr.put Fr.get;by_cases h1:u<f.nv
  ·simp[h1,List.getD,h]
  ·simp[h1,qO]
 ·rw[if_neg hut];exact Fr.get_put_ne f v (Ne.symm hut)
theorem Fr.len_put(f:Fr)(h:f.vs.length=f.nv)(t:Nat)(v:AV):(f.put t v).vs.length=(f.put t v).nv:=by
 unfold Fr.put;split<;>simp[h]
theorem Fr.len_putO(f:Fr)(h:f.vs.length=f.nv)(t:Option Nat)(v:AV):(f.putO t v).vs.length=(f.putO t v).nv:=by
 cases t with
 |none=>exact h
 |some t=>exact Fr.len_put f h t v
theorem wq.put{f g:Fr}(h:wq f g)(d:Option Nat)(v:AV):wq (f.putO d v) (g.putO d v):=by
 cases d with
 |none=>exact h
 |some t=>exact⟨Fr.len_put f h.lf t v,Fr.len_put g h.lg t v,fun u=>by
  show (f.put t v).get u=(g.put t v).get u
  rw[Fr.get_put_exact f h.lf,Fr.get_put_exact g h.lg,h.eq]⟩
theorem wq.comm{f:Fr}(h:f.vs.length=f.nv){a b:Option Nat}(v u:AV)(hab:∀d,a=some d->b≠some d):wq ((f.putO a v).putO b u) ((f.putO b u).putO a v):=by
 cases a with
 |none=>exact .refl (Fr.len_putO f h b u)
 | some d =>
   cases b with
   |none=>exact .refl (Fr.len_putO f h (some d) v)
   | some e =>
     have hne:d≠e:=fun he=>hab d rfl (he▸rfl)
     refine⟨Fr.len_put _ (Fr.len_put f h d v) e u,Fr.len_put _ (Fr.len_put f h e u) d v,fun t=>?_⟩;show ((f.put d v).put e u).get t=((f.put e u).put d v).get t
     rw[Fr.get_put_exact _ (Fr.len_put f h d v),Fr.get_put_exact _ h,Fr.get_put_exact _ (Fr.len_put f h e u),Fr.get_put_exact _ h];by_cases h1:t=e
     ·by_cases h2:t=d
      ·exact absurd (h2.symm.trans h1) hne
      ·simp[h1,Ne.symm hne]
     ·simp[h1]
def qE(f1 c1 f2 c2:List Nat):Prop:=(∀i∈c1,i∉f2)/\∀i∈c2,i∉f1
theorem qE.symm{f1 c1 f2 c2:List Nat}(h:qE f1 c1 f2 c2):qE f2 c2 f1 c1:=⟨h.2,h.1⟩
abbrev xP:=List (Nat×List Nat×List Nat)
def okH(m:Nat)(H:xP)(ft ch:List Nat):Prop:=∀h∈H,m.testBit h.1=true\/qE h.2.1 h.2.2 ft ch
theorem AZ{x y:cI}(h:qy x y=true):(∀d,x.dst=some d->d∉y.looks)/\(∀d,x.dst=some d->y.dst≠some d)/\(∀d,y.dst=some d->d∉x.looks):=by
 simp only[qy,Bool.and_eq_true]at h;obtain⟨h1,h2⟩:=h;refine⟨fun d hd=>?_,fun d hd=>?_,fun d hd=>?_⟩
 ·simp[hd]at h1;exact h1.1
 ·simp[hd]at h1;exact h1.2
 ·simp[hd]at h2;exact h2.1
theorem Nw{x y:cI}(h:qy x y=true):qy y x=true:=by
 simp only[qy,Bool.and_eq_true]at h ⊢;exact⟨h.2,h.1⟩
theorem tf{fr:Fr}{d:Option Nat}{v:AV}{l:List Nat}(h:∀t,d=some t->t∉l):∀t∈l,(fr.putO d v).get t=fr.get t:=by
 intro t ht;cases d with
 |none=>rfl
 |some u=>exact Fr.get_put_ne fr v (by rintro rfl;exact h u rfl ht)
theorem Sg{P:Program}{ni nj:Nat}{oi oj:cI}{fr:Fr}{σ σi σij:St}{vi vj:AV}{fi fj ci cj:List Nat}(hap:qy oi oj=true)(hi:jF P ni oi fr σ vi fi ci σi)
 (hj:jF P nj oj (fr.putO oi.dst vi) σi vj fj cj σij) (hc:qE fi ci fj cj):∃σj,jF P nj oj fr σ vj fj cj σj/\jF P ni oi (fr.putO oj.dst vj) σj vi fi ci σij:=by
 obtain⟨h1,h2,h3⟩:=AZ hap;have hj':=o0 (tf h1) hj;have hLi:=tV hi;have hLj:=tV hj';have hiback:∀ {τ τ':St},jF P ni oi fr τ vi fi ci τ'->jF P ni oi (fr.putO oj.dst vj) τ vi fi ci τ':=fun h=>o0 (fun t ht=>(tf h3 t ht).symm) h
 obtain⟨hc1,hc2⟩:=hc
 -- j on σ
 have s1:=hLj.else_ σ hLi.len.symm fun i hi'=>(hLi.keep i fun h=>hc1 i h hi').symm
 refine⟨_,s1,?_⟩
 have s2:=hLi.else_ (uV σ cj σij) (by simp) fun i hi'=>by
  by_cases hl:i<σ.length
  ·rw[gK σ cj σij i hl,if_neg (fun h=>hc2 i h hi')]
  ·rw[List.getD_eq_getElem?_getD,List.getD_eq_getElem?_getD,List.getElem?_eq_none (by simp;omega),List.getElem?_eq_none (by omega)]
 have e:uV (uV σ cj σij) ci σi=σij:=tT (by simp[hLj.len,hLi.len]) fun i hi'=>by
  simp only[fu]at hi';rw[gK _ ci σi i (by simpa using hi')];split
  ·rename_i hif;rw[hLj.keep i (fun h=>hc1 i hif (hLj.sub i h))]
  ·rename_i hif
   rw[gK σ cj σij i hi'];split
   ·rfl
   ·rename_i hjf;rw[hLj.keep i hjf,hLi.keep i hif]
 rw[e]at s2;exact hiback s2
def nY(i:Nat)(ft wr:List Nat)(H:xP):xP:=if ft.isEmpty&&wr.isEmpty then H else (i,ft,wr)::H
theorem tG{m i:Nat}{ft f2 wr w2:List Nat}{H:xP}:okH m (nY i ft wr H) f2 w2↔okH m H f2 w2/\(m.testBit i=true\/qE ft wr f2 w2):=by
 unfold nY okH;split
 ·rename_i h;have:ft=[]/\wr=[]:=by simpa using h
  obtain⟨rfl,rfl⟩:=this;exact⟨fun h=>⟨h,.inr ⟨fun i hi=>(by cases hi),fun i _ hi=>(by cases hi)⟩⟩,fun h=>h.1⟩
 ·constructor
  ·intro h;exact⟨fun x hx=>h x (List.mem_cons_of_mem _ hx),h (i,ft,wr) (List.mem_cons_self ..)⟩
  ·rintro⟨h1,h2⟩ x hx;rcases List.mem_cons.1 hx with rfl|hx
   ·exact h2
   ·exact h1 x hx
section
variable(P:Program)(ops:List Oper)(als:List cI)(bf:List Nat)(nb:Nat->Nat)(Q:Fr->St->Prop)
def GF:Nat->Array Bool->xP->Fr->St->Prop
 |0,L,H,fr,σ=>Region.ready .any ops.toArray L=[]/\Q fr σ
 | f + 1, L, H, fr, σ => (Region.ready .any ops.toArray L = [] -> Q fr σ) /\ ∀ i ∈ Region.ready .any ops.toArray L, ∃ o, als[i]? = some o /\ ∃ v ft wr σ', jF P (nb i) o fr σ v ft wr σ' /\ okH (bf.getD i 0) H ft wr /\
     GF f (L.setIfInBounds i true) (nY i ft wr H) (fr.putO o.dst v) σ'
end
section
variable{P:Program}{ops:List Oper}{als:List cI}{bf:List Nat}{nb:Nat->Nat}{Q:Fr->St->Prop}
theorem Iz:∀ (f:Nat) (L:Array Bool) (H H2:xP) (fr:Fr) (σ:St),(∀m ft wr,okH m H ft wr->okH m H2 ft wr)->GF P ops als bf nb Q f L H fr σ->GF P ops als bf nb Q f L H2 fr σ
 |0,_,_,_,_,_,_,h=>h
 | f + 1, L, H, H2, fr, σ, hH, h => ⟨h.1, fun i hi => by
   obtain⟨o,h1,v,ft,wr,σ',h2,h3,h4⟩:=h.2 i hi;exact⟨o,h1,v,ft,wr,σ',h2,hH _ _ _ h3,Iz f _ _ _ _ _ (fun m f2 w2 h5=>by rw[tG]at h5 ⊢;exact⟨hH _ _ _ h5.1,h5.2⟩) h4⟩⟩
theorem KC(hQ:∀fr fr2 σ,wq fr fr2->Q fr σ->Q fr2 σ):∀ (f:Nat) (L:Array Bool) (H:xP) (fr fr2:Fr) (σ:St),wq fr fr2->GF P ops als bf nb Q f L H fr σ->GF P ops als bf nb Q f L H fr2 σ
 |0,_,_,fr,fr2,σ,he,h=>⟨h.1,hQ _ _ _ he h.2⟩
 | f + 1, L, H, fr, fr2, σ, he, h => ⟨fun h0 => hQ _ _ _ he (h.1 h0), fun i hi => by
   obtain⟨o,h1,v,ft,wr,σ',h2,h3,h4⟩:=h.2 i hi;exact⟨o,h1,v,ft,wr,σ',o0 (fun t _=>he.eq t) h2,h3,KC hQ f _ _ _ _ _ (he.put o.dst v) h4⟩⟩
structure Kf(ops:List Oper)(als:List cI)(bf:List Nat):Prop where
 lb:bf.length=ops.length
 la:als.length=ops.length
 lt:∀j,j<ops.length->∀e∈oU (ops.getD j default),e<j
 bits:∀j,j<ops.length->∀i,i<ops.length->(bf.getD j 0).testBit i=true->∃e∈oU (ops.getD j default),e=i\/(bf.getD e 0).testBit i=true
 apart:∀j,j<ops.length->∀i,i<j->(bf.getD j 0).testBit i=true\/qy (als.getD i default) (als.getD j default)=true
theorem i8{n:Nat}{f:Nat->Bool}(h:pF n f=true):∀i,i<n->f i=true:=fun i hi=>List.all_eq_true.1 h i (List.mem_range.2 hi)
theorem NP(h:QE ops als bf=true):Kf ops als bf:=by
 simp only[QE,Bool.and_eq_true,beq_iff_eq]at h;obtain⟨⟨⟨⟨h1,h2⟩,h3⟩,h4⟩,h5⟩:=h;refine⟨h1,h2,fun j hj e he=>?_,fun j hj i hi hb=>?_,fun j hj i hi=>?_⟩
 ·exact of_decide_eq_true (List.all_eq_true.1 (i8 h3 j hj) e he)
 ·have:=i8 (i8 h4 j hj) i hi;rw[hb]at this;simp only[Bool.not_true,Bool.false_or]at this;obtain⟨e,he,h6⟩:=List.any_eq_true.1 this;exact⟨e,he,by simpa using h6⟩
 ·have:=i8 (i8 h5 j hj) i hi;simpa using this
theorem ir{j:Nat}{L:Array Bool}:j∈Region.ready .any ops.toArray L↔j<ops.length/\L.getD j true=false/\∀e∈oU (ops.getD j default),L.getD e false=true:=by
 rw[mem_ready];constructor
 ·rintro⟨h1,o,h2,h3⟩
  have hj:j<ops.length:=by simpa using(Array.getElem?_eq_some_iff.1 h2).1
  have ho:ops.getD j default=o:=by
   have:ops[j]?=some o:=by simpa using h2
   rw[List.getD_eq_getElem?_getD,this];rfl
  refine⟨hj,h1,fun e he=>?_⟩;rw[ho]at he;obtain⟨x,hx,rfl⟩:=List.mem_map.1 he;obtain⟨h4,h5⟩:=List.mem_filter.1 hx;exact h3 x (Array.mem_toList_iff.1 h4) h5
 ·rintro⟨hj,h1,h2⟩;refine⟨h1,ops.getD j default,by simp[List.getD,hj],fun e he hb=>h2 _ ?_⟩;exact List.mem_map.2 ⟨e,List.mem_filter.2 ⟨Array.mem_toList_iff.2 he,hb⟩,rfl⟩
def wo(ops:List Oper)(L:Array Bool):Prop:=∀j,j<ops.length->L.getD j false=true->∀e∈oU (ops.getD j default),L.getD e false=true
theorem gJ{L:Array Bool}{i:Nat}(d:Bool){j:Nat}:(L.setIfInBounds i true).getD j d=if j=i/\i<L.size then true else L.getD j d:=by
 simp only[Array.getD_eq_getD_getElem?,Array.getElem?_setIfInBounds];by_cases h:i=j
 ·subst h;by_cases hl:i<L.size
  ·simp[hl]
  ·simp[hl,Array.getElem?_eq_none (Nat.not_lt.1 hl)]
 ·simp[h,Ne.symm h]
theorem wo.set{L:Array Bool}(h:wo ops L){i:Nat}(hi:i∈Region.ready .any ops.toArray L):wo ops (L.setIfInBounds i true):=by
 obtain⟨h1,h2,h3⟩:=ir.1 hi;intro j hj hL e he
 have keep:L.getD e false=true->(L.setIfInBounds i true).getD e false=true:=fun h=>by
  rw[gJ];split
  ·rfl
  ·exact h
 rw[gJ]at hL;split at hL
 ·rename_i hc;obtain⟨rfl,_⟩:=hc;exact keep (h3 e he)
 ·exact keep (h j hj hL e he)
theorem wo.bits(hd:Kf ops als bf){L:Array Bool}(h:wo ops L)(hs:L.size=ops.length):∀ (j:Nat),j<ops.length->(∀e∈oU (ops.getD j default),L.getD e false=true)->∀i,i<ops.length->(bf.getD j 0).testBit i=true->L.getD i false=true:=by
 intro j;induction j using Nat.strongRecOn with
 | _ j ih =>
   intro hj hp i hi hb;obtain⟨e,he,h1⟩:=hd.bits j hj i hi hb;have hej:=hd.lt j hj e he;rcases h1 with rfl|h1
   ·exact hp e he
   ·exact ih e hej (by omega) (h e (by omega) (hp e he)) i hi h1
theorem xB{i j:Nat}{L:Array Bool}(h:j∈Region.ready .any ops.toArray L)(hne:j≠i):j∈Region.ready .any ops.toArray (L.setIfInBounds i true):=by
 obtain⟨h1,h2,h3⟩:=ir.1 h;refine ir.2 ⟨h1,?_,fun e he=>?_⟩
 ·rw[gJ,if_neg (fun h=>hne h.1)];exact h2
 ·rw[gJ];split
  ·rfl
  ·exact h3 e he
theorem P0(hd:Kf ops als bf)(hQ:∀fr fr2 σ,wq fr fr2->Q fr σ->Q fr2 σ){i:Nat}{oi:cI}(hoi:als[i]?=some oi){vi:AV}{fi wi:List Nat}:
 ∀ (f : Nat) (L : Array Bool) (H : xP) (fr : Fr) (σ σi : St), L.size = ops.length -> wo ops L -> fr.vs.length = fr.nv -> i ∈ Region.ready .any ops.toArray L -> jF P (nb i) oi fr σ vi fi wi σi -> okH (bf.getD i 0) H fi wi ->
   GF P ops als bf nb Q f (L.setIfInBounds i true) (nY i fi wi H) (fr.putO oi.dst vi) σi->GF P ops als bf nb Q (f+1) L H fr σ:=by
 intro f;induction f with
 | zero =>
   intro L H fr σ σi hs hcl hfr hr hstep hok hrest;refine⟨fun h=>(by rw[h]at hr;cases hr),fun j hj=>?_⟩;by_cases hji:j=i
   ·subst hji;exact⟨oi,hoi,vi,fi,wi,σi,hstep,hok,hrest⟩
   ·have:=xB hj hji;rw[hrest.1]at this;cases this
 | succ f ih =>
   intro L H fr σ σi hs hcl hfr hr hstep hok hrest;refine⟨fun h=>(by rw[h]at hr;cases hr),fun j hj=>?_⟩;by_cases hji:j=i
   ·subst hji;exact⟨oi,hoi,vi,fi,wi,σi,hstep,hok,hrest⟩
   ·obtain⟨oj,hoj,vj,fj,wj,σij,g1,g2,g3⟩:=hrest.2 j (xB hj hji)
    obtain⟨hi1,hi2,hi3⟩:=ir.1 hr;obtain⟨hj1,hj2,hj3⟩:=ir.1 hj
    have hunl:∀q,q<ops.length->L.getD q true=false->L.getD q false=false:=by
     intro q hq h;rw[Array.getD_eq_getD_getElem?]at h ⊢;have:q<L.size:=by omega
     rw[Array.getElem?_eq_getElem this]at h ⊢;exact h
    have nij:(bf.getD j 0).testBit i=false:=by
     cases hb:(bf.getD j 0).testBit i with
     |false=>rfl
     | true =>
       have:=hcl.bits hd hs j hj1 hj3 i hi1 hb;rw[hunl i hi1 hi2]at this;cases this
    have nji:(bf.getD i 0).testBit j=false:=by
     cases hb:(bf.getD i 0).testBit j with
     |false=>rfl
     | true =>
       have:=hcl.bits hd hs i hi1 hi3 j hj1 hb;rw[hunl j hj1 hj2]at this;cases this
    have goi:als.getD i default=oi:=by rw[List.getD_eq_getElem?_getD,hoi];rfl
    have goj:als.getD j default=oj:=by rw[List.getD_eq_getElem?_getD,hoj];rfl
    have hap:qy oi oj=true:=by
     rcases Nat.lt_or_gt_of_ne hji with h|h
     ·rcases hd.apart i hi1 j h with h1|h1
      ·rw[nji]at h1;cases h1
      ·rw[goi,goj]at h1;exact Nw h1
     ·rcases hd.apart j hj1 i h with h1|h1
      ·rw[nij]at h1;cases h1
      ·rw[goi,goj]at h1;exact h1
    rw[tG]at g2;have hc:qE fi wi fj wj:=g2.2.resolve_left (by rw[nij];simp);obtain⟨σj,k1,k2⟩:=Sg hap hstep g1 hc;refine⟨oj,hoj,vj,fj,wj,σj,k1,g2.1,?_⟩;have hr2:i∈Region.ready .any ops.toArray (L.setIfInBounds j true):=xB hr (Ne.symm hji);refine ih (L.setIfInBounds j true) (nY j fj wj H) (fr.putO oj.dst vj) σj σij (by simpa using hs) (hcl.set hj) (Fr.len_putO fr hfr _ _) hr2 k2 ?_ ?_
    ·rw[tG];exact⟨hok,.inr hc.symm⟩
    ·rw[Array.setIfInBounds_comm _ _ hji];have h2:=(AZ hap).2.1;refine KC hQ f _ _ _ _ _ (wq.comm hfr vi vj h2) (Iz f _ _ _ _ _ (fun m ft wr h=>?_) g3);rw[tG,tG]at h ⊢;exact⟨⟨h.1.1,h.2⟩,h.1.2⟩
def tF(base:Nat)(als:List cI)(i:Nat):Nat:=base+((als.take i).filter fun o=>o.op.allocs).length
def qu(P:Program):List (cI×Nat)->Nat->Nat->xP->(Fr->St->Prop)->Fr->St->Prop
 | [],_,_,_,Q,fr,σ=>Q fr σ
 | (o, m) :: r, i, n, H, Q, fr, σ =>
   aGd o.gd fr (fun fr=>fc P n o.op fr σ fun av ft wr σ'=>okH m H ft wr/\qu P r (i+1) (if o.op.allocs then n+1 else n) (nY i ft wr H) Q (fr.putO o.dst av) σ')
    (fun fr=>qu P r (i+1) (if o.op.allocs then n+1 else n) H Q (fr.putO o.dst (.tup [])) σ)
theorem Iu{n:Nat}{op:AOp}{fr:Fr}{σ:St}{K:AV->List Nat->List Nat->St->Prop}(h:fc P n op fr σ K):∃v ft wr σ',pE P n op (Opd.ev fr) σ v ft wr σ'/\K v ft wr σ':=by
 cases op
 case call g xs=>
  simp only[fc]at h;exact h
 all_goals(
  simp only[fc]at h;obtain⟨v,ft,wr,σ',h1,h2⟩:=Jw h;refine⟨v,ft,chg ft wr,σ',?_,h1⟩;have h3:=h2.else_ σ rfl (fun _ _=>rfl)
  have e:uV σ ft σ'=σ':=tT (by rw[fu,h2.len]) fun i hi=>by
   rw[fu]at hi;rw[gK σ ft σ' i hi];split
   ·rfl
   ·rename_i hif;exact(h2.keep i hif).symm
  rw[e]at h3;exact⟨wr,rfl,h3⟩)
theorem SU{Q2:Fr->St->Prop}(hd:Kf ops als bf)(hQ:∀fr fr2 σ,wq fr fr2->Q2 fr σ->Q2 fr2 σ)(hQ0:∀fr σ,fr.vs.length=fr.nv->Q fr σ->Q2 fr σ)(base:Nat):∀ (r:List (cI×Nat)) (k:Nat) (L:Array Bool) (H:xP) (fr:Fr) (σ:St),(∀j,r[j]?=(als.zip bf)[k+j]?)->r.length=ops.length-k->k<=ops.length->
 L.size=ops.length->(∀j,j<ops.length->L.getD j true=decide (j<k))->fr.vs.length=fr.nv->qu P r k (tF base als k) H Q fr σ->GF P ops als bf (tF base als) Q2 r.length L H fr σ
 | [], k, L, H, fr, σ, hr, hl, hk, hs, hL, hfr, h => by
   refine⟨?_,hQ0 _ _ hfr h⟩;have hkk:k=ops.length:=by simp at hl;omega
   rw[List.eq_nil_iff_forall_not_mem];intro j hj;obtain⟨h1,h2,_⟩:=ir.1 hj;rw[hL j h1]at h2;simp at h2;omega
 | (o, m) :: r, k, L, H, fr, σ, hr, hl, hk, hs, hL, hfr, h => by
   have hkl:k<ops.length:=by simp at hl;omega
   have h0:=hr 0;simp only[List.getElem?_cons_zero,Nat.add_zero]at h0;have hz:(als.zip bf)[k]?=some (o,m):=h0.symm
   have ho:als[k]?=some o/\bf[k]?=some m:=by
    rw[List.getElem?_zip_eq_some]at hz;exact hz
   have hm:bf.getD k 0=m:=by rw[List.getD_eq_getElem?_getD,ho.2];rfl
   have hcl:wo ops L:=by
    intro j hj hLj e he;have hej:=hd.lt j hj e he;have h1:=hL j hj;have h2:=hL e (by omega)
    have e1:∀q,q<ops.length->L.getD q false=L.getD q true:=by
     intro q hq;rw[Array.getD_eq_getD_getElem?,Array.getD_eq_getD_getElem?,Array.getElem?_eq_getElem (by omega)];rfl
    rw[e1 j hj,h1]at hLj;rw[e1 e (by omega),h2];simp at hLj ⊢;omega
   have hready:k∈Region.ready .any ops.toArray L:=by
    refine ir.2 ⟨hkl,by rw[hL k hkl];simp,fun e he=>?_⟩;have hej:=hd.lt k hkl e he;have h2:=hL e (by omega)
    have e1:L.getD e false=L.getD e true:=by
     rw[Array.getD_eq_getD_getElem?,Array.getD_eq_getD_getElem?,Array.getElem?_eq_getElem (by omega)];rfl
    rw[e1,h2];simpa using hej
   have hL':∀j,j<ops.length->(L.setIfInBounds k true).getD j true=decide (j<k+1):=by
    intro j hj;rw[gJ];by_cases hjk:j=k
    ·subst hjk;simp[hs,hkl]
    ·rw[if_neg (fun h=>hjk h.1),hL j hj];simp only[decide_eq_decide];omega
   have hnb:(if o.op.allocs then tF base als k+1 else tF base als k)=tF base als (k+1):=by
    unfold tF;rw[List.take_add_one,ho.1];simp only[Option.toList_some,List.filter_append,List.length_append];by_cases ha:o.op.allocs=true<;>simp[ha,List.filter_cons,Nat.add_assoc]
   have hr':∀j,r[j]?=(als.zip bf)[k+1+j]?:=fun j=>by
    have:=hr (j+1);simp only[List.getElem?_cons_succ]at this;rw[this];congr 1;omega
   have hl':r.length=ops.length-(k+1):=by simp at hl;omega
   simp only[qu,hnb]at h
   -- one step, whatever frame reads alike
   have fin:∀ {fr2:Fr} {v:AV} {ft wr:List Nat} {σ':St},wq fr2 fr->jF P (tF base als k) o fr σ v ft wr σ'->okH m H ft wr->qu P r (k+1) (tF base als (k+1)) (nY k ft wr H) Q (fr2.putO o.dst v) σ'->GF P ops als bf (tF base als) Q2 (r.length+1) L H fr σ:=by
    intro fr2 v ft wr σ' hfe h1 h2 h3;have h4:=SU hd hQ hQ0 base r (k+1) (L.setIfInBounds k true) (nY k ft wr H) (fr2.putO o.dst v) σ' hr' hl' (by omega) (by simpa using hs) hL' (Fr.len_putO fr2 hfe.lf _ _) h3;have h5:=KC hQ _ _ _ _ _ _ (hfe.put o.dst v) h4;exact P0 hd hQ ho.1 r.length L H fr σ σ' hs hcl hfr hready h1 (by rw[hm];exact h2) h5
   cases hgd:o.gd with
   | none =>
     rw[hgd]at h;simp only[aGd]at h;obtain⟨v,ft,wr,σ',h1,h2,h3⟩:=Iu h;exact fin (.refl hfr) (by unfold jF;rw[hgd];exact h1) h2 h3
   | some p =>
     obtain⟨t,want⟩:=p;rw[hgd]at h;simp only[aGd]at h;split at h
     ·rename_i b hb
      have same:∀c:Bool,b=c->wq (fr.put t (.bool c)) fr:=by
       intro c hc;refine⟨Fr.len_put fr hfr _ _,hfr,fun u=>?_⟩;rw[Fr.get_put_exact fr hfr];split
       ·rename_i hu;subst hu;rw[hb,hc]
       ·rfl
      by_cases hbw:b=want
      ·have h':=h.1 hbw;obtain⟨v,ft,wr,σ',h1,h2,h3⟩:=Iu h';have hfe:=same want hbw;have hg:jC o.gd fr=some true:=by simp[jC,hgd,hb,hbw]
       have hg2:jC o.gd (fr.put t (.bool want))=some true:=by simp[jC,hgd,Fr.get_put_exact fr hfr]
       refine fin hfe (o0 (fun u _=>hfe.eq u) (by unfold jF;rw[hg2];exact h1)) h2 h3
      ·have hbn:b=!want:=by cases b<;>cases want<;>simp_all
       have h':=h.2 hbn;have hfe:=same (!want) hbn;have hg:jC o.gd fr=some false:=by simp[jC,hgd,hb,hbw]
       refine fin (v:=.tup []) (ft:=[]) (wr:=[]) (σ':=σ) hfe (by unfold jF;rw[hg];exact⟨rfl,rfl,rfl,rfl⟩) (fun x _=>.inr ⟨fun _ _ h=>(by cases h),fun _ h=>(by cases h)⟩) (by simpa[nY]using h')
     ·rename_i hb;have hg:jC o.gd fr=some false:=by simp[jC,hgd,hb]
      refine fin (v:=.tup []) (ft:=[]) (wr:=[]) (σ':=σ) (.refl hfr) (by unfold jF;rw[hg];exact⟨rfl,rfl,rfl,rfl⟩) (fun x _=>.inr ⟨fun _ _ h=>(by cases h),fun _ h=>(by cases h)⟩) (by simpa[nY]using h)
     ·exact h.elim
end
section
variable{P:Program}{C:Cx}{nt k:Nat}{fr:Fr}{σ:St}{loc:Nat->Option Loc}{a:Act}{w:World}
theorem yS{fx:Bool}{all:List Oper}{o:Oper}{ao:cI}(hc:oN fx P nt all o=some ao)(h:SR C nt k fr σ loc a w){b:Bool}(hg:jC ao.gd fr=some b):Region.wanted o (yielded all.toArray a.tmps)=b:=by
 rcases (iF hc).2.2.2 with⟨h1,h2⟩|⟨j,want,t,h1,h2,h3⟩
 ·rw[h2]at hg;simp only[jC,Option.some.injEq]at hg;simp[Region.wanted,h1,<-hg]
 ·rw [h3] at hg
  simp only[jC]at hg
  have hy:yielded all.toArray a.tmps j=match a.tmps[t]? with|some (.bool b)=>some b|_=>none:=by
   have:((all.toArray[j]?).bind (·.dst))=some t:=by simpa using h2
   unfold yielded;rw[this];simp only[Option.bind_some];cases a.tmps[t]? with
   |none=>rfl
   |some v=>cases v<;>rfl
  have hslot:=h.frm t;split at hg
  ·rename_i c hb
   rw[hb]at hslot;simp only[Rl]at hslot
   have ht:a.tmps[t]?=some (.bool c):=by
    rw[Array.getD_eq_getD_getElem?]at hslot;cases hq:a.tmps[t]? with
    |none=>rw[hq]at hslot;simp[undef]at hslot
    |some v=>rw[hq]at hslot;simp at hslot;rw[hslot]
   simp only[Option.some.injEq]at hg;rw[<-hg];cases c<;>cases want<;>simp[Region.wanted,h1,hy,ht]
  ·rename_i hb
   rw[hb]at hslot;obtain⟨vs,hv1,hv2⟩:=hslot;simp only[RlS]at hv2;subst hv2
   have:yielded all.toArray a.tmps j=none:=by
    rw[hy];rw[Array.getD_eq_getD_getElem?]at hv1;cases hq:a.tmps[t]? with
    |none=>rfl
    |some v=>rw[hq]at hv1;simp at hv1;rw[hv1]
   simp only[Option.some.injEq]at hg;simp[Region.wanted,h1,this,<-hg]
  ·cases hg
theorem Zf {fx : Bool} {Q : Exit -> Act -> World -> Prop} {o : Oper} {ao : cI} {all : List Oper} (hc : oN fx P nt all o = some ao) {n : Nat} {v : AV} {ft ch : List Nat} {σ' : St} (K : Act -> World -> Prop)
 (hn:ao.op.allocs=true->n<σ.length/\loc n=none/\k<=n)
 (hK:∀loc' a' w',SR C nt k (fr.putO ao.dst v) σ' loc' a' w'->(∀id,id<σ.length->(ao.op.allocs=false\/id≠n)->loc' id=loc id)->K a' w') (h:SR C nt k fr σ loc a w) (hop:pE P n ao.op (Opd.ev fr) σ v ft ch σ'):o.wp P a w K Q:=by
 have hs:=iF hc;have hop':=hs.1;have e2:=hs.2.1;have hd:=hs.2.2.1;clear hs hc;rw[e2]at hK;by_cases hcall:∃g xs,ao.op=.call g xs
 ·obtain ⟨g, xs, hg⟩ := hcall
  rw[hg]at hop hop';simp only[pE]at hop;obtain⟨dst,op0,ty,pos,aft,gd⟩:=o;simp only at hop' hd hK;have hop':=uc hop' (.inl ⟨_,_,rfl⟩);obtain⟨c,rfl⟩:=BM hop';simp only[kl]at hop';obtain⟨callee,args,ats⟩:=c;unfold ig at hop';split at hop'
  ·rename_i f hcf
   simp only at hcf;subst hcf;split at hop'
   ·rename_i g' ys h1 h2
    simp only[Option.some.injEq,AOp.call.injEq]at hop';obtain⟨rfl,rfl⟩:=hop';unfold vO at hop;split at hop
    ·rename_i f' caps hcaps
     obtain⟨args',σs,r,σs',k1,k2,k4,rfl,rfl,_,k5⟩:=hop;have hv:=h.opd f g' h1;rw[hcaps]at hv;obtain⟨cvs,hv1,hv2⟩:=hv;have hxs:=gH h.opd h2;have hall:=hxs.app hv2;rw[k2]at hall;have hrun:=BZ (P:=P) (w:=w) (xs:=args) (ats:=ats) (ty:=ty) hv1 k1.1 dst pos aft gd;unfold Oper.wp;rw[hrun,Oper.upon_enter]
     have e3:(args.map a.eval++cvs.toArray)=(List.map a.eval args.toList++cvs).toArray:=by
      apply Array.toList_inj.1
      simp
     rw[e3];rcases k5 with⟨k3,_⟩|⟨js,rfl,k3,_⟩
     ·have hfr:=aI.frame k1 h.rel k3 hall;refine hfr.mono fun e w' ⟨v,loc',he,ho,hk⟩=>?_
      subst he;refine hK loc' _ _ (h.step ho (fun id hid=>hk id (Nat.lt_of_lt_of_le hid h.klen)) ?_ dst hd) fun id hid _=>hk id hid
      unfold aN;simp
     ·obtain⟨q1,q2,q3⟩:=hn (by rw[hg];rfl)
      have hfr:=aI.frameS (n:=n) k1 h.rel k3 q2 (by rw[k4];simp) hall;refine hfr.mono fun e w' ⟨v,loc',he,ho,hk⟩=>?_
      subst he;refine hK loc' _ _ (h.step ho (fun id hid=>hk id (by omega)) ?_ dst hd) fun id hid hcs=>hk id ?_
      ·unfold aN;simp
      ·rcases hcs with hcs|hcs
       ·rw[hg]at hcs;cases hcs
       ·exact hcs
    ·exact hop.elim
   ·cases hop'
  ·exfalso
   revert hop';repeat' split
   all_goals simp
  ·cases hop'
 ·obtain ⟨wr, hop2⟩ : ∃ wr, opF n σ (Opd.ev fr) (fun v1 f1 w1 t1 => v1 = v /\ f1 = ft /\ w1 = wr /\ t1 = σ') ao.op := by
   unfold pE at hop;split at hop
   ·rename_i g xs hg;exact absurd ⟨g,xs,hg⟩ hcall
   ·exact⟨hop.choose,hop.choose_spec.2⟩
  clear hop
  have fin:∀ {m:Nat},(ao.op.allocs=false\/m=n)->(∀id,id<k->id=m->False)->(ao.op.allocs=false->σ.length<=m)->Snd C.X loc σ w m ((execOp a.eval o).run P w) (fun v1 f1 w1 t1=>v1=v/\f1=ft/\w1=wr/\t1=σ')->o.wp P a w K Q:=by
   intro m hm hkm hlm hsnd;obtain⟨av,f1,w1,s1,v',w',loc',⟨rfl,rfl,rfl,rfl⟩,k2,k3,k4,k5⟩:=hsnd;have h2:=h.step k3 (fun id hid=>k4 id fun e=>hkm id hid e) (by omega) o.dst hd
   have h3:∀id,id<σ.length->(ao.op.allocs=false\/id≠n)->loc' id=loc id:=by
    intro id hid hcase;refine k4 id ?_;rintro rfl;cases ha:ao.op.allocs with
    |false=>have:=hlm ha;omega
    | true =>
      rcases hm with hm|hm
      ·rw[ha]at hm;cases hm
      ·rcases hcase with hcase|hcase
       ·rw[ha]at hcase;cases hcase
       ·exact hcase hm
   unfold Oper.wp;rcases k2 with k2|⟨k2,rfl⟩
   ·rw[k2];exact hK _ _ _ h2 h3
   ·rw[k2];exact hK _ _ _ h2 h3
  by_cases hal:ao.op.allocs=true
  ·obtain⟨n1,n2,n3⟩:=hn hal
   refine fin (m:=n) (.inr rfl) (fun id hid e=>by omega) (fun h'=>by rw[hal]at h';cases h') (ul h.rel h.opd (fun _=>rfl) hop' (fun _=>⟨n1,n2,fun o' ho'=>?_⟩) hop2);cases hl:o'.live with
   |false=>rfl
   | true =>
     obtain⟨L,h5,_⟩:=h.rel.obj n o' ho' hl;rw[n2]at h5;cases h5
  ·have hal':ao.op.allocs=false:=by simpa using hal
   exact fin (m:=σ.length) (.inl hal') (fun id hid e=>by have:=h.klen;omega) (fun _=>Nat.le_refl _) (ul h.rel h.opd (fun _=>rfl) hop' (fun h'=>absurd h' hal) (S8 hal' hop2))
theorem yz{fx:Bool}{all:List Oper}:∀ {l:List Oper} {al:List cI},ko fx P nt all l=some al->al.length=l.length/\∀ (i:Nat) (o:Oper) (ao:cI),l[i]?=some o->al[i]?=some ao->oN fx P nt all o=some ao
 | [],al,h=>by simp only[ko,Option.some.injEq]at h;subst h;exact⟨rfl,fun i o ao h=>by simp at h⟩
 | o :: l, al, h => by
   simp only[ko]at h;split at h
   ·rename_i a r h1 h2;simp only[Option.some.injEq]at h;subst h;obtain⟨g1,g2⟩:=yz h2;refine⟨by simp[g1],fun i o' ao hi hj=>?_⟩;cases i with
    |zero=>simp at hi hj;subst hi;subst hj;exact h1
    |succ i=>exact g2 i o' ao (by simpa using hi) (by simpa using hj)
   ·cases h
theorem zH {fx : Bool} {ops : List Oper} {als : List cI} {bf : List Nat} {nb : Nat -> Nat} {Q : Fr -> St -> Prop} {Q' : Exit -> Act -> World -> Prop} (hc : ko fx P nt ops ops = some als)
 (hnb:∀ (i j:Nat) (oi oj:cI),i≠j->als[i]?=some oi->als[j]?=some oj->oi.op.allocs=true->oj.op.allocs=true->nb i≠nb j) (hkb:∀i,k<=nb i)
 (hQ:∀fr' σ' loc' a' w',fr'.vs.length=fr'.nv->Q fr' σ'->SR C nt k fr' σ' loc' a' w'->Q' .normal a' w'):∀ (f:Nat) (L:Array Bool) (H:xP) (fr:Fr) (σ:St) (loc:Nat->Option Loc) (a:Act) (w:World),
  SR C nt k fr σ loc a w->fr.vs.length=fr.nv->L.size=ops.length->(∀ (i:Nat) (o:cI),als[i]?=some o->o.op.allocs=true->L.getD i true=false->nb i<σ.length/\loc (nb i)=none)->GF P ops als bf nb Q f L H fr σ->wpAny P .any ops.toArray Q' f L a w
 |0,L,H,fr,σ,loc,a,w,hs,hfr,hL,hr,h=>⟨h.1,hQ _ _ _ _ _ hfr h.2 hs⟩
 | f + 1, L, H, fr, σ, loc, a, w, hs, hfr, hL, hr, h => by
   refine⟨fun h0=>hQ _ _ _ _ _ hfr (h.1 h0) hs,fun i hi=>?_⟩;obtain⟨o,h1,v,ft,wr,σ',h2,h3,h4⟩:=h.2 i hi;obtain⟨hlen,hget⟩:=yz hc;have hil:i<ops.length:=by rw[<-hlen];exact(List.getElem?_eq_some_iff.1 h1).1
   have hiL:L.getD i true=false:=(ir.1 hi).2.1;have hoi:ops[i]?=some ops[i]:=List.getElem?_eq_getElem hil;have hci:=hget i _ o hoi h1;have hlenσ:=(tV h2).len;unfold wpOp;have hoi':ops.toArray[i]?=some ops[i]:=by simp
   rw[hoi'];simp only
   have hres:∀ (loc':Nat->Option Loc),(∀id,id<σ.length->(o.op.allocs=false\/id≠nb i)->loc' id=loc id)->∀ (j:Nat) (oj:cI),als[j]?=some oj->oj.op.allocs=true->(L.setIfInBounds i true).getD j true=false->nb j<σ'.length/\loc' (nb j)=none:=by
    intro loc' hl j oj hj ha hLj;rw[gJ]at hLj;split at hLj
    ·cases hLj
    ·rename_i hne
     obtain⟨m1,m2⟩:=hr j oj hj ha hLj;refine⟨by omega,?_⟩;rw[hl (nb j) m1 ?_,m2];cases hao:o.op.allocs with
     |false=>exact .inl rfl
     | true =>
       refine .inr fun e=>?_
       have hij:j≠i:=by
        rintro rfl;exact hne ⟨rfl,by omega⟩
       exact hnb j i oj o hij hj h1 ha hao e
   unfold jF at h2;split at h2
   ·rename_i hg
    rw[if_pos (yS hci hs hg)];refine .inl (Zf hci _ (fun ha=>?_) (fun loc' a' w' k1 k2=>?_) hs h2)
    ·obtain⟨m1,m2⟩:=hr i o h1 ha hiL;exact⟨m1,m2,hkb i⟩
    ·exact zH hc hnb hkb hQ f _ _ _ _ loc' a' w' k1 (Fr.len_putO fr hfr _ _) (by simpa using hL) (hres loc' k2) h4
   ·rename_i hg;rw[if_neg (by rw[yS hci hs hg];simp)];obtain⟨rfl,rfl,rfl,rfl⟩:=h2;have hd:=iF hci;have hsk:=hs.skip ops[i].dst hd.2.2.1;rw[hd.2.1]at h4;exact zH hc hnb hkb hQ f _ _ _ _ loc _ w hsk (Fr.len_putO fr hfr _ _) (by simpa using hL) (hres loc fun _ _ _=>rfl) h4
   ·exact h2.elim
def pG(l:List (cI×Nat)):Nat:=(l.filter fun p=>p.1.op.allocs).length
theorem SY{base:Nat}{als:List cI}{i:Nat}{o:cI}(h:als[i]?=some o)(ha:o.op.allocs=true):tF base als i<base+(als.filter fun o=>o.op.allocs).length:=by
 unfold tF;have h1:i<als.length:=(List.getElem?_eq_some_iff.1 h).1
 have e:als=als.take i++(o::als.drop (i+1)):=by
  rw[<- (List.getElem?_eq_some_iff.1 h).2,List.getElem_cons_drop h1,List.take_append_drop]
 have:(als.filter fun o=>o.op.allocs).length=((als.take i).filter fun o=>o.op.allocs).length+((o::als.drop (i+1)).filter fun o=>o.op.allocs).length:=by
  conv=>lhs;rw[e]
  rw[List.filter_append,List.length_append]
 rw[this,List.filter_cons,if_pos ha];simp
theorem Js{base:Nat}{als:List cI}{i j:Nat}{o:cI}(h:als[i]?=some o)(ha:o.op.allocs=true)(hij:i<j):tF base als i<tF base als j:=by
 have h1:(als.take j)[i]?=some o:=by rw[List.getElem?_take,if_pos hij];exact h
 have:=SY (base:=base) h1 ha;unfold tF at this ⊢;rw[List.take_take,Nat.min_eq_left (by omega)]at this;exact this
theorem SX{base:Nat}{als:List cI}{i:Nat}:base<=tF base als i:=Nat.le_add_right _ _
theorem l9 {l : List (cI × Nat)} {Q : Ex -> Fr -> St -> Prop} (hfr : fr.vs.length = fr.nv) (h : qu P l 0 σ.length [] (fun fr σ => Q .normal fr σ) fr (σ ++ List.replicate (pG l) .gone)) : Tri P nt k (.dreg l) Q fr σ := by
 intro fx code hc C loc a w hs;cases code<;>simp only[kj,reduceCtorEq]at hc
 case region id ops draw =>
  split at hc
  ·rename_i als h1
   cases draw
   ·simp only[Bool.false_eq_true,if_false,Option.some.injEq,reduceCtorEq]at hc
   ·simp only[if_true]at hc
    split at hc
    ·rename_i hcond
     obtain⟨hok,hmix⟩:=hcond;simp only[Option.some.injEq,ab.dreg.injEq]at hc;subst hc;have hd:=NP hok
     have hal:pG (als.zip (KF ops.toList []))=(als.filter fun o=>o.op.allocs).length:=by
      unfold pG
      have:als=(als.zip (KF ops.toList [])).map (·.1):=by
       rw[List.map_fst_zip];rw[hd.la,hd.lb];exact Nat.le_refl _
      conv=>rhs;rw[this]
      rw[List.filter_map,List.length_map];rfl
     have hpad:=hs.pad (pG (als.zip (KF ops.toList [])));let Q2:Fr->St->Prop:=fun fr σ=>∃fr0,wq fr0 fr/\Q .normal fr0 σ
     have hlex:=SU (P:=P) (Q2:=Q2) hd (fun fr fr2 σ he ⟨fr0,h2,h3⟩=>⟨fr0,⟨h2.lf,he.lg,fun t=>(h2.eq t).trans (he.eq t)⟩,h3⟩) (fun fr σ hx hq=>⟨fr,.refl hx,hq⟩) σ.length (als.zip (KF ops.toList [])) 0 (Array.replicate ops.toList.length false) [] fr _
      (fun j=>by rw[Nat.zero_add]) (by rw[List.length_zip,hd.la,hd.lb];simp) (Nat.zero_le _) (by simp) (fun j hj=>by have hj2:j<ops.size:=(by simpa using hj);simp[Array.getD_eq_getD_getElem?,Array.getElem?_replicate,hj2]) hfr (by simpa[tF]using h)
     refine wp_region_any hmix ?_;have hlen:(als.zip (KF ops.toList [])).length=ops.size:=by rw[List.length_zip,hd.la,hd.lb];simp
     have hsd:SR C nt k fr (σ++List.replicate (pG (als.zip (KF ops.toList []))) .gone) loc a { w with drawn:=w.drawn+1 }:=by
      have hev:Ev (fun _=>False) w { w with drawn:=w.drawn+1 }:=⟨Nat.le_refl _,fun _ _ _=>rfl,rfl,rfl,rfl⟩;obtain⟨g1,g2⟩:=hpad.rel.grow hev;exact⟨g1,fun t=>Rl.mono g2 _ _ (hpad.frm t),hpad.size,hpad.dfr,hpad.ev.trans hev (fun _ _ h=>h.elim),hpad.old,hpad.pre,hpad.klen⟩
     have hfin:=zH (C:=C) (k:=k) (Q:=Q2) (Q':=fun ex a' w'=>∃e fr' σ' loc',ex=Ex.to e/\Q e fr' σ'/\SR C nt k fr' σ' loc' a' w') (nb:=tF σ.length als) h1
      (fun i j oi oj hij hi hj ha hb=>by
       rcases Nat.lt_or_gt_of_ne hij with h9|h9
       ·exact Nat.ne_of_lt (Js hi ha h9)
       ·exact Nat.ne_of_gt (Js hj hb h9)) (fun i=>Nat.le_trans hs.klen SX)
      (fun fr' σ' loc' a' w' hx ⟨fr0,q1,q2⟩ q3=>⟨.normal,fr0,σ',loc',rfl,q2,q3.slots fun t=>.inr (q1.eq t)⟩)
      _ _ _ _ _ loc a _ hsd hfr (by simp) (fun i o hi ha _=>⟨by rw[List.length_append,List.length_replicate,hal];exact SY hi ha,hs.rel.beyond _ SX⟩) hlex
     rw[hlen]at hfin;simpa using hfin
    ·cases hc
  ·cases hc
 all_goals(exfalso;revert hc;(repeat' split)<;>intro hc<;>first|(cases hc;done)|(obtain⟨_,_,hc⟩:=Option.map_eq_some_iff.1 hc;cases hc;done))
end
def aJ(P:Program)(f:FuncId):Option (Nat×List gO×ab):=match P.funcs[f]? with
 | some fn => if fn.name != "runtime.NumGoroutine" && decide (fn.results.toList.length <= 5) then (match fn.body with
   | some c => (match kj (Ce P c) P fn.ntmps c, lP P fn.results.toList with
     |some ac,some rs=>some (fn.ntmps,rs,ac)
     |_,_=>none)
   |none=>none)else none
 |none=>none
mutual
def Pu:AV->Prop
 |.agg cs|.tup cs|.fn _ cs=>PuL cs
 |.sl _ _ xs|.elt _ xs _ _=>fG xs
 |.ptr _ _|.hs _ _ _ _|.va _ _ _ _|.vp _ _ _ _|.mp _=>False
 |_=>True
def PuL:List AV->Prop
 | []=>True
 |c::cs=>Pu c/\PuL cs
def fG:List (List AV)->Prop
 | []=>True
 |x::xs=>PuL x/\fG xs
end
theorem Dj:∀ {cs:List AV},PuL cs↔∀c∈cs,Pu c
 | []=>by simp[PuL]
 |c::cs=>by simp[PuL,Dj (cs:=cs)]
theorem pC:∀ {xs:List (List AV)},fG xs↔∀x∈xs,PuL x
 | []=>by simp[fG]
 |c::cs=>by simp[fG,pC (xs:=cs)]
mutual
theorem Pu.ren(ρ:Nat->Nat):∀ {v:AV},Pu v->ren ρ v=v
 |.dead,_|.bool _,_|.int _ _,_|.str _,_|.nilp,_|.nilf,_|.any,_=>rfl
 |.agg cs,h|.tup cs,h|.fn _ cs,h=>by simp only[Pu]at h;simp only[Go.FH.ren,PuL.ren ρ h]
 |.sl _ _ xs,h|.elt _ xs _ _,h=>by simp only[Pu]at h;simp only[Go.FH.ren,fG.ren ρ h]
 |.ptr _ _,h|.hs _ _ _ _,h|.va _ _ _ _,h|.vp _ _ _ _,h|.mp _,h=>by simp only[Pu]at h
theorem PuL.ren(ρ:Nat->Nat):∀ {cs:List AV},PuL cs->dP ρ cs=cs
 | [],_=>rfl
 |c::cs,h=>by simp only[PuL]at h;simp only[dP,Pu.ren ρ h.1,PuL.ren ρ h.2]
theorem fG.ren(ρ:Nat->Nat):∀ {xs:List (List AV)},fG xs->dF ρ xs=xs
 | [],_=>rfl
 |x::xs,h=>by simp only[fG]at h;simp only[dF,PuL.ren ρ h.1,fG.ren ρ h.2]
end
mutual
theorem Pu.fz(σ:St)(zs:List Nat):∀ {v:AV},Pu v->fz σ zs v=v
 |.dead,_|.bool _,_|.int _ _,_|.str _,_|.nilp,_|.nilf,_|.any,_=>rfl
 |.agg cs,h|.tup cs,h|.fn _ cs,h=>by simp only[Pu]at h;simp only[Go.FH.fz,PuL.fz σ zs h]
 |.sl _ _ xs,h|.elt _ xs _ _,h=>by simp only[Pu]at h;simp only[Go.FH.fz,fG.fz σ zs h]
 |.ptr _ _,h|.hs _ _ _ _,h|.va _ _ _ _,h|.vp _ _ _ _,h|.mp _,h=>by simp only[Pu]at h
theorem PuL.fz(σ:St)(zs:List Nat):∀ {cs:List AV},PuL cs->fzL σ zs cs=cs
 | [],_=>rfl
 |c::cs,h=>by simp only[PuL]at h;simp only[fzL,Pu.fz σ zs h.1,PuL.fz σ zs h.2]
theorem fG.fz(σ:St)(zs:List Nat):∀ {xs:List (List AV)},fG xs->gX σ zs xs=xs
 | [],_=>rfl
 |x::xs,h=>by simp only[fG]at h;simp only[gX,PuL.fz σ zs h.1,fG.fz σ zs h.2]
end
mutual
theorem Yo:∀ (v:AV),ren (fun i=>i) v=v
 |.dead|.bool _|.int _ _|.str _|.nilp|.nilf|.any|.ptr _ _|.hs _ _ _ _|.va _ _ _ _|.vp _ _ _ _|.mp _=>rfl
 |.agg cs|.tup cs|.fn _ cs=>by simp only[ren,Dt cs]
 |.sl _ _ xs|.elt _ xs _ _=>by simp only[ren,FO xs]
theorem Dt:∀ (cs:List AV),dP (fun i=>i) cs=cs
 | []=>rfl
 |c::cs=>by simp only[dP,Yo c,Dt cs]
theorem FO:∀ (xs:List (List AV)),dF (fun i=>i) xs=xs
 | []=>rfl
 |x::xs=>by simp only[dF,Dt x,FO xs]
end
theorem aab(o:bO):iZ (fun i=>i) o=o:=by cases o<;>simp only[iZ,Dt,FO]
theorem O9(n:Nat):rn (List.range n) n=fun i=>i:=by
 funext i
 unfold rn;rw[List.getD_eq_getElem?_getD];by_cases h:i<n
 ·rw[List.getElem?_range h];rfl
 ·rw[List.getElem?_eq_none (by simp;omega)];simp;omega
section
variable{P:Program}{nt k:Nat}{fr:Fr}{σ:St}
structure PC(P:Program)(f:FuncId)(args:List AV)(r:AV):Prop where
 call:aI P f args [] r []
 pa:PuL args
 pr:Pu r
def PQ(rs:List gO)(r:AV):Ex->Fr->St->Prop
 |.exit _,_,_=>False
 |_,fr,σ=>∃l,dQ fr σ rs=some l/\(fz σ (List.range σ.length) (gm l)=r\/∃r0,fz σ (List.range σ.length) (gm l)=r0/\Pu r0/\Wk r0 r)
theorem nQ(σ:St)(zs:List Nat):nc 0 σ zs [] []:=⟨fun i hi=>by omega,List.nodup_nil,by simp,rfl,fun i o h=>by simp at h⟩
theorem Iv{f:FuncId}{rs:List gO}{ac:ab}(hf:aJ P f=some (nt,rs,ac)):∃fn c,P.funcs[f]?=some fn/\fn.body=some c/\pX P f=true/\kj (Ce P c) P fn.ntmps c=some ac/\fn.ntmps=nt/\
 fn.results.toList.length<=5/\lP P fn.results.toList=some rs:=by
 unfold aJ at hf;split at hf
 ·rename_i fn h1
  split at hf
  ·rename_i h2
   simp only[Bool.and_eq_true,decide_eq_true_eq]at h2;split at hf
   ·rename_i c h3
    split at hf
    ·rename_i ac' rs' h4 h6;simp only[Option.some.injEq,Prod.mk.injEq]at hf;obtain⟨rfl,rfl,rfl⟩:=hf;refine⟨fn,c,h1,h3,?_,h4,rfl,h2.2,h6⟩;unfold pX;rw[h1];simp only;rw[h3,h2.1];rfl
    ·cases hf
   ·cases hf
  ·cases hf
 ·cases hf
theorem PC.fact{f:FuncId}{rs:List gO}{ac:ab}{args:List AV}{r:AV}(nv:Nat)(hf:aJ P f=some (nt,rs,ac))(ha:args.length<=nt)(hp:PuL args)(hr:Pu r)
 (h:Tri P nt 0 ac (PQ rs r) ⟨nv,args++List.replicate (nv-args.length) .dead,[]⟩ []):PC P f args r:=by
 refine⟨?_,hp,hr⟩;obtain⟨fn,c,h1,h3,hn,h4,rfl,h5,h6⟩:=Iv hf;refine aI.of_body nv h1 h3 hn h4 (by simp) h5 h6 ha (Tri.mono h fun e fr' σ' hq=>?_) (Nat.le_refl _);cases e with
 |exit _=>exact hq.elim
 | normal | ret =>
   obtain⟨l,q1,q2⟩:=hq;rcases q2 with q2|⟨r0,q2,q3,q4⟩
   ·exact⟨l,_,[],r,q1,nQ _ _,Nat.zero_le _,by rw[q2,hr.ren],Wk.refl r⟩
   ·exact⟨l,_,[],r0,q1,nQ _ _,Nat.zero_le _,by rw[q2,q3.ren],q4⟩
theorem uY(σ:St):aN σ [] []=σ:=by simp[aN,ky]
theorem ai{f:FuncId}{args caps:List AV}{r:AV}{K:AV->St->Prop}(h:PC P f (args++caps) r)(hk:K r σ):jd P (.fn (.func f) caps) args σ K:=by
 refine⟨args++caps,[],r,[],[],h.call,(h.pa.ren _).symm,⟨rfl,List.nodup_nil,by simp,fun i j hij=>by simp at hij⟩,?_⟩;rw[h.pr.ren,uY];exact hk
def Fr.wipe(ds:List Nat)(fr:Fr):Fr:=⟨fr.nv,ds.foldl (fun vs d=>vs.set d .dead) fr.vs,[]⟩
theorem I3(t:Nat):∀ (ds:List Nat) (vs:List AV),(ds.foldl (fun vs d=>vs.set d .dead) vs).getD t .dead=.dead\/(ds.foldl (fun vs d=>vs.set d .dead) vs).getD t .dead=vs.getD t .dead
 | [],vs=>.inr rfl
 | d :: ds, vs => by
   rw[List.foldl_cons];rcases I3 t ds (vs.set d .dead)with h|h
   ·exact .inl h
   ·by_cases hd:d=t
    ·subst hd;refine .inl (h.trans ?_);simp only[List.getD_eq_getElem?_getD,List.getElem?_set,if_true];split<;>simp
    ·refine .inr (h.trans ?_);simp only[List.getD_eq_getElem?_getD,List.getElem?_set,hd,if_false]
theorem Fr.get_wipe(ds:List Nat)(fr:Fr)(t:Nat):(fr.wipe ds).get t=.dead\/(fr.wipe ds).get t=fr.get t:=by
 unfold Fr.wipe Fr.get;simp only;split
 ·exact I3 t ds fr.vs
 ·exact .inl rfl
theorem PG{c:ab}{Q:Ex->Fr->St->Prop}(ds:List Nat)(h:Tri P nt k c Q (fr.wipe ds) σ):Tri P nt k c Q fr σ:=
 Ws _ (Fr.get_wipe ds fr) h
theorem li{ι:Type}{x:ab}{Q:Ex->Fr->St->Prop}(F:ι->Fr)(S:ι->St)(μ:ι->Nat)(ok:ι->Prop)(ds:List Nat)(x0:ι)(h0:ok x0)(hfr:fr.wipe ds=F x0)(hσ:σ=S x0)
 (round:∀i,ok i->Tri P nt k x (jt (fun fr σ=>∃j,ok j/\μ j<μ i/\fr.wipe ds=F j/\σ=S j) Q) (F i) (S i)):Tri P nt k (.loop x) Q fr σ:=by
 refine PG ds (Gq (fun m fr σ=>∃i,ok i/\μ i=m/\(fr=F i\/fr.wipe ds=F i)/\σ=S i) (μ x0) ⟨x0,h0,rfl,.inl hfr,hσ⟩ ?_);rintro m fr1 σ1 ⟨i,h1,rfl,h2,rfl⟩
 have key:Tri P nt k x (jt (fun fr σ=>∃m',m'<μ i/\∃i,ok i/\μ i=m'/\(fr=F i\/fr.wipe ds=F i)/\σ=S i) Q) (F i) (S i):=by
  refine Tri.mono (round i h1) fun e fr2 σ2 hq=>?_
  cases e with
  |normal=>obtain⟨j,q1,q2,q3,q4⟩:=hq;exact⟨μ j,q2,j,q1,rfl,.inr q3,q4⟩
  |exit _=>exact hq
  |ret=>exact hq
 rcases h2 with rfl|h2
 ·exact key
 ·rw[<-h2]at key;exact PG ds key
def GC(k:Nat)(fr:Fr)(σ:St)(fr2:Fr)(σ2:St):Prop:=∃zs js,nc k σ zs js σ2/\k<=js.length/\∀t,fr2.get t=.dead\/fz σ zs (fr.get t)=ren (rn js σ.length) (fr2.get t)
theorem dR{c:ab}{Q:Ex->Fr->St->Prop}{fr2:Fr}{σ2:St}(hg:GC k fr σ fr2 σ2)(h:Tri P nt k c Q fr2 σ2):Tri P nt k c Q fr σ:=by
 obtain⟨zs,js,h1,h2,h3⟩:=hg;exact Gn zs js fr2 σ2 h1 h2 h3 h
theorem gN{ι:Type}{x:ab}{Q:Ex->Fr->St->Prop}(F:ι->Fr)(S:ι->St)(μ:ι->Nat)(ok:ι->Prop)(x0:ι)(h0:ok x0)(hgc:GC k fr σ (F x0) (S x0))
 (round:∀i,ok i->Tri P nt k x (jt (fun fr σ=>∃j,ok j/\μ j<μ i/\GC k fr σ (F j) (S j)) Q) (F i) (S i)):Tri P nt k (.loop x) Q fr σ:=by
 refine Gq (fun m fr σ=>∃i,ok i/\μ i=m/\GC k fr σ (F i) (S i)) (μ x0) ⟨x0,h0,rfl,hgc⟩ ?_;rintro m fr1 σ1 ⟨i,h1,rfl,h2⟩;refine dR h2 (Tri.mono (round i h1) fun e fr2 σ2 hq=>?_);cases e with
 |normal=>obtain⟨j,q1,q2,q3⟩:=hq;exact⟨μ j,q2,j,q1,rfl,q3⟩
 |exit _=>exact hq
 |ret=>exact hq
def jv(σ:St)(zs:List Nat)(ρ:Nat->Nat):List AV->List AV->Prop
 |_,[]=>True
 |x::xs,y::ys=>(y=.dead\/fz σ zs x=ren ρ y)/\jv σ zs ρ xs ys
 | [],y::ys=>y=.dead/\jv σ zs ρ [] ys
theorem jv.get{σ:St}{zs:List Nat}{ρ:Nat->Nat}:∀ {xs ys:List AV},jv σ zs ρ xs ys->∀t,ys.getD t .dead=.dead\/fz σ zs (xs.getD t .dead)=ren ρ (ys.getD t .dead)
 |_,[],_,t=>.inl (by simp)
 | x :: xs, y :: ys, h, t => by
   cases t with
   |zero=>simpa using h.1
   |succ t=>simpa using jv.get h.2 t
 | [], y :: ys, h, t => by
   cases t with
   |zero=>exact .inl (by simpa using h.1)
   |succ t=>simpa using jv.get h.2 t
def iY(σ:St)(zs:List Nat)(ρ:Nat->Nat):List Nat->St->Prop
 | [],[]=>True
 |j::js,o::os=>(o=.gone\/(j∉zs/\(σ[j]?).map (fzO σ zs)=some (iZ ρ o)))/\iY σ zs ρ js os
 |_,_=>False
theorem iY.len{σ:St}{zs:List Nat}{ρ:Nat->Nat}:∀ {js:List Nat} {os:St},iY σ zs ρ js os->os.length=js.length
 | [],[],_=>rfl
 |j::js,o::os,h=>by simp[iY.len h.2]
 | [],_::_,h|_::_,[],h=>h.elim
theorem iY.get{σ:St}{zs:List Nat}{ρ:Nat->Nat}:∀ {js:List Nat} {os:St},iY σ zs ρ js os->∀ (i:Nat) (o:bO),os[i]?=some o->o=.gone\/∃j,js[i]?=some j/\j∉zs/\(σ[j]?).map (fzO σ zs)=some (iZ ρ o)
 | [],[],_,i,o,h=>by simp at h
 | j :: js, o' :: os, h, i, o, ho => by
   cases i with
   | zero =>
     simp only[List.getElem?_cons_zero,Option.some.injEq]at ho;subst ho;rcases h.1 with h1|h1
     ·exact .inl h1
     ·exact .inr ⟨j,rfl,h1.1,h1.2⟩
   |succ i=>simpa using iY.get h.2 i o (by simpa using ho)
 | [],_::_,h,_,_,_|_::_,[],h,_,_,_=>h.elim
theorem GC.mk'{nv:Nat}{vs vs2:List AV}{ts:List (Nat×AV)}{σ2:St}(zs js:List Nat)(hk:k<=js.length)(hfix:js.take k=List.range k)(hnd:js.Nodup)(hlt:∀j∈js,j<σ.length)(ho:iY σ zs (rn js σ.length) js σ2)
 (hs:jv σ zs (rn js σ.length) vs vs2):GC k ⟨nv,vs,ts⟩ σ ⟨nv,vs2,[]⟩ σ2:=by
 refine⟨zs,js,⟨fun i hi=>?_,hnd,hlt,ho.len,ho.get⟩,hk,fun t=>?_⟩
 ·have:(js.take k)[i]?=some i:=by rw[hfix];simp[hi]
  rwa [List.getElem?_take,if_pos hi]at this
 ·unfold Fr.get;simp only;split
  ·exact hs.get t
  ·exact .inl rfl
end
def bts(bs:List UInt8):List (List AV):=bs.map fun b=>[.int .u8 (b.toNat:Int)]
def ax(k:IntKind)(ns:List Int):List (List AV):=ns.map fun n=>[.int k n]
@[simp] theorem Fj(bs:List UInt8):(bts bs).length=bs.length:=by simp[bts]
@[simp] theorem lU(k:IntKind)(ns:List Int):(ax k ns).length=ns.length:=by simp[ax]
theorem pd(bs:List UInt8):fG (bts bs):=by
 rw[pC];intro x hx;obtain⟨b,_,rfl⟩:=List.mem_map.1 hx;exact⟨trivial,trivial⟩
theorem bj(k:IntKind)(ns:List Int):fG (ax k ns):=by
 rw[pC];intro x hx;obtain⟨b,_,rfl⟩:=List.mem_map.1 hx;exact⟨trivial,trivial⟩
theorem uq(ρ:Nat->Nat)(bs:List UInt8):dF ρ (bts bs)=bts bs:=(pd bs).ren ρ
theorem yQ(σ:St)(zs:List Nat)(bs:List UInt8):gX σ zs (bts bs)=bts bs:=(pd bs).fz σ zs
theorem ei(ρ:Nat->Nat)(k:IntKind)(ns:List Int):dF ρ (ax k ns)=ax k ns:=(bj k ns).ren ρ
theorem fy(σ:St)(zs:List Nat)(k:IntKind)(ns:List Int):gX σ zs (ax k ns)=ax k ns:=(bj k ns).fz σ zs
theorem US{k:IntKind}{ns:List Int}{i:Nat}(h:i<ns.length):(ax k ns).getD i []=[.int k ns[i]]:=by
 simp[ax,List.getD_eq_getElem?_getD,h]
theorem rZ(a b:List UInt8):bts a++bts b=bts (a++b):=by simp[bts]
theorem Zs(b:UInt8):[[AV.int .u8 (b.toNat:Int)]]=bts [b]:=rfl
theorem PZ(bs:List UInt8):(bts bs).all mj=true:=by simp[bts,mj]
theorem XS(bs:List UInt8):(bts bs).map uC=bs:=by
 simp only[bts,List.map_map];conv=>rhs;rw[<-List.map_id bs]
 apply List.map_congr_left
 intro b _;simp[uC]
theorem abO(σ:St)(e:Nat)(cl:Bool)(xs:List (List AV)):rdB σ (.sl e cl xs)=rdS σ 1 (.sl e cl xs):=rfl
theorem abN(σ:St)(e id off len:Nat):rdB σ (.hs e id off len)=rdS σ 1 (.hs e id off len):=rfl
theorem abP(σ:St)(e id off len:Nat):rdB σ (.va e id off len)=rdS σ 1 (.va e id off len):=rfl
theorem WX(b:UInt8)(bs:List UInt8):bts (b::bs)=[.int .u8 (b.toNat:Int)]::bts bs:=rfl
theorem WZ(n:Nat)(bs:List UInt8):(bts bs).take n=bts (bs.take n):=by simp[bts,List.map_take]
theorem WY(n:Nat)(bs:List UInt8):(bts bs).drop n=bts (bs.drop n):=by simp[bts,List.map_drop]
def byt(n:Int):UInt8:=UInt8.ofNat (IntKind.u8.wrap n).toNat
theorem Zg(n:Int):((byt n).toNat:Int)=IntKind.u8.wrap n:=by
 unfold byt
 have h1:0<=IntKind.u8.wrap n/\IntKind.u8.wrap n<256:=by
  rw[IntKind.wrap_u8];omega
 simp only[UInt8.toNat_ofNat'];omega
theorem W2(n:Nat):((no_index (OfNat.ofNat n):Nat):Int)=OfNat.ofNat n:=rfl
theorem aK{n:Int}(h1:-9223372036854775808<=n)(h2:n<=9223372036854775807):IntKind.i64.wrap n=n:=by rw[IntKind.wrap_i64];omega
theorem ah{i n:Nat}(h1:i<n)(h2:n<=9223372036854775807):IntKind.i64.wrap ((i:Int)+1)=((i+1:Nat):Int):=by rw[aK (by omega) (by omega)];rfl
theorem Gy(n:Int):IntKind.u64.wrap n=n%18446744073709551616:=by simp[IntKind.wrap,IntKind.bits,IntKind.signed]
theorem aU{n:Int}(h1:0<=n)(h2:n<18446744073709551616):IntKind.u64.wrap n=n:=by rw[Gy];omega
theorem uv(σ:St)(o:bO):(σ++[bO.gone]).set σ.length o=σ++[o]:=by
 rw[List.set_append_right _ _ (Nat.le_refl _)];simp
theorem YG(σ:St)(id:Nat)(o:bO):((σ++[bO.gone]).set id .gone).set σ.length o=σ.set id .gone++[o]:=by
 by_cases h:id<σ.length
 ·rw[List.set_append_left _ _ h,List.set_append_right _ _ (by simp)];simp
 ·rw[List.set_append_right _ _ (by omega),List.set_eq_of_length_le (by omega:σ.length<=id)]
  have:([bO.gone].set (id-σ.length) .gone)=[.gone]:=by
   cases id-σ.length<;>rfl
  rw[this,uv]
theorem SN(σ:St){id:Nat}(h:id<σ.length):(σ++[bO.gone])[id]?=σ[id]?:=List.getElem?_append_left h
theorem evF:
 (∀nv vs ts t,Fr.get ⟨nv,vs,ts⟩ t=if t<nv then vs.getD t .dead else qO ts t)/\
 (∀nv vs ts t v,Fr.put ⟨nv,vs,ts⟩ t v=if t<nv then ⟨nv,vs.set t v,ts⟩else ⟨nv,vs,(t,v)::ts⟩)/\
 (∀f t v,Fr.putO f (some t) v=f.put t v)/\(∀f v,Fr.putO f none v=f)/\
 (∀t k v r,qO ((k,v)::r) t=if t=k then v else qO r t)/\(∀t,qO [] t=.dead)/\
 (∀ds nv vs ts,Fr.wipe ds ⟨nv,vs,ts⟩=⟨nv,ds.foldl (fun vs d=>vs.set d .dead) vs,[]⟩)/\
 (∀fr n,Opd.ev fr (.t n)=fr.get n)/\(∀fr v,Opd.ev fr (.c v)=v)/\
 (∀ (x:AV) xs v,(x::xs).set 0 v=v::xs)/\(∀ (x:AV) xs n v,(x::xs).set (n+1) v=x::xs.set n v)/\
 (∀ (x:AV) xs d,(x::xs).getD 0 d=x)/\(∀ (x:AV) xs n d,(x::xs).getD (n+1) d=xs.getD n d)/\
 (∀ (x:AV) xs d,(x::xs).headD d=x)/\(∀ (xs:List AV),xs.drop 0=xs)/\(∀ (x:AV) xs n,(x::xs).drop (n+1)=xs.drop n)/\(∀ (xs:List AV),xs.take 0=[])/\(∀ (x:AV) xs n,(x::xs).take (n+1)=x::xs.take n)/\
 (∀ (x:AV),List.replicate 0 x=[])/\(∀ (x:AV) n,List.replicate (n+1) x=x::List.replicate n x)/\
 (∀ (xs:List AV),[]++xs=xs)/\(∀ (x:AV) xs ys,(x::xs)++ys=x::(xs++ys))/\(∀ (xs:List AV),xs++[]=xs)/\
 (∀ (ds:List AV) (x:Nat) xs f,List.foldl f ds (x::xs)=List.foldl f (f ds x) xs)/\(∀ (ds:List AV) (f:List AV->Nat->List AV),List.foldl f ds []=ds):=
 ⟨fun _ _ _ _=>rfl,fun _ _ _ _ _=>by simp only[Fr.put],fun _ _ _=>rfl,fun _ _=>rfl,fun _ _ _ _=>rfl,fun _=>rfl,fun _ _ _ _=>rfl,fun _ _=>rfl,fun _ _=>rfl,fun _ _ _=>rfl,fun _ _ _ _=>rfl,fun _ _ _=>rfl,fun _ _ _ _=>rfl,fun _ _ _=>rfl,fun _=>rfl,fun _ _ _=>rfl,fun _=>rfl,fun _ _ _=>rfl,fun _=>rfl,fun _ _=>rfl,fun _=>rfl,fun _ _ _=>rfl,fun _=>List.append_nil _,fun _ _ _ _=>rfl,fun _ _=>rfl⟩
theorem evR(P:Program):
 (∀Q fr σ,rG P [] Q fr σ=Q fr σ)/\
 (∀d op r Q nv vs ts,rG P (⟨d,op,none⟩::r) Q ⟨nv,vs,ts⟩ []=aDo P op ⟨nv,vs,ts⟩ [] fun av σ'=>rG P r Q (Fr.putO ⟨nv,vs,ts⟩ d av) σ')/\
 (∀d op r Q nv vs ts o os,rG P (⟨d,op,none⟩::r) Q ⟨nv,vs,ts⟩ (o::os)=aDo P op ⟨nv,vs,ts⟩ (o::os) fun av σ'=>rG P r Q (Fr.putO ⟨nv,vs,ts⟩ d av) σ')/\
 (∀d op g r Q nv vs ts,rG P (⟨d,op,some g⟩::r) Q ⟨nv,vs,ts⟩ []=aGd (some g) ⟨nv,vs,ts⟩ (fun fr=>aDo P op fr [] fun av σ'=>rG P r Q (fr.putO d av) σ') (fun fr=>rG P r Q (fr.putO d (.tup [])) []))/\
 (∀d op g r Q nv vs ts o os,rG P (⟨d,op,some g⟩::r) Q ⟨nv,vs,ts⟩ (o::os)=aGd (some g) ⟨nv,vs,ts⟩ (fun fr=>aDo P op fr (o::os) fun av σ'=>rG P r Q (fr.putO d av) σ') (fun fr=>rG P r Q (fr.putO d (.tup [])) (o::os))):=
 ⟨fun _ _ _=>rfl,fun _ _ _ _ _ _ _=>rfl,fun _ _ _ _ _ _ _ _ _=>rfl,fun _ _ _ _ _ _ _ _=>rfl,fun _ _ _ _ _ _ _ _ _ _=>rfl⟩
def gdV(v:AV)(want:Bool)(t:Nat)(fr:Fr)(yes no:Fr->Prop):Prop:=match v with
 |.bool b=>(b=want->yes (fr.put t (.bool want)))/\(b=!want->no (fr.put t (.bool !want)))
 |.tup []=>no fr
 |_=>False
theorem evQ:
 (∀t want fr yes no,aGd (some (t,want)) fr yes no=gdV (fr.get t) want t fr yes no)/\
 (∀t fr yes no,gdV (.bool true) true t fr yes no=yes (fr.put t (.bool true)))/\(∀t fr yes no,gdV (.bool false) true t fr yes no=no (fr.put t (.bool false)))/\
 (∀t fr yes no,gdV (.bool true) false t fr yes no=no (fr.put t (.bool true)))/\(∀t fr yes no,gdV (.bool false) false t fr yes no=yes (fr.put t (.bool false)))/\
 (∀want t fr yes no,gdV (.tup []) want t fr yes no=no fr)/\
 (∀next Q fr σ,jt next Q .normal fr σ=next fr σ)/\(∀next Q i fr σ,jt next Q (.exit i) fr σ=Q (.exit i) fr σ)/\(∀next Q fr σ,jt next Q .ret fr σ=Q .ret fr σ)/\
 (∀id Q fr σ,lT id Q .normal fr σ=Q .normal fr σ)/\(∀id Q fr σ,lT id Q .ret fr σ=Q .ret fr σ)/\(∀id Q i fr σ,lT id Q (.exit i) fr σ=if i=id then Q .normal fr σ else Q (.exit i) fr σ):=
 ⟨fun _ _ _ _ _=>rfl,fun _ _ _ _=>by simp[gdV],fun _ _ _ _=>by simp[gdV],fun _ _ _ _=>by simp[gdV],fun _ _ _ _=>by simp[gdV],fun _ _ _ _ _=>rfl,fun _ _ _ _=>rfl,fun _ _ _ _ _=>rfl,fun _ _ _ _=>rfl,fun _ _ _ _=>rfl,fun _ _ _ _=>rfl,fun _ _ _ _ _=>rfl⟩
@[congr] theorem abo{P:Program}{r:List cI}{Q:Fr->St->Prop}{fr fr':Fr}{σ σ':St}(h1:fr=fr')(h2:σ=σ'):rG P r Q fr σ=rG P r Q fr' σ':=by rw[h1,h2]
@[congr] theorem abn{P:Program}{r:List (cI×Nat)}{Q:Fr->St->Prop}{i i' n n':Nat}{H H':xP}{fr fr':Fr}{σ σ':St}(h0:i=i')(h1:n=n')(h2:H=H')(h3:fr=fr')(h4:σ=σ'):qu P r i n H Q fr σ=qu P r i' n' H' Q fr' σ':=by rw[h0,h1,h2,h3,h4]
@[congr] theorem ab3{P:Program}{op:AOp}{K:AV->St->Prop}{fr fr':Fr}{σ σ':St}(h1:fr=fr')(h2:σ=σ'):aDo P op fr σ K=aDo P op fr' σ' K:=by rw[h1,h2]
@[congr] theorem abm{P:Program}{n n':Nat}{op:AOp}{K:AV->List Nat->List Nat->St->Prop}{fr fr':Fr}{σ σ':St}(h0:n=n')(h1:fr=fr')(h2:σ=σ'):fc P n op fr σ K=fc P n' op fr' σ' K:=by rw[h0,h1,h2]
@[congr] theorem aco{n n':Nat}{ρ:Opd->AV}{op:AOp}{K:AV->List Nat->Bool->St->Prop}{σ:St}(h0:n=n'):opF n σ ρ K op=opF n' σ ρ K op:=by rw[h0]
@[congr] theorem ab5{v v':AV}{want:Bool}{t:Nat}{fr:Fr}{yes no:Fr->Prop}(h:v=v'):gdV v want t fr yes no=gdV v' want t fr yes no:=by rw[h]
@[congr] theorem ab4{g:Option (Nat×Bool)}{fr fr':Fr}{yes no:Fr->Prop}(h:fr=fr'):aGd g fr yes no=aGd g fr' yes no:=by rw[h]
@[congr] theorem aba{next:Fr->St->Prop}{Q:Ex->Fr->St->Prop}{e:Ex}{fr fr':Fr}{σ σ':St}(h1:fr=fr')(h2:σ=σ'):jt next Q e fr σ=jt next Q e fr' σ':=by rw[h1,h2]
@[congr] theorem XI{id:Nat}{Q:Ex->Fr->St->Prop}{e:Ex}{fr fr':Fr}{σ σ':St}(h1:fr=fr')(h2:σ=σ'):lT id Q e fr σ=lT id Q e fr' σ':=by rw[h1,h2]
@[congr] theorem ab1{P:Program}{nt k:Nat}{c:ab}{Q:Ex->Fr->St->Prop}{fr fr':Fr}{σ σ':St}(h1:fr=fr')(h2:σ=σ'):Tri P nt k c Q fr σ=Tri P nt k c Q fr' σ':=by rw[h1,h2]
@[congr] theorem W0{P:Program}{g g':AV}{xs xs':List AV}{K:AV->St->Prop}{σ σ':St}(h0:g=g')(h1:xs=xs')(h2:σ=σ'):jd P g xs σ K=jd P g' xs' σ' K:=by rw[h0,h1,h2]
@[congr] theorem Zi{neg:Bool}{x x':AV}{K:AV->St->Prop}{σ σ':St}(h1:x=x')(h2:σ=σ'):oS neg x σ K=oS neg x' σ' K:=by rw[h1,h2]
@[congr] theorem Zj{x x':AV}{K:AV->St->Prop}{σ σ':St}(h1:x=x')(h2:σ=σ'):qQ x σ K=qQ x' σ' K:=by rw[h1,h2]
@[congr] theorem aca{rs:List gO}{r:AV}{e:Ex}{fr fr':Fr}{σ σ':St}(h1:fr=fr')(h2:σ=σ'):PQ rs r e fr σ=PQ rs r e fr' σ':=by rw[h1,h2]
@[congr] theorem abh{rs:List gO}{k:Nat}{τ:St}{r:AV}{e:Ex}{fr fr':Fr}{σ σ':St}(h1:fr=fr')(h2:σ=σ'):Ni rs k τ r e fr σ=Ni rs k τ r e fr' σ':=by rw[h1,h2]
theorem evL(P:Program):
 (∀i n H Q fr σ,qu P [] i n H Q fr σ=Q fr σ)/\
 (∀d op m r i n H Q nv vs ts,qu P ((⟨d,op,none⟩,m)::r) i n H Q ⟨nv,vs,ts⟩ []=fc P n op ⟨nv,vs,ts⟩ [] fun av ft wr σ'=>okH m H ft wr/\qu P r (i+1) (if op.allocs then n+1 else n) (nY i ft wr H) Q (Fr.putO ⟨nv,vs,ts⟩ d av) σ')/\
 (∀d op m r i n H Q nv vs ts o os,qu P ((⟨d,op,none⟩,m)::r) i n H Q ⟨nv,vs,ts⟩ (o::os)=fc P n op ⟨nv,vs,ts⟩ (o::os) fun av ft wr σ'=>okH m H ft wr/\qu P r (i+1) (if op.allocs then n+1 else n) (nY i ft wr H) Q (Fr.putO ⟨nv,vs,ts⟩ d av) σ')/\
 (∀d op g m r i n H Q nv vs ts,qu P ((⟨d,op,some g⟩,m)::r) i n H Q ⟨nv,vs,ts⟩ []=aGd (some g) ⟨nv,vs,ts⟩ (fun fr=>fc P n op fr [] fun av ft wr σ'=>okH m H ft wr/\qu P r (i+1) (if op.allocs then n+1 else n) (nY i ft wr H) Q (fr.putO d av) σ')
  (fun fr=>qu P r (i+1) (if op.allocs then n+1 else n) H Q (fr.putO d (.tup [])) []))/\
 (∀d op g m r i n H Q nv vs ts o os,qu P ((⟨d,op,some g⟩,m)::r) i n H Q ⟨nv,vs,ts⟩ (o::os)=aGd (some g) ⟨nv,vs,ts⟩ (fun fr=>fc P n op fr (o::os) fun av ft wr σ'=>okH m H ft wr/\qu P r (i+1) (if op.allocs then n+1 else n) (nY i ft wr H) Q (fr.putO d av) σ')
  (fun fr=>qu P r (i+1) (if op.allocs then n+1 else n) H Q (fr.putO d (.tup [])) (o::os))):=
 ⟨fun _ _ _ _ _ _=>rfl,fun _ _ _ _ _ _ _ _ _ _ _=>rfl,fun _ _ _ _ _ _ _ _ _ _ _ _ _=>rfl,fun _ _ _ _ _ _ _ _ _ _ _ _=>rfl,fun _ _ _ _ _ _ _ _ _ _ _ _ _ _=>rfl⟩
theorem evD(P:Program):
 (∀x n nv vs ts σ K,fc P n (.mv x) ⟨nv,vs,ts⟩ σ K=opF n σ (Opd.ev ⟨nv,vs,ts⟩) (fun v ft wr σ'=>K v ft (chg ft wr) σ') (.mv x))/\
 (∀c a b n nv vs ts σ K,fc P n (.pick c a b) ⟨nv,vs,ts⟩ σ K=opF n σ (Opd.ev ⟨nv,vs,ts⟩) (fun v ft wr σ'=>K v ft (chg ft wr) σ') (.pick c a b))/\
 (∀op x y n nv vs ts σ K,fc P n (.bin op x y) ⟨nv,vs,ts⟩ σ K=opF n σ (Opd.ev ⟨nv,vs,ts⟩) (fun v ft wr σ'=>K v ft (chg ft wr) σ') (.bin op x y))/\
 (∀kd neg x y n nv vs ts σ K,fc P n (.eqv kd neg x y) ⟨nv,vs,ts⟩ σ K=opF n σ (Opd.ev ⟨nv,vs,ts⟩) (fun v ft wr σ'=>K v ft (chg ft wr) σ') (.eqv kd neg x y))/\
 (∀ks neg x y n nv vs ts σ K,fc P n (.eqa ks neg x y) ⟨nv,vs,ts⟩ σ K=opF n σ (Opd.ev ⟨nv,vs,ts⟩) (fun v ft wr σ'=>K v ft (chg ft wr) σ') (.eqa ks neg x y))/\
 (∀op x n nv vs ts σ K,fc P n (.un op x) ⟨nv,vs,ts⟩ σ K=opF n σ (Opd.ev ⟨nv,vs,ts⟩) (fun v ft wr σ'=>K v ft (chg ft wr) σ') (.un op x))/\
 (∀k x n nv vs ts σ K,fc P n (.cvt k x) ⟨nv,vs,ts⟩ σ K=opF n σ (Opd.ev ⟨nv,vs,ts⟩) (fun v ft wr σ'=>K v ft (chg ft wr) σ') (.cvt k x))/\
 (∀x n nv vs ts σ K,fc P n (.b2s x) ⟨nv,vs,ts⟩ σ K=opF n σ (Opd.ev ⟨nv,vs,ts⟩) (fun v ft wr σ'=>K v ft (chg ft wr) σ') (.b2s x))/\
 (∀x n nv vs ts σ K,fc P n (.nilc x) ⟨nv,vs,ts⟩ σ K=opF n σ (Opd.ev ⟨nv,vs,ts⟩) (fun v ft wr σ'=>K v ft (chg ft wr) σ') (.nilc x))/\
 (∀ag off sz x n nv vs ts σ K,fc P n (.fld ag off sz x) ⟨nv,vs,ts⟩ σ K=opF n σ (Opd.ev ⟨nv,vs,ts⟩) (fun v ft wr σ'=>K v ft (chg ft wr) σ') (.fld ag off sz x))/\
 (∀off x n nv vs ts σ K,fc P n (.fldA off x) ⟨nv,vs,ts⟩ σ K=opF n σ (Opd.ev ⟨nv,vs,ts⟩) (fun v ft wr σ'=>K v ft (chg ft wr) σ') (.fldA off x))/\
 (∀ag m e x i n nv vs ts σ K,fc P n (.idx ag m e x i) ⟨nv,vs,ts⟩ σ K=opF n σ (Opd.ev ⟨nv,vs,ts⟩) (fun v ft wr σ'=>K v ft (chg ft wr) σ') (.idx ag m e x i))/\
 (∀m e x i n nv vs ts σ K,fc P n (.idxA m e x i) ⟨nv,vs,ts⟩ σ K=opF n σ (Opd.ev ⟨nv,vs,ts⟩) (fun v ft wr σ'=>K v ft (chg ft wr) σ') (.idxA m e x i))/\
 (∀e x i n nv vs ts σ K,fc P n (.idxS e x i) ⟨nv,vs,ts⟩ σ K=opF n σ (Opd.ev ⟨nv,vs,ts⟩) (fun v ft wr σ'=>K v ft (chg ft wr) σ') (.idxS e x i))/\
 (∀i x n nv vs ts σ K,fc P n (.ext i x) ⟨nv,vs,ts⟩ σ K=opF n σ (Opd.ev ⟨nv,vs,ts⟩) (fun v ft wr σ'=>K v ft (chg ft wr) σ') (.ext i x))/\
 (∀st x n nv vs ts σ K,fc P n (.len st x) ⟨nv,vs,ts⟩ σ K=opF n σ (Opd.ev ⟨nv,vs,ts⟩) (fun v ft wr σ'=>K v ft (chg ft wr) σ') (.len st x))/\
 (∀x n nv vs ts σ K,fc P n (.cap x) ⟨nv,vs,ts⟩ σ K=opF n σ (Opd.ev ⟨nv,vs,ts⟩) (fun v ft wr σ'=>K v ft (chg ft wr) σ') (.cap x))/\
 (∀f caps n nv vs ts σ K,fc P n (.mkf f caps) ⟨nv,vs,ts⟩ σ K=opF n σ (Opd.ev ⟨nv,vs,ts⟩) (fun v ft wr σ'=>K v ft (chg ft wr) σ') (.mkf f caps))/\
 (∀z ps n nv vs ts σ K,fc P n (.bld z ps) ⟨nv,vs,ts⟩ σ K=opF n σ (Opd.ev ⟨nv,vs,ts⟩) (fun v ft wr σ'=>K v ft (chg ft wr) σ') (.bld z ps))/\
 (∀e m z ps n nv vs ts σ K,fc P n (.bldS e m z ps) ⟨nv,vs,ts⟩ σ K=opF n σ (Opd.ev ⟨nv,vs,ts⟩) (fun v ft wr σ'=>K v ft (chg ft wr) σ') (.bldS e m z ps))/\
 (∀ag sz x n nv vs ts σ K,fc P n (.ld ag sz x) ⟨nv,vs,ts⟩ σ K=opF n σ (Opd.ev ⟨nv,vs,ts⟩) (fun v ft wr σ'=>K v ft (chg ft wr) σ') (.ld ag sz x))/\
 (∀sz x y n nv vs ts σ K,fc P n (.sto sz x y) ⟨nv,vs,ts⟩ σ K=opF n σ (Opd.ev ⟨nv,vs,ts⟩) (fun v ft wr σ'=>K v ft (chg ft wr) σ') (.sto sz x y))/\
 (∀z n nv vs ts σ K,fc P n (.new z) ⟨nv,vs,ts⟩ σ K=opF n σ (Opd.ev ⟨nv,vs,ts⟩) (fun v ft wr σ'=>K v ft (chg ft wr) σ') (.new z))/\
 (∀sz x n nv vs ts σ K,fc P n (.box sz x) ⟨nv,vs,ts⟩ σ K=opF n σ (Opd.ev ⟨nv,vs,ts⟩) (fun v ft wr σ'=>K v ft (chg ft wr) σ') (.box sz x))/\
 (∀e bytes z l c n nv vs ts σ K,fc P n (.mk e bytes z l c) ⟨nv,vs,ts⟩ σ K=opF n σ (Opd.ev ⟨nv,vs,ts⟩) (fun v ft wr σ'=>K v ft (chg ft wr) σ') (.mk e bytes z l c))/\
 (∀e bytes s x n nv vs ts σ K,fc P n (.app e bytes s x) ⟨nv,vs,ts⟩ σ K=opF n σ (Opd.ev ⟨nv,vs,ts⟩) (fun v ft wr σ'=>K v ft (chg ft wr) σ') (.app e bytes s x))/\
 (∀e d s n nv vs ts σ K,fc P n (.cpy e d s) ⟨nv,vs,ts⟩ σ K=opF n σ (Opd.ev ⟨nv,vs,ts⟩) (fun v ft wr σ'=>K v ft (chg ft wr) σ') (.cpy e d s))/\
 (∀e x lo hi mx n nv vs ts σ K,fc P n (.sli e x lo hi mx) ⟨nv,vs,ts⟩ σ K=opF n σ (Opd.ev ⟨nv,vs,ts⟩) (fun v ft wr σ'=>K v ft (chg ft wr) σ') (.sli e x lo hi mx))/\
 (∀e m x lo hi n nv vs ts σ K,fc P n (.sliA e m x lo hi) ⟨nv,vs,ts⟩ σ K=opF n σ (Opd.ev ⟨nv,vs,ts⟩) (fun v ft wr σ'=>K v ft (chg ft wr) σ') (.sliA e m x lo hi))/\
 (∀xs n nv vs ts σ K,fc P n (.mn xs) ⟨nv,vs,ts⟩ σ K=opF n σ (Opd.ev ⟨nv,vs,ts⟩) (fun v ft wr σ'=>K v ft (chg ft wr) σ') (.mn xs))/\
 (∀xs n nv vs ts σ K,fc P n (.mx xs) ⟨nv,vs,ts⟩ σ K=opF n σ (Opd.ev ⟨nv,vs,ts⟩) (fun v ft wr σ'=>K v ft (chg ft wr) σ') (.mx xs))/\
 (∀q xs n nv vs ts σ K,fc P n (.mop q xs) ⟨nv,vs,ts⟩ σ K=opF n σ (Opd.ev ⟨nv,vs,ts⟩) (fun v ft wr σ'=>K v ft (chg ft wr) σ') (.mop q xs))/\
 (∀g xs n nv vs ts σ K,fc P n (.call g xs) ⟨nv,vs,ts⟩ σ K=∃v ft wr σ',vO P n (Opd.ev ⟨nv,vs,ts⟩ g) (xs.map (Opd.ev ⟨nv,vs,ts⟩)) σ v ft wr σ'/\K v ft wr σ'):=
 ⟨fun _ _ _ _ _ _ _=>rfl,fun _ _ _ _ _ _ _ _ _=>rfl,fun _ _ _ _ _ _ _ _ _=>rfl,fun _ _ _ _ _ _ _ _ _ _=>rfl,fun _ _ _ _ _ _ _ _ _ _=>rfl,fun _ _ _ _ _ _ _ _=>rfl,fun _ _ _ _ _ _ _ _=>rfl,fun _ _ _ _ _ _ _=>rfl,fun _ _ _ _ _ _ _=>rfl,fun _ _ _ _ _ _ _ _ _ _=>rfl,fun _ _ _ _ _ _ _ _=>rfl,fun _ _ _ _ _ _ _ _ _ _ _=>rfl,fun _ _ _ _ _ _ _ _ _ _=>rfl,fun _ _ _ _ _ _ _ _ _=>rfl,fun _ _ _ _ _ _ _ _=>rfl,fun _ _ _ _ _ _ _ _=>rfl,fun _ _ _ _ _ _ _=>rfl,fun _ _ _ _ _ _ _ _=>rfl,fun _ _ _ _ _ _ _ _=>rfl,fun _ _ _ _ _ _ _ _ _ _=>rfl,fun _ _ _ _ _ _ _ _ _=>rfl,fun _ _ _ _ _ _ _ _ _=>rfl,fun _ _ _ _ _ _ _=>rfl,fun _ _ _ _ _ _ _ _=>rfl,fun _ _ _ _ _ _ _ _ _ _ _=>rfl,fun _ _ _ _ _ _ _ _ _ _=>rfl,fun _ _ _ _ _ _ _ _ _=>rfl,fun _ _ _ _ _ _ _ _ _ _ _=>rfl,fun _ _ _ _ _ _ _ _ _ _ _=>rfl,fun _ _ _ _ _ _ _=>rfl,fun _ _ _ _ _ _ _=>rfl,fun _ _ _ _ _ _ _ _=>rfl,fun _ _ _ _ _ _ _ _=>rfl⟩
section
variable(P:Program)(fr:Fr)(σ:St)(K:AV->St->Prop)
theorem evO:
 (∀x,aDo P (.mv x) fr σ K=K (x.ev fr) σ)/\
 (∀c a b,aDo P (.pick c a b) fr σ K=match c.ev fr with
  |.bool t=>K (B0 t (a.ev fr) (b.ev fr)) σ
  |_=>False)/\
 (∀op x y,aDo P (.bin op x y) fr σ K=match x.ev fr,y.ev fr with
  |.int k a,.int k' b=>mL op k a k' b fun v=>K v σ
  |_,_=>False)/\
 (∀kd neg x y,aDo P (.eqv kd neg x y) fr σ K=match qw kd (x.ev fr) (y.ev fr)with
  |some b=>K (.bool (b != neg)) σ
  |none=>False)/\
 (∀ks neg x y,aDo P (.eqa ks neg x y) fr σ K=match x.ev fr,y.ev fr with
  | .agg a, .agg b => il ks a = true /\ il ks b = true /\ match gg a b with
    |some r=>K (.bool (r != neg)) σ
    |none=>False
  |_,_=>False)/\
 (∀op x,aDo P (.un op x) fr σ K=match unV op (x.ev fr)with
  |some v=>K v σ
  |none=>False)/\
 (∀k x,aDo P (.cvt k x) fr σ K=match x.ev fr with
  |.int _ m=>K (.int k (k.wrap m)) σ
  |_=>False)/\
 (∀x,aDo P (.b2s x) fr σ K=match rdB σ (x.ev fr)with
  |some xs=>xs.all mj=true/\K (.str (xs.map uC)) σ
  |none=>False)/\
 (∀x,aDo P (.nilc x) fr σ K=match x.ev fr with
  |.ptr id o=>K (.ptr id o) σ
  |.vp e id i o=>K (.vp e id i o) σ
  |.elt e xs i o=>K (.elt e xs i o) σ
  |.fn (.func f) cs=>K (.fn (.func f) cs) σ
  |_=>False)/\
 (∀ag off sz x,aDo P (.fld ag off sz x) fr σ K=match x.ev fr with
  |.agg cs=>off+sz<=cs.length/\K (pack ag (cut cs off sz)) σ
  |_=>False)/\
 (∀off x,aDo P (.fldA off x) fr σ K=match x.ev fr with
  |.ptr id o=>K (.ptr id (o+off)) σ
  |.vp e id i o=>K (.vp e id i (o+off)) σ
  |.elt e xs i o=>K (.elt e xs i (o+off)) σ
  |_=>False)/\
 (∀ag m e x i,aDo P (.idx ag m e x i) fr σ K=match x.ev fr,i.ev fr with
  |.agg cs,.int _ j=>0<=j/\j<m/\cs.length=m*e/\K (pack ag (cut cs (j.toNat*e) e)) σ
  |_,_=>False)/\
 (∀m e x i,aDo P (.idxA m e x i) fr σ K=match x.ev fr,i.ev fr with
  |.ptr id o,.int _ j=>0<=j/\j<m/\K (.ptr id (o+j.toNat*e)) σ
  |.vp e' id q o,.int _ j=>0<=j/\j<m/\K (.vp e' id q (o+j.toNat*e)) σ
  |.elt e' xs q o,.int _ j=>0<=j/\j<m/\K (.elt e' xs q (o+j.toNat*e)) σ
  |_,_=>False)/\
 (∀e x i,aDo P (.idxS e x i) fr σ K=match x.ev fr,i.ev fr with
  |.sl e' cl xs,.int _ j=>e'=e/\0<=j/\j<xs.length/\K (.elt e xs j.toNat 0) σ
  |.hs e' id off len,.int _ j=>e'=e/\0<=j/\j<len/\K (.vp e id (off+j.toNat) 0) σ
  |.va e' id off len,.int _ j=>e'=e/\0<=j/\j<len/\K (.ptr id (off+j.toNat*e)) σ
  |_,_=>False)/\
 (∀i x,aDo P (.ext i x) fr σ K=match x.ev fr with
  |.tup vs=>i<vs.length/\K (vs.getD i .dead) σ
  |_=>False)/\
 (∀st x,aDo P (.len st x) fr σ K=match Ri st (x.ev fr)with
  |some m=>K (.int .i64 m) σ
  |none=>False)/\
 (∀x,aDo P (.cap x) fr σ K=match x.ev fr with
  |.sl _ true xs=>K (.int .i64 xs.length) σ
  |_=>False)/\
 (∀f caps,aDo P (.mkf f caps) fr σ K=K (.fn f (caps.map (Opd.ev fr))) σ)/\
 (∀neg x,aDo P (.isn neg x) fr σ K=oS neg (x.ev fr) σ K)/\
 (∀x,aDo P (.nxt x) fr σ K=qQ (x.ev fr) σ K)/\
 (∀kk z ok xs,aDo P (.mop (.lkp kk z ok) xs) fr σ K=lW 0 σ (fun av _ _ σ'=>K av σ') (.lkp kk z ok) (xs.map (Opd.ev fr)))/\
 (∀kk xs,aDo P (.mop (.upd kk) xs) fr σ K=lW 0 σ (fun av _ _ σ'=>K av σ') (.upd kk) (xs.map (Opd.ev fr)))/\
 (∀xs,aDo P (.mop .ent xs) fr σ K=lW 0 σ (fun av _ _ σ'=>K av σ') .ent (xs.map (Opd.ev fr)))/\
 (∀xs,aDo P (.mop .mkm xs) fr σ K=lW σ.length (σ++[.gone]) (fun av _ _ σ'=>K av σ') .mkm (xs.map (Opd.ev fr)))/\
 (∀xs,aDo P (.mop .rng xs) fr σ K=lW σ.length (σ++[.gone]) (fun av _ _ σ'=>K av σ') .rng (xs.map (Opd.ev fr)))/\
 (∀g xs,aDo P (.call g xs) fr σ K=jd P (g.ev fr) (xs.map (Opd.ev fr)) σ K)/\
 (∀z ps,aDo P (.bld z ps) fr σ K=(um z.length (ps.map fun p=>(p.1,p.2.1,p.2.2.ev fr))=true/\K (.agg (N6 z (ps.map fun p=>(p.1,p.2.1,p.2.2.ev fr)))) σ))/\
 (∀e m z ps,aDo P (.bldS e m z ps) fr σ K=(xx e m (ps.map fun p=>(p.1,p.2.ev fr))=true/\K (.sl e true (yP (List.replicate m z) (ps.map fun p=>(p.1,p.2.ev fr)))) σ)):=
 ⟨fun _=>rfl,fun _ _ _=>rfl,fun _ _ _=>rfl,fun _ _ _ _=>rfl,fun _ _ _ _=>rfl,fun _ _=>rfl,fun _ _=>rfl,fun _=>rfl,fun _=>rfl,fun _ _ _ _=>rfl,fun _ _=>rfl,fun _ _ _ _ _=>rfl,fun _ _ _ _=>rfl,fun _ _ _=>rfl,fun _ _=>rfl,fun _ _=>rfl,fun _=>rfl,fun _ _=>rfl,fun _ _=>rfl,fun _=>rfl,fun _ _ _ _=>rfl,fun _ _=>rfl,fun _=>rfl,fun _=>rfl,fun _=>rfl,fun _ _=>rfl,fun _ _=>rfl,fun _ _ _ _=>rfl⟩
theorem evM:
 (∀ag sz x,aDo P (.ld ag sz x) fr σ K=match x.ev fr with
  | .ptr id o => (match σ[id]? with
    |some (.var cs)=>o+sz<=cs.length/\K (pack ag (cut cs o sz)) σ
    |_=>False)
  | .vp e id i o => (match σ[id]? with
    |some (.vec e' xs)=>e'=e/\o+sz<=e/\i<xs.length/\K (pack ag (cut (xs.getD i []) o sz)) σ
    |_=>False)
  |.elt e xs i o=>o+sz<=e/\i<xs.length/\K (pack ag (cut (xs.getD i []) o sz)) σ
  |_=>False)/\
 (∀sz x y,aDo P (.sto sz x y) fr σ K=((y.ev fr).cellsOf.length=sz/\bF (y.ev fr).cellsOf=true/\match x.ev fr with
  | .ptr id o => (match σ[id]? with
    |some (.var cs)=>o+sz<=cs.length/\K (.tup []) (σ.set id (.var (spl cs o (y.ev fr).cellsOf)))
    |_=>False)
  | .vp e id i o => (match σ[id]? with
    |some (.vec e' xs)=>e'=e/\o+sz<=e/\i<xs.length/\K (.tup []) (σ.set id (.vec e (xs.set i (spl (xs.getD i []) o (y.ev fr).cellsOf))))
    |_=>False)
  |_=>False))/\
 (∀z,aDo P (.new z) fr σ K=K (.ptr σ.length 0) (σ++[.var z]))/\
 (∀sz x,aDo P (.box sz x) fr σ K=((x.ev fr).cellsOf.length=sz/\bF (x.ev fr).cellsOf=true/\K (.ptr σ.length 0) (σ++[.var (x.ev fr).cellsOf])))/\
 (∀e bytes z l c,aDo P (.mk e bytes z l c) fr σ K=match l.ev fr,c.ev fr with
  |.int _ a,.int _ b=>0<=a/\a<=b/\(bytes:Int)*b<=281474976710656/\b<=9223372036854775807/\K (.hs e σ.length 0 a.toNat) (σ++[.vec e (List.replicate a.toNat z)])
  |_,_=>False):=by
 refine⟨fun _ _ _=>rfl,fun _ _ _=>rfl,fun z=>?_,fun sz x=>?_,fun e bytes z l c=>?_⟩
 ·simp only[aDo,AOp.allocs,if_true,opF,uv]
 ·simp only[aDo,AOp.allocs,if_true,opF,uv]
 ·simp only[aDo,AOp.allocs,if_true,opF,uv];generalize Opd.ev fr l=x;generalize Opd.ev fr c=y;cases x<;>cases y<;>rfl
theorem aaa(e:Nat)(v:AV):rdS (σ++[bO.gone]) e v=rdS σ e v:=by
 have key:∀id:Nat,((σ++[bO.gone])[id]?=σ[id]?)\/((σ++[bO.gone])[id]?=some .gone/\σ[id]?=none)\/((σ++[bO.gone])[id]?=none/\σ[id]?=none):=by
  intro id;by_cases h:id<σ.length
  ·exact .inl (SN σ h)
  ·have h2:σ[id]?=none:=List.getElem?_eq_none (by omega);rw[List.getElem?_append_right (by omega),h2];by_cases h3:id-σ.length=0
   ·rw[h3];exact .inr (.inl ⟨rfl,rfl⟩)
   ·exact .inl (List.getElem?_eq_none (by simp;omega))
 unfold rdS;cases v<;>first|rfl|skip
 all_goals(rename_i id _ _;simp only;rcases key id with h|⟨h1,h2⟩|⟨h1,h2⟩<;>(try rw[h])<;>(try rw[h1,h2])<;>(repeat' split)<;>first|rfl|(simp_all;done)|skip)
theorem evA:
 (∀e bytes s x,aDo P (.app e bytes s x) fr σ K=match rdS σ e (x.ev fr)with
  |none=>False
  | some ys => match s.ev fr with
    |.sl e' cl xs=>(e'=e\/xs=[])/\cl=true/\(xs=[]\/ys≠[])/\(xs.length+ys.length)*bytes<=140737488355328/\xs.length+ys.length<=9223372036854775807/\
     K (.hs e σ.length 0 (xs.length+ys.length)) (σ++[.vec e (xs++ys)])
    | .hs e' id off len => e' = e /\ match σ[id]? with
      |some (.vec e2 xs)=>e2=e/\off+len<=xs.length/\(len+ys.length)*bytes<=140737488355328/\len+ys.length<=9223372036854775807/\
       K (.hs e σ.length 0 (len+ys.length)) (σ.set id .gone++[.vec e ((xs.drop off).take len++ys)])
      |_=>False
    |_=>False)/\
 (∀e d s,aDo P (.cpy e d s) fr σ K=match rdS σ e (s.ev fr)with
  |none=>False
  | some ys => match d.ev fr with
    | .hs e' id off len => e' = e /\ match σ[id]? with
      |some (.vec e2 xs)=>e2=e/\off+len<=xs.length/\K (.int .i64 (min ys.length len:Nat)) (σ.set id (.vec e (xs.take off++ys.take (min ys.length len)++xs.drop (off+min ys.length len))))
      |_=>False
    | .va e' id off len => e' = e /\ match σ[id]? with
      |some (.var cs)=>off+len*e<=cs.length/\K (.int .i64 (min ys.length len:Nat)) (σ.set id (.var (spl cs off (ys.take (min ys.length len)).flatten)))
      |_=>False
    |_=>False)/\
 (∀e x lo hi mx,aDo P (.sli e x lo hi mx) fr σ K=match x.ev fr with
  |.sl e' cl xs=>(e'=e\/xs=[])/\0<=bz (Opd.ev fr) 0 lo/\bz (Opd.ev fr) 0 lo<=bz (Opd.ev fr) xs.length hi/\bz (Opd.ev fr) xs.length hi<=bz (Opd.ev fr) xs.length mx/\bz (Opd.ev fr) xs.length mx<=xs.length/\(mx=none\/hi≠none)/\
   K (.sl e (match mx with|none=>cl&&hi.isNone|some _=>decide (bz (Opd.ev fr) xs.length mx=bz (Opd.ev fr) xs.length hi)) ((xs.drop (bz (Opd.ev fr) 0 lo).toNat).take ((bz (Opd.ev fr) xs.length hi).toNat-(bz (Opd.ev fr) 0 lo).toNat))) σ
  | .hs e' id off len => e' = e /\ match mx with
    |none=>0<=bz (Opd.ev fr) 0 lo/\bz (Opd.ev fr) 0 lo<=bz (Opd.ev fr) len hi/\bz (Opd.ev fr) len hi<=len/\K (.hs e id (off+(bz (Opd.ev fr) 0 lo).toNat) ((bz (Opd.ev fr) len hi).toNat-(bz (Opd.ev fr) 0 lo).toNat)) σ
    |some _=>hi≠none/\bz (Opd.ev fr) 0 lo=0/\bz (Opd.ev fr) len hi=0/\bz (Opd.ev fr) len mx=0/\K (.sl e true []) σ
  |.va e' id off len=>e'=e/\mx=none/\0<=bz (Opd.ev fr) 0 lo/\bz (Opd.ev fr) 0 lo<=bz (Opd.ev fr) len hi/\bz (Opd.ev fr) len hi<=len/\K (.va e id (off+(bz (Opd.ev fr) 0 lo).toNat*e) ((bz (Opd.ev fr) len hi).toNat-(bz (Opd.ev fr) 0 lo).toNat)) σ
  |_=>False)/\
 (∀e m x lo hi,aDo P (.sliA e m x lo hi) fr σ K=match x.ev fr with
  |.ptr id o=>0<=bz (Opd.ev fr) 0 lo/\bz (Opd.ev fr) 0 lo<=bz (Opd.ev fr) m hi/\bz (Opd.ev fr) m hi<=m/\K (.va e id (o+(bz (Opd.ev fr) 0 lo).toNat*e) ((bz (Opd.ev fr) m hi).toNat-(bz (Opd.ev fr) 0 lo).toNat)) σ
  |_=>False)/\
 (∀xs,aDo P (.mn xs) fr σ K=match xs.map (Opd.ev fr)with
  | v :: r => (match Rr v r with
    |some u=>K u σ
    |none=>False)
  | []=>False)/\
 (∀xs,aDo P (.mx xs) fr σ K=match xs.map (Opd.ev fr)with
  | v :: r => (match Rq v r with
    |some u=>K u σ
    |none=>False)
  | []=>False):=by
 refine⟨fun e bytes s x=>?_,fun _ _ _=>rfl,fun _ _ _ _ _=>rfl,fun _ _ _ _ _=>rfl,fun _=>rfl,fun _=>rfl⟩;simp only[aDo,AOp.allocs,if_true,opF,aaa];cases rdS σ e (x.ev fr)with
 |none=>rfl
 | some ys =>
   simp only;cases s.ev fr
   case sl e' cl xs=>simp only[uv]
   case hs e' id off len=>
    simp only;by_cases h:id<σ.length
    ·simp only[SN σ h,YG];congr 1
    ·have h2:σ[id]?=none:=List.getElem?_eq_none (by omega);rw[h2,List.getElem?_append_right (by omega)];by_cases h3:id-σ.length=0
     ·rw[h3];rfl
     ·rw[List.getElem?_eq_none (by simp;omega)]
   all_goals rfl
theorem acg(n nv:Nat)(vs:List AV)(ts:List (Nat×AV))(K2:AV->List Nat->List Nat->St->Prop):
 (∀e bytes s x,fc P n (.apx e bytes s x) ⟨nv,vs,ts⟩ σ K2=opF n σ (Opd.ev ⟨nv,vs,ts⟩) (fun v ft wr σ'=>K2 v ft (chg ft wr) σ') (.apx e bytes s x))/\
 (∀e bytes z s x,fc P n (.apm e bytes z s x) ⟨nv,vs,ts⟩ σ K2=opF n σ (Opd.ev ⟨nv,vs,ts⟩) (fun v ft wr σ'=>K2 v ft (chg ft wr) σ') (.apm e bytes z s x))/\
 (∀e x y,fc P n (.ovl e x y) ⟨nv,vs,ts⟩ σ K2=opF n σ (Opd.ev ⟨nv,vs,ts⟩) (fun v ft wr σ'=>K2 v ft (chg ft wr) σ') (.ovl e x y))/\
 (∀e d s,fc P n (.cpx e d s) ⟨nv,vs,ts⟩ σ K2=opF n σ (Opd.ev ⟨nv,vs,ts⟩) (fun v ft wr σ'=>K2 v ft (chg ft wr) σ') (.cpx e d s))/\
 (∀e z x,fc P n (.clr e z x) ⟨nv,vs,ts⟩ σ K2=opF n σ (Opd.ev ⟨nv,vs,ts⟩) (fun v ft wr σ'=>K2 v ft (chg ft wr) σ') (.clr e z x))/\
 (∀e x lo hi mx,fc P n (.slx e x lo hi mx) ⟨nv,vs,ts⟩ σ K2=opF n σ (Opd.ev ⟨nv,vs,ts⟩) (fun v ft wr σ'=>K2 v ft (chg ft wr) σ') (.slx e x lo hi mx))/\
 (∀x y,fc P n (.cmb x y) ⟨nv,vs,ts⟩ σ K2=opF n σ (Opd.ev ⟨nv,vs,ts⟩) (fun v ft wr σ'=>K2 v ft (chg ft wr) σ') (.cmb x y))/\
 (∀x,fc P n (.cpq x) ⟨nv,vs,ts⟩ σ K2=opF n σ (Opd.ev ⟨nv,vs,ts⟩) (fun v ft wr σ'=>K2 v ft (chg ft wr) σ') (.cpq x)):=
 ⟨fun _ _ _ _=>rfl,fun _ _ _ _ _=>rfl,fun _ _ _=>rfl,fun _ _ _=>rfl,fun _ _ _=>rfl,fun _ _ _ _ _=>rfl,fun _ _=>rfl,fun _=>rfl⟩
theorem ach(nv:Nat)(vs:List AV)(ts:List (Nat×AV)):
 (∀e x y,aDo P (.ovl e x y) ⟨nv,vs,ts⟩ σ K=opF 0 σ (Opd.ev ⟨nv,vs,ts⟩) (fun v _ _ σ'=>K v σ') (.ovl e x y))/\
 (∀e bytes z s x,aDo P (.apm e bytes z s x) ⟨nv,vs,ts⟩ σ K=opF σ.length (σ++[.gone]) (Opd.ev ⟨nv,vs,ts⟩) (fun v _ _ σ'=>K v σ') (.apm e bytes z s x))/\
 (∀e d s,aDo P (.cpx e d s) ⟨nv,vs,ts⟩ σ K=opF 0 σ (Opd.ev ⟨nv,vs,ts⟩) (fun v _ _ σ'=>K v σ') (.cpx e d s))/\
 (∀e z x,aDo P (.clr e z x) ⟨nv,vs,ts⟩ σ K=opF 0 σ (Opd.ev ⟨nv,vs,ts⟩) (fun v _ _ σ'=>K v σ') (.clr e z x))/\
 (∀e x lo hi mx,aDo P (.slx e x lo hi mx) ⟨nv,vs,ts⟩ σ K=opF 0 σ (Opd.ev ⟨nv,vs,ts⟩) (fun v _ _ σ'=>K v σ') (.slx e x lo hi mx))/\
 (∀x y,aDo P (.cmb x y) ⟨nv,vs,ts⟩ σ K=opF 0 σ (Opd.ev ⟨nv,vs,ts⟩) (fun v _ _ σ'=>K v σ') (.cmb x y))/\
 (∀x,aDo P (.cpq x) ⟨nv,vs,ts⟩ σ K=opF 0 σ (Opd.ev ⟨nv,vs,ts⟩) (fun v _ _ σ'=>K v σ') (.cpq x))/\
 (∀e bytes s x,aDo P (.apx e bytes s x) ⟨nv,vs,ts⟩ σ K=opF σ.length (σ++[.gone]) (Opd.ev ⟨nv,vs,ts⟩) (fun v _ _ σ'=>K v σ') (.apx e bytes s x)):=
 ⟨fun _ _ _=>rfl,fun _ _ _ _ _=>rfl,fun _ _ _=>rfl,fun _ _ _=>rfl,fun _ _ _ _ _=>rfl,fun _ _=>rfl,fun _=>rfl,fun _ _ _ _=>rfl⟩
theorem ac4(e:Nat):(∀xs,rws (some (.vec e xs))=some (false,e,xs))/\(∀xs,rws (some (.vex e xs))=some (true,e,xs))/\(∀xs,mkr true e xs=.vex e xs)/\(∀xs,mkr false e xs=.vec e xs):=⟨fun _=>rfl,fun _=>rfl,fun _=>rfl,fun _=>rfl⟩
theorem ac5(e:Nat):(∀e' cl xs,rdX σ e (.sl e' cl xs)=rdS σ e (.sl e' cl xs))/\(∀e' id off len,rdX σ e (.va e' id off len)=rdS σ e (.va e' id off len))/\(∀s,rdX σ e (.str s)=rdS σ e (.str s))/\
 (∀e' id off len,rdX σ e (.hs e' id off len)=if e'=e then match rws σ[id]? with
  |some (_,e2,xs)=>if e2=e/\off+len<=xs.length then some ((xs.drop off).take len)else none
  |none=>none else none):=⟨fun _ _ _=>rfl,fun _ _ _ _=>rfl,fun _=>rfl,fun _ _ _ _=>rfl⟩
theorem evH:
 (∀k a k' b K,mL .add k a k' b K=(k=k'/\K (.int k (k.wrap (a+b)))))/\(∀k a k' b K,mL .sub k a k' b K=(k=k'/\K (.int k (k.wrap (a-b)))))/\
 (∀k a k' b K,mL .mul k a k' b K=(k=k'/\K (.int k (k.wrap (a*b)))))/\(∀k a k' b K,mL .quo k a k' b K=(k=k'/\b≠0/\K (.int k (k.wrap (a.tdiv b)))))/\
 (∀k a k' b K,mL .rem k a k' b K=(k=k'/\b≠0/\K (.int k (a.tmod b))))/\
 (∀k a k' b K,mL .shl k a k' b K=(0<=b/\K (.int k (ZJ k a b.toNat))))/\(∀k a k' b K,mL .shr k a k' b K=(0<=b/\K (.int k (fH k a b.toNat))))/\
 (∀k a k' b K,mL .and k a k' b K=(k=k'/\K (.int k (gr k a b))))/\
 (∀k a k' b K,mL .or k a k' b K=(k=k'/\K (.int k (ior k a b))))/\
 (∀k a k' b K,mL .xor k a k' b K=(k=k'/\K (.int k (U0 k a b))))/\
 (∀k a k' b K,mL .andNot k a k' b K=(k=k'/\K (.int k (I5 k a b))))/\
 (∀k a k' b K,mL .eql k a k' b K=(k=k'/\K (.bool (a==b))))/\(∀k a k' b K,mL .neq k a k' b K=(k=k'/\K (.bool (a != b))))/\
 (∀k a k' b K,mL .lss k a k' b K=(k=k'/\K (.bool (decide (a<b)))))/\(∀k a k' b K,mL .leq k a k' b K=(k=k'/\K (.bool (decide (a<=b)))))/\
 (∀k a k' b K,mL .gtr k a k' b K=(k=k'/\K (.bool (decide (b<a)))))/\(∀k a k' b K,mL .geq k a k' b K=(k=k'/\K (.bool (decide (b<=a)))))/\
 (∀e cl xs,Ri false (.sl e cl xs)=some xs.length)/\(∀e id off len,Ri false (.hs e id off len)=some len)/\(∀e id off len,Ri false (.va e id off len)=some len)/\(∀s,Ri true (.str s)=some s.length)/\
 (∀b x y,B0 b (.bool x) (.bool y)=.bool (cond b x y))/\(∀cs,pack true cs=.agg cs)/\(∀cs,pack false cs=cs.headD .dead)/\
 (∀a b,qw 0 (.bool a) (.bool b)=some (a==b))/\(∀a b,qw 1 (.str a) (.str b)=some (a==b))/\(qw 2 .nilp .nilp=some true)/\(∀a b,qw 2 (.ptr a b) .nilp=some false)/\(∀a b,qw 2 .nilp (.ptr a b)=some false)/\
 (∀a b c d,qw 2 (.vp a b c d) .nilp=some false)/\(∀a b c d,qw 2 (.elt a b c d) .nilp=some false)/\(qw 3 .nilf .nilf=some true)/\(∀f c,qw 3 (.fn f c) .nilf=some false)/\
 (∀b,unV .not (.bool b)=some (.bool !b))/\(∀k n,unV .neg (.int k n)=some (.int k (k.wrap (0-n))))/\
 (∀neg e cl xs σ K,oS neg (.sl e cl xs) σ K=∀b:Bool,(b=true->xs=[])->K (.bool (b != neg)) σ)/\(∀neg e id off len σ K,oS neg (.hs e id off len) σ K=∀b:Bool,(b=true->len=0)->K (.bool (b != neg)) σ)/\
 (∀ρ d,bz ρ d none=d)/\(∀ρ d x,bz ρ d (some x)=Zr (ρ x))/\(∀k n,Zr (.int k n)=n)/\(∀cs,AV.cellsOf (.agg cs)=cs)/\(∀k n,AV.cellsOf (.int k n)=[.int k n])/\(∀b,AV.cellsOf (.bool b)=[.bool b])/\(∀e cl xs,AV.cellsOf (.sl e cl xs)=[.sl e cl xs])/\
 (∀e id off len,AV.cellsOf (.hs e id off len)=[.hs e id off len])/\(∀id off,AV.cellsOf (.ptr id off)=[.ptr id off])/\(AV.cellsOf .nilp=[.nilp])/\(∀s,AV.cellsOf (.str s)=[.str s]):=by
 refine⟨?_,?_,?_,?_,?_,?_,?_,?_,?_,?_,?_,?_,?_,?_,?_,?_,?_,?_,?_,?_,?_,?_,?_,?_,?_,?_,?_,?_,?_,?_,?_,?_,?_,?_,?_,?_,?_,?_,?_,?_,?_,?_,?_,?_,?_,?_,?_,?_⟩<;>intros<;>rfl
end
section
variable{P:Program}{nt k:Nat}{fr:Fr}{σ:St}
theorem aI.fact{f:FuncId}{rs:List gO}{ac:ab}{args:List AV}{r:AV}{σ':St}(nv:Nat)(hf:aJ P f=some (nt,rs,ac))(ha:args.length<=nt)
 (h:Tri P nt σ.length ac (Ni rs σ.length σ' r) ⟨nv,args++List.replicate (nv-args.length) .dead,[]⟩ σ) (hlen:σ.length<=σ'.length):aI P f args σ r σ':=by
 obtain⟨fn,c,h1,h3,hn,h4,rfl,h5,h6⟩:=Iv hf;exact aI.of_body nv h1 h3 hn h4 (by simp) h5 h6 ha h hlen
theorem aI.wk{f:FuncId}{xs args:List AV}{σs σs':St}{r:AV}(h:aI P f args σs r σs')(hw:WkL xs args):aI P f xs σs r σs':=
 ⟨h.1,h.2.1,fun X loc w vs hr hv=>h.2.2 X loc w vs hr (hw.rls hv)⟩
theorem WkL.refl:∀xs:List AV,WkL xs xs
 | []=>trivial
 |x::xs=>⟨Wk.refl x,WkL.refl xs⟩
theorem mm{f:FuncId}{args args' caps:List AV}{r:AV}{K:AV->St->Prop}(h:PC P f args' r)(hw:WkL (args++caps) args')(hp:PuL (args++caps))(hk:K r σ):jd P (.fn (.func f) caps) args σ K:=
 ai ⟨h.call.wk hw,hp,h.pr⟩ hk
theorem bP{f:FuncId}{xs caps args:List AV}{σs σs':St}{r:AV}{K:AV->St->Prop}(js:List Nat)(h:aI P f args σs r σs')(hx:xs++caps=dP (rn js σ.length) args)(hp:bx σ js σs)
 (hk:K (ren (rn js σ.length) r) (aN σ js σs')):jd P (.fn (.func f) caps) xs σ K:=⟨args,σs,r,σs',js,h,hx,hp,hk⟩
def px(σ:St)(ρ:Nat->Nat):List Nat->St->Prop
 | [],[]=>True
 |j::js,o::os=>σ[j]?=some (iZ ρ o)/\px σ ρ js os
 |_,_=>False
theorem px.len{ρ:Nat->Nat}:∀ {js:List Nat} {os:St},px σ ρ js os->js.length=os.length
 | [],[],_=>rfl
 |_::_,_::_,h=>by simp[px.len h.2]
 | [],_::_,h|_::_,[],h=>h.elim
theorem px.get{ρ:Nat->Nat}:∀ {js:List Nat} {os:St},px σ ρ js os->∀i j:Nat,js[i]?=some j->σ[j]?=(os[i]?).map (iZ ρ)
 | [],[],_,i,j,h=>by simp at h
 | j' :: js, o :: os, h, i, j, hi => by
   cases i with
   |zero=>simp only[List.getElem?_cons_zero,Option.some.injEq]at hi;subst hi;simpa using h.1
   |succ i=>simpa using px.get h.2 i j (by simpa using hi)
 | [],_::_,h,_,_,_|_::_,[],h,_,_,_=>h.elim
theorem bx.mk'{js:List Nat}{σs:St}(hnd:js.Nodup)(h:px σ (rn js σ.length) js σs):bx σ js σs:=by
 refine⟨h.len,hnd,fun j hj=>?_,h.get⟩;obtain⟨i,hi,e⟩:=List.mem_iff_getElem.1 hj;have h2:=h.get i j (by rw[List.getElem?_eq_getElem hi,e]);have:i<σs.length:=by rw[<-h.len];exact hi
 rw[List.getElem?_eq_getElem this]at h2;exact(List.getElem?_eq_some_iff.1 h2).1
theorem aC{n:Nat}{f:FuncId}{args caps:List AV}{r:AV}{K:AV->List Nat->List Nat->St->Prop}(h:PC P f (args++caps) r)(hk:K r [] [] σ):
 ∃v ft ch σ',vO P n (.fn (.func f) caps) args σ v ft ch σ'/\K v ft ch σ':=by
 refine⟨r,[],[],σ,⟨args++caps,[],r,[],h.call,(h.pa.ren _).symm,rfl,(h.pr.ren _).symm,(uY σ).symm,fun _ h=>h,.inl ⟨⟨rfl,List.nodup_nil,by simp,fun i j hij=>by simp at hij⟩,fun _ _ _ _=>rfl⟩⟩,hk⟩
theorem aa1{n:Nat}{f:FuncId}{xs caps args:List AV}{σs σs':St}{r:AV}{K:AV->List Nat->List Nat->St->Prop}(js:List Nat)(h:aI P f args σs r σs')(hl:σs'.length=js.length)(hx:xs++caps=dP (rn js σ.length) args)(hp:bx σ js σs)
 (hk:K (ren (rn js σ.length) r) js js (aN σ js σs')):∃v ft ch σ',vO P n (.fn (.func f) caps) xs σ v ft ch σ'/\K v ft ch σ':=
 ⟨_,js,js,_,⟨args,σs,r,σs',h,hx,hl,rfl,rfl,fun _ h=>h,.inl ⟨hp,fun i j hij hn=>absurd (List.mem_of_getElem? hij) hn⟩⟩,hk⟩
theorem QB{n:Nat}{f:FuncId}{xs caps args:List AV}{σs:St}{r:AV}{K:AV->List Nat->List Nat->St->Prop}(js:List Nat)(h:aI P f args σs r σs)(hx:xs++caps=dP (rn js σ.length) args)(hp:bx σ js σs)
 (hk:K (ren (rn js σ.length) r) js [] σ):∃v ft ch σ',vO P n (.fn (.func f) caps) xs σ v ft ch σ'/\K v ft ch σ':=
 ⟨_,js,[],σ,⟨args,σs,r,σs,h,hx,hp.1.symm,rfl,(DI hp).symm,fun _ h=>(by cases h),.inl ⟨hp,fun _ _ _ _=>rfl⟩⟩,hk⟩
theorem cO{n:Nat}{f:FuncId}{xs caps args:List AV}{σs σs':St}{r:AV}{K:AV->List Nat->List Nat->St->Prop}(js:List Nat)(h:aI P f args σs r σs')(hl:σs'.length=js.length+1)(hx:xs++caps=dP (rn (js++[n]) σ.length) args)(hp:dt σ js (js++[n]) σs)
 (hk:K (ren (rn (js++[n]) σ.length) r) (js++[n]) (js++[n]) (aN σ (js++[n]) σs')):∃v ft ch σ',vO P n (.fn (.func f) caps) xs σ v ft ch σ'/\K v ft ch σ':=
 ⟨_,js++[n],js++[n],_,⟨args,σs,r,σs',h,hx,by simp[hl],rfl,rfl,fun _ h=>h,.inr ⟨js,rfl,hp,rfl⟩⟩,hk⟩
def Ts(cs:List Nat):List Nat->St->St->Prop
 |j::js,o::os,o'::os'=>(j∈cs\/o'=o)/\Ts cs js os os'
 | [],[],[]=>True
 |_,_,_=>False
theorem Ts.get{cs:List Nat}:∀ {js:List Nat} {os os':St},Ts cs js os os'->∀i j:Nat,js[i]?=some j->j∉cs->os'[i]?=os[i]?
 | j' :: js, o :: os, o' :: os', h, i, j, hi, hj => by
   cases i with
   | zero =>
     simp only[List.getElem?_cons_zero,Option.some.injEq]at hi;subst hi;rcases h.1 with h1|h1
     ·exact absurd h1 hj
     ·simp[h1]
   |succ i=>simpa using Ts.get h.2 i j (by simpa using hi) hj
 | [],[],[],_,i,j,hi,_=>by simp at hi
 | [],[],_::_,h,_,_,_,_ | [],_::_,_,h,_,_,_,_|_::_,[],_,h,_,_,_,_|_::_,_::_,[],h,_,_,_,_=>h.elim
theorem dt.mk'{js J:List Nat}{σs:St}(hnd:J.Nodup)(hlt:∀j∈J,j<σ.length)(h:px σ (rn J σ.length) js σs):dt σ js J σs:=⟨h.len,hnd,hlt,h.get⟩
theorem RZ(fr:Fr)(σ:St):dQ fr σ []=some []:=rfl
theorem O7(fr:Fr)(σ:St)(t:Nat)(r:List gO):dQ fr σ (.tmp t::r)=(dQ fr σ r).map (fr.get t::·):=by simp only[dQ,xD];cases dQ fr σ r<;>rfl
theorem O6(fr:Fr)(σ:St)(t:Nat)(ag:Bool)(sz:Nat)(r:List gO):dQ fr σ (.cell t ag sz::r)=match xD fr σ (.cell t ag sz),dQ fr σ r with
 |some a,some b=>some (a::b)
 |_,_=>none:=rfl
theorem aci{rs:List gO}{r:AV}{σ':St}{l:List AV}(zs js:List Nat)(e:Ex)(he:∀i,e≠.exit i)(hl:dQ fr σ rs=some l)(hk:k<=js.length)(hfix:js.take k=List.range k)(hnd:js.Nodup)(hlt:∀j∈js,j<σ.length)(ho:iY σ zs (rn js σ.length) js σ')
 {r0:AV} (hr:fz σ zs (gm l)=ren (rn js σ.length) r0) (hw:Wk r0 r):Ni rs k σ' r e fr σ:=by
 have:∃l zs js r0,dQ fr σ rs=some l/\nc k σ zs js σ'/\k<=js.length/\fz σ zs (gm l)=ren (rn js σ.length) r0/\Wk r0 r:=by
  refine⟨l,zs,js,r0,hl,⟨fun i hi=>?_,hnd,hlt,ho.len,ho.get⟩,hk,hr,hw⟩;have:(js.take k)[i]?=some i:=by rw[hfix];simp[hi]
  rwa [List.getElem?_take,if_pos hi]at this
 cases e with
 |exit i=>exact absurd rfl (he i)
 |normal|ret=>exact this
theorem cw{rs:List gO}{r:AV}{σ':St}{l:List AV}(zs js:List Nat)(e:Ex)(he:∀i,e≠.exit i)(hl:dQ fr σ rs=some l)(hk:k<=js.length)(hfix:js.take k=List.range k)(hnd:js.Nodup)(hlt:∀j∈js,j<σ.length)(ho:iY σ zs (rn js σ.length) js σ')
 (hr:fz σ zs (gm l)=ren (rn js σ.length) r):Ni rs k σ' r e fr σ:=aci zs js e he hl hk hfix hnd hlt ho hr (Wk.refl r)
end
theorem evK:(∀m ft wr,okH m [] ft wr=True)/\(∀m H,okH m H [] []=True)/\(∀m i f H ft,okH m ((i,f,[])::H) ft []=okH m H ft [])/\(∀ft,chg ft true=ft)/\(∀ft,chg ft false=[]):=by
 refine⟨fun m ft wr=>?_,fun m H=>?_,fun m i f H ft=>?_,fun _=>rfl,fun _=>rfl⟩
 ·simp[okH]
 ·simp[okH,qE]
 ·simp[okH,qE]
def SG(f1 c1 f2 c2:List Nat):Bool:=(c1.all fun i=>!f2.contains i)&&c2.all fun i=>!f1.contains i
def adc(m:Nat)(H:xP)(ft ch:List Nat):Bool:=H.all fun h=>m.testBit h.1 || SG h.2.1 h.2.2 ft ch
theorem nW{m:Nat}{H:xP}{ft ch:List Nat}(h:adc m H ft ch=true):okH m H ft ch:=by
 intro x hx;have:=List.all_eq_true.1 h x hx;rw[Bool.or_eq_true]at this;refine this.imp id fun h2=>?_
 unfold SG at h2;rw[Bool.and_eq_true]at h2;refine⟨fun i hi=>?_,fun i hi=>?_⟩
 ·have:=List.all_eq_true.1 h2.1 i hi;simpa using this
 ·have:=List.all_eq_true.1 h2.2 i hi;simpa using this
end Go.FH
