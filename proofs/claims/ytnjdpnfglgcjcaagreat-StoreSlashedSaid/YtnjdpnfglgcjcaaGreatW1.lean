/-
 My texts Base, Av, Aw, Ae, Ao, As, At, Au, Ax, Ay, Az, joined.
-/
import Derived.WalkKit
import Derived.WalkSpells
import Derived.WalkLawsBesides
import Derived.ChangeKeysEq
import Derived.Lib.Hide
import Derived.Laws.AppendOwnNone
import Derived.Handy
import Derived.Laws.StructEq
import Derived.Deep.AppendSrc
import Derived.Laws.Append
import Derived.Laws.MakeOwn
import Derived.Laws.BytesString
import Derived.Laws.AppendOwn
import Derived.Laws.CopyRow
import Derived.Laws.Tables
import Derived.Great.BuildSlice
set_option linter.unusedVariables false
set_option linter.unusedSimpArgs false
namespace Go.FH
open Go Go.RowKit
def range?(w:World)(b off n:Nat):Option (Array Value):=
 match w.heap[b]? with
 |some (.cells c _ _)=>if off+n<=c.size then some (c.extract off (off+n))else none
 |_=>none
theorem range?_cells{w:World}{b off n:Nat}{cs:Array Value}(h:range? w b off n=some cs):
 cs.size=n/\∀j v,cs[j]?=some v->w.cell? ⟨b,off+j,none⟩=some v:=by
 unfold range? at h;split at h
 ·rename_i c _ _ hb
  split at h
  ·rename_i hle;simp only[Option.some.injEq]at h;subst h;refine⟨by simp;omega,fun j v hj=>?_⟩;rw[Array.getElem?_extract]at hj;split at hj
   ·simp[World.cell?,hb,hj]
   ·cases hj
  ·cases h
 ·cases h
@[go_sem] theorem range?_alloc_at(w:World)(c:Array Value)(t:TypeId)(n off k:Nat)(hn:n=w.heap.size):
 range? (w.alloc (.cells c t)) n off k=if off+k<=c.size then some (c.extract off (off+k))else none:=by
 subst hn;unfold range?;rw[_root_.Go.heap_alloc_new]
@[go_sem] theorem range?_alloc_past(w:World)(o:Obj)(n off k:Nat)(hn:n<w.heap.size):range? (w.alloc o) n off k=range? w n off k:=by
 unfold range?;rw[Below.heap_alloc w o n hn]
@[go_sem] theorem range?_drew(w:World)(n off k:Nat):range? w.drew n off k=range? w n off k:=rfl
theorem range?_block{w w':World}{b:Nat}(h:w'.heap[b]?=w.heap[b]?)(off k:Nat):range? w' b off k=range? w b off k:=by
 unfold range?;rw[h]
theorem range?_of{w:World}{b:Nat}{c:Array Value}{t:TypeId}{f:Nat×Nat}(h:w.heap[b]?=some (.cells c t f))(off k:Nat)(hk:off+k<=c.size):range? w b off k=some (c.extract off (off+k)):=by
 unfold range?;rw[h];simp[hk]
@[go_sem] theorem range?_setCell_other(w:World)(a:Addr)(v:Value)(n off k:Nat)(hn:n≠a.block):range? (w.setCell a v) n off k=range? w n off k:=by
 unfold range?;rw[heap_setCell_other w a n v hn]
def Pp(P:Program)(t:TypeId)(v:Value)(w:World):Result Next:=(do pure (Next.value (<-Instr.loadAt t v)):Sem Next).run P w
def PY(P:Program)(t:TypeId):Bool:=(match P.underlying t with|some (.struct _)|some (.array _ _)=>true|_=>false)&&(P.info? t).isSome
def F3(P:Program)(t:TypeId):Nat:=match P.info? t with|some i=>i.size|none=>0
@[go_sem] def acR(P:Program)(t:TypeId)(w:World):Value->Result Next
 | .pointer (some ⟨b, off, none⟩) =>
   match range? w b off (F3 P t)with
   |some cs=>.ok (.value (.agg cs)) w
   |none=>Pp P t (.pointer (some ⟨b,off,none⟩)) w
 |v=>Pp P t v w
theorem zk(P:Program)(w:World)(b off:Nat)(t:TypeId)(cs:Array Value)(ha:PY P t=true)(h:range? w b off (F3 P t)=some cs):
 (loadVar t ⟨b,off,none⟩).run P w=.ok (.agg cs) w:=by
 obtain⟨hs,hc⟩:=range?_cells h;unfold PY at ha;rw[Bool.and_eq_true]at ha;obtain⟨ha1,ha2⟩:=ha;obtain⟨i,hi⟩:=Option.isSome_iff_exists.1 ha2
 have hl:(loadCells ⟨b,off,none⟩ cs.toList.length).run P w=.ok cs.toList.toArray w:=
  run_loadCells_list (P:=P) w ⟨b,off,none⟩ cs.toList (fun j v hv=>by
   have hadd:(⟨b,off,none⟩:Addr).add j=⟨b,off+j,none⟩:=by unfold Addr.add;split<;>simp_all
   rw[hadd];exact hc j v (by simpa using hv))
 have hsz:i.size=cs.size:=by rw[hs];simp[F3,hi]
 cases hu:P.underlying t with
 |none=>simp[hu]at ha1
 | some d =>
   have hagg:(isAgg t).run P w=.ok true w:=by
    unfold isAgg;rw[Sem.run_bind,run_underlying hu w];cases d<;>simp_all
   simp only[Array.length_toList,Array.toArray_toList]at hl;simp[loadVar,Sem.run_bind,hagg,sizeOf,typeInfo,hi,hsz,hl]
def zg(c:Array Value)(off:Nat)(vs:List Value):Array Value:=(c.toList.take off++vs++c.toList.drop (off+vs.length)).toArray
def rowOf?(w:World)(b:Nat):Option (Array Value×TypeId):=
 match w.heap[b]? with
 |some (.cells c e (0,0))=>some (c,e)
 |_=>none
theorem rowOf?_eq{w:World}{b:Nat}{c:Array Value}{e:TypeId}(h:rowOf? w b=some (c,e)):w.heap[b]?=some (.cells c e (0,0)):=by
 unfold rowOf? at h;split at h
 ·rename_i hb;simp only[Option.some.injEq,Prod.mk.injEq]at h;obtain⟨rfl,rfl⟩:=h;exact hb
 ·cases h
theorem rowOf?_of{w:World}{b:Nat}{c:Array Value}{e:TypeId}(h:w.heap[b]?=some (.cells c e (0,0))):rowOf? w b=some (c,e):=by
 unfold rowOf?;rw[h];rfl
@[go_sem] theorem rowOf?_alloc_at(w:World)(c:Array Value)(t:TypeId)(n:Nat)(hn:n=w.heap.size):rowOf? (w.alloc (.cells c t)) n=some (c,t):=by
 subst hn;exact rowOf?_of (_root_.Go.heap_alloc_new w _)
@[go_sem] theorem rowOf?_alloc_past(w:World)(o:Obj)(n:Nat)(hn:n<w.heap.size):rowOf? (w.alloc o) n=rowOf? w n:=by
 unfold rowOf?;rw[Below.heap_alloc w o n hn]
@[go_sem] theorem rowOf?_drew(w:World)(n:Nat):rowOf? w.drew n=rowOf? w n:=rfl
@[go_sem] theorem rowOf?_drewN(w:World)(q n:Nat):rowOf? (w.drewN q) n=rowOf? w n:=rfl
theorem rowOf?_block{w w':World}{b:Nat}(h:w'.heap[b]?=w.heap[b]?):rowOf? w' b=rowOf? w b:=by
 unfold rowOf?;rw[h]
@[go_sem] theorem rowOf?_setRow_other(w:World)(g:Nat)(c:Array Value)(n:Nat)(hn:n≠g):rowOf? (w.setRow g c) n=rowOf? w n:=rowOf?_block (setRow_other w g n c hn)
@[go_sem] theorem rowOf?_setRow_same(w:World)(g:Nat)(c:Array Value):rowOf? (w.setRow g c) g=(rowOf? w g).map fun x=>(c,x.2):=by
 cases h:rowOf? w g with
 |some x=>obtain⟨c0,e⟩:=x;exact rowOf?_of (setRow_heap w g c0 c e (0,0) (rowOf?_eq h))
 | none =>
   cases h2:rowOf? (w.setRow g c) g with
   |none=>rfl
   | some y =>
     exfalso
     have h3:=rowOf?_eq h2;simp only[World.setRow,Array.getElem?_modify,if_pos]at h3;cases h4:w.heap[g]? with
     |none=>simp[h4]at h3
     | some o =>
       cases o with
       | cells c1 e1 f1 =>
         simp only[h4,Option.map_some,Option.some.injEq,Obj.cells.injEq]at h3;obtain⟨_,_,rfl⟩:=h3;rw[rowOf?_of h4]at h;cases h
       |_=>simp[h4]at h3
@[go_sem] theorem rowOf?_setCell_other(w:World)(a:Addr)(v:Value)(n:Nat)(hn:n≠a.block):rowOf? (w.setCell a v) n=rowOf? w n:=rowOf?_block (heap_setCell_other w a n v hn)
@[go_sem] theorem rowOf?_setCell_same(w:World)(b i:Nat)(v:Value):rowOf? (w.setCell ⟨b,i,none⟩ v) b=(rowOf? w b).map fun x=>(x.1.setIfInBounds i v,x.2):=by
 cases h:rowOf? w b with
 | some x =>
   obtain⟨c,e⟩:=x;have hb:=rowOf?_eq h;rw[setCell_eq_setRow w b i c e (0,0) v hb];exact rowOf?_of (setRow_heap w b c _ e (0,0) hb)
 | none =>
   cases h2:rowOf? (w.setCell ⟨b,i,none⟩ v) b with
   |none=>rfl
   | some y =>
     exfalso
     have h3:=rowOf?_eq h2;simp only[World.setCell,Array.getElem?_modify,if_pos]at h3;cases h4:w.heap[b]? with
     |none=>simp[h4]at h3
     | some o =>
       cases o with
       | cells c1 e1 f1 =>
         simp only[h4,Option.map_some,Option.some.injEq,Obj.cells.injEq]at h3;obtain⟨_,_,rfl⟩:=h3;rw[rowOf?_of h4]at h;cases h
       |_=>simp[h4]at h3
theorem rowOf?_cell{w:World}{b:Nat}{c:Array Value}{e:TypeId}(h:rowOf? w b=some (c,e))(off:Nat):w.cell? ⟨b,off,none⟩=c[off]?:=cell_of_row w b off c e (0,0) (rowOf?_eq h)
theorem rowOf?_frozen{w:World}{b:Nat}{c:Array Value}{e:TypeId}(h:rowOf? w b=some (c,e))(off:Nat):w.frozen? ⟨b,off,none⟩=false:=frozen_of_row w b off c e (rowOf?_eq h)
theorem rowOf?_range{w:World}{b:Nat}{c:Array Value}{e:TypeId}(h:rowOf? w b=some (c,e))(off k:Nat):range? w b off k=if off+k<=c.size then some (c.extract off (off+k))else none:=by
 unfold range?;rw[rowOf?_eq h]
theorem rowOf?_lt{w:World}{b:Nat}{c:Array Value}{e:TypeId}(h:rowOf? w b=some (c,e)):b<w.heap.size:=(Array.getElem?_eq_some_iff.1 (rowOf?_eq h)).1
@[go_sem] theorem WH(w:World)(c c':Array Value)(t:TypeId)(n:Nat)(hn:n=w.heap.size):(w.alloc (.cells c t)).setRow n c'=w.alloc (.cells c' t):=by
 subst hn;have h:=setRow_heap (w.alloc (.cells c t)) w.heap.size c c' t (0,0) (_root_.Go.heap_alloc_new w _);simp only[World.setRow,World.alloc,World.mk.injEq,and_true];apply Array.ext_getElem?
 intro i;simp only[Array.getElem?_modify,Array.getElem?_push];by_cases h1:i=w.heap.size
 ·subst h1;simp
 ·rw[if_neg (fun e=>h1 e.symm),if_neg h1,if_neg h1]
@[go_sem] theorem Tu(w:World)(o:Obj)(n:Nat)(c:Array Value)(hn:n<w.heap.size):(w.alloc o).setRow n c=(w.setRow n c).alloc o:=by
 simp only[World.setRow,World.alloc,World.mk.injEq,and_true];apply Array.ext_getElem?
 intro i;simp only[Array.getElem?_modify,Array.getElem?_push,Array.size_modify];by_cases h1:i=w.heap.size
 ·subst h1;rw[if_neg (by omega),if_pos rfl,if_pos rfl]
 ·rw[if_neg h1,if_neg h1]
@[go_sem] theorem cell_setRow_same'(w:World)(b:Nat)(c:Array Value)(off:Nat)(h:(rowOf? w b).isSome=true):(w.setRow b c).cell? ⟨b,off,none⟩=c[off]?:=by
 obtain⟨⟨c0,e⟩,hx⟩:=Option.isSome_iff_exists.1 h;exact cell_setRow_same w b off c0 c e (0,0) (rowOf?_eq hx)
@[go_sem] theorem cell_setRow_other'(w:World)(b:Nat)(c:Array Value)(n off:Nat)(h:n≠b):(w.setRow b c).cell? ⟨n,off,none⟩=w.cell? ⟨n,off,none⟩:=cell_setRow_other w b c ⟨n,off,none⟩ h
@[go_sem] theorem To(w:World)(b:Nat)(c:Array Value)(off k:Nat)(h:(rowOf? w b).isSome=true):range? (w.setRow b c) b off k=if off+k<=c.size then some (c.extract off (off+k))else none:=by
 obtain⟨⟨c0,e⟩,hx⟩:=Option.isSome_iff_exists.1 h;exact rowOf?_range (e:=e) (by rw[rowOf?_setRow_same,hx];rfl) off k
@[go_sem] theorem RW(w:World)(b:Nat)(c:Array Value)(n off k:Nat)(h:n≠b):range? (w.setRow b c) n off k=range? w n off k:=range?_block (setRow_other w b n c h) off k
@[go_sem] theorem range?_drewN(w:World)(q n off k:Nat):range? (w.drewN q) n off k=range? w n off k:=rfl
theorem Below.setRow{B:Nat}{a w:World}(h:Below B a w){b:Nat}(hb:B<=b)(c:Array Value):Below B a (w.setRow b c):=
 h.trans ⟨rfl,rfl,rfl,by simp,fun k hk=>setRow_other w b k c (by omega)⟩
def plain(vs:Array Value):Bool:=vs.all (·.oneCell')
def AQ(P:Program)(t:TypeId)(x v:Value)(w:World):Result Next:=(do Instr.storeAt t x v;pure Next.skip:Sem Next).run P w
@[go_sem] def acz(P:Program)(t:TypeId)(w:World):Value->Value->Result Next
 | .pointer (some ⟨b, off, none⟩), .agg vs =>
   match rowOf? w b with
   |some (c,_)=>if off+vs.size<=c.size/\vs.size=F3 P t/\plain vs=true then .ok .skip (w.setRow b (zg c off vs.toList))else AQ P t (.pointer (some ⟨b,off,none⟩)) (.agg vs) w
   |none=>AQ P t (.pointer (some ⟨b,off,none⟩)) (.agg vs) w
 |x,v=>AQ P t x v w
theorem L8(c:Array Value)(vs:List Value)(h:c.size=vs.length):zg c 0 vs=vs.toArray:=by
 simp[zg,h]
@[go_sem] theorem Yn(c d:Array Value)(h:c.size=d.size):zg c 0 d.toList=d:=by
 rw[L8 c d.toList (by simpa using h)]
structure Sl(w:World)(S:Nat->Prop)(a:Option Addr)(n cap:Nat)(cs:List Value):Prop where
 len:cs.length=n
 le:n<=cap
 cmax:cap<=maxLen
 nocap:a=none->cap=0
 addr:cap=0\/∃b off,a=some ⟨b,off,none⟩/\S b/\b<w.heap.size/\∀j u,cs[j]?=some u->w.cell? ⟨b,off+j,none⟩=some u
theorem Sl.nil(w:World)(S:Nat->Prop):Sl w S none 0 0 []:=⟨rfl,Nat.le_refl _,by simp[maxLen],fun _=>rfl,.inl rfl⟩
theorem Sl.frame{w w':World}{S:Nat->Prop}{a:Option Addr}{n cap:Nat}{cs:List Value}(h:Sl w S a n cap cs)(hz:w.heap.size<=w'.heap.size)(hf:∀b,S b->b<w.heap.size->w'.heap[b]?=w.heap[b]?):Sl w' S a n cap cs:=
 ⟨h.len,h.le,h.cmax,h.nocap,h.addr.imp id fun ⟨b,off,e,hS,hlt,hc⟩=>⟨b,off,e,hS,Nat.lt_of_lt_of_le hlt hz,fun j u hj=>(World.cell?_of_block (a:=⟨b,off+j,none⟩) (hf b hS hlt)).trans (hc j u hj)⟩⟩
theorem Sl.below{w w':World}{S:Nat->Prop}{B:Nat}{a:Option Addr}{n cap:Nat}{cs:List Value}(h:Sl w S a n cap cs)(hb:Below B w w')(hB:w.heap.size<=B):Sl w' S a n cap cs:=
 h.frame hb.size fun b _ hlt=>hb.block b (by omega)
theorem Sl.mono{w:World}{S S':Nat->Prop}{a:Option Addr}{n cap:Nat}{cs:List Value}(h:Sl w S a n cap cs)(hS:∀b,S b->b<w.heap.size->S' b):Sl w S' a n cap cs:=
 ⟨h.len,h.le,h.cmax,h.nocap,h.addr.imp id fun ⟨b,off,e,h1,hlt,hc⟩=>⟨b,off,e,hS b h1 hlt,hlt,hc⟩⟩
theorem Sl.drewN{w:World}{S:Nat->Prop}{a:Option Addr}{n cap:Nat}{cs:List Value}(h:Sl w S a n cap cs)(q:Nat):Sl (w.drewN q) S a n cap cs:=h.frame (Nat.le_refl _) fun _ _ _=>rfl
theorem Sl.max{w:World}{S:Nat->Prop}{a:Option Addr}{n cap:Nat}{cs:List Value}(h:Sl w S a n cap cs):n<=9223372036854775807:=by
 have:=h.le;have:=h.cmax;simp only[maxLen]at *;omega
theorem Sl.get{w:World}{S:Nat->Prop}{a:Option Addr}{n cap:Nat}{cs:List Value}(h:Sl w S a n cap cs)(hn:0<n):
 ∃b off,a=some ⟨b,off,none⟩/\S b/\∀j u,cs[j]?=some u->w.cell? ⟨b,off+j,none⟩=some u:=by
 rcases h.addr with h0|⟨b,off,h1,h2,_,h3⟩
 ·have:=h.le;omega
 ·exact⟨b,off,h1,h2,h3⟩
def Own(w:World)(B:Nat)(e:TypeId)(v:Value)(cs:List Value):Prop:=w.ownsRow B e 1 v cs.length cs
theorem Own.nil(w:World)(B:Nat)(e:TypeId):Own w B e (.slice none 0 0) []:=World.ownsRow_nil w B e 1
theorem Own.sl{w:World}{B:Nat}{e:TypeId}{v:Value}{cs:List Value}(h:Own w B e v cs):
 ∃a n cap,v=.slice a n cap/\n=cs.length/\Sl w (fun b=>B<=b) a n cap cs:=by
 have h0:w.ownsRow B e 1 v cs.length cs:=h;rcases h0.2 with⟨rfl,h1⟩|⟨g,cap,cur,rfl,hb,hg,hn,hm,hs,ht⟩
 ·have:cs=[]:=List.eq_nil_of_length_eq_zero h1;subst this;exact⟨none,0,0,rfl,rfl,Sl.nil _ _⟩
 ·refine⟨some ⟨g,0,none⟩,cs.length,cap,rfl,rfl,⟨rfl,hn,hm,by simp,.inr ⟨g,0,rfl,hb,(Array.getElem?_eq_some_iff.1 hg).1,fun j u hj=>?_⟩⟩⟩;have:=h0.cells (g:=g) rfl j u hj;have hadd:(⟨g,0,none⟩:Addr).add j=⟨g,0+j,none⟩:=by unfold Addr.add;split<;>simp_all
  rwa [hadd]at this
theorem Own.mono{w:World}{B B':Nat}{e:TypeId}{v:Value}{cs:List Value}(h:Own w B e v cs)(hB:B'<=B):Own w B' e v cs:=
 ⟨h.1,h.2.imp id fun ⟨g,cap,cur,h1,h2,h3⟩=>⟨g,cap,cur,h1,Nat.le_trans hB h2,h3⟩⟩
theorem Own.lt{w:World}{B:Nat}{e:TypeId}{v:Value}{cs:List Value}(h:Own w B e v cs):∀k,v.ownBlock=some k->B<=k/\k<w.heap.size:=World.ownsRow.lt h
theorem Own.below{w w':World}{B C:Nat}{e:TypeId}{v:Value}{cs:List Value}(h:Own w B e v cs)(hb:Below C w w')(hC:w.heap.size<=C):Own w' B e v cs:=by
 have h0:w.ownsRow B e 1 v cs.length cs:=h;refine⟨h0.1,?_⟩;rcases h0.2 with h1|⟨g,cap,cur,rfl,hbb,hg,r⟩
 ·exact .inl h1
 ·have hlt:g<w.heap.size:=(Array.getElem?_eq_some_iff.1 hg).1;exact .inr ⟨g,cap,cur,rfl,hbb,(hb.block g (by omega)).trans hg,r⟩
theorem Own.alloc{w:World}{B:Nat}{e:TypeId}{v:Value}{cs:List Value}(h:Own w B e v cs)(o:Obj):Own (w.alloc o) B e v cs:=World.ownsRow.alloc h o
theorem Sl.part{w:World}{S:Nat->Prop}{b off n cap:Nat}{cs:List Value}(h:Sl w S (some ⟨b,off,none⟩) n cap cs)(lo hi:Nat)(h1:lo<=hi)(h2:hi<=n):
 Sl w S (some ⟨b,off+lo,none⟩) (hi-lo) (cap-lo) ((cs.drop lo).take (hi-lo)):=by
 have hl:=h.len;have hle:=h.le;refine⟨by simp;omega,by omega,by have:=h.cmax;omega,by simp,?_⟩;rcases h.addr with h0|⟨b',off',e,hS,hlt,hc⟩
 ·exact .inl (by omega)
 ·simp only[Option.some.injEq,Addr.mk.injEq]at e
  obtain⟨rfl,rfl,_⟩:=e;refine .inr ⟨b,off+lo,rfl,hS,hlt,fun j u hj=>?_⟩;rw[List.getElem?_take]at hj;split at hj
  ·rw[List.getElem?_drop]at hj;have:=hc (lo+j) u hj;rwa [<-Nat.add_assoc]at this
  ·cases hj
theorem Sl.one(w:World)(e:TypeId)(u:Value):Sl (w.alloc (.cells #[u] e)) (fun b=>b=w.heap.size) (some ⟨w.heap.size,0,none⟩) 1 1 [u]:=
 ⟨rfl,Nat.le_refl _,by simp[maxLen],by simp,.inr ⟨w.heap.size,0,rfl,rfl,by simp,fun j v hj=>by
  rw[Nat.zero_add,World.cell?_alloc_new];cases j with
  |zero=>simpa using hj
  |succ j=>simp at hj⟩⟩
theorem Below.step{B C:Nat}{a W w':World}(h:Below B a W)(hb:Below C W w')(hC:B<=C):Below B a w':=h.trans (hb.mono hC)
def ints(xs:List Int):List Value:=xs.map (Value.int .i64)
@[simp] theorem aa2(xs:List Int):(ints xs).length=xs.length:=by simp[ints]
def I64(xs:List Int):Prop:=∀x∈xs,-9223372036854775808<=x/\x<=9223372036854775807
theorem I64.get{xs:List Int}(h:I64 xs)(j:Nat)(hj:j<xs.length):-9223372036854775808<=xs[j]/\xs[j]<=9223372036854775807:=h _ (List.getElem_mem hj)
def rJ(a:Option Addr)(lo cap size:Nat):Option Addr:=if cap=lo then a else a.map (·.add (lo*size))
def JV(t:TypeId)(x:Value)(lo hi:Option Value)(P:Program)(w:World):Result Next:=(do pure (Next.value (<-Instr.sliceAt t x lo hi none)):Sem Next).run P w
@[go_sem] def acv(P:Program)(t:TypeId)(size:Nat)(w:World)(x:Value)(lo hi:Option Value)(l:Int)(h:Nat->Int):Result Next:=
 match x with
 |.slice a n cap=>if 0<=l/\l<=h n/\h n<=cap then .ok (.value (.slice (rJ a l.toNat cap size) ((h n).toNat-l.toNat) (cap-l.toNat))) w else JV t x lo hi P w
 |_=>JV t x lo hi P w
theorem Sl.cut{w:World}{S:Nat->Prop}{a:Option Addr}{n cap:Nat}{cs:List Value}(h:Sl w S a n cap cs)(lo hi:Nat)(h1:lo<=hi)(h2:hi<=n):
 Sl w S (rJ a lo cap 1) (hi-lo) (cap-lo) ((cs.drop lo).take (hi-lo)):=by
 have hl:=h.len;have hle:=h.le;refine⟨by simp;omega,by omega,by have:=h.cmax;omega,fun h0=>?_,?_⟩
 ·unfold rJ at h0;split at h0
  ·omega
  ·have:=h.nocap (by simpa using h0);omega
 rcases h.addr with h0|⟨b,off,rfl,hS,hlt,hc⟩
 ·exact .inl (by omega)
 ·by_cases hc0:cap=lo
  ·exact .inl (by omega)
  ·refine .inr ⟨b,off+lo,?_,hS,hlt,fun j u hj=>?_⟩
   ·unfold rJ;rw[if_neg hc0];simp only[Option.map_some,Nat.mul_one,Option.some.injEq];unfold Addr.add;split<;>simp_all
   ·rw[List.getElem?_take]at hj
    split at hj
    ·rw[List.getElem?_drop]at hj;have:=hc (lo+j) u hj;rwa [<-Nat.add_assoc]at this
    ·cases hj
def Pq(P:Program)(t:TypeId)(l c:Value)(w:World):Result Next:=(do pure (Next.value (<-Instr.makeSlice t l c)):Sem Next).run P w
@[go_sem] def acS(P:Program)(t e:TypeId)(z:Value)(bytes:Nat)(w:World)(l c:Value):Result Next:=
 match l,c with
 |.int k n,.int k' m=>if 0<=n/\n=m/\(bytes:Int)*n<=281474976710656/\n<=9223372036854775807 then .ok (.value (.slice (some ⟨w.heap.size,0,none⟩) n.toNat n.toNat)) (w.alloc (.cells (Array.replicate n.toNat z) e))else Pq P t (.int k n) (.int k' m) w
 |l,c=>Pq P t l c w
theorem Sl.hi{w:World}{S:Nat->Prop}{b off n cap:Nat}{cs:List Value}(h:Sl w S (some ⟨b,off,none⟩) n cap cs)(j:Nat)(hj:j<=n):Sl w S (some ⟨b,off,none⟩) j cap (cs.take j):=by
 have:=h.part 0 j (Nat.zero_le _) hj;simpa using this
theorem Sl.lo{w:World}{S:Nat->Prop}{b off n cap:Nat}{cs:List Value}(h:Sl w S (some ⟨b,off,none⟩) n cap cs)(j:Nat)(hj:j<=n):
 Sl w S (if cap=j then some ⟨b,off,none⟩else some ⟨b,off+j,none⟩) (n-j) (cap-j) (cs.drop j):=by
 have hl:=h.len;have hle:=h.le;by_cases hc:cap=j
 ·rw[if_pos hc];exact⟨by simp;omega,by omega,by have:=h.cmax;omega,by simp,.inl (by omega)⟩
 ·rw[if_neg hc];have:=h.part j n hj (Nat.le_refl _);rwa [List.take_of_length_le (by simp;omega)]at this
theorem Sl.zero(w:World)(S:Nat->Prop)(a:Option Addr):Sl w S a 0 0 []:=⟨rfl,Nat.le_refl _,by simp[maxLen],fun _=>rfl,.inl rfl⟩
theorem Own.none{w:World}{B:Nat}{e:TypeId}{v:Value}(h:Own w B e v []):∃a cap,v=.slice a 0 cap:=by
 obtain⟨a,n,cap,rfl,hn,_⟩:=h.sl;simp at hn;subst hn;exact⟨a,cap,rfl⟩
theorem kS(x:Int)(j:Nat)(hj:j<63):bits .and .i64 x (((2 ^ j-1:Nat)):Int)=x % ((2 ^ j:Nat):Int):=by
 have hp:2 ^ j<2 ^ 63:=Nat.pow_lt_pow_right (by omega) hj;have hp0:0<2 ^ j:=Nat.two_pow_pos j
 have h1:(BitVec.ofInt 64 x &&& BitVec.ofInt 64 (((2 ^ j-1:Nat)):Int)).toNat=(x % ((2 ^ j:Nat):Int)).toNat:=by
  rw[BitVec.toNat_and]
  have hb:(BitVec.ofInt 64 (((2 ^ j-1:Nat)):Int)).toNat=2 ^ j-1:=by
   rw[BitVec.toNat_ofInt];have:(((2 ^ j-1:Nat)):Int) % ((2 ^ 64:Nat):Int)=((2 ^ j-1:Nat):Int):=by omega
   rw[this];simp
  rw[hb,Nat.and_two_pow_sub_one_eq_mod,BitVec.toNat_ofInt]
  have hd:((2 ^ j:Nat):Int)∣((2 ^ 64:Nat):Int):=by
   exact_mod_cast Nat.pow_dvd_pow 2 (by omega)
  rw[<-Int.emod_emod_of_dvd x hd];have hnn:0<=x % ((2 ^ 64:Nat):Int):=Int.emod_nonneg _ (by omega);generalize x % ((2 ^ 64:Nat):Int)=y at *;obtain⟨z,rfl⟩:=Int.eq_ofNat_of_zero_le hnn;simp only[Int.toNat_natCast];omega
 have h2:bits .and .i64 x (((2 ^ j-1:Nat)):Int)=IntKind.i64.wrap (((BitVec.ofInt 64 x &&& BitVec.ofInt 64 (((2 ^ j-1:Nat)):Int)).toNat:Nat):Int):=rfl;rw[h2,h1];have hn:0<=x % ((2 ^ j:Nat):Int):=Int.emod_nonneg _ (by omega);have hl:x % ((2 ^ j:Nat):Int)<((2 ^ j:Nat):Int):=Int.emod_lt_of_pos _ (by omega);rw[Int.toNat_of_nonneg hn];refine IntWalk.i64_in _ ?_;omega
@[go_sem] theorem ac2(x:Int):bits .and .i64 x 7=x%8:=kS x 3 (by omega)
@[go_sem] theorem ac0(x:Int):bits .and .i64 x 1=x%2:=kS x 1 (by omega)
@[go_sem] theorem ac1(x:Int):bits .and .i64 x 3=x%4:=kS x 2 (by omega)
@[go_sem] theorem acO(x:Int):bits .and .i64 x 15=x%16:=kS x 4 (by omega)
@[go_sem] theorem acQ(x:Int):bits .and .i64 x 63=x%64:=kS x 6 (by omega)
@[go_sem] theorem acd(x:Int):bits .and .i64 x 255=x%256:=kS x 8 (by omega)
@[go_sem] theorem acP(x:Int):bits .and .i64 x 16777215=x%16777216:=kS x 24 (by omega)
inductive AV where
 |dead
 |bool (b:Bool)
 |int (k:IntKind) (n:Int)
 |str (s:List UInt8)
 |agg (cs:List AV)
 |sl (e:Nat) (cl:Bool) (xs:List (List AV))
 |tup (vs:List AV)
 |ptr (id off:Nat)
 |nilp
 |hs (e id off len:Nat)
 |va (e id off len:Nat)
 |elt (e:Nat) (xs:List (List AV)) (i off:Nat)
 |vp (e id i off:Nat)
 |fn (f:Fn) (caps:List AV)
 |nilf
 |mp (id:Nat)
 |any
 deriving Inhabited
def AV.cell:AV->Bool
 |.dead|.agg _|.tup _=>false
 |_=>true
structure Loc where
 has:Bool
 blk:Nat
 base:Nat
 rows:Nat
 deriving Inhabited
structure Env where
 loc:Nat->Option Loc
 F:Nat->Prop
 w:World
mutual
def Rl(E:Env):AV->Value->Prop
 |.dead,_=>True
 |.bool b,v=>v=.bool b
 |.int k n,v=>v=.int k n
 |.str s,v=>v=.string ⟨s.toArray⟩
 |.agg cs,v=>∃vs:List Value,v=.agg vs.toArray/\RlC E cs vs
 |.sl e cl xs,v=>∃a n cap,v=.slice a n cap/\n=xs.length/\n<=cap/\cap<=maxLen/\(cl=true->cap=n)/\(a=none->cap=0)/\
  (n=0\/∃b off vs,a=some ⟨b,off,none⟩/\b<E.w.heap.size/\¬E.F b/\range? E.w b off (n*e)=some (List.toArray vs)/\RlE E e xs vs)
 |.tup us,v=>∃vs:List Value,v=.tuple vs.toArray/\RlS E us vs
 |.ptr id off,v=>∃L,E.loc id=some L/\L.has=true/\v=.pointer (some ⟨L.blk,L.base+off,none⟩)
 |.nilp,v=>v=.pointer none
 |.hs e id off len,v=>∃a cap L,v=.slice a len cap/\len<=cap/\cap<=maxLen/\(a=none->cap=0)/\E.loc id=some L/\
  ((cap=0/\(L.has=true->L.base+off*e=L.rows))\/(L.has=true/\a=some ⟨L.blk,L.base+off*e,none⟩/\L.base+(off+cap)*e=L.rows))
 |.va e id off len,v=>∃a cap L,v=.slice a len cap/\len<=cap/\cap<=maxLen/\(a=none->cap=0)/\E.loc id=some L/\L.has=true/\
  (cap=0\/a=some ⟨L.blk,L.base+off,none⟩)
 |.elt e xs i off,v=>∃b o vs,v=.pointer (some ⟨b,o+i*e+off,none⟩)/\b<E.w.heap.size/\¬E.F b/\range? E.w b o (xs.length*e)=some (List.toArray vs)/\RlE E e xs vs
 |.vp e id i off,v=>∃L,E.loc id=some L/\L.has=true/\v=.pointer (some ⟨L.blk,L.base+i*e+off,none⟩)
 |.fn f caps,v=>∃vs:List Value,v=.func f #[] vs.toArray/\RlS E caps vs
 |.nilf,v=>v=.nilFunc
 |.mp id,v=>∃L,E.loc id=some L/\L.has=true/\v=.map (some L.blk)
 |.any,v=>v.oneCell'=true
def RlC(E:Env):List AV->List Value->Prop
 | [],vs=>vs=[]
 |c::cs,vs=>∃u us,vs=u::us/\c.cell=true/\Rl E c u/\RlC E cs us
def RlS(E:Env):List AV->List Value->Prop
 | [],vs=>vs=[]
 |c::cs,vs=>∃u us,vs=u::us/\Rl E c u/\RlS E cs us
def RlE(E:Env)(e:Nat):List (List AV)->List Value->Prop
 | [],vs=>vs=[]
 |x::xs,vs=>∃us ws,vs=us++ws/\us.length=e/\RlC E x us/\RlE E e xs ws
end
structure jV(E E':Env):Prop where
 loc:∀id L,E.loc id=some L->E'.loc id=some L
 size:E.w.heap.size<=E'.w.heap.size
 blk:∀b,b<E.w.heap.size->¬E.F b->¬E'.F b/\E'.w.heap[b]?=E.w.heap[b]?
theorem jV.refl(E:Env):jV E E:=⟨fun _ _ h=>h,Nat.le_refl _,fun _ _ h=>⟨h,rfl⟩⟩
mutual
theorem Rl.mono{E E':Env}(h:jV E E'):∀ (av:AV) (v:Value),Rl E av v->Rl E' av v
 |.dead,_,_=>trivial
 |.bool b,v,hv=>hv
 |.int k n,v,hv=>hv
 |.str s,v,hv=>hv
 | .agg cs, v, hv => by
   obtain⟨vs,e,hc⟩:=hv;exact⟨vs,e,RlC.mono h cs vs hc⟩
 | .sl e cl xs, v, hv => by
   obtain⟨a,n,cap,h1,h2,h3,h4,h5,h6,h7⟩:=hv;refine⟨a,n,cap,h1,h2,h3,h4,h5,h6,h7.imp id ?_⟩;rintro⟨b,off,vs,g1,g2,g3,g4,g5⟩;obtain⟨k1,k2⟩:=h.blk b g2 g3;exact⟨b,off,vs,g1,Nat.lt_of_lt_of_le g2 h.size,k1,by rw[range?_block k2];exact g4,RlE.mono h e xs vs g5⟩
 | .tup us, v, hv => by
   obtain⟨vs,e,hc⟩:=hv;exact⟨vs,e,RlS.mono h us vs hc⟩
 | .ptr id off, v, hv => by
   obtain⟨L,h1,h2⟩:=hv;exact⟨L,h.loc _ _ h1,h2⟩
 |.nilp,v,hv=>hv
 | .hs e id off len, v, hv => by
   obtain⟨a,cap,L,h1,h2,h3,h4,h5,h6⟩:=hv;exact⟨a,cap,L,h1,h2,h3,h4,h.loc _ _ h5,h6⟩
 | .va e id off len, v, hv => by
   obtain⟨a,cap,L,h1,h2,h3,h4,h5,h6⟩:=hv;exact⟨a,cap,L,h1,h2,h3,h4,h.loc _ _ h5,h6⟩
 | .elt e xs i off, v, hv => by
   obtain⟨b,o,vs,g1,g2,g3,g4,g5⟩:=hv;obtain⟨k1,k2⟩:=h.blk b g2 g3;exact⟨b,o,vs,g1,Nat.lt_of_lt_of_le g2 h.size,k1,by rw[range?_block k2];exact g4,RlE.mono h e xs vs g5⟩
 | .vp e id i off, v, hv => by
   obtain⟨L,h1,h2⟩:=hv;exact⟨L,h.loc _ _ h1,h2⟩
 | .fn f caps, v, hv => by
   obtain⟨vs,e,hc⟩:=hv;exact⟨vs,e,RlS.mono h caps vs hc⟩
 |.nilf,v,hv=>hv
 | .mp id, v, hv => by
   obtain⟨L,h1,h2⟩:=hv;exact⟨L,h.loc _ _ h1,h2⟩
 |.any,v,hv=>hv
theorem RlC.mono{E E':Env}(h:jV E E'):∀ (cs:List AV) (vs:List Value),RlC E cs vs->RlC E' cs vs
 | [],_,hv=>hv
 | c :: cs, _, hv => by
   obtain⟨u,us,h1,h2,h3,h4⟩:=hv;exact⟨u,us,h1,h2,Rl.mono h c u h3,RlC.mono h cs us h4⟩
theorem RlS.mono{E E':Env}(h:jV E E'):∀ (cs:List AV) (vs:List Value),RlS E cs vs->RlS E' cs vs
 | [],_,hv=>hv
 | c :: cs, _, hv => by
   obtain⟨u,us,h1,h3,h4⟩:=hv;exact⟨u,us,h1,Rl.mono h c u h3,RlS.mono h cs us h4⟩
theorem RlE.mono{E E':Env}(h:jV E E')(e:Nat):∀ (xs:List (List AV)) (vs:List Value),RlE E e xs vs->RlE E' e xs vs
 | [],_,hv=>hv
 | x :: xs, _, hv => by
   obtain⟨us,ws,h1,h2,h3,h4⟩:=hv;exact⟨us,ws,h1,h2,RlC.mono h x us h3,RlE.mono h e xs ws h4⟩
end
mutual
def ren(r:Nat->Nat):AV->AV
 |.dead=>.dead
 |.bool b=>.bool b
 |.int k n=>.int k n
 |.str s=>.str s
 |.agg cs=>.agg (dP r cs)
 |.sl e cl xs=>.sl e cl (dF r xs)
 |.tup us=>.tup (dP r us)
 |.ptr id off=>.ptr (r id) off
 |.nilp=>.nilp
 |.hs e id off len=>.hs e (r id) off len
 |.va e id off len=>.va e (r id) off len
 |.elt e xs i off=>.elt e (dF r xs) i off
 |.vp e id i off=>.vp e (r id) i off
 |.fn f caps=>.fn f (dP r caps)
 |.nilf=>.nilf
 |.mp id=>.mp (r id)
 |.any=>.any
def dP(r:Nat->Nat):List AV->List AV
 | []=>[]
 |c::cs=>ren r c::dP r cs
def dF(r:Nat->Nat):List (List AV)->List (List AV)
 | []=>[]
 |x::xs=>dP r x::dF r xs
end
theorem FR(r:Nat->Nat):∀cs,dP r cs=cs.map (ren r)
 | []=>rfl
 |c::cs=>by rw[dP,FR r cs];rfl
theorem JH(r:Nat->Nat):∀xs,dF r xs=xs.map (dP r)
 | []=>rfl
 |c::cs=>by rw[dF,JH r cs];rfl
@[simp] theorem aa3(r:Nat->Nat)(cs:List AV):(dP r cs).length=cs.length:=by simp[FR]
@[simp] theorem qN(r:Nat->Nat)(cs:List (List AV)):(dF r cs).length=cs.length:=by simp[JH]
theorem W3(r:Nat->Nat)(c:AV):(ren r c).cell=c.cell:=by cases c<;>rfl
mutual
theorem DF{E E':Env}{r:Nat->Nat}(h:∀id,E'.loc id=E.loc (r id))(hw:E'.w=E.w)(hF:E'.F=E.F):∀ (av:AV) (v:Value),Rl E' av v↔Rl E (ren r av) v
 |.dead,_=>Iff.rfl
 |.bool b,v=>Iff.rfl
 |.int k n,v=>Iff.rfl
 |.str s,v=>Iff.rfl
 | .agg cs, v => by
   simp only[Rl,ren,Dk h hw hF cs]
 | .sl e cl xs, v => by
   simp only[Rl,ren,xR h hw hF e xs,qN,hw,hF]
 | .tup us, v => by
   simp only[Rl,ren,tY h hw hF us]
 |.ptr id off,v=>by simp only[Rl,ren,h]
 |.nilp,v=>Iff.rfl
 |.hs e id off len,v=>by simp only[Rl,ren,h]
 |.va e id off len,v=>by simp only[Rl,ren,h]
 | .elt e xs i off, v => by
   simp only[Rl,ren,xR h hw hF e xs,qN,hw,hF]
 |.vp e id i off,v=>by simp only[Rl,ren,h]
 | .fn f caps, v => by
   simp only[Rl,ren,tY h hw hF caps]
 |.nilf,v=>Iff.rfl
 |.mp id,v=>by simp only[Rl,ren,h]
 |.any,v=>Iff.rfl
theorem Dk{E E':Env}{r:Nat->Nat}(h:∀id,E'.loc id=E.loc (r id))(hw:E'.w=E.w)(hF:E'.F=E.F):∀ (cs:List AV) (vs:List Value),RlC E' cs vs↔RlC E (dP r cs) vs
 | [],_=>Iff.rfl
 | c :: cs, vs => by
   simp only[RlC,dP,DF h hw hF c,Dk h hw hF cs,W3]
theorem tY{E E':Env}{r:Nat->Nat}(h:∀id,E'.loc id=E.loc (r id))(hw:E'.w=E.w)(hF:E'.F=E.F):∀ (cs:List AV) (vs:List Value),RlS E' cs vs↔RlS E (dP r cs) vs
 | [],_=>Iff.rfl
 | c :: cs, vs => by
   simp only[RlS,dP,DF h hw hF c,tY h hw hF cs]
theorem xR{E E':Env}{r:Nat->Nat}(h:∀id,E'.loc id=E.loc (r id))(hw:E'.w=E.w)(hF:E'.F=E.F)(e:Nat):∀ (xs:List (List AV)) (vs:List Value),RlE E' e xs vs↔RlE E e (dF r xs) vs
 | [],_=>Iff.rfl
 | x :: xs, vs => by
   simp only[RlE,dF,Dk h hw hF x,xR h hw hF e xs]
end
theorem RlC.length{E:Env}:∀ {cs:List AV} {vs:List Value},RlC E cs vs->vs.length=cs.length
 | [],_,h=>by simp only[RlC]at h;simp[h]
 | c :: cs, _, h => by
   obtain⟨u,us,rfl,_,_,h4⟩:=h;simp[RlC.length h4]
theorem RlC.app{E:Env}:∀ {a b:List AV} {va vb:List Value},RlC E a va->RlC E b vb->RlC E (a++b) (va++vb)
 | [],_,_,_,h,hb=>by simp only[RlC]at h;subst h;simpa using hb
 | c :: cs, _, _, _, h, hb => by
   obtain⟨u,us,rfl,h2,h3,h4⟩:=h;exact⟨u,us++_,rfl,h2,h3,RlC.app h4 hb⟩
theorem RlC.take{E:Env}:∀ {a:List AV} {va:List Value} (n:Nat),RlC E a va->RlC E (a.take n) (va.take n)
 | [],_,n,h=>by simp only[RlC]at h;subst h;simp[RlC]
 |c::cs,_,0,h=>by simp[RlC]
 | c :: cs, _, n + 1, h => by
   obtain⟨u,us,rfl,h2,h3,h4⟩:=h;exact⟨u,us.take n,rfl,h2,h3,RlC.take n h4⟩
theorem RlC.drop{E:Env}:∀ {a:List AV} {va:List Value} (n:Nat),RlC E a va->RlC E (a.drop n) (va.drop n)
 | [],_,n,h=>by simp only[RlC]at h;subst h;simp[RlC]
 |c::cs,_,0,h=>h
 | c :: cs, _, n + 1, h => by
   obtain⟨u,us,rfl,h2,h3,h4⟩:=h;exact RlC.drop n h4
theorem RlC.get{E:Env}:∀ {a:List AV} {va:List Value} (n:Nat) (hn:n<a.length),RlC E a va->∃u,va[n]?=some u/\a[n].cell=true/\Rl E a[n] u
 | [],_,n,hn,h=>by simp at hn
 | c :: cs, _, 0, hn, h => by
   obtain⟨u,us,rfl,h2,h3,h4⟩:=h;exact⟨u,rfl,h2,h3⟩
 | c :: cs, _, n + 1, hn, h => by
   obtain⟨u,us,rfl,h2,h3,h4⟩:=h;obtain⟨u',g⟩:=RlC.get n (by simpa using hn) h4;exact⟨u',by simpa using g⟩
theorem Fz{E:Env}{c:AV}{u:Value}(h:Rl E c u)(hc:c.cell=true):u.oneCell'=true:=by
 cases c<;>simp only[AV.cell]at hc<;>simp only[Rl]at h
 all_goals first
  |contradiction
  |(subst h;rfl)
  |(obtain⟨_,_,_,rfl,_⟩:=h;rfl)
  |(obtain⟨_,_,_,rfl⟩:=h;rfl)
  |(obtain⟨_,rfl,_⟩:=h;rfl)
  |exact h
theorem RlC.one{E:Env}:∀ {a:List AV} {va:List Value},RlC E a va->∀u∈va,u.oneCell'=true
 | [],_,h,u,hu=>by simp only[RlC]at h;subst h;cases hu
 | c :: cs, _, h, u, hu => by
   obtain⟨u',us,rfl,h2,h3,h4⟩:=h;rcases List.mem_cons.1 hu with rfl|h5
   ·exact Fz h3 h2
   ·exact RlC.one h4 u h5
theorem RlS.length{E:Env}:∀ {cs:List AV} {vs:List Value},RlS E cs vs->vs.length=cs.length
 | [],_,h=>by simp only[RlS]at h;simp[h]
 | c :: cs, _, h => by
   obtain⟨u,us,rfl,_,h4⟩:=h;simp[RlS.length h4]
theorem RlS.app{E:Env}:∀ {a b:List AV} {va vb:List Value},RlS E a va->RlS E b vb->RlS E (a++b) (va++vb)
 | [],_,_,_,h,hb=>by simp only[RlS]at h;subst h;simpa using hb
 | c :: cs, _, _, _, h, hb => by
   obtain⟨u,us,rfl,h3,h4⟩:=h;exact⟨u,us++_,rfl,h3,RlS.app h4 hb⟩
theorem RlS.get{E:Env}:∀ {a:List AV} {va:List Value} (n:Nat) (hn:n<a.length),RlS E a va->∃u,va[n]?=some u/\Rl E a[n] u
 | [],_,n,hn,h=>by simp at hn
 | c :: cs, _, 0, hn, h => by
   obtain⟨u,us,rfl,h3,h4⟩:=h;exact⟨u,rfl,h3⟩
 | c :: cs, _, n + 1, hn, h => by
   obtain⟨u,us,rfl,h3,h4⟩:=h;obtain⟨u',g⟩:=RlS.get n (by simpa using hn) h4;exact⟨u',by simpa using g⟩
theorem RlE.length{E:Env}{e:Nat}:∀ {xs:List (List AV)} {vs:List Value},RlE E e xs vs->vs.length=xs.length*e
 | [],_,h=>by simp only[RlE]at h;simp[h]
 | x :: xs, _, h => by
   obtain⟨us,ws,rfl,h2,h3,h4⟩:=h;simp[RlE.length h4,h2,Nat.add_mul,Nat.add_comm]
theorem RlE.app{E:Env}{e:Nat}:∀ {a b:List (List AV)} {va vb:List Value},RlE E e a va->RlE E e b vb->RlE E e (a++b) (va++vb)
 | [],_,_,_,h,hb=>by simp only[RlE]at h;subst h;simpa using hb
 | c :: cs, _, _, _, h, hb => by
   obtain⟨us,ws,rfl,h2,h3,h4⟩:=h;exact⟨us,ws++_,by simp,h2,h3,RlE.app h4 hb⟩
theorem RlE.drop{E:Env}{e:Nat}:∀ {a:List (List AV)} {va:List Value} (n:Nat),RlE E e a va->RlE E e (a.drop n) (va.drop (n*e))
 | [],_,n,h=>by simp only[RlE]at h;subst h;simp[RlE]
 |c::cs,_,0,h=>by simpa using h
 | c :: cs, _, n + 1, h => by
   obtain⟨us,ws,rfl,h2,h3,h4⟩:=h;have:=RlE.drop n h4;have e1:(n+1)*e=us.length+n*e:=by rw[h2,Nat.add_mul];omega
   rw[e1,List.drop_append,List.drop_of_length_le (Nat.le_add_right us.length (n*e)),List.nil_append,Nat.add_sub_cancel_left];exact this
theorem RlE.take{E:Env}{e:Nat}:∀ {a:List (List AV)} {va:List Value} (n:Nat),RlE E e a va->RlE E e (a.take n) (va.take (n*e))
 | [],_,n,h=>by simp only[RlE]at h;subst h;simp[RlE]
 |c::cs,_,0,h=>by simp[RlE]
 | c :: cs, _, n + 1, h => by
   obtain⟨us,ws,rfl,h2,h3,h4⟩:=h;have:=RlE.take n h4;have e1:(n+1)*e=us.length+n*e:=by rw[h2,Nat.add_mul];omega
   rw[e1,List.take_append,List.take_of_length_le (Nat.le_add_right us.length (n*e)),Nat.add_sub_cancel_left];exact⟨us,_,rfl,h2,h3,this⟩
theorem RlE.get{E:Env}{e:Nat}:∀ {a:List (List AV)} {va:List Value} (n:Nat) (hn:n<a.length),RlE E e a va->RlC E a[n] ((va.drop (n*e)).take e)
 | [],_,n,hn,h=>by simp at hn
 | c :: cs, _, 0, hn, h => by
   obtain⟨us,ws,rfl,h2,h3,h4⟩:=h;simp only[Nat.zero_mul,List.drop_zero];rw[List.take_append,List.take_of_length_le (by omega),h2];simpa using h3
 | c :: cs, _, n + 1, hn, h => by
   obtain⟨us,ws,rfl,h2,h3,h4⟩:=h;have:=RlE.get n (by simpa using hn) h4;have e1:(n+1)*e=us.length+n*e:=by rw[h2,Nat.add_mul];omega
   rw[e1,List.drop_append,List.drop_of_length_le (Nat.le_add_right us.length (n*e)),List.nil_append,Nat.add_sub_cancel_left];exact this
theorem RlE.one{E:Env}{e:Nat}:∀ {a:List (List AV)} {va:List Value},RlE E e a va->∀u∈va,u.oneCell'=true
 | [],_,h,u,hu=>by simp only[RlE]at h;subst h;cases hu
 | c :: cs, _, h, u, hu => by
   obtain⟨us,ws,rfl,h2,h3,h4⟩:=h;rcases List.mem_append.1 hu with h5|h5
   ·exact h3.one u h5
   ·exact RlE.one h4 u h5
theorem RlE.elen{E:Env}{e:Nat}:∀ {a:List (List AV)} {va:List Value},RlE E e a va->∀x∈a,x.length=e
 | [],_,h,u,hu=>by cases hu
 | c :: cs, _, h, u, hu => by
   obtain⟨us,ws,rfl,h2,h3,h4⟩:=h;rcases List.mem_cons.1 hu with rfl|h5
   ·rw[<-h3.length,h2]
   ·exact RlE.elen h4 u h5
inductive bO where
 |gone
 |var (cs:List AV)
 |vec (e:Nat) (xs:List (List AV))
 |vex (e:Nat) (xs:List (List AV))
 |map (es:List (List AV))
 |iter (m n:Nat) (seen:List Nat)
 deriving Inhabited
def bO.live:bO->Bool
 |.gone=>false
 |_=>true
abbrev St:=List bO
def RlM(E:Env):List (List AV)->List MapEntry->Nat->Prop
 | [],es,_=>es=[]
 |x::xs,es,b=>∃e r,es=e::r/\RlS E x [e.key,e.val]/\e.born=b/\RlM E xs r (b+1)
theorem RlM.mono{E E':Env}(h:jV E E'):∀ {xs:List (List AV)} {es:List MapEntry} {b:Nat},RlM E xs es b->RlM E' xs es b
 | [],_,_,hx=>hx
 |_::_,_,_,⟨e,r,h1,h2,h3,h4⟩=>⟨e,r,h1,RlS.mono h _ _ h2,h3,RlM.mono h h4⟩
theorem RlM.length{E:Env}:∀ {xs:List (List AV)} {es:List MapEntry} {b:Nat},RlM E xs es b->es.length=xs.length
 | [],_,_,h=>by simp only[RlM]at h;simp[h]
 |_::_,_,_,⟨e,r,h1,h2,h3,h4⟩=>by subst h1;simp[RlM.length h4]
def gw(E:Env)(L:Loc):bO->Prop
 |.gone=>True
 |.var cs=>L.has=true/\L.base=0/\∃ (vs:List Value) (t:TypeId),E.w.heap[L.blk]?=some (.cells vs.toArray t (0,0))/\RlC E cs vs
 |.vec e xs=>(L.has=false/\xs=[])\/(L.has=true/\∃ (cs vs ws:List Value) (t:TypeId),E.w.heap[L.blk]?=some (.cells (cs++vs++ws).toArray t (0,0))/\cs.length=L.base/\(cs++vs++ws).length=L.rows/\RlE E e xs vs/\∀u∈ws,u.oneCell'=true)
 |.vex e xs=>(L.has=false/\xs=[])\/(L.has=true/\∃ (cs vs:List Value) (t:TypeId),E.w.heap[L.blk]?=some (.cells (cs++vs).toArray t (0,0))/\cs.length=L.base/\(cs++vs).length=L.rows/\RlE E e xs vs)
 |.map es=>L.has=true/\∃ents:List MapEntry,E.w.heap[L.blk]?=some (.map ents.toArray es.length)/\RlM E es ents 0
 |.iter m n seen=>L.has=true/\L.base=0/\∃Lm,E.loc m=some Lm/\Lm.has=true/\E.w.heap[L.blk]?=some (.mapIter (some Lm.blk) n seen.toArray n)
def aS(σ:St)(loc:Nat->Option Loc)(b:Nat):Prop:=∃id o L,σ[id]?=some o/\o.live=true/\loc id=some L/\L.has=true/\L.blk=b
def gq(X:Nat->Prop)(σ:St)(loc:Nat->Option Loc)(b:Nat):Prop:=X b\/aS σ loc b
abbrev aR(X:Nat->Prop)(loc:Nat->Option Loc)(σ:St)(w:World):Env:=⟨loc,gq X σ loc,w⟩
structure Rel(X:Nat->Prop)(loc:Nat->Option Loc)(σ:St)(w:World):Prop where
 obj:∀ (id:Nat) (o:bO),σ[id]?=some o->o.live=true->∃L,loc id=some L/\gw (aR X loc σ w) L o
 apart:∀ (i j:Nat) (a b:bO) (La Lb:Loc),i≠j->σ[i]?=some a->σ[j]?=some b->a.live=true->b.live=true->loc i=some La->loc j=some Lb->La.has=true->Lb.has=true->La.blk≠Lb.blk
 out:∀b,X b->b<w.heap.size/\¬aS σ loc b
 beyond:∀id,σ.length<=id->loc id=none
structure Ev(D:Nat->Prop)(w w':World):Prop where
 size:w.heap.size<=w'.heap.size
 blk:∀b,b<w.heap.size->¬D b->w'.heap[b]?=w.heap[b]?
 os:w'.os=w.os
 tape:w'.tape=w.tape
 output:w'.output=w.output
theorem Ev.refl(D:Nat->Prop)(w:World):Ev D w w:=⟨Nat.le_refl _,fun _ _ _=>rfl,rfl,rfl,rfl⟩
theorem Ev.trans{D D':Nat->Prop}{w w1 w2:World}(h:Ev D w w1)(h':Ev D' w1 w2)(hD:∀b,b<w.heap.size->D' b->D b):Ev D w w2:=
 ⟨Nat.le_trans h.size h'.size,fun b hb hn=>(h'.blk b (Nat.lt_of_lt_of_le hb h.size) fun hd=>hn (hD b hb hd)).trans (h.blk b hb hn),h'.os.trans h.os,h'.tape.trans h.tape,h'.output.trans h.output⟩
theorem Ev.alloc(D:Nat->Prop)(w:World)(o:Obj):Ev D w (w.alloc o):=
 ⟨by simp,fun b hb _=>Below.heap_alloc w o b hb,rfl,rfl,rfl⟩
theorem Ev.drew(D:Nat->Prop)(w:World):Ev D w w.drew:=⟨Nat.le_refl _,fun _ _ _=>rfl,rfl,rfl,rfl⟩
theorem Ev.setRow{D:Nat->Prop}{w:World}{b:Nat}(h:D b)(c:Array Value):Ev D w (w.setRow b c):=
 ⟨by simp,fun k _ hk=>setRow_other w b k c (by rintro rfl;exact hk h),rfl,rfl,rfl⟩
theorem Ev.below{D:Nat->Prop}{w w':World}(h:Ev D w w')(hD:∀b,b<w.heap.size->¬D b):Below w.heap.size w w':=
 ⟨h.os,h.tape,h.output,h.size,fun b hb=>h.blk b hb (hD b hb)⟩
theorem aS.lt{X:Nat->Prop}{loc:Nat->Option Loc}{σ:St}{w:World}(h:Rel X loc σ w){b:Nat}(hb:aS σ loc b):b<w.heap.size:=by
 obtain⟨id,o,L,h1,h2,h3,h4,rfl⟩:=hb;obtain⟨L',h5,h6⟩:=h.obj id o h1 h2;rw[h3]at h5;cases h5;cases o with
 |gone=>cases h2
 | var cs =>
   obtain⟨_,_,vs,t,hg,_⟩:=h6;exact(Array.getElem?_eq_some_iff.1 hg).1
 | vec e xs =>
   rcases h6 with⟨h7,_⟩|⟨_,cs,vs,ws,t,hg,_⟩
   ·rw[h4]at h7;cases h7
   ·exact(Array.getElem?_eq_some_iff.1 hg).1
 | vex e xs =>
   rcases h6 with⟨h7,_⟩|⟨_,cs,vs,t,hg,_⟩
   ·rw[h4]at h7;cases h7
   ·exact(Array.getElem?_eq_some_iff.1 hg).1
 | map es =>
   obtain⟨_,ents,hg,_⟩:=h6;exact(Array.getElem?_eq_some_iff.1 hg).1
 | iter m n seen =>
   obtain⟨_,_,Lm,_,_,hg⟩:=h6;exact(Array.getElem?_eq_some_iff.1 hg).1
structure Out(X:Nat->Prop)(loc:Nat->Option Loc)(σ:St)(w:World)(av:AV)(σ':St)(v:Value)(w':World)(loc':Nat->Option Loc):Prop where
 locs:∀id L,loc id=some L->loc' id=some L
 rel:Rel X loc' σ' w'
 val:Rl (aR X loc' σ' w') av v
 ev:Ev (aS σ loc) w w'
 old:∀b,aS σ' loc' b->aS σ loc b\/w.heap.size<=b
theorem lQ{X:Nat->Prop}{loc loc':Nat->Option Loc}{σ σ':St}{w w':World}(hX:Rel X loc σ w)(locs:∀id L,loc id=some L->loc' id=some L)(ev:Ev (aS σ loc) w w')(old:∀b,aS σ' loc' b->aS σ loc b\/w.heap.size<=b):
 jV (aR X loc σ w) (aR X loc' σ' w'):=
 ⟨locs,ev.size,fun b hb hn=>⟨fun hf=>hf.elim (fun hx=>hn (.inl hx)) (fun hl=>(old b hl).elim (fun h1=>hn (.inr h1)) (fun h2=>absurd hb (Nat.not_lt.2 h2))),ev.blk b hb fun hd=>hn (.inr hd)⟩⟩
theorem Out.envLe{X:Nat->Prop}{loc loc':Nat->Option Loc}{σ σ':St}{w w':World}{av:AV}{v:Value}(hX:Rel X loc σ w)(h:Out X loc σ w av σ' v w' loc'):jV (aR X loc σ w) (aR X loc' σ' w'):=
 lQ hX h.locs h.ev h.old
structure Fr where
 nv:Nat
 vs:List AV
 ts:List (Nat×AV)
def qO:List (Nat×AV)->Nat->AV
 | [],_=>.dead
 |(k,v)::r,t=>if t=k then v else qO r t
def Fr.get(f:Fr)(t:Nat):AV:=if t<f.nv then f.vs.getD t .dead else qO f.ts t
def Fr.put(f:Fr)(t:Nat)(v:AV):Fr:=if t<f.nv then { f with vs:=f.vs.set t v }else { f with ts:=(t,v)::f.ts }
def Fr.putO(f:Fr):Option Nat->AV->Fr
 |some t,v=>f.put t v
 |none,_=>f
theorem Fr.get_put_ne(f:Fr){t u:Nat}(v:AV)(h:t≠u):(f.put t v).get u=f.get u:=by
 unfold Fr.put Fr.get;by_cases h1:t<f.nv
 ·simp only[h1,if_true];by_cases h2:u<f.nv
  ·simp[h2,List.getD,List.getElem?_set,h]
  ·simp[h2]
 ·simp only[h1,if_false];by_cases h2:u<f.nv
  ·simp[h2]
  ·simp[h2,qO,Ne.symm h]
theorem Fr.get_put_same(f:Fr)(t:Nat)(v:AV):(f.put t v).get t=v\/(f.put t v).get t=.dead:=by
 unfold Fr.put Fr.get;by_cases h1:t<f.nv
 ·simp only[h1,if_true];by_cases h4:t<f.vs.length
  ·left;simp[h4]
  ·right;simp[List.getD,h4]
 ·left;simp[h1,qO]
structure Cx where
 X:Nat->Prop
 w0:World
 D0:Nat->Prop
 loc0:Nat->Option Loc
structure SR(C:Cx)(nt k:Nat)(fr:Fr)(σ:St)(loc:Nat->Option Loc)(a:Act)(w:World):Prop where
 rel:Rel C.X loc σ w
 frm:∀t,Rl (aR C.X loc σ w) (fr.get t) (a.tmps.getD t undef)
 size:a.tmps.size=nt
 dfr:a.defers=[]
 ev:Ev C.D0 C.w0 w
 old:∀b,aS σ loc b->C.D0 b\/C.w0.heap.size<=b
 pre:∀id,id<k->loc id=C.loc0 id
 klen:k<=σ.length
theorem SR.step{C:Cx}{nt k:Nat}{fr:Fr}{σ σ':St}{loc loc':Nat->Option Loc}{a:Act}{w w':World}{av:AV}{v:Value}(h:SR C nt k fr σ loc a w)(o:Out C.X loc σ w av σ' v w' loc')
 (hk:∀id,id<k->loc' id=loc id) (hl:σ.length<=σ'.length) (dst:Option Nat) (hd:∀t,dst=some t->t<nt):SR C nt k (fr.putO dst av) σ' loc' (a.put dst v) w':=by
 have hle:=o.envLe h.rel;refine⟨o.rel,fun t=>?_,?_,?_,h.ev.trans o.ev ?_,?_,?_,Nat.le_trans h.klen hl⟩
 ·cases dst with
  |none=>exact Rl.mono hle _ _ (h.frm t)
  | some d =>
    have hds:=hd d rfl;simp only[Fr.putO,Act.put];by_cases hdt:d=t
    ·subst hdt
     have hv:(a.tmps.setIfInBounds d v).getD d undef=v:=by
      simp[Array.getD,h.size,hds]
     rw[hv];rcases Fr.get_put_same fr d av with h1|h1
     ·rw[h1];exact o.val
     ·rw[h1];trivial
    ·have hv:(a.tmps.setIfInBounds d v).getD t undef=a.tmps.getD t undef:=by
      simp only[Array.getD_eq_getD_getElem?,Array.getElem?_setIfInBounds_ne hdt]
     rw[hv];rw[Fr.get_put_ne fr av hdt];exact Rl.mono hle _ _ (h.frm t)
 ·cases dst<;>simp[Act.put,h.size]
 ·cases dst<;>simp[Act.put,h.dfr]
 ·intro b hb hd;rcases h.old b hd with h1|h1
  ·exact h1
  ·exact absurd hb (Nat.not_lt.2 h1)
 ·intro b hb;rcases o.old b hb with h1|h1
  ·exact h.old b h1
  ·exact .inr (Nat.le_trans h.ev.size h1)
 ·intro id hid;rw[hk id hid,h.pre id hid]
def BV(f:TypeId->Option (List Nat))(P:Program):List Field->Nat->Option (List Nat)
 | [],_=>some []
 | g :: gs, off => match f g.type, BV f P gs (off + P.cellsOf g.type) with
   | some a, some b => if g.name ≠ "_" /\ g.offset = off /\ P.cellsOf g.type = a.length then some (a ++ b) else none
   |_,_=>none
def jl(P:Program):Nat->TypeId->Option (List Nat)
 |0,_=>none
 | d + 1, t => match P.underlying t with
   |some .bool=>some [0]
   |some (.int _)=>some [1]
   |some .string=>some [2]
   | some (.array n e) => match jl P d e with
     |some l=>if P.cellsOf e=l.length then some (List.replicate n l).flatten else none
     |none=>none
   |some (.struct fs)=>if P.stoodInHeld t then none else BV (jl P d) P fs.toList 0
   |_=>none
def gG:Value->Nat
 |.bool _=>0
 |.int _ _=>1
 |.string _=>2
 |_=>3
def Io:Value->Value->Option Bool
 |.int k a,.int k' b=>if k=k' then some (a==b)else none
 |.bool a,.bool b=>some (a==b)
 |.string a,.string b=>some (a.toList==b.toList)
 |_,_=>none
def pA:List Value->List Value->Option Bool
 | [],[]=>some true
 | x :: xs, y :: ys => match Io x y, pA xs ys with
   |some a,some b=>some (a&&b)
   |_,_=>none
 |_,_=>none
theorem Gw:∀ {a c b d:List Value} {r:Bool},a.length=c.length->pA (a++b) (c++d)=some r->∃x y,pA a c=some x/\pA b d=some y/\r=(x&&y)
 | [],[],b,d,r,_,h=>⟨true,r,rfl,by simpa using h,by simp⟩
 | [],_::_,_,_,_,hl,_=>by simp at hl
 |_::_,[],_,_,_,hl,_=>by simp at hl
 | x :: a, y :: c, b, d, r, hl, h => by
   simp only[List.cons_append,pA]at h;split at h
   ·rename_i p q h1 h2;simp only[Option.some.injEq]at h;obtain⟨u,v,g1,g2,g3⟩:=Gw (by simpa using hl) h2;exact⟨p&&u,v,by simp[pA,h1,g1],g2,by rw[<-h,g3,Bool.and_assoc]⟩
   ·cases h
def rH(P:Program)(t:TypeId):Bool:=match P.underlying t with|some (.struct _)|some (.array _ _)=>true|_=>false
def pk(P:Program)(t:TypeId)(us:List Value):Value:=if rH P t then .agg us.toArray else us.headD (.tuple #[])
theorem oX{P:Program}(w:World){e:TypeId}{ks:List Nat}{d:Nat}(h:jl P d e=some ks)(hc:P.cellsOf e=ks.length)(xs:Array Value)(off:Nat)(hl:off+ks.length<=xs.size):
 (part e xs off).run P w=.ok (pk P e ((xs.toList.drop off).take ks.length)) w:=by
 cases d with
 |zero=>simp[jl]at h
 | succ d =>
   unfold jl at h;cases hu:P.underlying e with
   |none=>simp[hu]at h
   | some td =>
     have hinfo:∃i,P.info? e=some i:=by
      unfold Program.underlying at hu;cases hi:P.info? e with
      |none=>simp[hi]at hu
      |some i=>exact⟨i,rfl⟩
     obtain⟨i,hi⟩:=hinfo;have hsz:P.cellsOf e=i.size:=by simp[Program.cellsOf,hi]
     have one:ks.length=1->(∀fs,td≠.struct fs)->(∀n e,td≠.array n e)->(part e xs off).run P w=.ok (pk P e ((xs.toList.drop off).take ks.length)) w:=by
      intro h1 h2 h3
      have hag:(isAgg e).run P w=.ok false w:=by
       unfold isAgg;rw[Sem.run_bind,run_underlying hu w];cases td<;>simp_all
      have hat:rH P e=false:=by
       unfold rH;rw[hu];cases td<;>simp_all
      have hlt:off<xs.size:=by omega
      have:(xs.toList.drop off).take ks.length=[xs[off]]:=by
       rw[h1,List.drop_eq_getElem_cons (by simpa using hlt),List.take_succ_cons];simp
      simp[part,Sem.run_bind,hag,hlt,pk,hat,this]
     have agg:(∃fs,td=.struct fs)\/(∃n e,td=.array n e)->(part e xs off).run P w=.ok (pk P e ((xs.toList.drop off).take ks.length)) w:=by
      intro hk
      have hag:(isAgg e).run P w=.ok true w:=by
       unfold isAgg;rw[Sem.run_bind,run_underlying hu w];rcases hk with⟨fs,rfl⟩|⟨n,e',rfl⟩<;>simp
      have hat:rH P e=true:=by
       unfold rH;rw[hu];rcases hk with⟨fs,rfl⟩|⟨n,e',rfl⟩<;>rfl
      have h9:(xs.extract off (off+i.size))=((xs.toList.drop off).take ks.length).toArray:=by
       apply Array.toList_inj.1
       rw[<-hsz,hc];simp[List.extract_eq_take_drop]
      simp[part,Sem.run_bind,hag,sizeOf,typeInfo,hi,pk,hat,h9]
     simp only[hu]at h;cases td<;>simp only[reduceCtorEq,Option.some.injEq]at h
     case bool=>subst h;exact one rfl (by simp) (by simp)
     case int=>subst h;exact one rfl (by simp) (by simp)
     case string=>subst h;exact one rfl (by simp) (by simp)
     case array n e'=>exact agg (.inr ⟨n,e',rfl⟩)
     case struct fs=>exact agg (.inl ⟨fs,rfl⟩)
theorem tQ {P : Program} : ∀ (d : Nat) {t : TypeId} {ks : List Nat}, jl P d t = some ks -> ∀ {us vs : List Value} {r : Bool}, us.map gG = ks -> vs.map gG = ks -> pA us vs = some r ->
 ∀ (m:Nat) (w:World),(Op.equalIn (d+m) t (pk P t us) (pk P t vs)).run P w=.ok r w
 |0,_,_,h,_,_,_,_,_,_,_,_=>by simp[jl]at h
 | d + 1, t, ks, h, us, vs, r, hu, hv, he, m, w => by
   have ih:=@tQ P d;have e0:d+1+m=(d+m)+1:=by omega
   rw[e0];unfold jl at h;cases hut:P.underlying t with
   |none=>simp[hut]at h
   | some td =>
     simp only[hut]at h;cases td<;>simp only[reduceCtorEq,Option.some.injEq]at h
     case bool=>
      subst h;match us,vs with
      | [.bool a],[.bool b]=>simp[pA,Io]at he;subst he;simpa[pk,rH,hut]using run_equalIn_bool' w (d+m) t a b hut
      | [],_=>simp at hu
      |_::_::_,_=>simp at hu
      | [x],[]=>simp at hv
      | [x],_::_::_=>simp at hv
      | [x],[y]=>cases x<;>simp[gG]at hu<;>cases y<;>simp[gG]at hv<;>simp[pA,Io]at he<;>(subst he;simpa[pk,rH,hut]using run_equalIn_bool' w (d+m) t _ _ hut)
     case int k0=>
      subst h;match us,vs with
      | [],_=>simp at hu
      |_::_::_,_=>simp at hu
      | [x],[]=>simp at hv
      | [x],_::_::_=>simp at hv
      | [x], [y] =>
        cases x<;>simp[gG]at hu
        cases y<;>simp[gG]at hv
        simp[pA,Io]at he;split at he
        ·rename_i p hp hq
         split at hp
         ·rename_i hk;subst hk;simp only[Option.some.injEq]at hp hq he;subst hp;subst hq;subst he;simpa[pk,rH,hut]using run_equalIn_int w (d+m) t _ k0 _ _ hut
         ·cases hp
        ·cases he
     case string=>
      subst h;match us,vs with
      | [],_=>simp at hu
      |_::_::_,_=>simp at hu
      | [x],[]=>simp at hv
      | [x],_::_::_=>simp at hv
      | [x], [y] =>
        cases x<;>simp[gG]at hu
        cases y<;>simp[gG]at hv
        simp[pA,Io]at he;subst he;simpa[pk,rH,hut]using run_equalIn_string w (d+m) t _ _ hut
     case array n e=>
      split at h
      ·rename_i l hl
       split at h
       ·rename_i hc
        simp only[Option.some.injEq]at h;subst h;have hat:rH P t=true:=by simp[rH,hut]
        simp only[pk,hat,if_true]
        have hinfo:∃i,P.info? e=some i:=by
         cases hi:P.info? e with
         |some i=>exact⟨i,rfl⟩
         | none =>
           exfalso
           have:P.underlying e=none:=by simp[Program.underlying,hi]
           cases d with
           |zero=>simp[jl]at hl
           |succ d=>unfold jl at hl;simp[this]at hl
        obtain⟨i,hi⟩:=hinfo;rw[run_equalIn_array w (d+m) us.toArray vs.toArray hut hi,List.range_eq_range'];have hlu:us.length=n*l.length:=by have:=congrArg List.length hu;simpa using this
        have hlv:vs.length=n*l.length:=by have:=congrArg List.length hv;simpa using this
        have key:∀ (q s:Nat) (r:Bool),s+q=n->pA (us.drop (s*l.length)) (vs.drop (s*l.length))=some r->(us.drop (s*l.length)).map gG=(List.replicate q l).flatten->(vs.drop (s*l.length)).map gG=(List.replicate q l).flatten->
         (Op.eqItems (d+m) e (P.cellsOf e) us.toArray vs.toArray (List.range' s q)).run P w=.ok r w:=by
         intro q;induction q with
         | zero =>
           intro s r hs h1 h2 h3;have z1:us.drop (s*l.length)=[]:=by simpa using h2
           have z2:vs.drop (s*l.length)=[]:=by simpa using h3
           rw[z1,z2]at h1;simp only[pA,Option.some.injEq]at h1;subst h1;simp[Op.eqItems]
         | succ q ihq =>
           intro s r hs h1 h2 h3
           have hle:s*l.length+l.length<=n*l.length:=by
            have:(s+1)*l.length<=n*l.length:=Nat.mul_le_mul_right _ (by omega);rw[Nat.add_mul]at this;omega
           rw[List.range'_succ,Op.eqItems,hc,Sem.run_bind,oX w hl hc us.toArray (s*l.length) (by simp[hlu];exact hle),Result.andThen_ok,Sem.run_bind,
            oX w hl hc vs.toArray (s*l.length) (by simp[hlv];exact hle),Result.andThen_ok,Sem.run_bind]
           have ea:us.drop (s*l.length)=(us.drop (s*l.length)).take l.length++us.drop ((s+1)*l.length):=by
            rw[Nat.add_mul,Nat.one_mul,<-List.drop_drop,List.take_append_drop]
           have eb:vs.drop (s*l.length)=(vs.drop (s*l.length)).take l.length++vs.drop ((s+1)*l.length):=by
            rw[Nat.add_mul,Nat.one_mul,<-List.drop_drop,List.take_append_drop]
           have la:((us.drop (s*l.length)).take l.length).length=l.length:=by simp[hlu];omega
           have lb:((vs.drop (s*l.length)).take l.length).length=l.length:=by simp[hlv];omega
           rw[ea,eb]at h1;rw[ea,List.map_append,List.replicate_succ,List.flatten_cons]at h2;rw[eb,List.map_append,List.replicate_succ,List.flatten_cons]at h3;obtain⟨k1,k2⟩:=List.append_inj h2 (by rw[List.length_map,la]);obtain⟨k3,k4⟩:=List.append_inj h3 (by rw[List.length_map,lb]);obtain⟨x,y,g1,g2,rfl⟩:=Gw (by rw[la,lb]) h1;have:=ih hl k1 k3 g1 m w;simp only[this,Result.andThen_ok];cases x
           ·simp
           ·have:=ihq (s+1) y (by omega) g2 k2 k4;rw[hc]at this;simpa using this
        exact key n 0 r (by omega) (by simpa using he) (by simpa using hu) (by simpa using hv)
       ·cases h
      ·cases h
     case struct fs =>
      split at h
      ·cases h
      ·rename_i hst
       have hat:rH P t=true:=by simp[rH,hut]
       have hfo:P.fieldsOf t=fs:=by simp[Program.fieldsOf,hut]
       simp only[pk,hat,if_true];rw[run_equalIn_struct w (d+m) t us.toArray vs.toArray (by rw[hfo];exact hut) (by simpa using hst),hfo]
       have key:∀ (gs:List Field) (off:Nat) (ks:List Nat) (r:Bool),BV (jl P d) P gs off=some ks->pA (us.drop off) (vs.drop off)=some r->(us.drop off).map gG=ks->(vs.drop off).map gG=ks->off+ks.length=us.length->off+ks.length=vs.length->
        (Op.eqFields (d+m) us.toArray vs.toArray gs).run P w=.ok r w:=by
        intro gs;induction gs with
        | nil =>
          intro off ks r h0 h1 h2 h3 _ _;simp only[BV,Option.some.injEq]at h0;subst h0;have z1:us.drop off=[]:=by simpa using h2
          have z2:vs.drop off=[]:=by simpa using h3
          rw[z1,z2]at h1;simp only[pA,Option.some.injEq]at h1;subst h1;simp[Op.eqFields]
        | cons g gs ihg =>
          intro off ks r h0 h1 h2 h3 h4 h5;simp only[BV]at h0;split at h0
          ·rename_i a b ha hb
           split at h0
           ·rename_i hcond
            obtain⟨hn,rfl,hc⟩:=hcond;simp only[Option.some.injEq]at h0;subst h0;rw[List.length_append]at h4 h5;rw[Op.eqFields,if_pos hn,Sem.run_bind,oX w ha hc us.toArray g.offset (by simp;omega),Result.andThen_ok,Sem.run_bind,oX w ha hc vs.toArray g.offset (by simp;omega),Result.andThen_ok,Sem.run_bind];have ea:us.drop g.offset=(us.drop g.offset).take a.length++us.drop (g.offset+a.length):=by rw[<-List.drop_drop,List.take_append_drop]
            have eb:vs.drop g.offset=(vs.drop g.offset).take a.length++vs.drop (g.offset+a.length):=by rw[<-List.drop_drop,List.take_append_drop]
            have la:((us.drop g.offset).take a.length).length=a.length:=by simp;omega
            have lb:((vs.drop g.offset).take a.length).length=a.length:=by simp;omega
            rw[ea,eb]at h1;rw[ea,List.map_append]at h2;rw[eb,List.map_append]at h3;obtain⟨k1,k2⟩:=List.append_inj h2 (by rw[List.length_map,la]);obtain⟨k3,k4⟩:=List.append_inj h3 (by rw[List.length_map,lb]);obtain⟨x,y,g1,g2,rfl⟩:=Gw (by rw[la,lb]) h1;have:=ih ha k1 k3 g1 m w;simp only[this,Result.andThen_ok];cases x
            ·simp
            ·have:=ihg (g.offset+a.length) b y (by rw[<-hc];exact hb) g2 k2 k4 (by omega) (by omega);simpa using this
           ·cases h0
          ·cases h0
       exact key fs.toList 0 ks r h (by simpa using he) (by simpa using hu) (by simpa using hv) (by
        have:=congrArg List.length hu;simp at this;omega) (by
        have:=congrArg List.length hv;simp at this;omega)
inductive Opd where
 |t (n:Nat)
 |c (v:AV)
 deriving Inhabited
def Opd.ev(fr:Fr):Opd->AV
 |.t n=>fr.get n
 |.c v=>v
inductive MOp where
 |mkm
 |lkp (kk:Option Nat) (z:AV) (ok:Bool)
 |upd (kk:Option Nat)
 |rng
 |ent
 deriving Inhabited
inductive AOp where
 |mv (x:Opd)
 |pick (c a b:Opd)
 |bin (op:BinOp) (x y:Opd)
 |eqv (kd:Nat) (neg:Bool) (x y:Opd)
 |eqa (ks:List (Nat×Nat)) (neg:Bool) (x y:Opd)
 |un (op:UnOp) (x:Opd)
 |cvt (k:IntKind) (x:Opd)
 |b2s (x:Opd)
 |nilc (x:Opd)
 |fld (ag:Bool) (off sz:Nat) (x:Opd)
 |fldA (off:Nat) (x:Opd)
 |idx (ag:Bool) (n e:Nat) (x i:Opd)
 |idxA (n e:Nat) (x i:Opd)
 |idxS (e:Nat) (x i:Opd)
 |ld (ag:Bool) (sz:Nat) (x:Opd)
 |sto (sz:Nat) (x y:Opd)
 |new (z:List AV)
 |box (sz:Nat) (x:Opd)
 |bld (z:List AV) (ps:List (Nat×Nat×Opd))
 |bldS (e n:Nat) (z:List AV) (ps:List (Nat×Opd))
 |mk (e bytes:Nat) (z:List AV) (l c:Opd)
 |sli (e:Nat) (x:Opd) (lo hi mx:Option Opd)
 |sliA (e n:Nat) (x:Opd) (lo hi:Option Opd)
 |ext (i:Nat) (x:Opd)
 |len (st:Bool) (x:Opd)
 |cap (x:Opd)
 |app (e bytes:Nat) (s x:Opd)
 |cpy (e:Nat) (d s:Opd)
 |mn (xs:List Opd)
 |mx (xs:List Opd)
 |mkf (f:Fn) (caps:List Opd)
 |call (f:Opd) (xs:List Opd)
 |isn (neg:Bool) (x:Opd)
 |mop (q:MOp) (xs:List Opd)
 |nxt (x:Opd)
 |slx (e:Nat) (x:Opd) (lo hi mx:Option Opd)
 |apx (e bytes:Nat) (s x:Opd)
 |apm (e bytes:Nat) (z:List AV) (s x:Opd)
 |clr (e:Nat) (z:List AV) (x:Opd)
 |cpx (e:Nat) (d s:Opd)
 |cpq (x:Opd)
 |ovl (e:Nat) (x y:Opd)
 |cmb (x y:Opd)
 deriving Inhabited
structure cI where
 dst:Option Nat
 op:AOp
 gd:Option (Nat×Bool)
 deriving Inhabited
def B0(b:Bool)(x y:AV):AV:=match x,y with
 |.bool x,.bool y=>.bool (cond b x y)
 |x,y=>cond b x y
def gr(k:IntKind)(a b:Int):Int:=k.wrap (BitVec.ofInt k.bits a &&& BitVec.ofInt k.bits b).toNat
def ior(k:IntKind)(a b:Int):Int:=k.wrap (BitVec.ofInt k.bits a ||| BitVec.ofInt k.bits b).toNat
def U0(k:IntKind)(a b:Int):Int:=k.wrap (BitVec.ofInt k.bits a ^^^ BitVec.ofInt k.bits b).toNat
def I5(k:IntKind)(a b:Int):Int:=k.wrap (BitVec.ofInt k.bits a &&& ~~~ BitVec.ofInt k.bits b).toNat
def ZJ(k:IntKind)(a:Int)(n:Nat):Int:=k.wrap (a*2 ^ (min n k.bits))
def fH(k:IntKind)(a:Int)(n:Nat):Int:=a.fdiv (2 ^ (min n k.bits))
def ack(k:IntKind)(n:Int):Int:=k.wrap (BitVec.ofInt k.bits (if k.signed then -1 else k.max) ^^^ BitVec.ofInt k.bits n).toNat
def mL(op:BinOp)(k:IntKind)(a:Int)(k':IntKind)(b:Int)(K:AV->Prop):Prop:=match op with
 |.shl=>0<=b/\K (.int k (ZJ k a b.toNat))
 |.shr=>0<=b/\K (.int k (fH k a b.toNat))
 |.add=>k=k'/\K (.int k (k.wrap (a+b)))
 |.sub=>k=k'/\K (.int k (k.wrap (a-b)))
 |.mul=>k=k'/\K (.int k (k.wrap (a*b)))
 |.quo=>k=k'/\b≠0/\K (.int k (k.wrap (a.tdiv b)))
 |.rem=>k=k'/\b≠0/\K (.int k (a.tmod b))
 |.and=>k=k'/\K (.int k (gr k a b))
 |.or=>k=k'/\K (.int k (ior k a b))
 |.xor=>k=k'/\K (.int k (U0 k a b))
 |.andNot=>k=k'/\K (.int k (I5 k a b))
 |.eql=>k=k'/\K (.bool (a==b))
 |.neq=>k=k'/\K (.bool (a != b))
 |.lss=>k=k'/\K (.bool (decide (a<b)))
 |.leq=>k=k'/\K (.bool (decide (a<=b)))
 |.gtr=>k=k'/\K (.bool (decide (b<a)))
 |.geq=>k=k'/\K (.bool (decide (b<=a)))
def wu:AV->AV->Option Bool
 |.int k a,.int k' b=>if k=k' then some (a==b)else none
 |.bool a,.bool b=>some (a==b)
 |.str a,.str b=>some (a==b)
 |_,_=>none
def gg:List AV->List AV->Option Bool
 | [],[]=>some true
 | x :: xs, y :: ys => match wu x y, gg xs ys with
   |some a,some b=>some (a&&b)
   |_,_=>none
 |_,_=>none
def qw:Nat->AV->AV->Option Bool
 |0,.bool a,.bool b=>some (a==b)
 |1,.str a,.str b=>some (a==b)
 |2,.nilp,.nilp=>some true
 |2,.nilp,.ptr _ _|2,.ptr _ _,.nilp|2,.nilp,.vp _ _ _ _|2,.vp _ _ _ _,.nilp|2,.nilp,.elt _ _ _ _|2,.elt _ _ _ _,.nilp=>some false
 |3,.nilf,.nilf=>some true
 |3,.nilf,.fn _ _|3,.fn _ _,.nilf=>some false
 |_,_,_=>none
def unV:UnOp->AV->Option AV
 |.neg,.int k n=>some (.int k (k.wrap (0-n)))
 |.xor,.int k n=>some (.int k (ack k n))
 |.not,.bool b=>some (.bool !b)
 |_,_=>none
def uC:List AV->UInt8
 | [.int .u8 n]=>UInt8.ofNat n.toNat
 |_=>0
def mj:List AV->Bool
 | [.int .u8 _]=>true
 |_=>false
def cut(cs:List AV)(off n:Nat):List AV:=(cs.drop off).take n
def spl(cs:List AV)(off:Nat)(vs:List AV):List AV:=cs.take off++vs++cs.drop (off+vs.length)
def pack(ag:Bool)(cs:List AV):AV:=if ag then .agg cs else cs.headD .dead
def AV.cellsOf:AV->List AV
 |.agg cs=>cs
 |v=>[v]
def bF(cs:List AV):Bool:=cs.all AV.cell
def chunk(e:Nat):Nat->List AV->List (List AV)
 |0,_=>[]
 |n+1,cs=>cs.take e::chunk e n (cs.drop e)
def rdS(σ:St)(e:Nat):AV->Option (List (List AV))
 |.sl e' _ xs=>if e'=e\/xs=[]then some xs else none
 | .hs e' id off len => if e' = e then match σ[id]? with
   |some (.vec e2 xs)=>if e2=e/\off+len<=xs.length then some ((xs.drop off).take len)else none
   |_=>none else none
 | .va e' id off len => if e' = e then match σ[id]? with
   |some (.var cs)=>if off+len*e<=cs.length then some (chunk e len (cs.drop off))else none
   |_=>none else none
 |.str s=>if e=1 then some (s.map fun b=>[.int .u8 b.toNat])else none
 |_=>none
def rws:Option bO->Option (Bool×Nat×List (List AV))
 |some (.vec e xs)=>some (false,e,xs)
 |some (.vex e xs)=>some (true,e,xs)
 |_=>none
def mkr(ex:Bool)(e:Nat)(xs:List (List AV)):bO:=if ex then .vex e xs else .vec e xs
def G5:List UInt8->List UInt8->Int
 | [],[]=>0
 | [],_::_=>-1
 |_::_,[]=>1
 |a::x,b::y=>if a<b then -1 else if b<a then 1 else G5 x y
def rdX(σ:St)(e:Nat):AV->Option (List (List AV))
 | .hs e' id off len => if e' = e then match rws σ[id]? with
   |some (_,e2,xs)=>if e2=e/\off+len<=xs.length then some ((xs.drop off).take len)else none
   |none=>none else none
 |v=>rdS σ e v
def rdB(σ:St):AV->Option (List (List AV))
 |.str _=>none
 |v=>rdS σ 1 v
def mF:AV->List Nat
 |.hs _ id _ _|.va _ id _ _=>[id]
 |_=>[]
def Ri:Bool->AV->Option Nat
 |false,.sl _ _ xs=>some xs.length
 |false,.hs _ _ _ len|false,.va _ _ _ len=>some len
 |true,.str s=>some s.length
 |_,_=>none
def Rr:AV->List AV->Option AV
 |x,[]=>some x
 |.int k a,.int k' b::r=>Rr (.int k (if b<a then b else a)) r
 |_,_=>none
def Rq:AV->List AV->Option AV
 |x,[]=>some x
 |.int k a,.int k' b::r=>Rq (.int k (if b > a then b else a)) r
 |_,_=>none
def N6(cs:List AV):List (Nat×Nat×AV)->List AV
 | []=>cs
 |(off,_,v)::r=>N6 (spl cs off v.cellsOf) r
def um(n:Nat):List (Nat×Nat×AV)->Bool
 | []=>true
 |(off,sz,v)::r=>v.cellsOf.length==sz&&decide (off+sz<=n)&&bF v.cellsOf&&um n r
def Zr(x:AV):Int:=match x with|.int _ n=>n|_=>-1
def bz(ρ:Opd->AV)(d:Int):Option Opd->Int
 |none=>d
 |some x=>Zr (ρ x)
def d8:AV->Nat
 |.bool _=>0
 |.int _ _=>1
 |.str _=>2
 |_=>3
def il:List (Nat×Nat)->List AV->Bool
 | [],cs=>cs.isEmpty
 |(n,k)::r,cs=>(cs.take n).length==n&&(cs.take n).all (d8 ·==k)&&il r (cs.drop n)
def eh:List (Nat×Nat)->List Nat
 | []=>[]
 |(n,k)::r=>List.replicate n k++eh r
def sqG(k n:Nat):List Nat->List (Nat×Nat)
 | []=>[(n,k)]
 |x::r=>if x=k then sqG k (n+1) r else (n,k)::sqG x 1 r
def kD:List Nat->List (Nat×Nat)
 | []=>[]
 |x::r=>sqG x 1 r
def yP(xs:List (List AV)):List (Nat×AV)->List (List AV)
 | []=>xs
 |(i,v)::r=>yP (xs.set i v.cellsOf) r
def xx(e n:Nat):List (Nat×AV)->Bool
 | []=>true
 |(i,v)::r=>v.cellsOf.length==e&&decide (i<n)&&bF v.cellsOf&&xx e n r
def pp:Option Nat->AV->Bool
 |none,.int _ _=>true
 |some n,.agg cs=>il [(n,1)] cs
 |_,_=>false
def keq:AV->AV->Option Bool
 |.int k a,.int k' b=>if k=k' then some (a==b)else none
 |.agg a,.agg b=>gg a b
 |_,_=>none
def qj(kk:Option Nat)(k:AV):List (List AV)->Option (Option Nat)
 | []=>some none
 | x :: r => match x with
   | [a, _] => if pp kk a then match keq k a with
     |some true=>some (some 0)
     |some false=>(qj kk k r).map (·.map (·+1))
     |none=>none else none
   |_=>none
def lW(n:Nat)(σ:St)(K:AV->List Nat->Bool->St->Prop):MOp->List AV->Prop
 |.mkm,[]=>K (.mp n) [n] true (σ.set n (.map []))
 | .lkp kk z ok, [.mp id, k] => pp kk k = true /\ match σ[id]? with
   | some (.map es) => (match qj kk k es with
     |some (some j)=>K (if ok then .tup [(es.getD j []).getD 1 .dead,.bool true]else (es.getD j []).getD 1 .dead) [id] false σ
     |some none=>K (if ok then .tup [z,.bool false]else z) [id] false σ
     |none=>False)
   |_=>False
 | .upd kk, [.mp id, k, v] => pp kk k = true /\ match σ[id]? with
   | some (.map es) => (match qj kk k es with
     |some (some j)=>K (.tup []) [id] true (σ.set id (.map (es.set j [k,v])))
     |some none=>K (.tup []) [id] true (σ.set id (.map (es++[[k,v]])))
     |none=>False)
   |_=>False
 | .rng, [.mp id] => (match σ[id]? with
   |some (.map es)=>K (.ptr n 0) [n,id] true (σ.set n (.iter id es.length []))
   |_=>False)
 | .ent, [.ptr id 0] => (match σ[id]? with
   | some (.iter m N seen) => (match seen.getLast?, σ[m]? with
     |some i,some (.map es)=>es.length=N/\i<N/\K (.tup (es.getD i [])) [id,m] false σ
     |_,_=>False)
   |_=>False)
 |_,_=>False
theorem XW{n m:Nat}{σ:St}{K:AV->List Nat->Bool->St->Prop}{q:MOp}{l:List AV}(h:q≠.mkm/\q≠.rng)(hs:lW n σ K q l):lW m σ K q l:=by
 have h1:=h;cases q;case mkm=>exact absurd rfl h1.1
 case rng=>exact absurd rfl h1.2
 all_goals(rcases l with _|⟨x,_|⟨y,_|⟨z,_|⟨u,l⟩⟩⟩⟩<;>first|exact hs|(cases x<;>first|exact hs|(rename_i i o;cases o<;>exact hs)))
def qQ(x:AV)(σ:St)(K:AV->St->Prop):Prop:=match x with
 | .ptr id 0 => (match σ[id]? with
   | some (.iter m N seen) => (match σ[m]? with
     |some (.map es)=>id≠m/\es.length=N/\(∀i,i<N->i∉seen->K (.tup (.bool true::es.getD i [])) (σ.set id (.iter m N (seen++[i]))))/\((∀i,i<N->i∈seen)->K (.tup [.bool false]) σ)
     |_=>False)
   |_=>False)
 |_=>False
def opF (n : Nat) (σ : St) (ρ : Opd -> AV) (K : AV -> List Nat -> Bool -> St -> Prop) : AOp -> Prop
 |.mv x=>K (ρ x) [] false σ
 | .pick c a b => match ρ c with
   |.bool t=>K (B0 t (ρ a) (ρ b)) [] false σ
   |_=>False
 | .bin op x y => match ρ x, ρ y with
   |.int k a,.int k' b=>mL op k a k' b fun v=>K v [] false σ
   |_,_=>False
 | .eqv kd neg x y => match qw kd (ρ x) (ρ y) with
   |some b=>K (.bool (b != neg)) [] false σ
   |none=>False
 | .eqa ks neg x y => match ρ x, ρ y with
   | .agg a, .agg b => il ks a = true /\ il ks b = true /\ match gg a b with
     |some r=>K (.bool (r != neg)) [] false σ
     |none=>False
   |_,_=>False
 | .un op x => match unV op (ρ x) with
   |some v=>K v [] false σ
   |none=>False
 | .cvt k x => match ρ x with
   |.int _ m=>K (.int k (k.wrap m)) [] false σ
   |_=>False
 | .b2s x => match rdB σ (ρ x) with
   |some xs=>xs.all mj=true/\K (.str (xs.map uC)) (mF (ρ x)) false σ
   |none=>False
 | .nilc x => match ρ x with
   |.ptr id o=>K (.ptr id o) [] false σ
   |.vp e id i o=>K (.vp e id i o) [] false σ
   |.elt e xs i o=>K (.elt e xs i o) [] false σ
   |.fn (.func f) cs=>K (.fn (.func f) cs) [] false σ
   |_=>False
 | .fld ag off sz x => match ρ x with
   |.agg cs=>off+sz<=cs.length/\K (pack ag (cut cs off sz)) [] false σ
   |_=>False
 | .fldA off x => match ρ x with
   |.ptr id o=>K (.ptr id (o+off)) [] false σ
   |.vp e id i o=>K (.vp e id i (o+off)) [] false σ
   |.elt e xs i o=>K (.elt e xs i (o+off)) [] false σ
   |_=>False
 | .idx ag m e x i => match ρ x, ρ i with
   |.agg cs,.int _ j=>0<=j/\j<m/\cs.length=m*e/\K (pack ag (cut cs (j.toNat*e) e)) [] false σ
   |_,_=>False
 | .idxA m e x i => match ρ x, ρ i with
   |.ptr id o,.int _ j=>0<=j/\j<m/\K (.ptr id (o+j.toNat*e)) [] false σ
   |.vp e' id q o,.int _ j=>0<=j/\j<m/\K (.vp e' id q (o+j.toNat*e)) [] false σ
   |.elt e' xs q o,.int _ j=>0<=j/\j<m/\K (.elt e' xs q (o+j.toNat*e)) [] false σ
   |_,_=>False
 | .idxS e x i => match ρ x, ρ i with
   |.sl e' cl xs,.int _ j=>e'=e/\0<=j/\j<xs.length/\K (.elt e xs j.toNat 0) [] false σ
   |.hs e' id off len,.int _ j=>e'=e/\0<=j/\j<len/\K (.vp e id (off+j.toNat) 0) [] false σ
   |.va e' id off len,.int _ j=>e'=e/\0<=j/\j<len/\K (.ptr id (off+j.toNat*e)) [] false σ
   |_,_=>False
 | .ld ag sz x => match ρ x with
   | .ptr id o => match σ[id]? with
     |some (.var cs)=>o+sz<=cs.length/\K (pack ag (cut cs o sz)) [id] false σ
     |_=>False
   | .vp e id i o => match σ[id]? with
     |some (.vec e' xs)=>e'=e/\o+sz<=e/\i<xs.length/\K (pack ag (cut (xs.getD i []) o sz)) [id] false σ
     |_=>False
   |.elt e xs i o=>o+sz<=e/\i<xs.length/\K (pack ag (cut (xs.getD i []) o sz)) [] false σ
   |_=>False
 | .sto sz x y => (ρ y).cellsOf.length = sz /\ bF (ρ y).cellsOf = true /\ match ρ x with
   | .ptr id o => match σ[id]? with
     |some (.var cs)=>o+sz<=cs.length/\K (.tup []) [id] true (σ.set id (.var (spl cs o (ρ y).cellsOf)))
     |_=>False
   | .vp e id i o => match σ[id]? with
     |some (.vec e' xs)=>e'=e/\o+sz<=e/\i<xs.length/\K (.tup []) [id] true (σ.set id (.vec e (xs.set i (spl (xs.getD i []) o (ρ y).cellsOf))))
     |_=>False
   |_=>False
 |.new z=>K (.ptr n 0) [n] true (σ.set n (.var z))
 |.box sz x=>(ρ x).cellsOf.length=sz/\bF (ρ x).cellsOf=true/\K (.ptr n 0) [n] true (σ.set n (.var (ρ x).cellsOf))
 |.bld z ps=>um z.length (ps.map fun p=>(p.1,p.2.1,ρ p.2.2))=true/\K (.agg (N6 z (ps.map fun p=>(p.1,p.2.1,ρ p.2.2)))) [] false σ
 |.bldS e m z ps=>xx e m (ps.map fun p=>(p.1,ρ p.2))=true/\K (.sl e true (yP (List.replicate m z) (ps.map fun p=>(p.1,ρ p.2)))) [] false σ
 | .mk e bytes z l c => match ρ l, ρ c with
   |.int _ a,.int _ b=>0<=a/\a<=b/\(bytes:Int)*b<=281474976710656/\b<=9223372036854775807/\K (.hs e n 0 a.toNat) [n] true (σ.set n (.vec e (List.replicate a.toNat z)))
   |_,_=>False
 | .sli e x lo hi mx => match ρ x with
   |.sl e' cl xs=>(e'=e\/xs=[])/\0<=bz ρ 0 lo/\bz ρ 0 lo<=bz ρ xs.length hi/\bz ρ xs.length hi<=bz ρ xs.length mx/\bz ρ xs.length mx<=xs.length/\(mx=none\/hi≠none)/\
    K (.sl e (match mx with|none=>cl&&hi.isNone|some _=>decide (bz ρ xs.length mx=bz ρ xs.length hi)) ((xs.drop (bz ρ 0 lo).toNat).take ((bz ρ xs.length hi).toNat-(bz ρ 0 lo).toNat))) [] false σ
   | .hs e' id off len => e' = e /\ match mx with
     |none=>0<=bz ρ 0 lo/\bz ρ 0 lo<=bz ρ len hi/\bz ρ len hi<=len/\K (.hs e id (off+(bz ρ 0 lo).toNat) ((bz ρ len hi).toNat-(bz ρ 0 lo).toNat)) [] false σ
     |some _=>hi≠none/\bz ρ 0 lo=0/\bz ρ len hi=0/\bz ρ len mx=0/\K (.sl e true []) [] false σ
   |.va e' id off len=>e'=e/\mx=none/\0<=bz ρ 0 lo/\bz ρ 0 lo<=bz ρ len hi/\bz ρ len hi<=len/\K (.va e id (off+(bz ρ 0 lo).toNat*e) ((bz ρ len hi).toNat-(bz ρ 0 lo).toNat)) [] false σ
   |_=>False
 | .sliA e m x lo hi => match ρ x with
   |.ptr id o=>0<=bz ρ 0 lo/\bz ρ 0 lo<=bz ρ m hi/\bz ρ m hi<=m/\K (.va e id (o+(bz ρ 0 lo).toNat*e) ((bz ρ m hi).toNat-(bz ρ 0 lo).toNat)) [] false σ
   |_=>False
 | .ext i x => match ρ x with
   |.tup vs=>i<vs.length/\K (vs.getD i .dead) [] false σ
   |_=>False
 | .len st x => match Ri st (ρ x) with
   |some m=>K (.int .i64 m) [] false σ
   |none=>False
 | .cap x => match ρ x with
   |.sl _ true xs=>K (.int .i64 xs.length) [] false σ
   |_=>False
 | .app e bytes s x => match rdS σ e (ρ x) with
   |none=>False
   | some ys => match ρ s with
     |.sl e' cl xs=>(e'=e\/xs=[])/\cl=true/\(xs=[]\/ys≠[])/\(xs.length+ys.length)*bytes<=140737488355328/\xs.length+ys.length<=9223372036854775807/\
      K (.hs e n 0 (xs.length+ys.length)) (n::mF (ρ x)) true (σ.set n (.vec e (xs++ys)))
     | .hs e' id off len => e' = e /\ match σ[id]? with
       |some (.vec e2 xs)=>e2=e/\off+len<=xs.length/\(len+ys.length)*bytes<=140737488355328/\len+ys.length<=9223372036854775807/\
        K (.hs e n 0 (len+ys.length)) (n::id::mF (ρ x)) true ((σ.set id .gone).set n (.vec e ((xs.drop off).take len++ys)))
       |_=>False
     |_=>False
 | .cpy e d s => match rdS σ e (ρ s) with
   |none=>False
   | some ys => match ρ d with
     | .hs e' id off len => e' = e /\ match σ[id]? with
       |some (.vec e2 xs)=>e2=e/\off+len<=xs.length/\K (.int .i64 (min ys.length len:Nat)) (id::mF (ρ s)) true (σ.set id (.vec e (xs.take off++ys.take (min ys.length len)++xs.drop (off+min ys.length len))))
       |_=>False
     | .va e' id off len => e' = e /\ match σ[id]? with
       |some (.var cs)=>off+len*e<=cs.length/\K (.int .i64 (min ys.length len:Nat)) (id::mF (ρ s)) true (σ.set id (.var (spl cs off (ys.take (min ys.length len)).flatten)))
       |_=>False
     |_=>False
 | .mn xs => match xs.map ρ with
   | v :: r => match Rr v r with
     |some u=>K u [] false σ
     |none=>False
   | []=>False
 | .mx xs => match xs.map ρ with
   | v :: r => match Rq v r with
     |some u=>K u [] false σ
     |none=>False
   | []=>False
 |.mkf f caps=>K (.fn f (caps.map ρ)) [] false σ
 |.mop q xs=>lW n σ K q (xs.map ρ)
 | .slx e x lo hi mx => match ρ x with
   | .hs e' id off len => e' = e /\ match mx with
     | none => (match rws σ[id]? with
       |some (_,e2,xs)=>e2=e/\off+len<=xs.length/\0<=bz ρ 0 lo/\bz ρ 0 lo<=bz ρ len hi/\off+bz ρ len hi<=xs.length/\K (.hs e id (off+(bz ρ 0 lo).toNat) ((bz ρ len hi).toNat-(bz ρ 0 lo).toNat)) [id] false σ
       |none=>False)
     |some _=>hi≠none/\0<=bz ρ 0 lo/\bz ρ 0 lo<=bz ρ len hi/\bz ρ len hi<=bz ρ len mx/\bz ρ len mx<=len/\K .dead [] false σ
   |_=>False
 | .apx e bytes s x => match rdX σ e (ρ x) with
   |none=>False
   | some ys => match ρ s with
     | .hs e' id off len => e' = e /\ match rws σ[id]? with
       | some (ex, e2, xs) => e2 = e /\ off + len <= xs.length /\ if off + len + ys.length <= xs.length then
          K (.hs e n 0 (len+ys.length)) (n::id::mF (ρ x)) true ((σ.set id .gone).set n (mkr ex e ((xs.drop off).take len++ys++xs.drop (off+len+ys.length))))
         else ex=true/\(len+ys.length)*bytes<=140737488355328/\len+ys.length<=9223372036854775807/\
          K (.hs e n 0 (len+ys.length)) (n::id::mF (ρ x)) true (σ.set n (.vec e ((xs.drop off).take len++ys)))
       |none=>False
     |_=>False
 | .apm e bytes z s x => match ρ s, ρ x with
   | .hs e' id off len, .int _ m => e' = e /\ match σ[id]? with
     |some (.vex e2 xs)=>e2=e/\off+len<=xs.length/\0<m.toNat/\m.toNat=m/\xs.length<off+len+m.toNat/\(len+m.toNat)*bytes<=140737488355328/\len+m.toNat<=9223372036854775807/\
      K (.hs e n 0 (len+m.toNat)) [n,id] true (σ.set n (.vec e ((xs.drop off).take len++List.replicate m.toNat z)))
     |_=>False
   |_,_=>False
 | .clr e z x => match ρ x with
   | .hs e' id off len => e' = e /\ match rws σ[id]? with
     |some (ex,e2,xs)=>e2=e/\off+len<=xs.length/\K (.tup []) [id] true (σ.set id (mkr ex e (xs.take off++List.replicate len z++xs.drop (off+len))))
     |none=>False
   |_=>False
 | .cpx e d s => match rdX σ e (ρ s) with
   |none=>False
   | some ys => match ρ d with
     | .hs e' id off len => e' = e /\ match rws σ[id]? with
       |some (ex,e2,xs)=>e2=e/\off+len<=xs.length/\K (.int .i64 (min ys.length len:Nat)) (id::mF (ρ s)) true (σ.set id (mkr ex e (xs.take off++ys.take (min ys.length len)++xs.drop (off+min ys.length len))))
       |none=>False
     |_=>False
 | .cpq x => match ρ x with
   | .hs e id off len => (match σ[id]? with
     |some (.vex e2 xs)=>e2=e/\0<e/\off+len<=xs.length/\K (.int .i64 (xs.length-off:Nat)) [id] false σ
     |_=>False)
   |_=>False
 | .cmb x y => match ρ x, ρ y with
   | .va e1 ix ox nx, .va e2 iy oy ny => (match rdS σ 1 (.va e1 ix ox nx), rdS σ 1 (.va e2 iy oy ny) with
     |some a,some b=>a.all mj=true/\b.all mj=true/\K (.int .i64 (G5 (a.map uC) (b.map uC))) [ix,iy] false σ
     |_,_=>False)
   |_,_=>False
 | .ovl e x y => match ρ x, ρ y with
   | .hs ex i ox nx, .hs ey j oy ny => (match rws σ[i]?, rws σ[j]? with
     |some (_,e1,xs),some (_,e2,ys)=>ex=e/\ey=e/\e1=e/\e2=e/\0<e/\i≠j/\ox+nx<=xs.length/\oy+ny<=ys.length/\K (.bool false) [i,j] false σ
     |_,_=>False)
   | .sl ex _ _, .hs ey j oy ny => (match rws σ[j]? with
     |some (_,e2,ys)=>ex=e/\ey=e/\e2=e/\0<e/\oy+ny<=ys.length/\K (.bool false) [j] false σ
     |_=>False)
   |_,_=>False
 |.call _ _|.isn _ _|.nxt _=>False
def ofCell:Value->Option AV
 |.bool b=>some (.bool b)
 |.int k n=>some (.int k n)
 |.string s=>some (.str s.data.toList)
 |.pointer none=>some .nilp
 |.slice none 0 0=>some (.sl 0 true [])
 |.nilFunc=>some .nilf
 |_=>none
def ofCells:List Value->Option (List AV)
 | []=>some []
 | v :: vs => match ofCell v, ofCells vs with
   |some a,some b=>some (a::b)
   |_,_=>none
def ofVal:Value->Option AV
 |.agg cs=>(ofCells cs.toList).map .agg
 |v=>ofCell v
def az:Operand->Option Opd
 |.tmp t=>some (.t t)
 |.const v=>(ofVal v).map .c
 |.func f=>some (.c (.fn (.func f) []))
 |.global _=>none
def ed:List Operand->Option (List Opd)
 | []=>some []
 | x :: xs => match az x, ed xs with
   |some a,some b=>some (a::b)
   |_,_=>none
def eU:Option Operand->Option (Option Opd)
 |none=>some none
 |some x=>(az x).map some
def gf(P:Program)(t:TypeId):Option (Bool×Nat):=match P.underlying t,P.info? t with
 |some (.struct _),some i=>some (true,i.size)
 |some (.array _ _),some i=>some (true,i.size)
 |some _,some i=>if i.size=1 then some (false,1)else none
 |_,_=>none
def jT(P:Program)(t:TypeId):Option (List AV):=match P.info? t with
 | some i => match i.zero with
   |some z=>if z.cells.size=i.size then ofCells z.cells.toList else none
   |none=>none
 |none=>none
def kV(P:Program)(fs:Array Field):List (Nat×Operand)->Option (List (Nat×Nat×Opd))
 | []=>some []
 | (i, x) :: r => match fs[i]?, az x, kV P fs r with
   | some f, some y, some q => match P.info? f.type with
     |some ti=>some ((f.offset,ti.size,y)::q)
     |none=>none
   |_,_,_=>none
def kT(sz:Nat):List (Nat×Operand)->Option (List (Nat×Nat×Opd))
 | []=>some []
 | (i, x) :: r => match az x, kT sz r with
   |some y,some q=>some ((i*sz,sz,y)::q)
   |_,_=>none
def kU:List (Nat×Operand)->Option (List (Nat×Opd))
 | []=>some []
 | (i, x) :: r => match az x, kU r with
   |some y,some q=>some ((i,y)::q)
   |_,_=>none
def ig (P : Program) (c : Call) : Option AOp := match c.callee with
 | .value f => match az f, ed c.args.toList with
   |some g,some xs=>some (.call g xs)
   |_,_=>none
 | .builtin b => match b, c.args.toList, c.argTypes.toList with
   | .len, [x], [t] => match P.underlying t with
     |some (.slice _)=>(az x).map (.len false)
     |some .string=>(az x).map (.len true)
     |_=>none
   | .cap, [x], [t] => match P.underlying t with
     |some (.slice _)=>(az x).map .cap
     |_=>none
   | .append, [s, x], [t, u] => match P.underlying t with
     | some (.slice e) => match P.info? e, jT P e, az s, az x with
       | some i, some _, some a, some b => (match P.underlying u with
         |some (.slice _)|some .string=>if 0<i.size/\0<i.bytes then some (.app i.size i.bytes a b)else none
         |_=>none)
       |_,_,_,_=>none
     |_=>none
   | .copy, [d, s], [t, u] => match P.underlying t with
     | some (.slice e) => match P.info? e, az d, az s with
       |some i,some a,some b=>if 0<i.size then some (.cpy i.size a b)else none
       |_,_,_=>none
     |_=>none
   |.min,xs,_=>(ed xs).map .mn
   |.max,xs,_=>(ed xs).map .mx
   |_,_,_=>none
 |.invoke _ _=>none
def Ff(P:Program)(t:TypeId):Option (Option Nat):=match P.underlying t with
 |some (.int _)=>some none
 | some (.array n e) => (match P.underlying e with
   |some (.int _)=>if jl P 40 t=some (List.replicate n 1)/\P.cellsOf e=1/\eh [(n,1)]=List.replicate n 1 then some (some n)else none
   |_=>none)
 |_=>none
def TR(P:Program)(t:TypeId):Option AV:=match P.info? t with
 | some i => match i.zero with
   |some v=>ofCell v
   |none=>none
 |none=>none
def kl (P : Program) : Op -> Option AOp
 |.move x|.assign x=>(az x).map .mv
 | .pick c a b => match az c, az a, az b with
   |some c,some a,some b=>some (.pick c a b)
   |_,_,_=>none
 | .binOp op t x y _ => match az x, az y with
   | some a, some b => (match P.underlying t with
     |some (.int _)=>some (.bin op a b)
     |some .bool=>(match op with|.eql=>some (.eqv 0 false a b)|.neq=>some (.eqv 0 true a b)|_=>none)
     |some .string=>(match op with|.eql=>some (.eqv 1 false a b)|.neq=>some (.eqv 1 true a b)|_=>none)
     |some (.pointer _)=>(match op with|.eql=>some (.eqv 2 false a b)|.neq=>some (.eqv 2 true a b)|_=>none)
     |some (.func _ _ _)=>(match op with|.eql=>some (.eqv 3 false a b)|.neq=>some (.eqv 3 true a b)|_=>none)
     | some (.struct _) | some (.array _ _) => (match jl P 40 t with
       |some l=>if eh (kD l)=l/\P.eqGuardType P.depth t=false then (match op with|.eql=>some (.eqa (kD l) false a b)|.neq=>some (.eqa (kD l) true a b)|_=>none)else none
       |none=>none)
     |some (.slice _)=>(match y with|.const (.slice none 0 0)=>(match op with|.eql=>some (.isn false a)|.neq=>some (.isn true a)|_=>none)|_=>none)
     |_=>none)
   |_,_=>none
 |.unOp op _ x=>(az x).map (.un op)
 | .convert s d x => match P.underlying s, P.underlying d, az x with
   |some (.int _),some (.int k),some a=>some (.cvt k a)
   |some (.slice e),some .string,some a=>(match P.underlying e with|some (.int .u8)=>some (.b2s a)|_=>none)
   |_,_,_=>none
 |.nilCheck x=>(az x).map .nilc
 | .field t x i => match P.underlying t, az x with
   | some (.struct fs), some a => (match fs[i]? with
     |some f=>(gf P f.type).map fun p=>.fld p.1 f.offset p.2 a
     |none=>none)
   |_,_=>none
 | .fieldAddr t x i => match P.underlying t, az x with
   | some (.struct fs), some a => (match fs[i]? with
     | some f => (match P.info? f.type with
       |some ti=>if ti.size=0 then none else some (.fldA f.offset a)
       |none=>none)
     |none=>none)
   |_,_=>none
 | .index t x i => match P.underlying t, az x, az i with
   |some (.array n e),some a,some b=>(gf P e).map fun p=>.idx p.1 n p.2 a b
   |_,_,_=>none
 | .indexAddr t x i => match P.underlying t, az x, az i with
   |some (.array n e),some a,some b=>(P.info? e).map fun ti=>.idxA n ti.size a b
   |some (.slice e),some a,some b=>(match P.info? e with|some ti=>if 0<ti.size then some (.idxS ti.size a b)else none|none=>none)
   |_,_,_=>none
 | .load t x => match gf P t, az x with
   |some p,some a=>some (.ld p.1 p.2 a)
   |_,_=>none
 | .store t x y => match P.info? t, az x, az y with
   |some i,some a,some b=>some (.sto i.size a b)
   |_,_,_=>none
 | .alloc t => match jT P t, P.info? t with
   |some z,some i=>some (.new z)
   |_,_=>none
 | .box t x => match P.info? t, az x with
   |some i,some a=>some (.box i.size a)
   |_,_=>none
 | .build t ps => match P.underlying t, jT P t with
   |some (.struct fs),some z=>(kV P fs ps.toList).bind fun q=>if fs.toList.all fun f=>(P.info? f.type).isSome then some (.bld z q)else none
   |some (.array n e),some z=>(P.info? e).bind fun ti=>(kT ti.size ps.toList).map (.bld z)
   |_,_=>none
 | .buildSlice t n ps => match P.underlying t with
   | some (.slice e) => (match jT P e, P.info? e, kU ps.toList with
     |some z,some i,some q=>if 0<i.size/\n*i.size<=2 ^ 24 then some (.bldS i.size n z q)else none
     |_,_,_=>none)
   |_=>none
 | .makeSlice t l c => match P.underlying t with
   | some (.slice e) => (match jT P e, P.info? e, az l, az c with
     |some z,some i,some a,some b=>if 0<i.size then some (.mk i.size i.bytes z a b)else none
     |_,_,_,_=>none)
   |_=>none
 | .slice t x lo hi mx => match P.underlying t, az x, eU lo, eU hi, eU mx with
   |some (.slice e),some a,some l,some h,some m=>(match P.info? e with|some i=>if 0<i.size then some (.sli i.size a l h m)else none|none=>none)
   |some (.array n e),some a,some l,some h,some none=>(match P.info? e with|some i=>if 0<i.size/\n<=maxLen then some (.sliA i.size n a l h)else none|none=>none)
   |_,_,_,_,_=>none
 |.extract x i=>(az x).map (.ext i)
 |.makeFunc f first caps=>if first.isEmpty then (ed caps.toList).map (.mkf f)else none
 |.call c=>ig P c
 | .makeMap t r => if r.isSome then none else match P.underlying t with
   |some (.map _ _)=>some (.mop .mkm [])
   |_=>none
 | .lookup t m k ok => match P.underlying t, az m, az k with
   | some (.map kt et), some a, some b => (match Ff P kt, TR P et with
     |some kk,some z=>some (.mop (.lkp kk z ok) [a,b])
     |_,_=>none)
   |_,_,_=>none
 | .mapUpdate t m k v => match P.underlying t, az m, az k, az v with
   |some (.map kt _),some a,some b,some c=>(Ff P kt).map fun kk=>.mop (.upd kk) [a,b,c]
   |_,_,_,_=>none
 | .range t m => match P.underlying t, az m with
   |some (.map _ _),some a=>some (.mop .rng [a])
   |_,_=>none
 |.next it st=>if st then none else (az it).map .nxt
 |.entry it=>(az it).map fun a=>.mop .ent [a]
 |_=>none
def zd (n : String) : Bool := n == "slices.overlaps[int]" || n == "slices.overlaps[forkhead/api.Table]" || n == "slices.overlaps[forkhead/api.Request]"
def IP (P : Program) : Op -> Option AOp
 | .slice t x lo hi mx => match P.underlying t, az x, eU lo, eU hi, eU mx with
   |some (.slice e),some a,some l,some h,some m=>(match P.info? e with|some i=>if 0<i.size then some (.slx i.size a l h m)else none|none=>none)
   |_,_,_,_,_=>none
 | .call c => match c.callee with
   | .value (.func f) => (match P.funcs[f]?, ed c.args.toList with
     | some fn, some [a, b] => if fn.body.isNone && fn.origin == "slices.overlaps" && zd fn.name then (match fn.params.toList with
       | t :: _ => (match P.underlying t with
         | some (.slice e) => (match P.info? e with
           |some i=>if 0<i.size then some (.ovl i.size a b)else none
           |none=>none)
         |_=>none)
       | _ => none) else if fn.body.isNone && fn.name == "internal/bytealg.Compare" && fn.origin == "" then some (.cmb a b) else ig P c
     |_,_=>ig P c)
   | .builtin b => (match b, c.args.toList, c.argTypes.toList with
     | .cap, [x], [t] => (match P.underlying t with
       |some (.slice _)=>(az x).map .cpq
       |_=>none)
     | .append, [s, x], [t, u] => (match P.underlying t with
       | some (.slice e) => (match P.info? e, jT P e, az s, az x with
         | some i, some _, some a, some b => (match P.underlying u with
           |some (.slice _)|some .string=>if 0<i.size/\0<i.bytes then some (.apx i.size i.bytes a b)else none
           | some (.int _) => (match jT P e with
             |some z=>if 0<i.size then some (.apm i.size i.bytes z a b)else none
             |none=>none)
           |_=>none)
         |_,_,_,_=>none)
       |_=>none)
     | .copy, [d, s], [t, u] => (match P.underlying t with
       | some (.slice e) => (match P.info? e, az d, az s with
         |some i,some a,some b=>if 0<i.size then some (.cpx i.size a b)else none
         |_,_,_=>none)
       |_=>none)
     | .clear, [x], [t] => (match P.underlying t with
       | some (.slice e) => (match P.info? e, jT P e, az x with
         |some i,some z,some a=>if 0<i.size then some (.clr i.size z a)else none
         |_,_,_=>none)
       |_=>none)
     |_,_,_=>ig P c)
   |_=>ig P c
 |op=>kl P op
def SH(fx:Bool)(P:Program)(op:Op):Option AOp:=if fx then IP P op else kl P op
theorem uc{fx:Bool}{P:Program}{op:Op}{ao:AOp}(h:SH fx P op=some ao)(ha:(∃g xs,ao=.call g xs)\/(∃n x,ao=.isn n x)\/∃x,ao=.nxt x):kl P op=some ao:=by
 cases fx with
 |false=>exact h
 | true =>
   have h:IP P op=some ao:=h;unfold IP at h
   (repeat' split at h)<;>first
    |exact h
    |(cases h;done)
    |(simp only[Option.some.injEq]at h;subst h;rcases ha with⟨_,_,ha⟩|⟨_,_,ha⟩|⟨_,ha⟩<;>cases ha)
    |(obtain⟨_,_,rfl⟩:=Option.map_eq_some_iff.1 h;rcases ha with⟨_,_,ha⟩|⟨_,_,ha⟩|⟨_,ha⟩<;>cases ha)
def Ce (P : Program) : Code -> Bool
 | .region _ ops _ => ops.toList.any fun o => match o.op with
   | .call c => (match c.callee with
     |.builtin .clear|.builtin .cap=>true
     | .value (.func f) => (match P.funcs[f]? with
       |some fn=>fn.body.isNone
       |none=>false)
     |_=>false)
   |_=>false
 |.seq a b=>Ce P a || Ce P b
 |.cond _ a b=>Ce P a || Ce P b
 |.block _ b=>Ce P b
 |.loop b=>Ce P b
 |_=>false
def Snd(X:Nat->Prop)(loc:Nat->Option Loc)(σ:St)(w:World)(n:Nat)(r:Result Next)(K:AV->List Nat->Bool->St->Prop):Prop:=
 ∃av ft wr σ' v w' loc',K av ft wr σ'/\(r=.ok (.value v) w'\/(r=.ok .skip w'/\v=undef))/\Out X loc σ w av σ' v w' loc'/\(∀id,id≠n->loc' id=loc id)/\σ'.length=σ.length
section
variable{X:Nat->Prop}{loc:Nat->Option Loc}{σ:St}{w:World}{n:Nat}{P:Program}{ρ:Operand->Value}{ρ':Opd->AV}{K:AV->List Nat->Bool->St->Prop}
theorem Snd.pure(hr:Rel X loc σ w){r:Result Next}{v:Value}{av:AV}{ft:List Nat}{wr:Bool}(h1:r=.ok (.value v) w)(h2:Rl (aR X loc σ w) av v)(h3:K av ft wr σ):Snd X loc σ w n r K:=
 ⟨av,ft,wr,σ,v,w,loc,h3,.inl h1,⟨fun _ _ h=>h,hr,h2,Ev.refl _ _,fun _ h=>.inl h⟩,fun _ _=>rfl,rfl⟩
theorem Snd.of(hr:Rel X loc σ w){r:Result Next}{v:Value}{av:AV}{ft:List Nat}{wr:Bool}(h3:K av ft wr σ)(h1:r=.ok (.value v) w)(h2:Rl (aR X loc σ w) av v):Snd X loc σ w n r K:=Snd.pure hr h1 h2 h3
theorem Rl.ofCell(E:Env){v:Value}{a:AV}(h:ofCell v=some a):a.cell=true/\Rl E a v:=by
 unfold Go.FH.ofCell at h;split at h<;>simp only[Option.some.injEq,reduceCtorEq]at h<;>subst h
 ·exact⟨rfl,rfl⟩
 ·exact⟨rfl,rfl⟩
 ·refine⟨rfl,?_⟩;simp[Rl]
 ·exact⟨rfl,rfl⟩
 ·exact⟨rfl,none,0,0,rfl,rfl,Nat.le_refl _,by simp[maxLen],fun _=>rfl,fun _=>rfl,.inl rfl⟩
 ·exact⟨rfl,rfl⟩
theorem RlC.ofCells(E:Env):∀ {vs:List Value} {cs:List AV},ofCells vs=some cs->RlC E cs vs
 | [],_,h=>by simp only[Go.FH.ofCells,Option.some.injEq]at h;subst h;rfl
 | v :: vs, _, h => by
   simp only[Go.FH.ofCells]at h;split at h
   ·rename_i a b h1 h2;simp only[Option.some.injEq]at h;subst h;obtain⟨h3,h4⟩:=Rl.ofCell E h1;exact⟨v,vs,rfl,h3,h4,RlC.ofCells E h2⟩
   ·cases h
theorem Rl.ofVal(E:Env){v:Value}{a:AV}(h:ofVal v=some a):Rl E a v:=by
 unfold Go.FH.ofVal at h;split at h
 ·rename_i cs;obtain⟨qs,h1,rfl⟩:=Option.map_eq_some_iff.1 h;exact⟨cs.toList,by simp,RlC.ofCells E h1⟩
 ·exact(Rl.ofCell E h).2
theorem K0{E:Env}{fr:Fr}{a:Act}(hf:∀t,Rl E (fr.get t) (a.tmps.getD t undef)){x:Operand}{y:Opd}(h:az x=some y):Rl E (y.ev fr) (a.eval x):=by
 cases x with
 |tmp t=>simp only[az,Option.some.injEq]at h;subst h;exact hf t
 | const v =>
   simp only[az]at h;obtain⟨c,h1,rfl⟩:=Option.map_eq_some_iff.1 h;exact Rl.ofVal E h1
 |global g=>simp[az]at h
 |func f=>simp only[az,Option.some.injEq]at h;subst h;exact⟨[],rfl,rfl⟩
def lw(E:Env)(ρ:Operand->Value)(ρ':Opd->AV):Prop:=∀x y,az x=some y->Rl E (ρ' y) (ρ x)
theorem gH{E:Env}(h:lw E ρ ρ'):∀ {xs:List Operand} {ys:List Opd},ed xs=some ys->RlS E (ys.map ρ') (xs.map ρ)
 | [],_,h1=>by simp only[ed,Option.some.injEq]at h1;subst h1;rfl
 | x :: xs, _, h1 => by
   simp only[ed]at h1;split at h1
   ·rename_i a b h2 h3;simp only[Option.some.injEq]at h1;subst h1;exact⟨ρ x,xs.map ρ,rfl,h x a h2,gH h h3⟩
   ·cases h1
theorem YA{E:Env}{b:Bool}{x y:AV}{u v:Value}(hx:Rl E x u)(hy:Rl E y v):Rl E (B0 b x y) (if b then u else v):=by
 unfold B0;split
 ·simp only[Rl]at hx hy;subst hx;subst hy;cases b<;>rfl
 ·cases b
  ·exact hy
  ·exact hx
theorem HQ(E:Env)(op:BinOp)(k k':IntKind)(a b:Int)(t:TypeId)(x y:Operand)(Q:AV->Prop)(h:mL op k a k' b Q):
 ∃av v,Q av/\(do eqGuard op t x y (.int k a) (.int k' b);binOp op t (.int k a) (.int k' b):Sem Value).run P w=.ok v w/\Rl E av v:=by
 cases op<;>simp only[mL]at h
 case add=>obtain⟨rfl,h⟩:=h;exact⟨_,_,h,by simp[eqGuard,binOp,Op.intArith],rfl⟩
 case sub=>obtain⟨rfl,h⟩:=h;exact⟨_,_,h,by simp[eqGuard,binOp,Op.intArith],rfl⟩
 case mul=>obtain⟨rfl,h⟩:=h;exact⟨_,_,h,by simp[eqGuard,binOp,Op.intArith],rfl⟩
 case quo=>obtain⟨rfl,h0,h⟩:=h;exact⟨_,_,h,by simp[eqGuard,binOp,Op.intDiv,h0],rfl⟩
 case rem=>obtain⟨rfl,h0,h⟩:=h;exact⟨_,_,h,by simp[eqGuard,binOp,Op.intDiv,h0],rfl⟩
 case and=>obtain⟨rfl,h⟩:=h;exact⟨_,_,h,by simp[eqGuard,binOp,Op.intBits,gr,ior,U0,I5],rfl⟩
 case or=>obtain⟨rfl,h⟩:=h;exact⟨_,_,h,by simp[eqGuard,binOp,Op.intBits,gr,ior,U0,I5],rfl⟩
 case xor=>obtain⟨rfl,h⟩:=h;exact⟨_,_,h,by simp[eqGuard,binOp,Op.intBits,gr,ior,U0,I5],rfl⟩
 case andNot=>obtain⟨rfl,h⟩:=h;exact⟨_,_,h,by simp[eqGuard,binOp,Op.intBits,gr,ior,U0,I5],rfl⟩
 case shl=>obtain⟨h0,h⟩:=h;exact⟨_,_,h,by simp[eqGuard,binOp,Op.shift,Int.not_lt.2 h0,ZJ,fH],rfl⟩
 case shr=>obtain⟨h0,h⟩:=h;exact⟨_,_,h,by simp[eqGuard,binOp,Op.shift,Int.not_lt.2 h0,ZJ,fH],rfl⟩
 case eql=>obtain⟨rfl,h⟩:=h;exact⟨_,_,h,by simp[eqGuard,binOp,Op.intCmp],rfl⟩
 case neq=>obtain⟨rfl,h⟩:=h;exact⟨_,_,h,by simp[eqGuard,binOp,Op.intCmp],rfl⟩
 case lss=>obtain⟨rfl,h⟩:=h;exact⟨_,_,h,by simp[eqGuard,binOp,Op.intCmp],rfl⟩
 case leq=>obtain⟨rfl,h⟩:=h;exact⟨_,_,h,by simp[eqGuard,binOp,Op.intCmp],rfl⟩
 case gtr=>obtain⟨rfl,h⟩:=h;exact⟨_,_,h,by simp[eqGuard,binOp,Op.intCmp],rfl⟩
 case geq=>obtain⟨rfl,h⟩:=h;exact⟨_,_,h,by simp[eqGuard,binOp,Op.intCmp],rfl⟩
theorem Zu{w:World}{b:Nat}{c:Array Value}{t:TypeId}{f:Nat×Nat}(h:w.heap[b]?=some (.cells c t f))(o:Nat):w.cell? ⟨b,o,none⟩=c[o]?:=by
 simp[World.cell?,h]
theorem f4(b o j:Nat):(⟨b,o,none⟩:Addr).add j=⟨b,o+j,none⟩:=by unfold Addr.add;split<;>simp_all
theorem na{w:World}{b o m:Nat}{vs:List Value}(h:range? w b o m=some vs.toArray):vs.length=m/\∀j u,vs[j]?=some u->w.cell? ⟨b,o+j,none⟩=some u:=by
 obtain⟨h1,h2⟩:=range?_cells h;exact⟨by simpa using h1,fun j u hj=>h2 j u (by simpa using hj)⟩
theorem ql{w:World}{b o m:Nat}{vs:List Value}(h:range? w b o m=some vs.toArray)(p q:Nat)(hq:p+q<=m):range? w b (o+p) q=some ((vs.drop p).take q).toArray:=by
 unfold range? at h ⊢;cases hb:w.heap[b]? with
 |none=>simp[hb]at h
 | some ob =>
   cases ob with
   | cells c t f =>
     simp only[hb]at h ⊢;by_cases hle:o+m<=c.size
     ·rw[if_pos hle]at h;rw[if_pos (by omega)];simp only[Option.some.injEq]at h ⊢;apply Array.toList_inj.1
      have h':=congrArg Array.toList h;simp only[Array.toList_extract,List.extract_eq_take_drop]at h' ⊢;rw[<-h',List.drop_take,List.take_take,List.drop_drop,Nat.min_eq_left (by omega)];congr 1;omega
     ·rw[if_neg hle]at h;cases h
   |_=>simp[hb]at h
theorem ls{w:World}{b:Nat}{cs vs ws:List Value}{t:TypeId}{f:Nat×Nat}(h:w.heap[b]?=some (.cells (cs++vs++ws).toArray t f)):range? w b cs.length vs.length=some vs.toArray:=by
 rw[range?_of h _ _ (by simp)];congr 1;apply Array.toList_inj.1
 simp
def tK(ag:Bool)(vs:List Value):Value:=if ag then .agg vs.toArray else vs.headD undef
theorem Rl.pack{E:Env}{ag:Bool}{cs:List AV}{vs:List Value}(h:RlC E cs vs)(h1:ag=false->cs.length=1):Rl E (pack ag cs) (tK ag vs):=by
 cases ag
 ·cases cs with
  |nil=>simp at h1
  | cons c cs =>
    obtain⟨u,us,rfl,_,h3,_⟩:=h;exact h3
 ·exact⟨vs,rfl,h⟩
theorem mY{P:Program}{t:TypeId}{sz:Nat}(h:gf P t=some (true,sz)):PY P t=true/\F3 P t=sz:=by
 unfold gf at h;unfold PY F3;split at h<;>simp_all
theorem fT{P:Program}{t:TypeId}{sz:Nat}(h:gf P t=some (false,sz)):sz=1/\(∀w,(isAgg t).run P w=.ok false w)/\∃i,P.info? t=some i/\i.size=1:=by
 unfold gf at h;split at h
 ·simp at h
 ·simp at h
 ·rename_i d i hns hna hd hi
  split at h
  ·rename_i h1;simp only[Option.some.injEq,Prod.mk.injEq,true_and]at h;refine⟨h.symm,fun w=>?_,i,hi,h1⟩;unfold isAgg;rw[Sem.run_bind,run_underlying hd w];cases d<;>simp_all
  ·cases h
 ·cases h
theorem wh{P:Program}{t:TypeId}{ag:Bool}{sz:Nat}(h:gf P t=some (ag,sz)):∃i,P.info? t=some i/\i.size=sz:=by
 cases ag
 ·obtain⟨rfl,_,h⟩:=fT h;exact h
 ·obtain⟨h1,h2⟩:=mY h;unfold PY at h1;rw[Bool.and_eq_true]at h1;obtain⟨i,hi⟩:=Option.isSome_iff_exists.1 h1.2;exact⟨i,hi,by simpa[F3,hi]using h2⟩
theorem tR(P:Program)(w:World)(b o:Nat){t:TypeId}{ag:Bool}{sz:Nat}{vs:List Value}(hs:gf P t=some (ag,sz))(h:range? w b o sz=some vs.toArray):
 (loadVar t ⟨b,o,none⟩).run P w=.ok (tK ag vs) w:=by
 cases ag
 ·obtain⟨rfl,h1,_⟩:=fT hs
  obtain⟨h2,h3⟩:=na h;match vs,h2 with
  | [v], _ =>
    have:=h3 0 v rfl;simp only[Nat.add_zero]at this;simp[loadVar,Sem.run_bind,h1,this,tK]
 ·obtain⟨h1,h2⟩:=mY hs;subst h2;exact zk P w b o t vs.toArray h1 h
variable(hr:Rel X loc σ w)(hρ:lw (aR X loc σ w) ρ ρ')
include hr hρ
theorem YS{o:Oper}{x:Operand}{a:Opd}(ho:o.op=.move x\/o.op=.assign x)(hx:az x=some a)(h:opF n σ ρ' K (.mv a)):Snd X loc σ w n ((execOp ρ o).run P w) K:=by
 refine Snd.pure hr (v:=ρ x) ?_ (hρ x a hx) h;rcases ho with ho|ho<;>simp[execOp,ho]
theorem YU{o:Oper}{c x y:Operand}{c' a b:Opd}(ho:o.op=.pick c x y)(hc:az c=some c')(hx:az x=some a)(hy:az y=some b)(h:opF n σ ρ' K (.pick c' a b)):Snd X loc σ w n ((execOp ρ o).run P w) K:=by
 simp only[opF]at h;split at h
 ·rename_i t ht;have hc':=hρ c c' hc;rw[ht]at hc';simp only[Rl]at hc';refine Snd.pure hr (v:=if t then ρ x else ρ y) ?_ (YA (hρ x a hx) (hρ y b hy)) h;simp[execOp,ho,hc',asBool]
 ·exact h.elim
theorem aal{o:Oper}{op:BinOp}{t yt:TypeId}{x y:Operand}{a b:Opd}(ho:o.op=.binOp op t x y yt)(hx:az x=some a)(hy:az y=some b)(h:opF n σ ρ' K (.bin op a b)):Snd X loc σ w n ((execOp ρ o).run P w) K:=by
 simp only[opF]at h;split at h
 ·rename_i k m k' m' h1 h2;have hx':=hρ x a hx;have hy':=hρ y b hy;rw[h1]at hx';rw[h2]at hy';simp only[Rl]at hx' hy';obtain⟨av,v,hK,hrun,hv⟩:=HQ (P:=P) (w:=w) (aR X loc σ w) op k k' m m' t x y _ h;refine Snd.pure hr (v:=v) ?_ hv hK;simp only[execOp,ho,hx',hy',Sem.run_bind,hrun,Result.andThen_ok,Sem.run_pure]
 ·exact h.elim
end
theorem gw.mono{E E':Env}(h:jV E E'){L:Loc}{o:bO}(hb:o.live=true->L.has=true->E'.w.heap[L.blk]?=E.w.heap[L.blk]?)(ho:gw E L o):gw E' L o:=by
 cases o with
 |gone=>trivial
 | var cs =>
   obtain⟨h1,h2,vs,t,h3,h4⟩:=ho;exact⟨h1,h2,vs,t,(hb rfl h1).trans h3,RlC.mono h _ _ h4⟩
 | vec e xs =>
   rcases ho with h1|⟨h1,cs,vs,ws,t,h3,h4,h5,h6,h7⟩
   ·exact .inl h1
   ·exact .inr ⟨h1,cs,vs,ws,t,(hb rfl h1).trans h3,h4,h5,RlE.mono h _ _ _ h6,h7⟩
 | vex e xs =>
   rcases ho with h1|⟨h1,cs,vs,t,h3,h4,h5,h6⟩
   ·exact .inl h1
   ·exact .inr ⟨h1,cs,vs,t,(hb rfl h1).trans h3,h4,h5,RlE.mono h _ _ _ h6⟩
 | map es =>
   obtain⟨h1,ents,h2,h3⟩:=ho;exact⟨h1,ents,(hb rfl h1).trans h2,h3.mono h⟩
 | iter m n seen =>
   obtain⟨h1,h2,Lm,h3,h4,h5⟩:=ho;exact⟨h1,h2,Lm,h.loc _ _ h3,h4,(hb rfl h1).trans h5⟩
section
variable{X:Nat->Prop}{loc loc':Nat->Option Loc}{σ σ':St}{w w':World}{n:Nat}{P:Program}{ρ:Operand->Value}{ρ':Opd->AV}{K:AV->List Nat->Bool->St->Prop}
theorem Rel.change(hr:Rel X loc σ w)(locs:∀id L,loc id=some L->loc' id=some L)(ev:Ev (aS σ loc) w w')(old:∀b,aS σ' loc' b->aS σ loc b\/w.heap.size<=b)
 (beyond:∀id,σ'.length<=id->loc' id=none)
 (obj:∀ (id:Nat) (o:bO),σ'[id]?=some o->o.live=true->(σ[id]?=some o/\∀L,loc id=some L->L.has=true->w'.heap[L.blk]?=w.heap[L.blk]?)\/∃L,loc' id=some L/\gw (aR X loc' σ' w') L o)
 (apart:∀ (i j:Nat) (a b:bO) (La Lb:Loc),i≠j->σ'[i]?=some a->σ'[j]?=some b->a.live=true->b.live=true->loc' i=some La->loc' j=some Lb->La.has=true->Lb.has=true->La.blk≠Lb.blk):
 Rel X loc' σ' w':=by
 have hle:=lQ (X:=X) hr locs ev old;refine⟨fun id o h1 h2=>?_,apart,fun b hb=>?_,beyond⟩
 ·rcases obj id o h1 h2 with⟨h3,h4⟩|h3
  ·obtain⟨L,h5,h6⟩:=hr.obj id o h3 h2;exact⟨L,locs _ _ h5,gw.mono hle (fun _ h7=>h4 L h5 h7) h6⟩
  ·exact h3
 ·obtain⟨h1,h2⟩:=hr.out b hb;exact⟨Nat.lt_of_lt_of_le h1 ev.size,fun h3=>(old b h3).elim h2 fun h4=>absurd h1 (Nat.not_lt.2 h4)⟩
theorem er(σ:St)(id j:Nat)(o:bO){o':bO}(h:(σ.set id o)[j]?=some o'):(id=j/\o=o'/\id<σ.length)\/(j≠id/\σ[j]?=some o'):=by
 by_cases hj:j=id
 ·subst hj
  by_cases hl:j<σ.length
  ·simp[hl]at h;exact .inl ⟨rfl,h,hl⟩
  ·simp[hl]at h
 ·right
  rw[List.getElem?_set_ne (Ne.symm hj)]at h;exact⟨hj,h⟩
theorem Rel.turn(hr:Rel X loc σ w){id:Nat}{o o':bO}{L:Loc}(h1:σ[id]?=some o)(h2:o.live=true)(h2':o'.live=true)(hL:loc id=some L)(hh:L.has=true)(c:Array Value)
 (ho:∀E:Env,jV (aR X loc σ w) E->E.w=w.setRow L.blk c->gw E L o'):
 Rel X loc (σ.set id o') (w.setRow L.blk c)/\(∀b,aS (σ.set id o') loc b->aS σ loc b)/\Ev (aS σ loc) w (w.setRow L.blk c):=by
 have hlive:aS σ loc L.blk:=⟨id,o,L,h1,h2,hL,hh,rfl⟩
 have hold:∀b,aS (σ.set id o') loc b->aS σ loc b:=by
  rintro b ⟨j,oj,Lj,g1,g2,g3,g4,rfl⟩;rcases er σ id j o' g1 with⟨rfl,_,_⟩|⟨_,g5⟩
  ·rw[hL]at g3;cases g3;exact hlive
  ·exact⟨j,oj,Lj,g5,g2,g3,g4,rfl⟩
 have hev:=Ev.setRow (w:=w) hlive c;have hle:=lQ (X:=X) hr (fun _ _ h=>h) hev fun b hb=>.inl (hold b hb)
 refine⟨hr.change (fun _ _ h=>h) hev (fun b hb=>.inl (hold b hb)) (fun j hj=>hr.beyond j (by simpa using hj)) ?_ ?_,hold,hev⟩
 ·intro j oj g1 g2
  rcases er σ id j o' g1 with⟨rfl,rfl,_⟩|⟨g4,g5⟩
  ·exact .inr ⟨L,hL,ho _ hle rfl⟩
  ·refine .inl ⟨g5,fun Lj g6 g7=>setRow_other w L.blk Lj.blk c ?_⟩;exact hr.apart j id oj o Lj L g4 g5 h1 g2 h2 g6 hL g7 hh
 ·intro i j a b La Lb hij g1 g2 g3 g4 g5 g6 g7 g8
  have:∀ (i:Nat) (a:bO),(σ.set id o')[i]?=some a->a.live=true->∃a',σ[i]?=some a'/\a'.live=true:=by
   intro i a g1 g3;rcases er σ id i o' g1 with⟨rfl,_,_⟩|⟨_,g5⟩
   ·exact⟨o,h1,h2⟩
   ·exact⟨a,g5,g3⟩
  obtain⟨a',k1,k2⟩:=this i a g1 g3;obtain⟨b',k3,k4⟩:=this j b g2 g4;exact hr.apart i j a' b' La Lb hij k1 k3 k2 k4 g5 g6 g7 g8
def iq(loc:Nat->Option Loc)(n:Nat)(L:Loc):Nat->Option Loc:=fun id=>if id=n then some L else loc id
theorem dT(loc:Nat->Option Loc)(n:Nat)(L:Loc):iq loc n L n=some L:=by simp[iq]
theorem ej(loc:Nat->Option Loc)(n:Nat)(L:Loc){id:Nat}(h:id≠n):iq loc n L id=loc id:=by simp[iq,h]
theorem fv{loc:Nat->Option Loc}{n:Nat}(hn:loc n=none)(L:Loc)(id:Nat)(L':Loc)(h:loc id=some L'):iq loc n L id=some L':=by
 rw[ej]
 ·exact h
 ·rintro rfl;rw[hn]at h;cases h
theorem Rel.add(hr:Rel X loc σ w)(hn:n<σ.length)(hg:loc n=none)(o:bO)(L:Loc)(w':World)(ev:Ev (aS σ loc) w w')(σ0:St)(hσ0:∀ (id:Nat) (o:bO),σ0[id]?=some o->o.live=true->σ[id]?=some o)(h0l:σ0.length=σ.length)
 (hk:∀ (id:Nat) (o:bO) (L':Loc),σ0[id]?=some o->o.live=true->loc id=some L'->L'.has=true->(L.has=true->L'.blk≠L.blk)/\w'.heap[L'.blk]?=w.heap[L'.blk]?)
 (hb:L.has=true->aS σ loc L.blk\/w.heap.size<=L.blk)
 (ho:∀E:Env,jV (aR X loc σ w) E->E.w=w'->gw E L o):
 Rel X (iq loc n L) (σ0.set n o) w'/\(∀b,aS (σ0.set n o) (iq loc n L) b->aS σ loc b\/w.heap.size<=b):=by
 have hold:∀b,aS (σ0.set n o) (iq loc n L) b->aS σ loc b\/w.heap.size<=b:=by
  rintro b ⟨j,oj,Lj,g1,g2,g3,g4,rfl⟩;rcases er σ0 n j o g1 with⟨rfl,rfl,_⟩|⟨g5,g6⟩
  ·rw[dT]at g3;cases g3;exact hb g4
  ·rw[ej _ _ _ g5]at g3;exact .inl ⟨j,oj,Lj,hσ0 _ _ g6 g2,g2,g3,g4,rfl⟩
 have hle:=lQ (X:=X) hr (fv hg L) ev hold;refine⟨hr.change (fv hg L) ev hold (fun j hj=>?_) ?_ ?_,hold⟩
 ·simp only[List.length_set,h0l]at hj;rw[ej _ _ _ (by omega)];exact hr.beyond j hj
 ·intro j oj g1 g2;rcases er σ0 n j o g1 with⟨rfl,rfl,_⟩|⟨g5,g6⟩
  ·exact .inr ⟨L,dT _ _ _,ho _ hle rfl⟩
  ·exact .inl ⟨hσ0 _ _ g6 g2,fun L' g7 g8=>(hk j oj L' g6 g2 g7 g8).2⟩
 ·intro i j a b La Lb hij g1 g2 g3 g4 g5 g6 g7 g8
  rcases er σ0 n i o g1 with⟨rfl,rfl,_⟩|⟨k1,k2⟩<;>rcases er σ0 n j o g2 with⟨rfl,rfl,_⟩|⟨k3,k4⟩
  ·exact absurd rfl hij
  ·rw[dT]at g5;cases g5;rw[ej _ _ _ k3]at g6;exact fun e=>(hk j b Lb k4 g4 g6 g8).1 g7 e.symm
  ·rw[dT]at g6;cases g6;rw[ej _ _ _ k1]at g5;exact(hk i a La k2 g3 g5 g7).1 g8
  ·rw[ej _ _ _ k1]at g5;rw[ej _ _ _ k3]at g6;exact hr.apart i j a b La Lb hij (hσ0 _ _ k2 g3) (hσ0 _ _ k4 g4) g3 g4 g5 g6 g7 g8
theorem Rel.alloc(hr:Rel X loc σ w)(hn:n<σ.length)(hg:loc n=none)(o:bO)(L:Loc)(hL:L.has=true)(hLb:L.blk=w.heap.size)(ob:Obj)
 (ho:∀E:Env,jV (aR X loc σ w) E->E.w=w.alloc ob->gw E L o):
 Rel X (iq loc n L) (σ.set n o) (w.alloc ob)/\(∀b,aS (σ.set n o) (iq loc n L) b->aS σ loc b\/w.heap.size<=b):=by
 refine hr.add hn hg o L _ (Ev.alloc _ _ _) σ (fun _ _ h _=>h) rfl (fun id o' L' g1 g2 g3 g4=>?_) (fun _=>.inr (Nat.le_of_eq hLb.symm)) ho;have hlt:=aS.lt hr ⟨id,o',L',g1,g2,g3,g4,rfl⟩;exact⟨fun _=>by omega,Below.heap_alloc w ob L'.blk hlt⟩
theorem Snd.alloc(hr:Rel X loc σ w)(hn:n<σ.length)(hg:loc n=none)(o:bO)(L:Loc)(hL:L.has=true)(hLb:L.blk=w.heap.size)(ob:Obj){r:Result Next}{v:Value}{av:AV}{ft:List Nat}{wr:Bool}
 (h3:K av ft wr (σ.set n o)) (ho:∀E:Env,jV (aR X loc σ w) E->E.w=w.alloc ob->gw E L o)
 (h1:r=.ok (.value v) (w.alloc ob)) (h2:∀E:Env,E.loc n=some L->Rl E av v):Snd X loc σ w n r K:=by
 obtain⟨g1,g2⟩:=hr.alloc hn hg o L hL hLb ob ho;exact⟨av,ft,wr,_,v,_,_,h3,.inl h1,⟨fv hg L,g1,h2 _ (dT _ _ _),Ev.alloc _ _ _,g2⟩,fun id hid=>ej _ _ _ hid,by simp⟩
theorem Rel.var(hr:Rel X loc σ w){id:Nat}{cs:List AV}{L:Loc}(h:σ[id]?=some (.var cs))(hL:loc id=some L):
 L.has=true/\L.base=0/\∃ (vs:List Value) (t:TypeId),w.heap[L.blk]?=some (.cells vs.toArray t (0,0))/\RlC (aR X loc σ w) cs vs:=by
 obtain⟨L',h1,h2⟩:=hr.obj id _ h rfl;rw[hL]at h1;cases h1;exact h2
theorem Rel.vec(hr:Rel X loc σ w){id e:Nat}{xs:List (List AV)}{L:Loc}(h:σ[id]?=some (.vec e xs))(hL:loc id=some L):
 (L.has=false/\xs=[])\/(L.has=true/\∃ (cs vs ws:List Value) (t:TypeId),w.heap[L.blk]?=some (.cells (cs++vs++ws).toArray t (0,0))/\cs.length=L.base/\(cs++vs++ws).length=L.rows/\RlE (aR X loc σ w) e xs vs/\∀u∈ws,u.oneCell'=true):=by
 obtain⟨L',h1,h2⟩:=hr.obj id _ h rfl;rw[hL]at h1;cases h1;exact h2
def Zm(ex:Bool)(ws:List Value):Prop:=(ex=true->ws=[])/\∀u∈ws,u.oneCell'=true
theorem Rel.rws(hr:Rel X loc σ w){id e:Nat}{ex:Bool}{xs:List (List AV)}{L:Loc}(h:rws σ[id]?=some (ex,e,xs))(hL:loc id=some L):
 σ[id]?=some (mkr ex e xs)/\((L.has=false/\xs=[])\/(L.has=true/\∃ (cs vs ws:List Value) (t:TypeId),w.heap[L.blk]?=some (.cells (cs++vs++ws).toArray t (0,0))/\cs.length=L.base/\(cs++vs++ws).length=L.rows/\RlE (aR X loc σ w) e xs vs/\Zm ex ws)):=by
 unfold Go.FH.rws at h;split at h
 ·rename_i e' xs' hσ;simp only[Option.some.injEq,Prod.mk.injEq]at h;obtain⟨rfl,rfl,rfl⟩:=h;refine⟨hσ,?_⟩;rcases hr.vec hσ hL with h1|⟨h1,cs,vs,ws,t,h2,h3,h4,h5,h6⟩
  ·exact .inl h1
  ·exact .inr ⟨h1,cs,vs,ws,t,h2,h3,h4,h5,fun h=>(by cases h),h6⟩
 ·rename_i e' xs' hσ;simp only[Option.some.injEq,Prod.mk.injEq]at h;obtain⟨rfl,rfl,rfl⟩:=h;refine⟨hσ,?_⟩;obtain⟨L',h1,h2⟩:=hr.obj id _ hσ rfl;rw[hL]at h1;cases h1;rcases h2 with h1|⟨h1,cs,vs,t,h2,h3,h4,h5⟩
  ·exact .inl h1
  ·exact .inr ⟨h1,cs,vs,[],t,by simpa using h2,h3,by simpa using h4,h5,fun _=>rfl,fun u hu=>(by cases hu)⟩
 ·cases h
theorem gw.mkr{E:Env}{L:Loc}{ex:Bool}{e:Nat}{xs:List (List AV)}{cs vs ws:List Value}{t:TypeId}(h1:L.has=true)(h2:E.w.heap[L.blk]?=some (.cells (cs++vs++ws).toArray t (0,0)))(h3:cs.length=L.base)(h4:(cs++vs++ws).length=L.rows)(h5:RlE E e xs vs)(h6:Zm ex ws):gw E L (mkr ex e xs):=by
 cases ex with
 |false=>exact .inr ⟨h1,cs,vs,ws,t,h2,h3,h4,h5,h6.2⟩
 | true =>
   obtain rfl:=h6.1 rfl;exact .inr ⟨h1,cs,vs,t,by simpa using h2,h3,by simpa using h4,h5⟩
theorem lV(ex:Bool)(e:Nat)(xs:List (List AV)):(mkr ex e xs).live=true:=by cases ex<;>rfl
theorem lY{w:World}{b:Nat}{vs:List Value}{t:TypeId}{f:Nat×Nat}(h:w.heap[b]?=some (.cells vs.toArray t f))(o m:Nat)(hm:o+m<=vs.length):range? w b o m=some ((vs.drop o).take m).toArray:=by
 have h1:w.heap[b]?=some (.cells (vs.take o++(vs.drop o).take m++vs.drop (o+m)).toArray t f):=by
  rw[h];congr 2;congr 1;rw[List.append_assoc,<-List.drop_drop,List.take_append_drop,List.take_append_drop]
 have h2:=ls h1;simpa[Nat.min_eq_left (show o<=vs.length by omega),Nat.min_eq_left (show m<=vs.length-o by omega)]using h2
theorem kx(e:Nat):∀ (n:Nat) (cs:List AV),(chunk e n cs).length=n
 |0,_=>rfl
 |n+1,cs=>by simp[chunk,kx e n]
theorem RlE.chunk{E:Env}{e:Nat}:∀ (n:Nat) {cs:List AV} {vs:List Value},RlC E cs vs->n*e<=cs.length->RlE E e (chunk e n cs) (vs.take (n*e))
 |0,_,_,_,_=>by simp[Go.FH.chunk,RlE]
 | n + 1, cs, vs, h, hl => by
   have e1:(n+1)*e=e+n*e:=by rw[Nat.add_mul];omega
   have hv:=h.length;refine⟨vs.take e,(vs.drop e).take (n*e),?_,by simp;omega,h.take e,RlE.chunk n (h.drop e) (by simp;omega)⟩;rw[e1,List.take_add]
theorem It(E:Env):∀s:List UInt8,RlE E 1 (s.map fun b=>[AV.int .u8 b.toNat]) (s.map fun b=>Value.int .u8 b.toNat)
 | []=>rfl
 |b::s=>⟨[_],_,rfl,rfl,⟨_,[],rfl,rfl,rfl,rfl⟩,It E s⟩
theorem xJ (hr : Rel X loc σ w) {tx : TypeId} (hk : (∃ e', P.underlying tx = some (.slice e')) \/ P.underlying tx = some .string) {e : Nat} (he : 0 < e) {av : AV} {v : Value} {ys : List (List AV)} (h : rdS σ e av = some ys) (hv : Rl (aR X loc σ w) av v) :
 ∃news,Src P e tx v ys.length news w/\RlE (aR X loc σ w) e ys news/\∀m,m<=ys.length->(Builtin.firstCells e m v).run P w=.ok (news.take (m*e)).toArray w:=by
 have mk:∀ (ad:Addr) (c:Nat) (news:List Value),news.length=ys.length*e->(∀j u,news[j]?=some u->w.cell? (ad.add j)=some u)->(∀u∈news,u.oneCell'=true)->Src P e tx (.slice (some ad) ys.length c) ys.length news w/\
  ∀m,m<=ys.length->(Builtin.firstCells e m (.slice (some ad) ys.length c)).run P w=.ok (news.take (m*e)).toArray w:=
  fun ad c news h1 h2 h3=>⟨⟨hk,fun _=>rfl,run_firstCells_some w e _ ad _ c news h1 h2,run_firstCells_some w.drew e _ ad _ c news h1 (by simpa using h2),h1,h3⟩,
   fun m hm=>run_firstCells_some w e m ad _ c (news.take (m*e)) (by have:m*e<=ys.length*e:=Nat.mul_le_mul_right _ hm;simp;omega) fun j u hj=>h2 j u (by rw[List.getElem?_take]at hj;split at hj;exact hj;cases hj)⟩
 have nil:ys=[]->∀ (a:Option Addr) (c:Nat),Src P e tx (.slice a 0 c) ys.length [] w/\∀m,m<=ys.length->(Builtin.firstCells e m (.slice a 0 c)).run P w=.ok (([]:List Value).take (m*e)).toArray w:=by
  rintro rfl a c;refine⟨⟨hk,fun _=>rfl,?_,?_,by simp,fun _ h=>by cases h⟩,fun m hm=>?_⟩
  ·cases a<;>simp[Builtin.firstCells,loadCells,loadCellsFrom]
  ·cases a<;>simp[Builtin.firstCells,loadCells,loadCellsFrom]
  ·have:m=0:=by simpa using hm
   subst this;cases a<;>simp[Builtin.firstCells,loadCells,loadCellsFrom]
 cases av<;>simp only[rdS,reduceCtorEq]at h
 case str s=>
  split at h
  ·rename_i h1
   subst h1;simp only[Option.some.injEq]at h;subst h;simp only[Rl]at hv;subst hv;refine⟨byteCells ⟨s.toArray⟩,⟨hk,fun _=>by simp[Builtin.lenOf,ByteArray.size],?_,?_,?_,?_⟩,?_,?_⟩
   ·have:=firstCells_string (P:=P) ⟨s.toArray⟩ w;simpa[ByteArray.size]using this
   ·have:=firstCells_string (P:=P) ⟨s.toArray⟩ w.drew;simpa[ByteArray.size]using this
   ·simp[byteCells]
   ·intro u hu;obtain⟨_,_,rfl⟩:=List.mem_map.1 hu;rfl
   ·have:byteCells ⟨s.toArray⟩=s.map fun b=>Value.int .u8 b.toNat:=by simp[byteCells]
    rw[this];exact It _ s
   ·intro m hm
    have:byteCells ⟨s.toArray⟩=s.map fun b=>Value.int .u8 b.toNat:=by simp[byteCells]
    rw[this,Nat.mul_one,<-List.map_take]
    have h2:((⟨s.toArray⟩:ByteArray).extract 0 m).data.toList=s.take m:=by
     simp[ByteArray.data_extract,List.extract_eq_take_drop]
    have h3:(((⟨s.toArray⟩:ByteArray).extract 0 m).data.map fun b=>Value.int .u8 (b.toNat:Int))=((s.take m).map fun b=>Value.int .u8 (b.toNat:Int)).toArray:=by
     apply Array.toList_inj.1
     rw[Array.toList_map,h2]
    simp only[Builtin.firstCells,Sem.run_pure,h3]
  ·cases h
 case sl e' cl xs =>
  split at h
  ·rename_i h1
   simp only[Option.some.injEq]at h;subst h;obtain⟨a,m,cap,rfl,rfl,h2,h3,h4,h5,h6⟩:=hv;by_cases hx:xs=[]
   ·subst hx;exact⟨[],(nil rfl a cap).1,rfl,(nil rfl a cap).2⟩
   ·have he':e'=e:=h1.resolve_right hx
    subst he';rcases h6 with h6|⟨b,off,vs,rfl,_,_,h7,h8⟩
    ·exact absurd (List.eq_nil_of_length_eq_zero h6) hx
    ·obtain⟨g1,g2⟩:=na h7;have g4:=mk ⟨b,off,none⟩ cap _ g1 (fun j u hj=>by rw[f4];exact g2 j u hj) h8.one;exact⟨vs,g4.1,h8,g4.2⟩
  ·cases h
 case hs e' id off len =>
  split at h
  ·rename_i he'
   subst he';split at h
   ·rename_i e2 xs hσ
    split at h
    ·rename_i hle
     obtain⟨he2,hle⟩:=hle;obtain rfl:e'=e2:=he2.symm;simp only[Option.some.injEq]at h;subst h;obtain⟨a,cap,L,rfl,h2,h3,h4,h5,h6⟩:=hv;have hlen:((xs.drop off).take len).length=len:=by simp;omega
     by_cases h0:len=0
     ·subst h0;have g4:=nil (by simp) a cap;exact⟨[],by simpa using g4.1,by simp[RlE],by simpa using g4.2⟩
     ·rcases h6 with h6|⟨h6,rfl,h7⟩
      ·omega
      ·rcases hr.vec hσ h5 with⟨h8,_⟩|⟨_,cs,vs,ws,t,h9,h10,h11,h12,_⟩
       ·rw[h6]at h8;cases h8
       ·have hvl:=h12.length;have hq:off*e'+len*e'<=vs.length:=by rw[hvl,<-Nat.add_mul];exact Nat.mul_le_mul_right _ hle
        have g0:=ql (ls h9) (off*e') (len*e') hq;rw[h10]at g0;obtain⟨g1,g2⟩:=na g0;have g3:=(h12.drop off).take len;have g4:=mk ⟨L.blk,L.base+off*e',none⟩ cap _ (by rw[g1,hlen]) (fun j u hj=>by rw[f4];exact g2 j u hj) g3.one;rw[hlen]at g4 ⊢;exact⟨_,g4.1,g3,g4.2⟩
    ·cases h
   ·cases h
  ·cases h
 case va e' id off len =>
  split at h
  ·rename_i he'
   subst he';split at h
   ·rename_i cs hσ
    split at h
    ·rename_i hle
     simp only[Option.some.injEq]at h;subst h;obtain⟨a,cap,L,rfl,h2,h3,h4,h5,h6,h7⟩:=hv;obtain⟨_,h8,vs,t,h9,h10⟩:=hr.var hσ h5;have hvl:=h10.length;by_cases h0:len=0
     ·subst h0;exact⟨[],(nil rfl a cap).1,rfl,(nil rfl a cap).2⟩
     ·rcases h7 with h7|rfl
      ·omega
      ·have g0:=lY h9 off (len*e') (by omega);obtain⟨g1,g2⟩:=na g0;have g3:=RlE.chunk (e:=e') len (h10.drop off) (by simp;omega);have g4:=mk ⟨L.blk,L.base+off,none⟩ cap _ (by rw[g1,kx]) (fun j u hj=>by rw[f4,h8,Nat.zero_add];exact g2 j u hj) g3.one;rw[kx]at g4 ⊢;exact⟨_,g4.1,g3,g4.2⟩
    ·cases h
   ·cases h
  ·cases h
end
theorem DB{E:Env}:∀ {xs ys:List AV} {us vs:List Value} {r:Bool},RlC E xs us->RlC E ys vs->gg xs ys=some r->pA us vs=some r
 | [], [], us, vs, r, h1, h2, h => by
   simp only[RlC]at h1 h2;subst h1;subst h2;exact h
 | [],_::_,_,_,_,_,_,h=>by simp[gg]at h
 |_::_,[],_,_,_,_,_,h=>by simp[gg]at h
 | x :: xs, y :: ys, _, _, r, h1, h2, h => by
   obtain⟨u,us,rfl,_,hu,h1'⟩:=h1;obtain⟨v,vs,rfl,_,hv,h2'⟩:=h2;simp only[gg]at h;split at h
   ·rename_i a b ha hb
    have:=DB h1' h2' hb
    have h3:Io u v=some a:=by
     cases x<;>simp only[wu,reduceCtorEq]at ha<;>cases y<;>simp only[wu,reduceCtorEq]at ha<;>simp only[Rl]at hu hv<;>subst hu<;>subst hv
     ·simpa[Io]using ha
     ·simpa[Io]using ha
     ·simp only[Option.some.injEq]at ha;simp[Io,ByteArray.toList_eq,<-ha]
    simpa[pA,h3,this]using h
   ·cases h
theorem ZO{E:Env}{c:AV}{u:Value}{k:Nat}(h:Rl E c u)(hk:d8 c=k)(h3:k<=2):gG u=k:=by
 cases c<;>simp only[d8]at hk<;>first|omega|(simp only[Rl]at h;subst h;exact hk)
theorem yY{E:Env}:∀ {cs:List AV} {us:List Value} {ks:List (Nat×Nat)},RlC E cs us->il ks cs=true->(∀p∈ks,p.2<=2)->us.map gG=eh ks
 | cs, us, [], h, hf, _ => by
   simp only[il,List.isEmpty_iff]at hf;subst hf;simp only[RlC]at h;subst h;rfl
 | cs, us, (n, k) :: r, h, hf, h3 => by
   simp only[il,Bool.and_eq_true,beq_iff_eq]at hf;obtain⟨⟨h1,h2⟩,h4⟩:=hf;have h5:=yY (h.drop n) h4 fun p hp=>h3 p (List.mem_cons_of_mem _ hp)
   have h6:=h.take n;have hk:k<=2:=h3 (n,k) (List.mem_cons_self ..)
   have h7:∀ {cs:List AV} {us:List Value},RlC E cs us->cs.all (d8 ·==k)=true->us.map gG=List.replicate cs.length k:=by
    intro cs;induction cs with
    |nil=>intro us h _;simp only[RlC]at h;subst h;rfl
    | cons c cs ih =>
      intro us h ha;obtain⟨u,us,rfl,_,hu,h'⟩:=h;simp only[List.all_cons,Bool.and_eq_true,beq_iff_eq]at ha;simp[List.replicate_succ,ih h' ha.2,ZO hu ha.1 hk]
   have h8:=h7 h6 h2;rw[h1]at h8;rw[eh,<-h8,<-h5,<-List.map_append,List.take_append_drop]
theorem uP{P:Program}{w:World}{t e:TypeId}(hu:P.underlying t=some (.pointer e))(a:Addr):(Op.equalIn (9999+1) t (.pointer (some a)) (.pointer none)).run P w=.ok false w:=by
 rw[Op.equalIn];simp[run_underlying hu]
theorem uO{P:Program}{w:World}{t e:TypeId}(hu:P.underlying t=some (.pointer e))(a:Addr):(Op.equalIn (9999+1) t (.pointer none) (.pointer (some a))).run P w=.ok false w:=by
 rw[Op.equalIn];simp[run_underlying hu]
theorem tP{P:Program}{w:World}{t e:TypeId}(hu:P.underlying t=some (.pointer e)):(Op.equalIn (9999+1) t (.pointer none) (.pointer none)).run P w=.ok true w:=by
 rw[Op.equalIn];simp[run_underlying hu]
theorem xE{P:Program}{w:World}{t:TypeId}{p q:Array TypeId}{v:Bool}(hu:P.underlying t=some (.func p q v))(f:Fn)(x y:Array Value):(Op.equalIn (9999+1) t (.func f x y) .nilFunc).run P w=.ok false w:=by
 rw[Op.equalIn];simp[run_underlying hu]
theorem xF{P:Program}{w:World}{t:TypeId}{p q:Array TypeId}{v:Bool}(hu:P.underlying t=some (.func p q v))(f:Fn)(x y:Array Value):(Op.equalIn (9999+1) t .nilFunc (.func f x y)).run P w=.ok false w:=by
 rw[Op.equalIn];simp[run_underlying hu]
theorem tO{P:Program}{w:World}{t:TypeId}{p q:Array TypeId}{v:Bool}(hu:P.underlying t=some (.func p q v)):(Op.equalIn (9999+1) t .nilFunc .nilFunc).run P w=.ok true w:=by
 rw[Op.equalIn];simp[run_underlying hu]
theorem R8(s:List UInt8):(⟨s.toArray⟩:ByteArray).size=s.length:=by
 show s.toArray.size=_
 simp
theorem eg{ρ:Operand->Value}{o:Oper}{b:Builtin}{xs:Array Operand}{ats:Array TypeId}(ho:o.op=.call { callee:=.builtin b,args:=xs,argTypes:=ats }):
 execOp ρ o=builtin b ats o.type (xs.map fun|.const _=>true|_=>false) (xs.map ρ):=by
 obtain⟨dst,op,ty,pos,aft,gd⟩:=o;simp only at ho;subst ho;rfl
theorem Yx{P:Program}{w:World}{k k':IntKind}{a b:Int}:(Builtin.min2 (.int k a) (.int k' b)).run P w=.ok (.int k (if b<a then b else a)) w:=by simp[Builtin.min2]
theorem Yw{P:Program}{w:World}{k k':IntKind}{a b:Int}:(Builtin.max2 (.int k a) (.int k' b)).run P w=.ok (.int k (if b > a then b else a)) w:=by simp[Builtin.max2]
theorem XU{P:Program}{w:World}{E:Env}:∀ {r:List AV} {us:List Value} {x u:AV} {v:Value},RlS E r us->Rl E x v->Rr x r=some u->∃v',(us.foldlM Builtin.min2 v:Sem Value).run P w=.ok v' w/\Rl E u v'
 | [], _, x, u, v, h, hx, hm => by
   simp only[RlS]at h;subst h;simp only[Rr,Option.some.injEq]at hm;subst hm;exact⟨v,by simp,hx⟩
 | y :: r, _, x, u, v, h, hx, hm => by
   obtain⟨z,us,rfl,hy,h⟩:=h;cases x<;>cases y<;>simp only[Rr,reduceCtorEq]at hm
   simp only[Rl]at hx hy;subst hx;subst hy;have g0:=fun v hv=>XU (P:=P) (w:=w) (v:=v) h hv hm
   obtain⟨v',g1,g2⟩:=g0 _ rfl;refine⟨v',?_,g2⟩;rw[List.foldlM_cons,Sem.run_bind,Yx];exact g1
theorem XT{P:Program}{w:World}{E:Env}:∀ {r:List AV} {us:List Value} {x u:AV} {v:Value},RlS E r us->Rl E x v->Rq x r=some u->∃v',(us.foldlM Builtin.max2 v:Sem Value).run P w=.ok v' w/\Rl E u v'
 | [], _, x, u, v, h, hx, hm => by
   simp only[RlS]at h;subst h;simp only[Rq,Option.some.injEq]at hm;subst hm;exact⟨v,by simp,hx⟩
 | y :: r, _, x, u, v, h, hx, hm => by
   obtain⟨z,us,rfl,hy,h⟩:=h;cases x<;>cases y<;>simp only[Rq,reduceCtorEq]at hm
   simp only[Rl]at hx hy;subst hx;subst hy;have g0:=fun v hv=>XT (P:=P) (w:=w) (v:=v) h hv hm
   obtain⟨v',g1,g2⟩:=g0 _ rfl;refine⟨v',?_,g2⟩;rw[List.foldlM_cons,Sem.run_bind,Yw];exact g1
section
variable{X:Nat->Prop}{loc loc':Nat->Option Loc}{σ σ':St}{w w':World}{n:Nat}{P:Program}{ρ:Operand->Value}{ρ':Opd->AV}{K:AV->List Nat->Bool->St->Prop}
variable(hr:Rel X loc σ w)(hρ:lw (aR X loc σ w) ρ ρ')
include hr hρ
theorem oY{o:Oper}{t yt:TypeId}{x y:Operand}{a b:Opd}{kd:Nat}{neg:Bool}(ho:o.op=.binOp (if neg then .neq else .eql) t x y yt)(hx:az x=some a)(hy:az y=some b)
 (hk:(kd=0/\P.underlying t=some .bool)\/(kd=1/\P.underlying t=some .string)\/(kd=2/\∃e,P.underlying t=some (.pointer e))\/(kd=3/\∃p q v,P.underlying t=some (.func p q v)))
 (h:opF n σ ρ' K (.eqv kd neg a b)):Snd X loc σ w n ((execOp ρ o).run P w) K:=by
 simp only[opF]at h;split at h
 ·rename_i r hr'
  have hx':=hρ x a hx;have hy':=hρ y b hy;refine Snd.of hr h (v:=.bool (r != neg)) ?_ rfl;clear h;generalize ρ' a=A at *;generalize ρ' b=B at *;rcases hk with⟨rfl,hu⟩|⟨rfl,hu⟩|⟨rfl,e,hu⟩|⟨rfl,p,q,vr,hu⟩
  ·cases A<;>simp only[qw,reduceCtorEq]at hr'<;>cases B<;>simp only[qw,reduceCtorEq,Option.some.injEq]at hr'<;>simp only[Rl]at hx' hy'
   subst hr';cases neg<;>simp[execOp,ho,hx',hy',eqGuard,binOp,run_equal_bool w t _ _ hu]
  ·cases A<;>simp only[qw,reduceCtorEq]at hr'<;>cases B<;>simp only[qw,reduceCtorEq,Option.some.injEq]at hr'<;>simp only[Rl]at hx' hy'
   subst hr';cases neg<;>simp[execOp,ho,hx',hy',eqGuard,binOp,Op.stringOp,ByteArray.toList_eq]
  ·have e1:∀a:Addr,(Op.equal t (.pointer (some a)) (.pointer none)).run P w=.ok false w:=fun a=>uP hu a
   have e2:∀a:Addr,(Op.equal t (.pointer none) (.pointer (some a))).run P w=.ok false w:=fun a=>uO hu a
   have e3:(Op.equal t (.pointer none) (.pointer none)).run P w=.ok true w:=tP hu
   cases A<;>simp only[qw,reduceCtorEq]at hr'<;>cases B<;>simp only[qw,reduceCtorEq,Option.some.injEq]at hr'<;>simp only[Rl]at hx' hy'<;>subst hr' <;>
    (first
     |(obtain⟨L,_,_,hx'⟩:=hx')
     |(obtain⟨L2,_,_,hy'⟩:=hy')
     |(obtain⟨_,_,_,hx',_⟩:=hx')
     |(obtain⟨_,_,_,hy',_⟩:=hy')
     |skip) <;>
    cases neg<;>simp[execOp,ho,hx',hy',eqGuard,binOp,e1,e2,e3]
  ·have e1:∀ (f:Fn) (p q:Array Value),(Op.equal t (.func f p q) .nilFunc).run P w=.ok false w:=fun f p q=>xE hu f p q
   have e2:∀ (f:Fn) (p q:Array Value),(Op.equal t .nilFunc (.func f p q)).run P w=.ok false w:=fun f p q=>xF hu f p q
   have e3:(Op.equal t .nilFunc .nilFunc).run P w=.ok true w:=tO hu
   cases A<;>simp only[qw,reduceCtorEq]at hr'<;>cases B<;>simp only[qw,reduceCtorEq,Option.some.injEq]at hr'<;>simp only[Rl]at hx' hy'<;>subst hr' <;>
    (first
     |(obtain⟨_,hx',_⟩:=hx')
     |(obtain⟨_,hy',_⟩:=hy')
     |skip) <;>
    cases neg<;>simp[execOp,ho,hx',hy',eqGuard,binOp,e1,e2,e3]
 ·exact h.elim
theorem Du{o:Oper}{t yt:TypeId}{x y:Operand}{a b:Opd}{ks:List (Nat×Nat)}{neg:Bool}(ho:o.op=.binOp (if neg then .neq else .eql) t x y yt)(hx:az x=some a)(hy:az y=some b)
 (ha:rH P t=true) (hl:jl P 40 t=some (eh ks)) (hk3:∀p∈ks,p.2<=2) (hg:P.eqGuardType P.depth t=false) (h:opF n σ ρ' K (.eqa ks neg a b)):Snd X loc σ w n ((execOp ρ o).run P w) K:=by
 simp only[opF]at h;split at h
 ·rename_i xs1 ys1 h1 h2
  obtain⟨h3,h4,h⟩:=h;split at h
  ·rename_i r h5;have hx':=hρ x a hx;have hy':=hρ y b hy;rw[h1]at hx';rw[h2]at hy';obtain⟨us,hx1,hx2⟩:=hx';obtain⟨vs,hy1,hy2⟩:=hy';refine Snd.of hr h (v:=.bool (r != neg)) ?_ rfl;have he:=tQ 40 hl (yY hx2 h3 hk3) (yY hy2 h4 hk3) (DB hx2 hy2 h5) 9960 w;simp only[pk,ha,if_true]at he;cases neg<;>simp[execOp,ho,hx1,hy1,run_eqGuard_agg w _ _ _ _ _ _ hg,run_eql_struct,run_neq_struct,he]
  ·exact h.elim
 ·exact h.elim
theorem abV{o:Oper}{op:UnOp}{t:TypeId}{x:Operand}{a:Opd}(ho:o.op=.unOp op t x)(hx:az x=some a)(h:opF n σ ρ' K (.un op a)):Snd X loc σ w n ((execOp ρ o).run P w) K:=by
 simp only[opF]at h;split at h
 ·rename_i v hv;have hx':=hρ x a hx;generalize ρ' a=A at *;unfold unV at hv;split at hv<;>simp only[Option.some.injEq,reduceCtorEq]at hv<;>subst hv<;>simp only[Rl]at hx'
  ·exact Snd.of hr h (by simp[execOp,ho,hx',Op.unary,Op.intArith]) rfl
  ·exact Snd.of hr h (by simp[execOp,ho,hx',Op.unary,Op.intBits,ack]) rfl
  ·exact Snd.of hr h (by simp[execOp,ho,hx',Op.unary]) rfl
 ·exact h.elim
theorem aat{o:Oper}{s d:TypeId}{x:Operand}{a:Opd}{k j:IntKind}(ho:o.op=.convert s d x)(hs:P.underlying s=some (.int j))(hd:P.underlying d=some (.int k))(hx:az x=some a)(h:opF n σ ρ' K (.cvt k a)):Snd X loc σ w n ((execOp ρ o).run P w) K:=by
 simp only[opF]at h;split at h
 ·rename_i k' m hv;have hx':=hρ x a hx;rw[hv]at hx';simp only[Rl]at hx';exact Snd.of hr h (v:=.int k (k.wrap m)) (by simp[execOp,ho,hx',convert,run_underlying hs,run_underlying hd,Conv.intToInt]) rfl
 ·exact h.elim
theorem YT{o:Oper}{x:Operand}{a:Opd}(ho:o.op=.nilCheck x)(hx:az x=some a)(h:opF n σ ρ' K (.nilc a)):Snd X loc σ w n ((execOp ρ o).run P w) K:=by
 simp only[opF]at h;have hx':=hρ x a hx;split at h
 ·rename_i hv;rw[hv]at hx';obtain⟨L,g1,g2,g3⟩:=hx';exact Snd.of hr h (v:=ρ x) (by simp[execOp,ho,g3]) ⟨L,g1,g2,g3⟩
 ·rename_i hv;rw[hv]at hx';obtain⟨L,g1,g2,g3⟩:=hx';exact Snd.of hr h (v:=ρ x) (by simp[execOp,ho,g3]) ⟨L,g1,g2,g3⟩
 ·rename_i hv;rw[hv]at hx';obtain⟨b,oo,vs,g3,g4⟩:=hx';exact Snd.of hr h (v:=ρ x) (by simp[execOp,ho,g3]) ⟨b,oo,vs,g3,g4⟩
 ·rename_i hv;rw[hv]at hx';obtain⟨vs,g3,g4⟩:=hx';exact Snd.of hr h (v:=ρ x) (by simp[execOp,ho,g3]) ⟨vs,g3,g4⟩
 ·exact h.elim
theorem aaw{o:Oper}{t:TypeId}{x:Operand}{i:Nat}{a:Opd}{fs:Array Field}{f:Field}{ag:Bool}{sz:Nat}(ho:o.op=.field t x i)(ht:P.underlying t=some (.struct fs))(hf:fs[i]?=some f)(hs:gf P f.type=some (ag,sz))(hx:az x=some a)
 (h:opF n σ ρ' K (.fld ag f.offset sz a)):Snd X loc σ w n ((execOp ρ o).run P w) K:=by
 simp only[opF]at h;split at h
 ·rename_i cs hv
  obtain⟨hl,h⟩:=h;have hx':=hρ x a hx;rw[hv]at hx';obtain⟨vs,g1,g2⟩:=hx';have g3:=(g2.drop f.offset).take sz;have hvl:=g2.length;refine Snd.pure hr (v:=tK ag ((vs.drop f.offset).take sz)) ?_ (Rl.pack g3 (fun h0=>by subst h0;rw[(fT hs).1]at hl ⊢;simp;omega)) h;cases ag
  ·obtain⟨rfl,g4,_⟩:=fT hs
   have:((vs.drop f.offset).take 1).head?.getD undef=vs[f.offset]'(by omega):=by
    rw[List.drop_eq_getElem_cons (by omega)];rfl
   have hlt:f.offset<vs.length:=by omega
   simp[execOp,ho,Instr.field,run_underlying ht,hf,g1,asAgg,part,g4,tK,this,hlt]
  ·obtain⟨g4,g5⟩:=mY hs
   obtain⟨ti,hi,hsz⟩:=wh hs
   have hag:(isAgg f.type).run P w=.ok true w:=by
    unfold PY at g4;rw[Bool.and_eq_true]at g4;unfold isAgg;cases hu:P.underlying f.type with
    |none=>simp[hu]at g4
    |some d=>rw[Sem.run_bind,run_underlying hu w];cases d<;>simp_all
   simp[execOp,ho,Instr.field,run_underlying ht,hf,g1,asAgg,part,hag,tK,sizeOf,typeInfo,hi,hsz,List.extract_eq_take_drop]
 ·exact h.elim
theorem YP{o:Oper}{t:TypeId}{x:Operand}{i:Nat}{a:Opd}{fs:Array Field}{f:Field}{ti:TypeInfo}(ho:o.op=.fieldAddr t x i)(ht:P.underlying t=some (.struct fs))(hf:fs[i]?=some f)(hi:P.info? f.type=some ti)(hz:ti.size≠0)(hx:az x=some a)
 (h:opF n σ ρ' K (.fldA f.offset a)):Snd X loc σ w n ((execOp ρ o).run P w) K:=by
 simp only[opF]at h;have hx':=hρ x a hx;split at h
 ·rename_i hv;rw[hv]at hx';obtain⟨L,g1,g2,g3⟩:=hx';exact Snd.of hr h (by simp[execOp,ho,Instr.fieldAt,run_underlying ht,hf,Instr.sureAddr,g3,fieldPlace,sizeOf,typeInfo,hi,hz,f4];rfl) ⟨L,g1,g2,by rw[Nat.add_assoc]⟩
 ·rename_i hv;rw[hv]at hx';obtain⟨L,g1,g2,g3⟩:=hx';exact Snd.of hr h (by simp[execOp,ho,Instr.fieldAt,run_underlying ht,hf,Instr.sureAddr,g3,fieldPlace,sizeOf,typeInfo,hi,hz,f4];rfl) ⟨L,g1,g2,by rw[Nat.add_assoc]⟩
 ·rename_i hv;rw[hv]at hx';obtain⟨b,oo,vs,g3,g4⟩:=hx';exact Snd.of hr h (by simp[execOp,ho,Instr.fieldAt,run_underlying ht,hf,Instr.sureAddr,g3,fieldPlace,sizeOf,typeInfo,hi,hz,f4];rfl) ⟨b,oo,vs,by rw[Nat.add_assoc],g4⟩
 ·exact h.elim
theorem aax{o:Oper}{t e:TypeId}{x i:Operand}{a b:Opd}{m:Nat}{ag:Bool}{sz:Nat}(ho:o.op=.index t x i)(ht:P.underlying t=some (.array m e))(hs:gf P e=some (ag,sz))(hx:az x=some a)(hi:az i=some b)
 (h:opF n σ ρ' K (.idx ag m sz a b)):Snd X loc σ w n ((execOp ρ o).run P w) K:=by
 simp only[opF]at h;split at h
 ·rename_i cs k j hv hw
  obtain⟨h0,h1,hl,h⟩:=h;have hx':=hρ x a hx;have hi':=hρ i b hi;rw[hv]at hx';rw[hw]at hi';obtain⟨vs,g1,g2⟩:=hx';simp only[Rl]at hi';have g3:=(g2.drop (j.toNat*sz)).take sz;have hvl:=g2.length;have hjm:j.toNat<m:=by omega
  have hle:j.toNat*sz+sz<=cs.length:=by
   rw[hl];have:(j.toNat+1)*sz<=m*sz:=Nat.mul_le_mul_right _ (by omega);rw[Nat.add_mul]at this;omega
  obtain⟨ti,hti,hsz⟩:=wh hs;refine Snd.pure hr (v:=tK ag ((vs.drop (j.toNat*sz)).take sz)) ?_ (Rl.pack g3 (fun h0=>by subst h0;rw[(fT hs).1]at hle ⊢;simp;omega)) h;cases ag
  ·obtain⟨rfl,g4,_⟩:=fT hs
   have hlt:j.toNat<vs.length:=by omega
   have:((vs.drop j.toNat).take 1).head?.getD undef=vs[j.toNat]:=by
    rw[List.drop_eq_getElem_cons hlt];rfl
   simp[execOp,ho,Instr.index,run_underlying ht,g1,hi',asIntOf,h0,h1,part,g4,tK,this,hlt,sizeOf,typeInfo,hti,hsz]
  ·obtain⟨g4,g5⟩:=mY hs
   have hag:(isAgg e).run P w=.ok true w:=by
    unfold PY at g4;rw[Bool.and_eq_true]at g4;unfold isAgg;cases hu:P.underlying e with
    |none=>simp[hu]at g4
    |some d=>rw[Sem.run_bind,run_underlying hu w];cases d<;>simp_all
   simp[execOp,ho,Instr.index,run_underlying ht,g1,hi',asIntOf,h0,h1,part,hag,tK,sizeOf,typeInfo,hti,hsz,List.extract_eq_take_drop]
 ·exact h.elim
theorem YQ{o:Oper}{t e:TypeId}{x i:Operand}{a b:Opd}{m:Nat}{ti:TypeInfo}(ho:o.op=.indexAddr t x i)(ht:P.underlying t=some (.array m e))(hti:P.info? e=some ti)(hx:az x=some a)(hi:az i=some b)
 (h:opF n σ ρ' K (.idxA m ti.size a b)):Snd X loc σ w n ((execOp ρ o).run P w) K:=by
 simp only[opF]at h;have hx':=hρ x a hx;have hi':=hρ i b hi;split at h
 ·rename_i hv hw;rw[hv]at hx';rw[hw]at hi';obtain⟨L,g1,g2,g3⟩:=hx';simp only[Rl]at hi';obtain⟨h0,h1,h⟩:=h;exact Snd.of hr h (by simp[execOp,ho,Instr.indexAt,run_underlying ht,Instr.sureAddr,g3,hi',asIntOf,h0,h1,sizeOf,typeInfo,hti,f4];rfl) ⟨L,g1,g2,by rw[Nat.add_assoc]⟩
 ·rename_i hv hw;rw[hv]at hx';rw[hw]at hi';obtain⟨L,g1,g2,g3⟩:=hx';simp only[Rl]at hi';obtain⟨h0,h1,h⟩:=h;exact Snd.of hr h (by simp[execOp,ho,Instr.indexAt,run_underlying ht,Instr.sureAddr,g3,hi',asIntOf,h0,h1,sizeOf,typeInfo,hti,f4];rfl) ⟨L,g1,g2,by rw[Nat.add_assoc]⟩
 ·rename_i hv hw;rw[hv]at hx';rw[hw]at hi';obtain⟨bb,oo,vs,g3,g4⟩:=hx';simp only[Rl]at hi';obtain⟨h0,h1,h⟩:=h;exact Snd.of hr h (by simp[execOp,ho,Instr.indexAt,run_underlying ht,Instr.sureAddr,g3,hi',asIntOf,h0,h1,sizeOf,typeInfo,hti,f4];rfl) ⟨bb,oo,vs,by rw[Nat.add_assoc],g4⟩
 ·exact h.elim
theorem aav{o:Oper}{x:Operand}{a:Opd}{i:Nat}(ho:o.op=.extract x i)(hx:az x=some a)(h:opF n σ ρ' K (.ext i a)):Snd X loc σ w n ((execOp ρ o).run P w) K:=by
 simp only[opF]at h;split at h
 ·rename_i us hv;obtain⟨hl,h⟩:=h;have hx':=hρ x a hx;rw[hv]at hx';obtain⟨vs,g1,g2⟩:=hx';obtain⟨u,g3,g4⟩:=g2.get i hl;have hd:us.getD i .dead=us[i]:=by simp[List.getD,hl]
  refine Snd.pure hr (v:=u) ?_ (by rw[hd];exact g4) h;simp[execOp,ho,Instr.extract,g1,g3]
 ·exact h.elim
theorem TC{o:Oper}{x:Operand}{a:Opd}{t:TypeId}{st:Bool}(ho:o.op=.call { callee:=.builtin .len,args:=#[x],argTypes:=#[t] })(ht:(st=false/\∃e,P.underlying t=some (.slice e))\/(st=true/\P.underlying t=some .string))(hx:az x=some a)
 (h:opF n σ ρ' K (.len st a)):Snd X loc σ w n ((execOp ρ o).run P w) K:=by
 simp only[opF]at h;have hx':=hρ x a hx;split at h
 ·rename_i m hm
  refine Snd.of hr h (v:=.int .i64 m) ?_ rfl;clear h
  have e0:(execOp ρ o)=(do pure (Next.value (<-Builtin.len_ #[t] o.type #[ρ x])):Sem Next):=by
   rw[eg ho];simp[builtin]
  have e1:(Builtin.len_ #[t] o.type #[ρ x]).run P w=.ok (.int .i64 m) w:=by
   generalize ρ' a=A at *;rcases ht with⟨rfl,e,ht⟩|⟨rfl,ht⟩<;>cases A<;>simp only[Ri,reduceCtorEq,Option.some.injEq]at hm
   case inl.sl e cl xs=>
    obtain⟨ad,q,cap,g1,g2,_⟩:=hx';simp[Builtin.len_,run_underlying ht,g1,goInt,<-hm,g2]
   case inl.hs e id off len=>
    obtain⟨ad,cap,L,g1,_⟩:=hx';simp[Builtin.len_,run_underlying ht,g1,goInt,<-hm]
   case inl.va e id off len=>
    obtain⟨ad,cap,L,g1,_⟩:=hx';simp[Builtin.len_,run_underlying ht,g1,goInt,<-hm]
   case inr.str s=>
    simp only[Rl]at hx';simp only[Builtin.len_,hx',goInt,Sem.run_bind,run_underlying ht,Result.andThen_ok,<-hm];simp[run_underlying ht,R8]
  rw[e0,Sem.run_bind,e1];rfl
 ·exact h.elim
theorem aan{o:Oper}{x:Operand}{a:Opd}{t e:TypeId}(ho:o.op=.call { callee:=.builtin .cap,args:=#[x],argTypes:=#[t] })(ht:P.underlying t=some (.slice e))(hx:az x=some a)
 (h:opF n σ ρ' K (.cap a)):Snd X loc σ w n ((execOp ρ o).run P w) K:=by
 simp only[opF]at h;split at h
 ·rename_i e' xs hv;have hx':=hρ x a hx;rw[hv]at hx';obtain⟨ad,q,cap,g1,g2,g3,g4,g5,_⟩:=hx';refine Snd.of hr h (v:=.int .i64 xs.length) ?_ rfl;rw[eg ho];have g6:=g5 rfl;subst g6;simp[builtin,Builtin.cap_,run_underlying ht,g1,goInt,g2]
 ·exact h.elim
theorem abT{o:Oper}{xs:Array Operand}{ys:List Opd}{ats:Array TypeId}(ho:o.op=.call { callee:=.builtin .min,args:=xs,argTypes:=ats })(hx:ed xs.toList=some ys)
 (h:opF n σ ρ' K (.mn ys)):Snd X loc σ w n ((execOp ρ o).run P w) K:=by
 simp only[opF]at h;have hx':=gH hρ hx;split at h
 ·rename_i v r hv
  split at h
  ·rename_i u hu;rw[hv]at hx';obtain⟨z,us,g1,g2,g3⟩:=hx';obtain⟨v',g4,g5⟩:=XU (P:=P) (w:=w) g3 g2 hu;refine Snd.of hr h (v:=v') ?_ g5;rw[eg ho];simp only[builtin,Builtin.min_,Array.toList_map,g1,Sem.run_bind,g4,Result.andThen_ok,Sem.run_pure]
  ·exact h.elim
 ·exact h.elim
theorem abU{o:Oper}{xs:Array Operand}{ys:List Opd}{ats:Array TypeId}(ho:o.op=.call { callee:=.builtin .max,args:=xs,argTypes:=ats })(hx:ed xs.toList=some ys)
 (h:opF n σ ρ' K (.mx ys)):Snd X loc σ w n ((execOp ρ o).run P w) K:=by
 simp only[opF]at h;have hx':=gH hρ hx;split at h
 ·rename_i v r hv
  split at h
  ·rename_i u hu;rw[hv]at hx';obtain⟨z,us,g1,g2,g3⟩:=hx';obtain⟨v',g4,g5⟩:=XT (P:=P) (w:=w) g3 g2 hu;refine Snd.of hr h (v:=v') ?_ g5;rw[eg ho];simp only[builtin,Builtin.max_,Array.toList_map,g1,Sem.run_bind,g4,Result.andThen_ok,Sem.run_pure]
  ·exact h.elim
 ·exact h.elim
theorem aaA{o:Oper}{f:Fn}{first caps:Array Operand}{ys:List Opd}(ho:o.op=.makeFunc f first caps)(hf:first=#[])(hx:ed caps.toList=some ys)
 (h:opF n σ ρ' K (.mkf f ys)):Snd X loc σ w n ((execOp ρ o).run P w) K:=by
 simp only[opF]at h;have hx':=gH hρ hx;refine Snd.of hr h (v:=.func f #[] (caps.map ρ)) ?_ ⟨_,by rw[<-Array.toList_map],hx'⟩;subst hf;simp[execOp,ho,Instr.makeFunc]
theorem YR{o:Oper}{t e:TypeId}{x i:Operand}{a b:Opd}{ti:TypeInfo}(ho:o.op=.indexAddr t x i)(ht:P.underlying t=some (.slice e))(hti:P.info? e=some ti)(hx:az x=some a)(hi:az i=some b)
 (h:opF n σ ρ' K (.idxS ti.size a b)):Snd X loc σ w n ((execOp ρ o).run P w) K:=by
 simp only[opF]at h;have hx':=hρ x a hx;have hi':=hρ i b hi;split at h
 ·rename_i e' cl xs k j hv hw
  rw[hv]at hx';rw[hw]at hi';obtain⟨rfl,h0,h1,h⟩:=h;obtain⟨ad,q,cap,g1,g2,g3,g4,g5,g6,g7⟩:=hx';simp only[Rl]at hi';rcases g7 with g7|⟨bb,off,vs,rfl,k2,k3,k4,k5⟩
  ·omega
  ·have h1':j<(q:Int):=by omega
   refine Snd.of hr h (v:=.pointer (some ⟨bb,off+j.toNat*ti.size+0,none⟩)) ?_ ⟨bb,off,vs,rfl,k2,k3,by rw[<-g2];exact k4,k5⟩;simp[execOp,ho,Instr.indexAt,run_underlying ht,g1,hi',asIntOf,h0,h1',sizeOf,typeInfo,hti,f4]
 ·rename_i e' id off len k j hv hw
  rw[hv]at hx';rw[hw]at hi';obtain⟨rfl,h0,h1,h⟩:=h;obtain⟨ad,cap,L,g1,g2,g3,g4,g5,g6⟩:=hx';simp only[Rl]at hi';rcases g6 with g6|⟨k1,rfl,k3⟩
  ·omega
  ·refine Snd.of hr h (v:=.pointer (some ⟨L.blk,L.base+(off+j.toNat)*ti.size+0,none⟩)) ?_ ⟨L,g5,k1,rfl⟩;have:L.base+off*ti.size+j.toNat*ti.size=L.base+(off+j.toNat)*ti.size:=by rw[Nat.add_mul];omega
   simp[execOp,ho,Instr.indexAt,run_underlying ht,g1,hi',asIntOf,h0,h1,sizeOf,typeInfo,hti,f4,this]
 ·rename_i e' id off len k j hv hw
  rw[hv]at hx';rw[hw]at hi';obtain⟨rfl,h0,h1,h⟩:=h;obtain⟨ad,cap,L,g1,g2,g3,g4,g5,g6,g7⟩:=hx';simp only[Rl]at hi';rcases g7 with g7|rfl
  ·omega
  ·refine Snd.of hr h (v:=.pointer (some ⟨L.blk,L.base+(off+j.toNat*ti.size),none⟩)) ?_ ⟨L,g5,g6,rfl⟩;simp[execOp,ho,Instr.indexAt,run_underlying ht,g1,hi',asIntOf,h0,h1,sizeOf,typeInfo,hti,f4,Nat.add_assoc]
 ·exact h.elim
theorem abR{o:Oper}{t:TypeId}{x:Operand}{a:Opd}{ag:Bool}{sz:Nat}(ho:o.op=.load t x)(hs:gf P t=some (ag,sz))(hx:az x=some a)
 (h:opF n σ ρ' K (.ld ag sz a)):Snd X loc σ w n ((execOp ρ o).run P w) K:=by
 simp only[opF]at h;have hx':=hρ x a hx
 have fin:∀ {cs:List AV} {vs:List Value} {b oo:Nat} {ft:List Nat},RlC (aR X loc σ w) cs vs->cs.length=sz->range? w b oo sz=some vs.toArray->ρ x=.pointer (some ⟨b,oo,none⟩)->K (pack ag cs) ft false σ->Snd X loc σ w n ((execOp ρ o).run P w) K:=by
  intro cs vs b oo ft k1 k2 k3 k4 k5;refine Snd.of hr k5 (v:=tK ag vs) ?_ (Rl.pack k1 fun h0=>by subst h0;rw[k2];exact(fT hs).1);have:=tR P w b oo hs k3;simp[execOp,ho,Instr.loadAt,k4,Instr.sureAddr,this]
 split at h
 ·rename_i id oo hv
  rw[hv]at hx';obtain⟨L,g1,g2,g3⟩:=hx';split at h
  ·rename_i cs hσ;obtain⟨hl,h⟩:=h;obtain⟨_,k1,vs,tt,k2,k3⟩:=hr.var hσ g1;have hvl:=k3.length;have k4:=lY k2 oo sz (by omega);rw[k1,Nat.zero_add]at g3;exact fin ((k3.drop oo).take sz) (by simp;omega) k4 g3 h
  ·exact h.elim
 ·rename_i e id i oo hv
  rw[hv]at hx';obtain⟨L,g1,g2,g3⟩:=hx';split at h
  ·rename_i e' xs hσ
   obtain⟨rfl,hl,hi,h⟩:=h;rcases hr.vec hσ g1 with⟨k0,_⟩|⟨_,cs,vs,ws,tt,k2,k3,k4,k5,_⟩
   ·rw[g2]at k0;cases k0
   ·have hvl:=k5.length
    have hle:i*e'+e'<=vs.length:=by
     rw[hvl];have:(i+1)*e'<=xs.length*e':=Nat.mul_le_mul_right _ hi;rw[Nat.add_mul]at this;omega
    have k6:=ql (ls k2) (i*e'+oo) sz (by omega);rw[k3]at k6;have k7:=k5.get i hi;have k8:=(k7.drop oo).take sz;have hel:=RlE.elen k5 xs[i] (List.getElem_mem hi);have hd:xs.getD i []=xs[i]:=by simp[List.getD,hi]
    rw[hd]at h
    have e1:(((vs.drop (i*e')).take e').drop oo).take sz=(vs.drop (i*e'+oo)).take sz:=by
     rw[List.drop_take,List.take_take,List.drop_drop,Nat.min_eq_left (by omega)]
    rw[e1]at k8;exact fin k8 (by simp;omega) k6 (by rw[g3];congr 3;omega) h
  ·exact h.elim
 ·rename_i e xs i oo hv
  rw[hv]at hx';obtain⟨hl,hi,h⟩:=h;obtain⟨b,off,vs,g3,g4,g5,g6,k5⟩:=hx';have hvl:=k5.length
  have hle:i*e+e<=xs.length*e:=by
   have:(i+1)*e<=xs.length*e:=Nat.mul_le_mul_right _ hi;rw[Nat.add_mul]at this;omega
  have k6:=ql g6 (i*e+oo) sz (by omega);have k7:=k5.get i hi;have k8:=(k7.drop oo).take sz;have hel:=RlE.elen k5 xs[i] (List.getElem_mem hi);have hd:xs.getD i []=xs[i]:=by simp[List.getD,hi]
  rw[hd]at h
  have e1:(((vs.drop (i*e)).take e).drop oo).take sz=(vs.drop (i*e+oo)).take sz:=by
   rw[List.drop_take,List.take_take,List.drop_drop,Nat.min_eq_left (by omega)]
  rw[e1]at k8;exact fin k8 (by simp;omega) k6 (by rw[g3];congr 3;omega) h
 ·exact h.elim
end
theorem RlC.ofVal{E:Env}{av:AV}{v:Value}(h:Rl E av v)(ha:bF av.cellsOf=true):RlC E av.cellsOf v.cells.toList:=by
 cases av<;>simp only[AV.cellsOf,bF,List.all_cons,List.all_nil,Bool.and_true]at ha ⊢
 case agg cs=>obtain⟨vs,rfl,h2⟩:=h;simpa[Value.cells]using h2
 case dead=>simp[AV.cell]at ha
 case tup=>simp[AV.cell]at ha
 all_goals(
  have h1:=Fz h rfl;refine⟨v,[],?_,rfl,h,rfl⟩;cases v<;>simp_all[Value.cells,Value.oneCell'])
theorem RlC.spl{E:Env}{cs ys:List AV}{vs us:List Value}(h:RlC E cs vs)(hy:RlC E ys us)(o:Nat):RlC E (spl cs o ys) (vs.take o++us++vs.drop (o+us.length)):=by
 unfold Go.FH.spl;rw[hy.length];exact((h.take o).app hy).app (h.drop _)
theorem RlE.set{E:Env}{e:Nat}:∀ {xs:List (List AV)} {vs:List Value} (i:Nat) (hi:i<xs.length) {x:List AV} {us:List Value},RlE E e xs vs->RlC E x us->us.length=e->RlE E e (xs.set i x) (vs.take (i*e)++us++vs.drop (i*e+e))
 | [],_,i,hi,_,_,_,_,_=>by simp at hi
 | c :: cs, _, 0, _, x, us, h, hx, hu => by
   obtain⟨q,ws,rfl,h2,h3,h4⟩:=h;refine⟨us,ws,?_,hu,hx,h4⟩;have:(q++ws).drop (0*e+e)=ws:=by rw[Nat.zero_mul,Nat.zero_add,<-h2,List.drop_left]
   rw[this];simp
 | c :: cs, _, i + 1, hi, x, us, h, hx, hu => by
   obtain⟨q,ws,rfl,h2,h3,h4⟩:=h;have ih:=RlE.set i (by simpa using hi) h4 hx hu;refine⟨q,_,?_,h2,h3,ih⟩;have e1:(i+1)*e=q.length+i*e:=by rw[h2,Nat.add_mul];omega
   have e2:(i+1)*e+e=q.length+(i*e+e):=by rw[e1];omega
   rw[e2,e1,List.take_append,List.take_of_length_le (Nat.le_add_right _ _),Nat.add_sub_cancel_left,List.drop_append,List.drop_of_length_le (Nat.le_add_right _ _),Nat.add_sub_cancel_left];simp[List.append_assoc]
theorem RlE.flat{E:Env}{e:Nat}:∀ {xs:List (List AV)} {vs:List Value},RlE E e xs vs->RlC E xs.flatten vs
 | [],_,h=>h
 | x :: xs, _, h => by
   obtain⟨us,ws,rfl,_,h3,h4⟩:=h;rw[List.flatten_cons];exact h3.app (RlE.flat h4)
theorem oc(cs vs ws us:List Value)(p:Nat)(hp:p+us.length<=vs.length):
 (cs++vs++ws).take (cs.length+p)++us++(cs++vs++ws).drop (cs.length+p+us.length)=cs++(vs.take p++us++vs.drop (p+us.length))++ws:=by
 rw[List.append_assoc cs vs ws,List.take_append,List.take_of_length_le (Nat.le_add_right _ _),Nat.add_sub_cancel_left,Nat.add_assoc,List.drop_append,List.drop_of_length_le (Nat.le_add_right _ _),Nat.add_sub_cancel_left,List.take_append,List.drop_append];have e1:p-vs.length=0:=by omega
 have e2:p+us.length-vs.length=0:=by omega
 rw[e1,e2];simp[List.append_assoc]
theorem oa(w:World){b:Nat}{cs:List Value}{t:TypeId}(h:w.heap[b]?=some (.cells cs.toArray t (0,0)))(ds:List Value):(w.setRow b ds.toArray).heap[b]?=some (.cells ds.toArray t (0,0)):=
 setRow_heap w b _ _ t (0,0) h
section
variable{X:Nat->Prop}{loc loc':Nat->Option Loc}{σ σ':St}{w w':World}{n:Nat}{P:Program}{ρ:Operand->Value}{ρ':Opd->AV}{K:AV->List Nat->Bool->St->Prop}
theorem Rel.putVar(hr:Rel X loc σ w){id:Nat}{cs cs':List AV}{L:Loc}(hσ:σ[id]?=some (.var cs))(hL:loc id=some L)(us:List Value)(h:RlC (aR X loc σ w) cs' us):
 Rel X loc (σ.set id (.var cs')) (w.setRow L.blk us.toArray)/\(∀b,aS (σ.set id (.var cs')) loc b->aS σ loc b)/\Ev (aS σ loc) w (w.setRow L.blk us.toArray):=by
 obtain⟨h1,h2,vs,t,h3,h4⟩:=hr.var hσ hL;exact hr.turn hσ rfl rfl hL h1 us.toArray fun E hE hw=>⟨h1,h2,us,t,by rw[hw];exact oa w h3 us,RlC.mono hE _ _ h⟩
theorem Rel.putVec(hr:Rel X loc σ w){id e:Nat}{xs xs':List (List AV)}{L:Loc}(hσ:σ[id]?=some (.vec e xs))(hL:loc id=some L)(hh:L.has=true){cs vs ws us:List Value}{t:TypeId}
 (h3:w.heap[L.blk]?=some (.cells (cs++vs++ws).toArray t (0,0))) (h4:cs.length=L.base) (h5:(cs++vs++ws).length=L.rows) (h:RlE (aR X loc σ w) e xs' us) (hl:us.length=vs.length) (h1:∀u∈ws,u.oneCell'=true):
 Rel X loc (σ.set id (.vec e xs')) (w.setRow L.blk (cs++us++ws).toArray)/\(∀b,aS (σ.set id (.vec e xs')) loc b->aS σ loc b)/\Ev (aS σ loc) w (w.setRow L.blk (cs++us++ws).toArray):=
 hr.turn hσ rfl rfl hL hh _ fun E hE hw=>.inr ⟨hh,cs,us,ws,t,by rw[hw];exact oa w h3 _,h4,by simpa[hl]using h5,RlE.mono hE _ _ _ h,h1⟩
theorem Snd.turned{r:Result Next}{av:AV}{v:Value}{ft:List Nat}{wr:Bool}(hR:Rel X loc σ' w'/\(∀b,aS σ' loc b->aS σ loc b)/\Ev (aS σ loc) w w')(hl:σ'.length=σ.length)
 (h3:K av ft wr σ') (h1:r=.ok (.value v) w'\/(r=.ok .skip w'/\v=undef)) (h2:Rl (aR X loc σ' w') av v):Snd X loc σ w n r K:=
 ⟨av,ft,wr,σ',v,w',loc,h3,h1,⟨fun _ _ h=>h,hR.1,h2,hR.2.2,fun b hb=>.inl (hR.2.1 b hb)⟩,fun _ _=>rfl,hl⟩
theorem AO{b o:Nat}{t ty:TypeId}{i:TypeInfo}{rs:List Value}{v:Value}(hi:P.info? ty=some i)(hb:w.heap[b]?=some (.cells rs.toArray t (0,0)))(hs:v.cells.size=i.size)(hl:o+v.cells.size<=rs.length)(h1:∀u∈v.cells.toList,u.oneCell'=true):
 (storeVar ty ⟨b,o,none⟩ v).run P w=.ok () (w.setRow b (rs.take o++v.cells.toList++rs.drop (o+v.cells.toList.length)).toArray):=by
 have hst:=run_storeCells_at (P:=P) b o t v.cells.toList 0 rs.toArray w hb (by simpa using hl) h1;simp only[Nat.add_zero]at hst;simp[storeVar,sizeOf,typeInfo,hi,hs,hst]
variable(hr:Rel X loc σ w)(hρ:lw (aR X loc σ w) ρ ρ')
include hr hρ
theorem aaI{o:Oper}{t:TypeId}{x y:Operand}{a b:Opd}{i:TypeInfo}(ho:o.op=.store t x y)(hi:P.info? t=some i)(hx:az x=some a)(hy:az y=some b)
 (h:opF n σ ρ' K (.sto i.size a b)):Snd X loc σ w n ((execOp ρ o).run P w) K:=by
 simp only[opF]at h;obtain⟨hsz,hall,h⟩:=h;have hx':=hρ x a hx;have hy':=hρ y b hy;have hc:=RlC.ofVal hy' hall;have hcl:=hc.length;have hvs:(ρ y).cells.size=i.size:=by rw[<-Array.length_toList,hcl,hsz]
 have fin:∀ {bb oo:Nat} {t':TypeId} {rs:List Value},ρ x=.pointer (some ⟨bb,oo,none⟩)->w.heap[bb]?=some (.cells rs.toArray t' (0,0))->oo+i.size<=rs.length->
  (execOp ρ o).run P w=.ok .skip (w.setRow bb (rs.take oo++(ρ y).cells.toList++rs.drop (oo+(ρ y).cells.toList.length)).toArray):=by
  intro bb oo t' rs k1 k2 k3;have:=AO (P:=P) (o:=oo) hi k2 hvs (by omega) hc.one;simp only[execOp,ho,Instr.storeAt,k1,Instr.sureAddr,Sem.run_bind,Sem.run_pure,Result.andThen_ok];rw[this];rfl
 split at h
 ·rename_i id oo hv
  rw[hv]at hx';obtain⟨L,g1,g2,g3⟩:=hx';split at h
  ·rename_i cs hσ;obtain⟨hl,h⟩:=h;obtain⟨_,k1,vs,tt,k2,k3⟩:=hr.var hσ g1;have hvl:=k3.length;rw[k1,Nat.zero_add]at g3;exact Snd.turned (hr.putVar hσ g1 _ (k3.spl hc oo)) (by simp) h (.inr ⟨fin g3 k2 (by omega),rfl⟩) ⟨[],rfl,rfl⟩
  ·exact h.elim
 ·rename_i e id q oo hv
  rw[hv]at hx';obtain⟨L,g1,g2,g3⟩:=hx';split at h
  ·rename_i e' xs hσ
   obtain⟨rfl,hl,hi',h⟩:=h;rcases hr.vec hσ g1 with⟨k0,_⟩|⟨_,cs,vs,ws,tt,k2,k3,k4,k5,k51⟩
   ·rw[g2]at k0;cases k0
   ·have hvl:=k5.length
    have hle:q*e'+e'<=vs.length:=by
     rw[hvl];have:(q+1)*e'<=xs.length*e':=Nat.mul_le_mul_right _ hi';rw[Nat.add_mul]at this;omega
    have hd:xs.getD q []=xs[q]:=by simp[List.getD,hi']
    rw[hd]at h;have k7:=(k5.get q hi').spl hc oo;have hlu:((ρ y).cells.toList).length=i.size:=by rw[hcl,hsz]
    have k8:=k5.set q hi' k7 (by simp;omega)
    have e1:vs.take (q*e')++(((vs.drop (q*e')).take e').take oo++(ρ y).cells.toList++((vs.drop (q*e')).take e').drop (oo+(ρ y).cells.toList.length))++vs.drop (q*e'+e')=
     vs.take (q*e'+oo)++(ρ y).cells.toList++vs.drop (q*e'+oo+(ρ y).cells.toList.length):=by
     have a1:vs.take (q*e')++((vs.drop (q*e')).take e').take oo=vs.take (q*e'+oo):=by
      rw[List.take_take,Nat.min_eq_left (by omega),<-List.take_add]
     have a2:((vs.drop (q*e')).take e').drop (oo+(ρ y).cells.toList.length)++vs.drop (q*e'+e')=vs.drop (q*e'+oo+(ρ y).cells.toList.length):=by
      have h9:=List.take_append_drop (e' - (oo+(ρ y).cells.toList.length)) (vs.drop (q*e'+(oo+(ρ y).cells.toList.length)));rw[List.drop_drop]at h9;have e5:q*e'+(oo+(ρ y).cells.toList.length)+(e' - (oo+(ρ y).cells.toList.length))=q*e'+e':=by omega
      rw[e5]at h9;rw[List.drop_take,List.drop_drop,h9,Nat.add_assoc]
     rw[<-a1,<-a2];simp[List.append_assoc]
    rw[e1]at k8;have g4:ρ x=.pointer (some ⟨L.blk,cs.length+(q*e'+oo),none⟩):=by rw[g3,k3];congr 3;omega
    have k9:=hr.putVec hσ g1 g2 k2 k3 k4 k8 (by simp;omega) k51;rw[<-oc cs vs ws _ (q*e'+oo) (by omega)]at k9;exact Snd.turned k9 (by simp) h (.inr ⟨fin g4 k2 (by simp;omega),rfl⟩) ⟨[],rfl,rfl⟩
  ·exact h.elim
 ·exact h.elim
variable(hn:n<σ.length)(hg:loc n=none)
include hn hg
omit hρ in
theorem aaC{o:Oper}{t:TypeId}{z:List AV}(ho:o.op=.alloc t)(hz:jT P t=some z)(h:opF n σ ρ' K (.new z)):Snd X loc σ w n ((execOp ρ o).run P w) K:=by
 simp only[opF]at h;unfold jT at hz;split at hz
 ·rename_i i hi
  split at hz
  ·rename_i zv hzv
   split at hz
   ·refine Snd.alloc hr hn hg (.var z) ⟨true,w.heap.size,0,zv.cells.size⟩ rfl rfl (.cells zv.cells t (0,0)) (v:=.pointer (some ⟨w.heap.size,0,none⟩)) h (fun E hE hw=>⟨rfl,rfl,zv.cells.toList,t,?_,RlC.ofCells E hz⟩) ?_ (fun E hE=>⟨_,hE,rfl,rfl⟩)
    ·rw[hw,_root_.Go.heap_alloc_new]
    ·simp[execOp,ho,Instr.alloc,zeroValue,typeInfo,hi,hzv,newVar,newRow,newObj,Sem.run]
   ·cases hz
  ·cases hz
 ·cases hz
theorem aam{o:Oper}{t:TypeId}{x:Operand}{a:Opd}{sz:Nat}(ho:o.op=.box t x)(hx:az x=some a)(h:opF n σ ρ' K (.box sz a)):Snd X loc σ w n ((execOp ρ o).run P w) K:=by
 simp only[opF]at h;obtain⟨hsz,hall,h⟩:=h;have hc:=RlC.ofVal (hρ x a hx) hall;refine Snd.alloc hr hn hg (.var (ρ' a).cellsOf) ⟨true,w.heap.size,0,(ρ x).cells.size⟩ rfl rfl (.cells (ρ x).cells t (0,0)) (v:=.pointer (some ⟨w.heap.size,0,none⟩)) h (fun E hE hw=>⟨rfl,rfl,(ρ x).cells.toList,t,?_,RlC.mono hE _ _ hc⟩) ?_ (fun E hE=>⟨_,hE,rfl,rfl⟩)
 ·rw[hw,_root_.Go.heap_alloc_new]
 ·simp[execOp,ho,Instr.box,newVar,newRow,newObj,Sem.run]
end
theorem ER:∀ (vs:List Value) (off k:Nat) (cs:List Value),off+k+vs.length<=cs.length->
 ((vs.zipIdx k).foldl (fun(cs:Array Value) (x:Value×Nat)=>cs.setIfInBounds (off+x.2) x.1) cs.toArray)=(cs.take (off+k)++vs++cs.drop (off+k+vs.length)).toArray
 | [],off,k,cs,_=>by simp
 | v :: vs, off, k, cs, h => by
   simp only[List.length_cons]at h;rw[List.zipIdx_cons,List.foldl_cons];have h1:(cs.toArray.setIfInBounds (off+k) v)=(cs.set (off+k) v).toArray:=by simp
   simp only[h1];rw[ER vs off (k+1) (cs.set (off+k) v) (by simp;omega)];congr 1
   have e1:(cs.set (off+k) v).take (off+(k+1))=cs.take (off+k)++[v]:=by
    rw[<-Nat.add_assoc,List.take_succ_eq_append_getElem (by simp;omega),List.take_set_of_le (Nat.le_refl _)];simp
   have e2:(cs.set (off+k) v).drop (off+(k+1)+vs.length)=cs.drop (off+k+(v::vs).length):=by
    rw[List.drop_set_of_lt (by omega)];congr 1;simp;omega
   rw[e1,e2];simp
theorem LU{E:Env}(place:Nat->Option (Nat×Nat)):∀ (ps:List (Nat×Value)) (qs:List (Nat×Nat×AV)) (cs:List AV) (us:List Value),RlC E cs us->ps.length=qs.length->
 (∀ (j:Nat) (p:Nat×Value) (q:Nat×Nat×AV),ps[j]?=some p->qs[j]?=some q->place p.1=some (q.1,q.2.1)/\Rl E q.2.2 p.2)->um cs.length qs=true->
 ∃us':List Value,Instr.fill place us.toArray ps=some us'.toArray/\RlC E (N6 cs qs) us'/\us'.length=us.length
 | [],[],cs,us,h,_,_,_=>⟨us,rfl,h,rfl⟩
 | [],_::_,_,_,_,hl,_,_=>by simp at hl
 |_::_,[],_,_,_,hl,_,_=>by simp at hl
 | (i, v) :: ps, (off, sz, av) :: qs, cs, us, h, hl, hp, hok => by
   simp only[um,Bool.and_eq_true,beq_iff_eq,decide_eq_true_eq]at hok;obtain⟨⟨⟨h1,h2⟩,h3⟩,h4⟩:=hok;obtain⟨h5,h6⟩:=hp 0 (i,v) (off,sz,av) rfl rfl;have hc:=RlC.ofVal h6 h3;have hcl:=hc.length;have hul:=h.length;have hsz:v.cells.size=sz:=by rw[<-Array.length_toList,hcl,h1]
   have h7:=h.spl hc off;have h8:(spl cs off av.cellsOf).length=cs.length:=by simp[spl];omega
   obtain⟨us',g1,g2,g3⟩:=LU place ps qs (spl cs off av.cellsOf) _ h7 (by simpa using hl) (fun j p q hj hq=>hp (j+1) p q (by simpa using hj) (by simpa using hq)) (by rw[h8];exact h4);refine⟨us',?_,g2,?_⟩
   ·simp only[Instr.fill,h5];rw[if_neg (by simp[hsz];omega)];rw[<-g1];congr 1;have:=ER v.cells.toList off 0 us (by simp[hsz];omega);simp only[Nat.add_zero]at this;rw[<-this];rw[<-Array.foldl_toList];congr 1;simp
   ·rw[g3];simp[hsz];omega
theorem sN{P:Program}{fs:Array Field}:∀ {ps:List (Nat×Operand)} {qs:List (Nat×Nat×Opd)},kV P fs ps=some qs->ps.length=qs.length/\∀ (j:Nat) (p:Nat×Operand) (q:Nat×Nat×Opd),ps[j]?=some p->qs[j]?=some q->
 ∃f ti,fs[p.1]?=some f/\P.info? f.type=some ti/\q.1=f.offset/\q.2.1=ti.size/\az p.2=some q.2.2
 | [],qs,h=>by simp only[kV,Option.some.injEq]at h;subst h;exact⟨rfl,fun j p q h=>by simp at h⟩
 | (i, x) :: ps, qs, h => by
   simp only[kV]at h;split at h
   ·rename_i f y q h1 h2 h3
    split at h
    ·rename_i ti h4;simp only[Option.some.injEq]at h;subst h;obtain⟨g1,g2⟩:=sN h3;refine⟨by simp[g1],fun j p q' hj hq=>?_⟩;cases j with
     |zero=>simp at hj hq;subst hj;subst hq;exact⟨f,ti,h1,h4,rfl,rfl,h2⟩
     |succ j=>exact g2 j p q' (by simpa using hj) (by simpa using hq)
    ·cases h
   ·cases h
theorem sL{sz:Nat}:∀ {ps:List (Nat×Operand)} {qs:List (Nat×Nat×Opd)},kT sz ps=some qs->ps.length=qs.length/\∀ (j:Nat) (p:Nat×Operand) (q:Nat×Nat×Opd),ps[j]?=some p->qs[j]?=some q->
 q.1=p.1*sz/\q.2.1=sz/\az p.2=some q.2.2
 | [],qs,h=>by simp only[kT,Option.some.injEq]at h;subst h;exact⟨rfl,fun j p q h=>by simp at h⟩
 | (i, x) :: ps, qs, h => by
   simp only[kT]at h;split at h
   ·rename_i y q h1 h2;simp only[Option.some.injEq]at h;subst h;obtain⟨g1,g2⟩:=sL h2;refine⟨by simp[g1],fun j p q' hj hq=>?_⟩;cases j with
    |zero=>simp at hj hq;subst hj;subst hq;exact⟨rfl,rfl,h1⟩
    |succ j=>exact g2 j p q' (by simpa using hj) (by simpa using hq)
   ·cases h
theorem sM:∀ {ps:List (Nat×Operand)} {qs:List (Nat×Opd)},kU ps=some qs->ps.length=qs.length/\∀ (j:Nat) (p:Nat×Operand) (q:Nat×Opd),ps[j]?=some p->qs[j]?=some q->
 q.1=p.1/\az p.2=some q.2
 | [],qs,h=>by simp only[kU,Option.some.injEq]at h;subst h;exact⟨rfl,fun j p q h=>by simp at h⟩
 | (i, x) :: ps, qs, h => by
   simp only[kU]at h;split at h
   ·rename_i y q h1 h2;simp only[Option.some.injEq]at h;subst h;obtain⟨g1,g2⟩:=sM h2;refine⟨by simp[g1],fun j p q' hj hq=>?_⟩;cases j with
    |zero=>simp at hj hq;subst hj;subst hq;exact⟨rfl,h1⟩
    |succ j=>exact g2 j p q' (by simpa using hj) (by simpa using hq)
   ·cases h
theorem jP:∀ {l:List Value} {z:List AV},ofCells l=some z->∀u∈l,u.oneCell'=true
 | [],_,_,u,hu=>by cases hu
 | v :: l, z, h, u, hu => by
   simp only[ofCells]at h;split at h
   ·rename_i a b h1 h2
    rcases List.mem_cons.1 hu with rfl|hu
    ·unfold ofCell at h1;split at h1<;>first|rfl|cases h1
    ·exact jP h2 u hu
   ·cases h
theorem iC{P:Program}{t:TypeId}{z:List AV}(h:jT P t=some z):∃i zv,P.info? t=some i/\i.zero=some zv/\zv.cells.size=i.size/\ofCells zv.cells.toList=some z:=by
 unfold jT at h;split at h
 ·rename_i i hi
  split at h
  ·rename_i zv hz
   split at h
   ·rename_i hs;exact⟨i,zv,hi,hz,hs,h⟩
   ·cases h
  ·cases h
 ·cases h
theorem oW(zs:List Value)(hz:0<zs.length):∀n,(madeCells zs.toArray (n*zs.length)).toList=(List.replicate n zs).flatten
 |0=>by simp[madeCells]
 | n + 1 => by
   have ih:=oW zs hz n;simp only[madeCells,Array.toList_map,Array.toList_range]at ih ⊢;rw[List.replicate_succ',List.flatten_append,<-ih,Nat.add_mul,Nat.one_mul,List.range_add,List.map_append];congr 1;simp only[List.map_map,List.flatten_cons,List.flatten_nil,List.append_nil];apply List.ext_getElem?
   intro i;simp only[List.getElem?_map,List.getElem?_range];by_cases hi:i<zs.length
   ·simp[hi,List.getElem?_range hi,Nat.mul_comm n,Nat.mul_add_mod,Nat.mod_eq_of_lt hi]
   ·simp[hi,List.getElem?_eq_none (show (List.range zs.length).length<=i by simp;omega)]
theorem RlE.rep{E:Env}{z:List AV}{zs:List Value}{e:Nat}(h:RlC E z zs)(he:zs.length=e):∀n,RlE E e (List.replicate n z) (List.replicate n zs).flatten
 |0=>rfl
 |n+1=>⟨zs,_,rfl,he,h,RlE.rep h he n⟩
theorem N5{E:Env}{e:Nat}:∀ (ps:List (Nat×Value)) (qs:List (Nat×AV)) (xs:List (List AV)) (us:List Value),RlE E e xs us->ps.length=qs.length->
 (∀ (j:Nat) (p:Nat×Value) (q:Nat×AV),ps[j]?=some p->qs[j]?=some q->q.1=p.1/\Rl E q.2 p.2)->xx e xs.length qs=true->
 ∃us':List Value,Instr.fill (fun i=>some (i*e,e)) us.toArray ps=some us'.toArray/\RlE E e (yP xs qs) us'
 | [],[],xs,us,h,_,_,_=>⟨us,rfl,h⟩
 | [],_::_,_,_,_,hl,_,_=>by simp at hl
 |_::_,[],_,_,_,hl,_,_=>by simp at hl
 | (i, v) :: ps, (i', av) :: qs, xs, us, h, hl, hp, hok => by
   simp only[xx,Bool.and_eq_true,beq_iff_eq,decide_eq_true_eq]at hok;obtain⟨⟨⟨h1,h2⟩,h3⟩,h4⟩:=hok;obtain⟨h5,h6⟩:=hp 0 (i,v) (i',av) rfl rfl;simp only at h5;subst h5;have hc:=RlC.ofVal h6 h3;have hcl:=hc.length;have hul:=h.length;have hsz:v.cells.size=e:=by rw[<-Array.length_toList,hcl,h1]
   have h7:=h.set i' h2 hc (by simpa using hsz)
   have hle:i' * e+e<=us.length:=by
    rw[hul];have:(i'+1)*e<=xs.length*e:=Nat.mul_le_mul_right _ h2;rw[Nat.add_mul]at this;omega
   obtain⟨us',g1,g2⟩:=N5 ps qs (xs.set i' av.cellsOf) _ h7 (by simpa using hl) (fun j p q hj hq=>hp (j+1) p q (by simpa using hj) (by simpa using hq)) (by simpa using h4);refine⟨us',?_,g2⟩;simp only[Instr.fill];rw[if_neg (by simp[hsz];omega)];rw[<-g1];congr 1;have:=ER v.cells.toList (i' * e) 0 us (by simp[hsz];omega);simp only[Nat.add_zero]at this;have hvl:v.cells.toList.length=e:=by simpa using hsz
   rw[hvl]at this;rw[<-this,<-Array.foldl_toList];congr 1;simp
theorem B9{P:Program}{w:World}{t e:TypeId}{i:TypeInfo}(ht:P.underlying t=some (.slice e))(hi:P.info? e=some i)(a:Option Addr)(m cap:Nat)(lo hi' mx:Option Value)(l h q:Nat)
 (hlo:(lo=none/\l=0)\/∃k,lo=some (.int k l)) (hhi:(hi'=none/\h=m)\/∃k,hi'=some (.int k h)) (hmx:(mx=none/\q=cap)\/((∃k,mx=some (.int k q))/\hi'≠none)) (h1:l<=h) (h2:h<=q) (h3:q<=cap):
 (Instr.sliceAt t (.slice a m cap) lo hi' mx).run P w=.ok (.slice (rJ a l q i.size) (h-l) (q-l)) w:=by
 have c1:(l:Int)<=(h:Int):=by omega
 have c2:(h:Int)<=(q:Int):=by omega
 have c3:(q:Int)<=(cap:Int):=by omega
 rcases hmx with⟨rfl,rfl⟩|⟨⟨km,rfl⟩,hne⟩
 ·rcases hlo with⟨rfl,rfl⟩|⟨k,rfl⟩<;>rcases hhi with⟨rfl,rfl⟩|⟨k',rfl⟩ <;>
   simp[Instr.sliceAt,Instr.slice,Instr.sliceBounds,Instr.sliceBound,asIntOf,run_underlying ht,sizeOf,typeInfo,hi,rJ,h1,h2,c1,c2]
 ·rcases hhi with⟨rfl,rfl⟩|⟨k',rfl⟩
  ·exact absurd rfl hne
  ·rcases hlo with⟨rfl,rfl⟩|⟨k,rfl⟩ <;>
    simp[Instr.sliceAt,Instr.slice,Instr.sliceBounds,Instr.sliceBound,asIntOf,run_underlying ht,sizeOf,typeInfo,hi,rJ,h1,h2,h3,c1,c2,c3]
theorem Rl.sliced{E:Env}{e e':Nat}{cl cl':Bool}{xs:List (List AV)}{ad:Option Addr}{m cap:Nat}(hv:Rl E (.sl e' cl xs) (.slice ad m cap))(he:e'=e\/xs=[]){l h q:Nat}(h1:l<=h)(h2:h<=xs.length)(h3:h<=q)(h4:q<=cap)(hcl:cl'=true->q-l=h-l):
 Rl E (.sl e cl' ((xs.drop l).take (h-l))) (.slice (rJ ad l q e) (h-l) (q-l)):=by
 obtain⟨a,m',cap',g1,g2,g3,g4,g5,g6,g7⟩:=hv;simp only[Value.slice.injEq]at g1;obtain⟨rfl,rfl,rfl⟩:=g1;refine⟨_,_,_,rfl,by simp;omega,by omega,by omega,hcl,fun hn=>?_,?_⟩
 ·unfold rJ at hn;split at hn
  ·omega
  ·have:=g6 (by simpa using hn);omega
 ·by_cases hz:h-l=0
  ·exact .inl hz
  ·rcases g7 with g7|⟨b,off,vs,rfl,k1,k2,k3,k4⟩
   ·omega
   ·have hne:xs≠[]:=by rintro rfl;simp at h2;omega
    obtain rfl:=he.resolve_right hne;have hvl:=k4.length
    have hq:l*e'+(h-l)*e'<=m*e':=by
     rw[<-Nat.add_mul];exact Nat.mul_le_mul_right _ (by omega)
    have k5:=ql k3 (l*e') ((h-l)*e') hq;right
    refine⟨b,off+l*e',_,?_,k1,k2,k5,(k4.drop l).take (h-l)⟩;have:¬q=l:=by omega
    simp[rJ,this,f4]
theorem ic{E:Env}{ρ:Operand->Value}{ρ':Opd->AV}(hρ:lw E ρ ρ'){lo:Option Operand}{lo':Option Opd}(h:eU lo=some lo')(d:Nat)(h0:0<=bz ρ' d lo'):
 (lo'=none/\lo.map ρ=none/\(bz ρ' d lo').toNat=d)\/(lo'≠none/\∃k,lo.map ρ=some (.int k (bz ρ' d lo').toNat)):=by
 cases lo with
 |none=>simp only[eU,Option.some.injEq]at h;subst h;exact .inl ⟨rfl,rfl,by simp[bz]⟩
 | some x =>
   simp only[eU]at h;obtain⟨y,h1,rfl⟩:=Option.map_eq_some_iff.1 h;have hv:=hρ x y h1;refine .inr ⟨by simp,?_⟩;simp only[bz,Zr]at h0 ⊢;split at h0
   ·rename_i k z hz;rw[hz]at hv;simp only[Rl]at hv;exact⟨k,by simp only[Option.map_some,hv,Int.toNat_of_nonneg h0]⟩
   ·omega
theorem iG{lo:Option Operand}{lo':Option Opd}(h:eU lo=some lo'):lo'=none↔lo=none:=by
 cases lo with
 |none=>simp only[eU,Option.some.injEq]at h;subst h;simp
 |some x=>simp only[eU]at h;obtain⟨y,_,rfl⟩:=Option.map_eq_some_iff.1 h;simp
section
variable{X:Nat->Prop}{loc loc':Nat->Option Loc}{σ σ':St}{w w':World}{n:Nat}{P:Program}{ρ:Operand->Value}{ρ':Opd->AV}{K:AV->List Nat->Bool->St->Prop}
variable(hr:Rel X loc σ w)(hρ:lw (aR X loc σ w) ρ ρ')
include hr hρ
theorem YN{o:Oper}{t e:TypeId}{m:Nat}{ps:Array (Nat×Operand)}{qs:List (Nat×Nat×Opd)}{z:List AV}{ti:TypeInfo}(ho:o.op=.build t ps)(ht:P.underlying t=some (.array m e))(hz:jT P t=some z)(hti:P.info? e=some ti)
 (hq:kT ti.size ps.toList=some qs) (h:opF n σ ρ' K (.bld z qs)):Snd X loc σ w n ((execOp ρ o).run P w) K:=by
 simp only[opF]at h;obtain⟨hok,h⟩:=h;obtain⟨i,zv,hi,hzv,hzs,hzc⟩:=iC hz;obtain⟨hl,hpq⟩:=sL hq;have hz0:=RlC.ofCells (aR X loc σ w) hzc
 obtain⟨us',g1,g2,_⟩:=LU (E:=aR X loc σ w) (fun i=>some (i*ti.size,ti.size)) ((ps.toList).map fun p=>(p.1,ρ p.2)) (qs.map fun p=>(p.1,p.2.1,ρ' p.2.2)) z zv.cells.toList hz0 (by simpa using hl) (fun j p q hj hq'=>by
  obtain⟨p0,hp0,rfl⟩:=List.getElem?_map ..▸hj |> Option.map_eq_some_iff.1
  obtain⟨q0,hq0,rfl⟩:=List.getElem?_map ..▸hq' |> Option.map_eq_some_iff.1
  obtain⟨k1,k2,k3⟩:=hpq j p0 q0 hp0 hq0;exact⟨by simp[k1,k2],hρ _ _ k3⟩) hok
 refine Snd.of hr h (v:=.agg us'.toArray) ?_ ⟨us',rfl,g2⟩;have e1:(ps.map fun p=>(p.1,ρ p.2)).toList=ps.toList.map fun p=>(p.1,ρ p.2):=by simp
 simp only[Array.toArray_toList]at g1;simp[execOp,ho,Instr.build,zeroValue,typeInfo,hi,hzv,run_underlying ht,sizeOf,hti,g1]
theorem V0{o:Oper}{t:TypeId}{fs:Array Field}{ps:Array (Nat×Operand)}{qs:List (Nat×Nat×Opd)}{z:List AV}(ho:o.op=.build t ps)(ht:P.underlying t=some (.struct fs))(hz:jT P t=some z)
 (hq:kV P fs ps.toList=some qs) (hfs:fs.toList.all (fun f=>(P.info? f.type).isSome)=true) (h:opF n σ ρ' K (.bld z qs)):Snd X loc σ w n ((execOp ρ o).run P w) K:=by
 simp only[opF]at h;obtain⟨hok,h⟩:=h;obtain⟨i,zv,hi,hzv,hzs,hzc⟩:=iC hz;obtain⟨hl,hpq⟩:=sN hq;have hz0:=RlC.ofCells (aR X loc σ w) hzc
 have hpl:∀ (l:List Field),(l.all fun f=>(P.info? f.type).isSome)=true->(l.mapM fun f=>(P.info? f.type).map fun i=>(f.offset,i.size))=some (l.map fun f=>(f.offset,P.cellsOf f.type)):=by
  intro l;induction l with
  |nil=>intro _;rfl
  | cons f l ih =>
    intro hl;simp only[List.all_cons,Bool.and_eq_true]at hl;obtain⟨j,hj⟩:=Option.isSome_iff_exists.1 hl.1;rw[List.mapM_cons,ih hl.2];simp[hj,Program.cellsOf]
 obtain⟨us',g1,g2,_⟩:=LU (E:=aR X loc σ w) ((fs.toList.map fun f=>(f.offset,P.cellsOf f.type)).toArray[·]?) ((ps.toList).map fun p=>(p.1,ρ p.2)) (qs.map fun p=>(p.1,p.2.1,ρ' p.2.2)) z zv.cells.toList hz0 (by simpa using hl) (fun j p q hj hq'=>by
  obtain⟨p0,hp0,rfl⟩:=List.getElem?_map ..▸hj |> Option.map_eq_some_iff.1
  obtain⟨q0,hq0,rfl⟩:=List.getElem?_map ..▸hq' |> Option.map_eq_some_iff.1
  obtain⟨f,ti,k0,k1,k2,k3,k4⟩:=hpq j p0 q0 hp0 hq0;refine⟨?_,hρ _ _ k4⟩;simp[k0,k2,k3,Program.cellsOf,k1]) hok
 refine Snd.of hr h (v:=.agg us'.toArray) ?_ ⟨us',rfl,g2⟩;simp only[Array.toArray_toList]at g1
 have hb:P.built t ((ps.map fun p=>(p.1,ρ p.2)).toList)=some us'.toArray:=by
  simp only[Program.built,hi,ht,hzv,hpl _ hfs];simpa using g1
 have:=run_build (P:=P) w t (ps.map fun p=>(p.1,ρ p.2)) us'.toArray hb;simp only[execOp,ho,Sem.run_bind];rw[this];rfl
theorem aaG{o:Oper}{t e:TypeId}{x:Operand}{lo hi mx:Option Operand}{a:Opd}{lo' hi' mx':Option Opd}{ti:TypeInfo}(ho:o.op=.slice t x lo hi mx)(ht:P.underlying t=some (.slice e))(hti:P.info? e=some ti)
 (hx:az x=some a) (hlo:eU lo=some lo') (hhi:eU hi=some hi') (hmx:eU mx=some mx') (h:opF n σ ρ' K (.sli ti.size a lo' hi' mx')):Snd X loc σ w n ((execOp ρ o).run P w) K:=by
 simp only[opF]at h;have hx':=hρ x a hx
 have run:∀ {ad:Option Addr} {m cap l hh q:Nat},ρ x=.slice ad m cap->((lo.map ρ=none/\l=0)\/∃k,lo.map ρ=some (.int k l))->((hi.map ρ=none/\hh=m)\/∃k,hi.map ρ=some (.int k hh))->
  ((mx.map ρ=none/\q=cap)\/((∃k,mx.map ρ=some (.int k q))/\hi.map ρ≠none))->l<=hh->hh<=q->q<=cap->(execOp ρ o).run P w=.ok (.value (.slice (rJ ad l q ti.size) (hh-l) (q-l))) w:=by
  intro ad m cap l hh q k1 k2 k3 k4 k5 k6 k7;have:=B9 (P:=P) (w:=w) ht hti ad m cap _ _ _ l hh q k2 k3 k4 k5 k6 k7;simp only[execOp,ho,Sem.run_bind,k1];rw[this];rfl
 split at h
 ·rename_i e' cl xs hv
  rw[hv]at hx';obtain⟨he,h0,h1,h2,h3,h4,h⟩:=h;have hx2:=hx';obtain⟨ad,m,cap,g1,rfl,g3,g4,g5,g6,g7⟩:=hx2;have k1:=ic hρ hlo 0 h0;have k2:=ic hρ hhi xs.length (by omega);have k3:=ic hρ hmx xs.length (by omega);rw[g1]at hx';generalize hL:bz ρ' ((0:Nat):Int) lo'=l at *;generalize hH:bz ρ' (xs.length:Int) hi'=hh at *;generalize hM:bz ρ' (xs.length:Int) mx'=q at *;have a1:(lo.map ρ=none/\l.toNat=0)\/∃k,lo.map ρ=some (.int k l.toNat):=k1.imp (fun x=>x.2) (fun x=>x.2)
  have a2:(hi.map ρ=none/\hh.toNat=xs.length)\/∃k,hi.map ρ=some (.int k hh.toNat):=k2.imp (fun x=>x.2) (fun x=>x.2)
  rcases k3 with⟨b1,b2,b3⟩|⟨b1,b2⟩
  ·have r:=run g1 a1 a2 (.inl ⟨b2,rfl⟩) (by omega) (by omega) (Nat.le_refl _);subst b1;refine Snd.of hr h r (Rl.sliced hx' he (by omega) (by omega) (by omega) (Nat.le_refl _) fun hc=>?_);simp only[Bool.and_eq_true,Option.isNone_iff_eq_none]at hc;obtain⟨hc1,rfl⟩:=hc;have:=g5 hc1;simp only[bz]at hH;omega
  ·have hne:hi.map ρ≠none:=by
    have:hi'≠none:=h4.resolve_left b1;have h5:=(not_congr (iG hhi)).1 this;simpa using h5
   have r:=run g1 a1 a2 (.inr ⟨b2,hne⟩) (by omega) (by omega) (by omega);refine Snd.of hr h r (Rl.sliced hx' he (by omega) (by omega) (by omega) (by omega) fun hc=>?_);cases mx' with
   |none=>exact absurd rfl b1
   | some _ =>
     simp only[decide_eq_true_eq]at hc;omega
 ·rename_i e' id off len hv
  rw[hv]at hx';obtain⟨rfl,h⟩:=h;have hx2:=hx';obtain⟨ad,cap,L,g1,g2,g3,g4,g5,g6⟩:=hx2;split at h
  ·obtain⟨h0,h1,h2,h⟩:=h
   have k1:=ic hρ hlo 0 h0;have k2:=ic hρ hhi len (by omega);have hmn:mx=none:=(iG hmx).1 rfl;subst hmn;generalize hL:bz ρ' ((0:Nat):Int) lo'=l at *;generalize hH:bz ρ' (len:Int) hi'=hh at *;have a1:(lo.map ρ=none/\l.toNat=0)\/∃k,lo.map ρ=some (.int k l.toNat):=k1.imp (fun x=>x.2) (fun x=>x.2)
   have a2:(hi.map ρ=none/\hh.toNat=len)\/∃k,hi.map ρ=some (.int k hh.toNat):=k2.imp (fun x=>x.2) (fun x=>x.2)
   have r:=run g1 a1 a2 (.inl ⟨rfl,rfl⟩) (by omega) (by omega) (Nat.le_refl _);refine Snd.of hr h r ⟨_,_,L,rfl,by omega,by omega,fun hn=>?_,g5,?_⟩
   ·unfold rJ at hn;split at hn
    ·omega
    ·have:=g4 (by simpa using hn);omega
   ·have e3:off+l.toNat+(cap-l.toNat)=off+cap:=by omega
    rcases g6 with⟨g6,g7⟩|⟨g6,rfl,g7⟩
    ·have e4:l.toNat=0:=by omega
     exact .inl ⟨by omega,fun h=>by rw[e4];exact g7 h⟩
    ·by_cases hc:cap=l.toNat
     ·exact .inl ⟨by omega,fun h=>by rw[<-hc];exact g7⟩
     ·right
      refine⟨g6,by simp[rJ,hc,f4,Nat.add_mul,Nat.add_assoc],?_⟩;rw[e3];exact g7
  ·rename_i m
   obtain⟨h0,h1,h2,h3,h⟩:=h;have h1:bz ρ' ((0:Nat):Int) lo'=0:=h1;have k1:=ic hρ hlo 0 (by omega);have k2:=ic hρ hhi len (by omega);have k3:=ic hρ hmx len (by omega);have a1:(lo.map ρ=none/\0=0)\/∃k,lo.map ρ=some (.int k ((0:Nat):Int)):=k1.imp (fun x=>⟨x.2.1,rfl⟩) (fun x=>by obtain⟨_,k,hk⟩:=x;exact⟨k,by rw[hk,h1];rfl⟩)
   have a2:∃k,hi.map ρ=some (.int k ((0:Nat):Int)):=by
    rcases k2 with⟨q,_⟩|⟨_,k,hk⟩
    ·exact absurd q h0
    ·exact⟨k,by rw[hk,h2];rfl⟩
   have a3:∃k,mx.map ρ=some (.int k ((0:Nat):Int)):=by
    rcases k3 with⟨q,_⟩|⟨_,k,hk⟩
    ·cases q
    ·exact⟨k,by rw[hk,h3];rfl⟩
   have r:=run g1 a1 (.inr a2) (.inr ⟨a3,by obtain⟨k,hk⟩:=a2;rw[hk];simp⟩) (Nat.le_refl 0) (Nat.le_refl 0) (Nat.zero_le _);exact Snd.of hr h r ⟨_,0,0,rfl,rfl,Nat.le_refl _,Nat.zero_le _,fun _=>rfl,fun _=>rfl,.inl rfl⟩
 ·rename_i e' id off len hv
  rw[hv]at hx';obtain⟨rfl,rfl,h0,h1,h2,h⟩:=h;have hx2:=hx';obtain⟨ad,cap,L,g1,g2,g3,g4,g5,g6,g7⟩:=hx2;have k1:=ic hρ hlo 0 h0;have k2:=ic hρ hhi len (by omega);have hmn:mx=none:=(iG hmx).1 rfl;subst hmn;generalize hL:bz ρ' ((0:Nat):Int) lo'=l at *;generalize hH:bz ρ' (len:Int) hi'=hh at *;have a1:(lo.map ρ=none/\l.toNat=0)\/∃k,lo.map ρ=some (.int k l.toNat):=k1.imp (fun x=>x.2) (fun x=>x.2)
  have a2:(hi.map ρ=none/\hh.toNat=len)\/∃k,hi.map ρ=some (.int k hh.toNat):=k2.imp (fun x=>x.2) (fun x=>x.2)
  have r:=run g1 a1 a2 (.inl ⟨rfl,rfl⟩) (by omega) (by omega) (Nat.le_refl _);refine Snd.of hr h r ⟨_,_,L,rfl,by omega,by omega,fun hn=>?_,g5,g6,?_⟩
  ·unfold rJ at hn;split at hn
   ·omega
   ·have:=g4 (by simpa using hn);omega
  ·rcases g7 with g7|rfl
   ·left;omega
   ·by_cases hc:cap=l.toNat
    ·left;omega
    ·right
     simp[rJ,hc,f4,Nat.add_assoc]
 ·exact h.elim
end
theorem jV.same{E E':Env}(h1:E'.loc=E.loc)(h2:E'.F=E.F)(h3:E'.w.heap=E.w.heap):jV E E':=
 ⟨fun id L h=>by rw[h1];exact h,by rw[h3];exact Nat.le_refl _,fun b _ hb=>⟨by rw[h2];exact hb,by rw[h3]⟩⟩
section
variable{X:Nat->Prop}{loc loc':Nat->Option Loc}{σ σ':St}{w w':World}{n:Nat}{P:Program}{ρ:Operand->Value}{ρ':Opd->AV}{K:AV->List Nat->Bool->St->Prop}
variable(hr:Rel X loc σ w)(hρ:lw (aR X loc σ w) ρ ρ')
include hr hρ
theorem YV{o:Oper}{t e:TypeId}{m:Nat}{x:Operand}{lo hi:Option Operand}{a:Opd}{lo' hi':Option Opd}{ti:TypeInfo}(ho:o.op=.slice t x lo hi none)(ht:P.underlying t=some (.array m e))(hti:P.info? e=some ti)(hm:m<=maxLen)
 (hx:az x=some a) (hlo:eU lo=some lo') (hhi:eU hi=some hi') (h:opF n σ ρ' K (.sliA ti.size m a lo' hi')):Snd X loc σ w n ((execOp ρ o).run P w) K:=by
 simp only[opF]at h;have hx':=hρ x a hx;split at h
 ·rename_i id oo hv
  rw[hv]at hx';obtain⟨h0,h1,h2,h⟩:=h;obtain⟨L,g1,g2,g3⟩:=hx';have k1:=ic hρ hlo 0 h0;have k2:=ic hρ hhi m (by omega);generalize hL:bz ρ' ((0:Nat):Int) lo'=l at *;generalize hH:bz ρ' (m:Int) hi'=hh at *;have a1:(lo.map ρ=none/\l.toNat=0)\/∃k,lo.map ρ=some (.int k l.toNat):=k1.imp (fun x=>x.2) (fun x=>x.2)
  have a2:(hi.map ρ=none/\hh.toNat=m)\/∃k,hi.map ρ=some (.int k hh.toNat):=k2.imp (fun x=>x.2) (fun x=>x.2)
  obtain⟨l,rfl⟩:=Int.eq_ofNat_of_zero_le h0;obtain⟨q,rfl⟩:=Int.eq_ofNat_of_zero_le (show 0<=hh by omega);simp only[Int.toNat_natCast]at a1 a2 h;have c1:(l:Int)<=(q:Int):=h1;have c2:(q:Int)<=(m:Int):=h2;have c3:l<=q:=by omega
  have c4:q<=m:=by omega
  have run:(execOp ρ o).run P w=.ok (.value (.slice (some (if m=l then ⟨L.blk,L.base+oo,none⟩else ⟨L.blk,L.base+oo+l*ti.size,none⟩)) (q-l) (m-l))) w:=by
   have e0:(Instr.sliceAt t (ρ x) (lo.map ρ) (hi.map ρ) none).run P w=.ok (.slice (some (if m=l then ⟨L.blk,L.base+oo,none⟩else ⟨L.blk,L.base+oo+l*ti.size,none⟩)) (q-l) (m-l)) w:=by
    rw[g3]
    rcases a1 with⟨e1,rfl⟩|⟨k,e1⟩<;>rcases a2 with⟨e2,rfl⟩|⟨k',e2⟩ <;>
     simp[Instr.sliceAt,Instr.sureAddr,Instr.sliceBounds,Instr.sliceBound,asIntOf,run_underlying ht,sizeOf,typeInfo,hti,e1,e2,c1,c2,c3,c4,f4]
   simp only[execOp,ho,Sem.run_bind,Option.map_none];rw[e0];rfl
  refine Snd.of hr h run ⟨_,_,L,rfl,by omega,by omega,by simp,g1,g2,?_⟩;by_cases hc:m=l
  ·left;omega
  ·right;simp[hc,Nat.add_assoc]
 ·exact h.elim
theorem aas {o : Oper} {t u e : TypeId} {d s : Operand} {a b : Opd} {ti : TypeInfo} (ho : o.op = .call { callee := .builtin .copy, args := #[d, s], argTypes := #[t, u] }) (ht : P.underlying t = some (.slice e)) (hti : P.info? e = some ti) (hpos : 0 < ti.size)
 (hd:az d=some a) (hs:az s=some b) (h:opF n σ ρ' K (.cpy ti.size a b)):Snd X loc σ w n ((execOp ρ o).run P w) K:=by
 simp only[opF]at h;have hd':=hρ d a hd;have hs':=hρ s b hs;split at h
 ·exact h.elim
 ·rename_i ys hys
  obtain⟨news,hsrc,hE,hf⟩:=xJ (P:=P) hr (tx:=t) (.inl ⟨e,ht⟩) hpos hys hs';have hlen:=hsrc.len w
  have hexec:∀ {ad:Option Addr} {len cap:Nat} {W:World},ρ d=.slice ad len cap->((match ad with|some a=>storeCells a (news.take (min ys.length len*ti.size))|none=>pure ():Sem Unit)).run P w=.ok () W->(execOp ρ o).run P w=.ok (.value (.int .i64 (min ys.length len:Nat))) W:=by
   intro ad len cap W k1 k2;rw[eg ho];have h2:=hf (min ys.length len) (Nat.min_le_left _ _)
   have e0:(Builtin.copy_ #[t,u] o.type #[ρ d,ρ s]).run P w=.ok (.int .i64 (min ys.length len:Nat)) W:=by
    rw[k1];have hm:Nat.min ys.length len=min ys.length len:=rfl;cases ad with
    | none =>
      simp only[Sem.run_pure,Result.ok.injEq,true_and]at k2;subst k2;simp[Builtin.copy_,run_underlying ht,hlen,sizeOf,typeInfo,hti,hm,h2,goInt]
    | some ad =>
      simp only at k2;simp[Builtin.copy_,run_underlying ht,hlen,sizeOf,typeInfo,hti,hm,h2,k2,goInt]
   simp only[builtin,List.map_toArray,List.map_cons,List.map_nil,Sem.run_bind];rw[e0];rfl
  have hnl:(news.take (min ys.length (0:Nat)*ti.size))=[]:=by simp
  split at h
  ·rename_i e' id off len hv
   rw[hv]at hd';obtain⟨rfl,h⟩:=h;obtain⟨ad,cap,L,g1,g2,g3,g4,g5,g6⟩:=hd';split at h
   ·rename_i e2 xs hσ
    obtain⟨rfl,hle,h⟩:=h;by_cases hz:min ys.length len=0
    ·have e0:(news.take (min ys.length len*ti.size))=[]:=by rw[hz];simp
     refine Snd.turned (σ':=σ.set id (.vec ti.size (xs.take off++ys.take (min ys.length len)++xs.drop (off+min ys.length len)))) ?_ (by simp) h (.inl (hexec g1 (W:=w) ?_)) rfl
     ·have e1:xs.take off++ys.take (min ys.length len)++xs.drop (off+min ys.length len)=xs:=by rw[hz];simp
      rw[e1]
      have e9:σ.set id (.vec ti.size xs)=σ:=by
       apply List.ext_getElem?
       intro j;by_cases hj:id=j
       ·subst hj;obtain⟨hlt,hget⟩:=List.getElem?_eq_some_iff.1 hσ;simp[hlt,hget]
       ·rw[List.getElem?_set_ne hj]
      rw[e9];exact⟨hr,fun _ h=>h,Ev.refl _ _⟩
     ·rw[e0];cases ad<;>rfl
    ·rcases g6 with g6|⟨g6,rfl,g7⟩
     ·omega
     ·rcases hr.vec hσ g5 with⟨k0,_⟩|⟨_,cs,vs,ws,tt,k2,k3,k4,k5,k51⟩
      ·rw[g6]at k0;cases k0
      ·have hvl:=k5.length;have hnl:=hE.length;have k6:=(hE.take (min ys.length len));have k7:=((k5.take off).app k6).app (k5.drop (off+min ys.length len));have q1:(off+min ys.length len)*ti.size<=vs.length:=by rw[hvl];exact Nat.mul_le_mul_right _ (by omega)
       rw[Nat.add_mul]at q1;have q2:min ys.length len*ti.size<=ys.length*ti.size:=Nat.mul_le_mul_right _ (Nat.min_le_left _ _);have q3:(news.take (min ys.length len*ti.size)).length=min ys.length len*ti.size:=by simp;omega
       have e1:vs.drop ((off+min ys.length len)*ti.size)=vs.drop (off*ti.size+(news.take (min ys.length len*ti.size)).length):=by rw[q3,Nat.add_mul]
       rw[e1]at k7;have k9:=hr.putVec hσ g5 g6 k2 k3 k4 k7 (by simp;omega) k51;rw[<-oc cs vs ws _ (off*ti.size) (by omega)]at k9;refine Snd.turned k9 (by simp) h (.inl (hexec g1 ?_)) rfl;have hst:=run_storeCells_at (P:=P) L.blk (L.base+off*ti.size) tt (news.take (min ys.length len*ti.size)) 0 _ w k2 (by simp;omega) (fun u hu=>hsrc.one u (List.mem_of_mem_take hu));simp only[Nat.add_zero]at hst;simpa[k3]using hst
   ·exact h.elim
  ·rename_i e' id off len hv
   rw[hv]at hd';obtain⟨rfl,h⟩:=h;obtain⟨ad,cap,L,g1,g2,g3,g4,g5,g6,g7⟩:=hd';split at h
   ·rename_i cs hσ
    obtain⟨hle,h⟩:=h;obtain⟨_,k1,vs,tt,k2,k3⟩:=hr.var hσ g5;have hvl:=k3.length;have hnl:=hE.length;have q2:min ys.length len*ti.size<=ys.length*ti.size:=Nat.mul_le_mul_right _ (Nat.min_le_left _ _);have q4:min ys.length len*ti.size<=len*ti.size:=Nat.mul_le_mul_right _ (Nat.min_le_right _ _);have q3:(news.take (min ys.length len*ti.size)).length=min ys.length len*ti.size:=by simp;omega
    have k6:=RlE.flat (hE.take (min ys.length len));have k7:=k3.spl k6 off;by_cases hz:min ys.length len=0
    ·have e0:(news.take (min ys.length len*ti.size))=[]:=by rw[hz];simp
     refine Snd.turned (σ':=σ.set id (.var (spl cs off (ys.take (min ys.length len)).flatten))) ?_ (by simp) h (.inl (hexec g1 (W:=w) ?_)) rfl
     ·have e1:spl cs off (ys.take (min ys.length len)).flatten=cs:=by rw[hz];simp[spl]
      rw[e1]
      have e2:σ.set id (.var cs)=σ:=by
       apply List.ext_getElem?
       intro j;by_cases hj:id=j
       ·subst hj;obtain⟨hlt,hget⟩:=List.getElem?_eq_some_iff.1 hσ;simp[hlt,hget]
       ·rw[List.getElem?_set_ne hj]
      rw[e2];exact⟨hr,fun _ h=>h,Ev.refl _ _⟩
     ·rw[e0];cases ad<;>rfl
    ·rcases g7 with g7|rfl
     ·omega
     ·refine Snd.turned (hr.putVar hσ g5 _ k7) (by simp) h (.inl (hexec g1 ?_)) rfl;have hst:=run_storeCells_at (P:=P) L.blk (L.base+off) tt (news.take (min ys.length len*ti.size)) 0 _ w k2 (by simp;omega) (fun u hu=>hsrc.one u (List.mem_of_mem_take hu));simp only[Nat.add_zero,k1,Nat.zero_add]at hst;simpa[k1]using hst
   ·exact h.elim
  ·exact h.elim
theorem aak{o:Oper}{s d e:TypeId}{x:Operand}{a:Opd}(ho:o.op=.convert s d x)(hs:P.underlying s=some (.slice e))(he:P.underlying e=some (.int .u8))(hd:P.underlying d=some .string)(hx:az x=some a)
 (h:opF n σ ρ' K (.b2s a)):Snd X loc σ w n ((execOp ρ o).run P w) K:=by
 simp only[opF]at h;split at h
 ·rename_i xs hxs0
  obtain⟨hb,h⟩:=h;have hx':=hρ x a hx;have hns:∀q,ρ' a≠.str q:=by rintro q hq;rw[hq]at hxs0;simp[rdB]at hxs0
  have hxs:rdS σ 1 (ρ' a)=some xs:=by
   rw[<-hxs0];cases hq:ρ' a<;>first|rfl|exact absurd hq (hns _)
  obtain⟨news,hsrc,hE,hf⟩:=xJ (P:=P) hr (tx:=s) (.inl ⟨e,hs⟩) (Nat.one_pos) hxs hx'
  have hcells:news=(xs.map fun c=>Value.int .u8 ((match c with| [.int .u8 m]=>m|_=>0:Int))):=by
   clear hsrc hf hxs hxs0 h;induction xs generalizing news with
   |nil=>simpa[RlE]using hE
   | cons c cs ih =>
     obtain⟨us,ws,rfl,h2,h3,h4⟩:=hE;simp only[List.all_cons,Bool.and_eq_true]at hb;rw[ih hb.2 _ h4];unfold mj at hb;split at hb
     ·obtain⟨u,us',rfl,_,hu,hus⟩:=h3;simp only[Rl]at hu;simp only[RlC]at hus;subst hu;subst hus;simp
     ·simp at hb
  have hfull:=hf xs.length (Nat.le_refl _);have hnl:=hE.length;rw[Nat.mul_one]at hfull hnl;rw[List.take_of_length_le (by omega)]at hfull
  have hfold:∀ (ns:List Int) (acc:ByteArray),(ns.foldl (fun r n=>r.push (UInt8.ofNat n.toNat)) acc)=⟨(acc.data.toList++ns.map fun n=>UInt8.ofNat n.toNat).toArray⟩:=by
   intro ns;induction ns with
   |nil=>intro acc;simp
   | cons n ns ih =>
     intro acc;rw[List.foldl_cons,ih];simp[ByteArray.push]
  have hval:(xs.map uC)=(xs.map fun c=>(match c with| [.int .u8 m]=>m|_=>0:Int)).map fun n=>UInt8.ofNat n.toNat:=by
   rw[List.map_map];apply List.map_congr_left
   intro c hc;have:=List.all_eq_true.1 hb c hc;unfold mj at this;split at this
   ·rfl
   ·cases this
  refine Snd.of hr h (v:=.string ⟨(xs.map uC).toArray⟩) ?_ rfl
  have hsl:(∃ad cap,ρ x=.slice ad xs.length cap/\(ad=none->cap=0)/\xs.length<=cap):=by
   clear hsrc hf h hE hnl hfull hcells;generalize ρ' a=A at *;cases A<;>simp only[rdS,reduceCtorEq]at hxs
   case str q=>exact absurd rfl (hns q)
   case sl e' cl ys=>
    split at hxs
    ·simp only[Option.some.injEq]at hxs;subst hxs;obtain⟨ad,m,cap,g1,g2,g3,g4,g5,g6,_⟩:=hx';subst g2;exact⟨ad,cap,g1,g6,g3⟩
    ·cases hxs
   case hs e' id off len =>
    split at hxs
    ·split at hxs
     ·split at hxs
      ·rename_i hle;simp only[Option.some.injEq]at hxs;obtain⟨ad,cap,L,g1,g2,g3,g4,_⟩:=hx';have hl:xs.length=len:=by rw[<-hxs];simp;omega
       exact⟨ad,cap,by rw[hl];exact g1,g4,by omega⟩
      ·cases hxs
     ·cases hxs
    ·cases hxs
   case va e' id off len =>
    split at hxs
    ·split at hxs
     ·split at hxs
      ·rename_i hle;simp only[Option.some.injEq]at hxs;obtain⟨ad,cap,L,g1,g2,g3,g4,_⟩:=hx';have hl:xs.length=len:=by rw[<-hxs,kx]
       exact⟨ad,cap,by rw[hl];exact g1,g4,by omega⟩
      ·cases hxs
     ·cases hxs
    ·cases hxs
  obtain⟨ad,cap,g1,g2,g3⟩:=hsl
  have hrun:(Conv.bytesToString (ρ x)).run P w=.ok (.string ⟨(xs.map uC).toArray⟩) w:=by
   cases ad with
   | none =>
     have h0:xs=[]:=List.eq_nil_of_length_eq_zero (by have:=g2 rfl;omega);subst h0;rw[g1];simp[Conv.bytesToString];rfl
   | some ad =>
     rw[g1]at hfull ⊢
     have hl:(loadCells ad xs.length).run P w=.ok ((xs.map fun c=>(match c with| [.int .u8 m]=>m|_=>0:Int)).map (Value.int .u8)).toArray w:=by
      simp only[Builtin.firstCells,Nat.mul_one]at hfull;rw[hfull,hcells];simp[List.map_map,Function.comp_def]
     rw[run_bytesToString w ad xs.length cap _ hl,hfold,hval];rfl
  rw[g1]at hrun
  have hcv:(convert s d (ρ x)).run P w=.ok (.string ⟨(xs.map uC).toArray⟩) w:=by
   rw[g1];simp only[convert,Sem.run_bind,run_underlying hs,run_underlying hd,run_underlying he,Result.andThen_ok,hrun]
  simp only[execOp,ho,Sem.run_bind];rw[hcv];rfl
 ·exact h.elim
variable(hn:n<σ.length)(hg:loc n=none)
include hn hg
theorem abS{o:Oper}{t e:TypeId}{l c:Operand}{a b:Opd}{z:List AV}{ti:TypeInfo}(ho:o.op=.makeSlice t l c)(ht:P.underlying t=some (.slice e))(hz:jT P e=some z)(hti:P.info? e=some ti)(hpos:0<ti.size)
 (hl:az l=some a) (hc:az c=some b) (h:opF n σ ρ' K (.mk ti.size ti.bytes z a b)):Snd X loc σ w n ((execOp ρ o).run P w) K:=by
 simp only[opF]at h;split at h
 ·rename_i k1 x k2 y hx hy
  obtain⟨h0,h1,h2,h3,h⟩:=h;have hx':=hρ l a hl;have hy':=hρ c b hc;rw[hx]at hx';rw[hy]at hy';simp only[Rl]at hx' hy';obtain⟨i,zv,hi,hzv,hzs,hzc⟩:=iC hz;rw[hti]at hi;cases hi;have hrun:=run_make (P:=P) w t e ti zv ht hti hzv k1 k2 x y h0 h1 h2 h3;have hzl:zv.cells.toList.length=ti.size:=by simpa using hzs
  have hcells:(madeCells zv.cells (y.toNat*ti.size)).toList=(List.replicate y.toNat zv.cells.toList).flatten:=by
   have:=oW zv.cells.toList (by omega) y.toNat
   rwa [hzl,Array.toArray_toList]at this
  have hsplit:(List.replicate y.toNat zv.cells.toList).flatten=(List.replicate x.toNat zv.cells.toList).flatten++(List.replicate (y.toNat-x.toNat) zv.cells.toList).flatten:=by
   rw[<-List.flatten_append,List.replicate_append_replicate];congr 2;omega
  refine Snd.alloc hr hn hg (.vec ti.size (List.replicate x.toNat z)) ⟨true,w.heap.size,0,y.toNat*ti.size⟩ rfl rfl (.cells (madeCells zv.cells (y.toNat*ti.size)) e (0,0)) (v:=.slice (some ⟨w.heap.size,0,none⟩) x.toNat y.toNat) h (fun E hE hw=>?_) ?_ (fun E hE=>?_)
  ·refine .inr ⟨rfl,[],(List.replicate x.toNat zv.cells.toList).flatten,(List.replicate (y.toNat-x.toNat) zv.cells.toList).flatten,e,?_,rfl,?_,RlE.rep (RlC.ofCells E hzc) hzl _,fun u hu=>by obtain⟨l,hl,hu⟩:=List.mem_flatten.1 hu;rw[List.eq_of_mem_replicate hl]at hu;exact jP hzc u hu⟩
   ·rw[hw,_root_.Go.heap_alloc_new];congr 2;apply Array.toList_inj.1
    rw[hcells,hsplit];simp
   ·have:=congrArg List.length hcells;rw[hsplit]at this;simp only[Array.length_toList,size_madeCells]at this;simpa using this.symm
  ·simp only[execOp,ho,hx',hy',Sem.run_bind];rw[hrun];rfl
  ·refine⟨_,_,_,rfl,by omega,by simp only[maxLen];omega,by simp,hE,.inr ⟨rfl,by simp,by simp⟩⟩
 ·exact h.elim
end
end Go.FH
