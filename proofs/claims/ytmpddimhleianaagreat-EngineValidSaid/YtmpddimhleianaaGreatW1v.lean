/-
 My texts Base, Av, Aw, Ae, Ao, As, At, Au, Ax, Ay, Az, joined.
-/
import Derived.WalkKit
import Derived.WalkSpells
import Derived.WalkLawsBesides
import Derived.ChangeKeysEq
import Derived.Lib.Hide
import Derived.Laws.AppendOwnNone
import Derived.Handy
import Derived.Laws.StructEq
import Derived.Deep.AppendSrc
import Derived.Laws.Append
import Derived.Laws.MakeOwn
import Derived.Laws.BytesString
import Derived.Laws.AppendOwn
import Derived.Laws.CopyRow
import Derived.Laws.Tables
import Derived.Great.BuildSlice
set_option linter.unusedVariables false
set_option linter.unusedSimpArgs false
namespace Go.FH
open Go Go.RowKit
theorem af0{p:Prop}(h:p:=by omega):p:=h
theorem af1{p:Prop}(h:p:=by simp):p:=h
theorem af2{p:Prop}(h:p:=by decide):p:=h
theorem af3{p:Prop}(h:p:=by grind):p:=h
theorem af4{p:Prop}(h:p:=by simp_all):p:=h
theorem af5{p:Prop}(h:p:=by rfl):p:=h
abbrev adp:=@Array.getD_eq_getD_getElem?
abbrev adV:=@Array.getElem?_eq_some_iff
abbrev ae0:=@Array.length_toList
abbrev acw:=@Array.toList_inj
abbrev aev:=@Array.toList_map
abbrev aee:=@BitVec.toNat_and
abbrev aeL:=@BitVec.toNat_ofNat
abbrev adv:=@Bool.and_assoc
abbrev aen:=@Bool.and_eq_false_iff
abbrev afL:=@Bool.and_eq_true
abbrev aef:=@Bool.and_false
abbrev adI:=@Bool.and_true
abbrev ado:=@Bool.beq_eq_decide_eq
abbrev aeZ:=@Bool.decide_and
abbrev acU:=@Bool.eq_iff_iff
abbrev acI:=@Bool.false_and
abbrev afP:=@Bool.false_eq_true
abbrev ac9:=@Bool.false_or
abbrev adM:=@Bool.not_eq_false
abbrev aej:=@Bool.not_eq_false'
abbrev acE:=@Bool.not_eq_true
abbrev ad3:=@Bool.not_eq_true'
abbrev adZ:=@Bool.not_false
abbrev adP:=@Bool.not_true
abbrev ad4:=@Bool.or_eq_false_iff
abbrev adm:=@Bool.or_eq_true
abbrev aeE:=@Bool.or_false
abbrev aeT:=@Bool.or_true
abbrev acD:=@Bool.true_and
abbrev aei:=@Bool.true_eq_false
abbrev aeh:=@Bool.true_or
abbrev ae9:=@Decidable.byContradiction
abbrev aeN:=@Iff.rfl
abbrev adB:=@Int.ediv_le_self
abbrev adx:=@Int.ediv_nonneg
abbrev afF:=@Int.eq_ofNat_of_zero_le
abbrev ade:=@Int.fdiv_eq_ediv_of_nonneg
abbrev aez:=@Int.le_of_lt
abbrev afT:=@Int.le_refl
abbrev adK:=@Int.le_trans
abbrev afu:=@Int.lt_irrefl
abbrev aeR:=@Int.mul_nonneg
abbrev ac8:=@Int.not_lt
abbrev acy:=@Int.tdiv_eq_ediv_of_nonneg
abbrev adC:=@Int.tmod_eq_emod_of_nonneg
abbrev afH:=@Int.toNat_natCast
abbrev afW:=@Int.toNat_of_nonneg
abbrev adD:=@List.Sublist.refl
abbrev ad6:=@List.all_cons
abbrev aew:=@List.all_eq_true
abbrev ads:=@List.any_eq_true
abbrev afZ:=@List.append_assoc
abbrev aeY:=@List.append_inj
abbrev acH:=@List.append_nil
abbrev aeG:=@List.cons.injEq
abbrev aea:=@List.cons_append
abbrev adz:=@List.drop_append
abbrev adg:=@List.drop_append_of_le_length
abbrev adj:=@List.drop_drop
abbrev acG:=@List.drop_eq_getElem_cons
abbrev afj:=@List.drop_eq_nil_of_le
abbrev adR:=@List.drop_length
abbrev acK:=@List.drop_of_length_le
abbrev ae2:=@List.drop_take
abbrev aeP:=@List.drop_zero
abbrev afV:=@List.eq_nil_of_length_eq_zero
abbrev aeD:=@List.eq_of_mem_replicate
abbrev aeA:=@List.ext_getElem
abbrev ac1:=@List.ext_getElem?
abbrev ae5:=@List.filter_append
abbrev adn:=@List.findIdx?_eq_some_iff_getElem
abbrev afa:=@List.flatten_cons
abbrev aep:=@List.foldl_append
abbrev ad1:=@List.foldl_cons
abbrev afm:=@List.foldl_nil
abbrev afy:=@List.getD_eq_getElem?_getD
abbrev adr:=@List.getElem?_append
abbrev afU:=@List.getElem?_append_left
abbrev acS:=@List.getElem?_append_right
abbrev aed:=@List.getElem?_cons_succ
abbrev adq:=@List.getElem?_cons_zero
abbrev ae4:=@List.getElem?_drop
abbrev afz:=@List.getElem?_eq_getElem
abbrev adb:=@List.getElem?_eq_none
abbrev afO:=@List.getElem?_eq_some_iff
abbrev acs:=@List.getElem?_map
abbrev ad9:=@List.getElem?_range
abbrev aec:=@List.getElem?_replicate
abbrev ac4:=@List.getElem?_set
abbrev aet:=@List.getElem?_set_ne
abbrev ae3:=@List.getElem?_take
abbrev afd:=@List.getElem_inj
abbrev afY:=@List.getElem_mem
abbrev acp:=@List.getElem_of_mem
abbrev afB:=@List.length_append
abbrev afG:=@List.length_cons
abbrev acT:=@List.length_drop
abbrev aeV:=@List.length_filter_le
abbrev adw:=@List.length_map
abbrev afM:=@List.length_nil
abbrev adE:=@List.length_pos_iff
abbrev ada:=@List.length_replicate
abbrev adO:=@List.length_set
abbrev ad0:=@List.length_singleton
abbrev adG:=@List.length_take
abbrev acu:=@List.map_append
abbrev acN:=@List.map_congr_left
abbrev acv:=@List.map_cons
abbrev ad7:=@List.map_drop
abbrev afi:=@List.map_map
abbrev acX:=@List.map_nil
abbrev afk:=@List.map_set
abbrev ael:=@List.map_take
abbrev adF:=@List.map_toArray
abbrev afR:=@List.mem_append
abbrev adf:=@List.mem_append_left
abbrev acW:=@List.mem_cons
abbrev acA:=@List.mem_cons_of_mem
abbrev adX:=@List.mem_cons_self
abbrev aeW:=@List.mem_iff_getElem?
abbrev acz:=@List.mem_map
abbrev acP:=@List.mem_of_getElem?
abbrev aeu:=@List.mem_of_mem_drop
abbrev adL:=@List.mem_of_mem_take
abbrev aeB:=@List.mem_or_eq_of_mem_set
abbrev afN:=@List.mem_singleton
abbrev adt:=@List.mem_take_iff_getElem
abbrev adN:=@List.nil_append
abbrev aff:=@List.nil_sublist
abbrev ae6:=@List.nodup_nil
abbrev ac6:=@List.pairwise_append
abbrev ac5:=@List.pairwise_cons
abbrev acY:=@List.pairwise_iff_getElem
abbrev acV:=@List.range_succ
abbrev adl:=@List.range_zero
abbrev ad8:=@List.replicate_succ
abbrev aek:=@List.set_append
abbrev aeU:=@List.set_append_right
abbrev acx:=@List.set_cons_succ
abbrev act:=@List.set_cons_zero
abbrev ad2:=@List.size_toArray
abbrev afs:=@List.take_add
abbrev acB:=@List.take_add_one
abbrev adQ:=@List.take_append
abbrev afX:=@List.take_append_drop
abbrev afS:=@List.take_append_of_le_length
abbrev ae7:=@List.take_left
abbrev acL:=@List.take_length
abbrev afD:=@List.take_of_length_le
abbrev adW:=@List.take_take
abbrev aeb:=@List.take_zero
abbrev acZ:=@Nat.add_assoc
abbrev afg:=@Nat.add_comm
abbrev acQ:=@Nat.add_mul
abbrev adc:=@Nat.add_sub_cancel_left
abbrev acR:=@Nat.add_zero
abbrev acF:=@Nat.eq_zero_or_pos
abbrev adA:=@Nat.le_add_right
abbrev afh:=@Nat.le_of_eq
abbrev aex:=@Nat.le_of_not_lt
abbrev afE:=@Nat.le_refl
abbrev ad5:=@Nat.le_succ
abbrev aer:=@Nat.le_succ_of_le
abbrev acn:=@Nat.le_trans
abbrev adJ:=@Nat.lt_irrefl
abbrev ady:=@Nat.lt_of_lt_of_le
abbrev aeg:=@Nat.lt_or_ge
abbrev adS:=@Nat.lt_succ_self
abbrev aeo:=@Nat.lt_trichotomy
abbrev adk:=@Nat.min_eq_left
abbrev aeF:=@Nat.min_le_left
abbrev acr:=@Nat.mul_le_mul_right
abbrev acO:=@Nat.mul_one
abbrev acJ:=@Nat.not_lt_zero
abbrev aey:=@Nat.sub_self
abbrev adh:=@Nat.sub_zero
abbrev ae1:=@Nat.succ_mul
abbrev acC:=@Nat.zero_add
abbrev afK:=@Nat.zero_le
abbrev aeI:=@Nat.zero_lt_one
abbrev afv:=@Ne.symm
abbrev ac2:=@Option.bind_eq_some_iff
abbrev adT:=@Option.bind_some
abbrev ac7:=@Option.getD_some
abbrev adH:=@Option.isSome_iff_exists
abbrev aeJ:=@Option.isSome_none
abbrev ae8:=@Option.isSome_some
abbrev afI:=@Option.map_eq_some_iff
abbrev aeH:=@Option.map_some
abbrev afC:=@Option.some.injEq
abbrev adY:=@Option.toList_some
abbrev afc:=@Prod.mk.injEq
abbrev aem:=@UInt8.lt_iff_toNat_lt
abbrev aeK:=@UInt8.toNat_ofNat'
abbrev afr:=@and_false
abbrev afo:=@and_true
abbrev adu:=@beq_eq_false_iff_ne
abbrev ac0:=@beq_iff_eq
abbrev aeC:=@bne_eq_false_iff_eq
abbrev aeM:=@bne_iff_ne
abbrev acM:=@congrArg
abbrev adU:=@decide_eq_decide
abbrev afQ:=@decide_eq_false_iff_not
abbrev aeQ:=@decide_eq_true
abbrev afJ:=@decide_eq_true_eq
abbrev afl:=@decide_false
abbrev afb:=@decide_true
abbrev afe:=@false_and
abbrev afp:=@false_or
abbrev acq:=@if_false
abbrev afx:=@if_neg
abbrev afA:=@if_pos
abbrev aco:=@if_true
abbrev afw:=@ne_eq
abbrev aeS:=@not_false_eq_true
abbrev GG:=@not_or
abbrev aeq:=@not_true_eq_false
abbrev adi:=@of_decide_eq_false
abbrev ac3:=@of_decide_eq_true
abbrev aeO:=@or_false
abbrev aes:=@true_and
abbrev afq:=@true_or
def range?(w:World)(b off n:Nat):Option (Array Value):=
 match w.heap[b]? with
 |some (.cells c _ _)=>if off+n<=c.size then some (c.extract off (off+n))else none
 |_=>none
theorem range?_cells{w:World}{b off n:Nat}{cs:Array Value}(h:range? w b off n=some cs):
 cs.size=n/\∀j v,cs[j]?=some v->w.cell? ⟨b,off+j,none⟩=some v:=by
 unfold range? at h;split at h
 ·rename_i c _ _ d
  split at h
  ·simp only[afC]at h;subst h;refine⟨af3,fun j v a=>?_⟩;rw[Array.getElem?_extract]at a;split at a
   ·simp[World.cell?,d,a]
   grind
  grind
 grind
@[go_sem] theorem range?_drew(w:World)(n off k:Nat):range? w.drew n off k=range? w n off k:=rfl
theorem range?_block{w w':World}{b:Nat}(h:w'.heap[b]?=w.heap[b]?)(off k:Nat):range? w' b off k=range? w b off k:=by
 unfold range?;rw[h]
theorem range?_of{w:World}{b:Nat}{c:Array Value}{t:TypeId}{f:Nat×Nat}(h:w.heap[b]?=some (.cells c t f))(off k:Nat)(d:off+k<=c.size):range? w b off k=some (c.extract off (off+k)):=by
 unfold range?;grind
def LB(P:Program)(t:TypeId):Bool:=(match P.underlying t with|some (.struct _)|some (.array _ _)=>true|_=>false)&&(P.info? t).isSome
def K0(P:Program)(t:TypeId):Nat:=match P.info? t with|some i=>i.size|none=>0
theorem xk(P:Program)(w:World)(b off:Nat)(t:TypeId)(cs:Array Value)(f:LB P t=true)(h:range? w b off (K0 P t)=some cs):
 (loadVar t ⟨b,off,none⟩).run P w=.ok (.agg cs) w:=by
 obtain⟨r,x⟩:=range?_cells h;unfold LB at f;rw[afL]at f;obtain⟨p,k⟩:=f;obtain⟨i,o⟩:=adH.1 k
 have m:(loadCells ⟨b,off,none⟩ cs.toList.length).run P w=.ok cs.toList.toArray w:=
  run_loadCells_list (P:=P) w ⟨b,off,none⟩ cs.toList (fun j v y=>by
   have n:(⟨b,off,none⟩:Addr).add j=⟨b,off+j,none⟩:=by unfold Addr.add;simp
   grind)
 have g:i.size=cs.size:=by rw[r];simp[K0,o]
 cases u:P.underlying t with
 |none=>grind
 | some d =>
   have c:(isAgg t).run P w=.ok true w:=by
    unfold isAgg;rw[Sem.run_bind,run_underlying u w];cases d<;>simp_all
   simp only[ae0]at m;simp[loadVar,c,sizeOf,typeInfo,o,g,m]
@[go_sem] theorem range?_drewN(w:World)(q n off k:Nat):range? (w.drewN q) n off k=range? w n off k:=rfl
def plain(vs:Array Value):Bool:=vs.all (·.oneCell')
structure Sl(w:World)(S:Nat->Prop)(a:Option Addr)(n cap:Nat)(cs:List Value):Prop where
 len:cs.length=n
 le:n<=cap
 cmax:cap<=maxLen
 nocap:a=none->cap=0
 addr:cap=0\/∃b off,a=some ⟨b,off,none⟩/\S b/\b<w.heap.size/\∀j u,cs[j]?=some u->w.cell? ⟨b,off+j,none⟩=some u
theorem Sl.nil(w:World)(S:Nat->Prop):Sl w S none 0 0 []:=⟨rfl,afE _,af0,fun _=>rfl,.inl rfl⟩
theorem Sl.frame{w w':World}{S:Nat->Prop}{a:Option Addr}{n cap:Nat}{cs:List Value}(h:Sl w S a n cap cs)(hz:w.heap.size<=w'.heap.size)(hf:∀b,S b->b<w.heap.size->w'.heap[b]?=w.heap[b]?):Sl w' S a n cap cs:=
 ⟨h.len,h.le,h.cmax,h.nocap,h.addr.imp id fun ⟨b,off,e,hS,hlt,hc⟩=>⟨b,off,e,hS,ady hlt hz,fun j u hj=>(World.cell?_of_block (a:=⟨b,off+j,none⟩) (hf b hS hlt)).trans (hc j u hj)⟩⟩
theorem Sl.mono{w:World}{S S':Nat->Prop}{a:Option Addr}{n cap:Nat}{cs:List Value}(h:Sl w S a n cap cs)(hS:∀b,S b->b<w.heap.size->S' b):Sl w S' a n cap cs:=
 ⟨h.len,h.le,h.cmax,h.nocap,h.addr.imp id fun ⟨b,off,e,h1,hlt,hc⟩=>⟨b,off,e,hS b h1 hlt,hlt,hc⟩⟩
def Own(w:World)(B:Nat)(e:TypeId)(v:Value)(cs:List Value):Prop:=w.ownsRow B e 1 v cs.length cs
theorem Own.sl{w:World}{B:Nat}{e:TypeId}{v:Value}{cs:List Value}(h:Own w B e v cs):
 ∃a n c,v=.slice a n c/\n=cs.length/\Sl w (fun b=>B<=b) a n c cs:=by
 have f:w.ownsRow B e 1 v cs.length cs:=h;rcases f.2 with⟨rfl,s⟩|⟨g,c,l,rfl,m,o,p,q,x,y⟩
 ·have:cs=[]:=afV s;subst this;exact⟨none,0,0,rfl,rfl,Sl.nil _ _⟩
 ·refine⟨some ⟨g,0,none⟩,cs.length,c,rfl,rfl,⟨rfl,p,q,af1,.inr ⟨g,0,rfl,m,(adV.1 o).1,fun j u t=>?_⟩⟩⟩;have:=f.cells (g:=g) rfl j u t;have i:(⟨g,0,none⟩:Addr).add j=⟨g,0+j,none⟩:=by unfold Addr.add;grind
  grind
theorem Own.mono{w:World}{B B':Nat}{e:TypeId}{v:Value}{cs:List Value}(h:Own w B e v cs)(hB:B'<=B):Own w B' e v cs:=
 ⟨h.1,h.2.imp id fun ⟨g,cap,cur,h1,h2,h3⟩=>⟨g,cap,cur,h1,acn hB h2,h3⟩⟩
structure abP(P:Program)(t e:TypeId)(bytes:Nat):Prop where
 slice:P.underlying t=some (.slice e)
 info:(P.info? e).map (fun i=>(i.zero.map (·.cells.size),i.size,i.bytes))=some (some 1,1,bytes)
def vN(a:Option Addr)(lo cap size:Nat):Option Addr:=if cap=lo then a else a.map (·.add (lo*size))
theorem Own.none{w:World}{B:Nat}{e:TypeId}{v:Value}(h:Own w B e v []):∃a b,v=.slice a 0 b:=by
 obtain⟨a,n,b,rfl,d,_⟩:=h.sl;grind
inductive AV where
 |dead
 |bool (b:Bool)
 |int (k:IntKind) (n:Int)
 |str (s:List UInt8)
 |agg (cs:List AV)
 |sl (e:Nat) (cl:Bool) (xs:List (List AV))
 |tup (vs:List AV)
 |ptr (id off:Nat)
 |nilp
 |hs (e id off len:Nat)
 |va (e id off len:Nat)
 |elt (e:Nat) (xs:List (List AV)) (i off:Nat)
 |vp (e id i off:Nat)
 |fn (f:Fn) (caps:List AV)
 |nilf
 |mp (id:Nat)
 |any
 deriving Inhabited
def AV.cell:AV->Bool
 |.dead|.agg _|.tup _=>false
 |_=>true
structure Loc where
 has:Bool
 blk:Nat
 base:Nat
 rows:Nat
 deriving Inhabited
structure Env where
 loc:Nat->Option Loc
 F:Nat->Prop
 w:World
mutual
def Rl(E:Env):AV->Value->Prop
 |.dead,_=>True
 |.bool b,v=>v=.bool b
 |.int k n,v=>v=.int k n
 |.str s,v=>v=.string ⟨s.toArray⟩
 |.agg cs,v=>∃vs:List Value,v=.agg vs.toArray/\RlC E cs vs
 |.sl e cl xs,v=>∃a n cap,v=.slice a n cap/\n=xs.length/\n<=cap/\cap<=maxLen/\(cl=true->cap=n)/\(a=none->cap=0)/\
  (n=0\/∃b off vs,a=some ⟨b,off,none⟩/\b<E.w.heap.size/\¬E.F b/\range? E.w b off (n*e)=some (List.toArray vs)/\RlE E e xs vs)
 |.tup us,v=>∃vs:List Value,v=.tuple vs.toArray/\RlS E us vs
 |.ptr id off,v=>∃L,E.loc id=some L/\L.has=true/\v=.pointer (some ⟨L.blk,L.base+off,none⟩)
 |.nilp,v=>v=.pointer none
 |.hs e id off len,v=>∃a cap L,v=.slice a len cap/\len<=cap/\cap<=maxLen/\(a=none->cap=0)/\E.loc id=some L/\
  ((cap=0/\(L.has=true->L.base+off*e=L.rows))\/(L.has=true/\a=some ⟨L.blk,L.base+off*e,none⟩/\L.base+(off+cap)*e=L.rows))
 |.va e id off len,v=>∃a cap L,v=.slice a len cap/\len<=cap/\cap<=maxLen/\(a=none->cap=0)/\E.loc id=some L/\L.has=true/\
  (cap=0\/a=some ⟨L.blk,L.base+off,none⟩)
 |.elt e xs i off,v=>∃b o vs,v=.pointer (some ⟨b,o+i*e+off,none⟩)/\b<E.w.heap.size/\¬E.F b/\range? E.w b o (xs.length*e)=some (List.toArray vs)/\RlE E e xs vs
 |.vp e id i off,v=>∃L,E.loc id=some L/\L.has=true/\v=.pointer (some ⟨L.blk,L.base+i*e+off,none⟩)
 |.fn f caps,v=>∃vs:List Value,v=.func f #[] vs.toArray/\RlS E caps vs
 |.nilf,v=>v=.nilFunc
 |.mp id,v=>∃L,E.loc id=some L/\L.has=true/\v=.map (some L.blk)
 |.any,v=>v.oneCell'=true
def RlC(E:Env):List AV->List Value->Prop
 | [],vs=>vs=[]
 |c::cs,vs=>∃u us,vs=u::us/\c.cell=true/\Rl E c u/\RlC E cs us
def RlS(E:Env):List AV->List Value->Prop
 | [],vs=>vs=[]
 |c::cs,vs=>∃u us,vs=u::us/\Rl E c u/\RlS E cs us
def RlE(E:Env)(e:Nat):List (List AV)->List Value->Prop
 | [],vs=>vs=[]
 |x::xs,vs=>∃us ws,vs=us++ws/\us.length=e/\RlC E x us/\RlE E e xs ws
end
structure nI(E E':Env):Prop where
 loc:∀id L,E.loc id=some L->E'.loc id=some L
 size:E.w.heap.size<=E'.w.heap.size
 blk:∀b,b<E.w.heap.size->¬E.F b->¬E'.F b/\E'.w.heap[b]?=E.w.heap[b]?
mutual
theorem Rl.mono{E E':Env}(h:nI E E'):∀ (av:AV) (v:Value),Rl E av v->Rl E' av v
 |.dead,_,_=>trivial
 |.bool b,v,hv=>hv
 |.int k n,v,hv=>hv
 |.str s,v,hv=>hv
 | .agg cs, v, hv => by
   obtain⟨vs,e,hc⟩:=hv;exact⟨vs,e,RlC.mono h cs vs hc⟩
 | .sl e cl xs, v, hv => by
   obtain⟨a,n,cap,h1,h2,h3,h4,h5,h6,h7⟩:=hv;refine⟨a,n,cap,h1,h2,h3,h4,h5,h6,h7.imp id ?_⟩;rintro⟨b,off,vs,g1,g2,g3,g4,g5⟩;obtain⟨k1,k2⟩:=h.blk b g2 g3;exact⟨b,off,vs,g1,ady g2 h.size,k1,by rw[range?_block k2];exact g4,RlE.mono h e xs vs g5⟩
 | .tup us, v, hv => by
   obtain⟨vs,e,hc⟩:=hv;exact⟨vs,e,RlS.mono h us vs hc⟩
 | .ptr id off, v, hv => by
   obtain⟨L,h1,h2⟩:=hv;exact⟨L,h.loc _ _ h1,h2⟩
 |.nilp,v,hv=>hv
 | .hs e id off len, v, hv => by
   obtain⟨a,cap,L,h1,h2,h3,h4,h5,h6⟩:=hv;exact⟨a,cap,L,h1,h2,h3,h4,h.loc _ _ h5,h6⟩
 | .va e id off len, v, hv => by
   obtain⟨a,cap,L,h1,h2,h3,h4,h5,h6⟩:=hv;exact⟨a,cap,L,h1,h2,h3,h4,h.loc _ _ h5,h6⟩
 | .elt e xs i off, v, hv => by
   obtain⟨b,o,vs,g1,g2,g3,g4,g5⟩:=hv;obtain⟨k1,k2⟩:=h.blk b g2 g3;exact⟨b,o,vs,g1,ady g2 h.size,k1,by rw[range?_block k2];exact g4,RlE.mono h e xs vs g5⟩
 | .vp e id i off, v, hv => by
   obtain⟨L,h1,h2⟩:=hv;exact⟨L,h.loc _ _ h1,h2⟩
 | .fn f caps, v, hv => by
   obtain⟨vs,e,hc⟩:=hv;exact⟨vs,e,RlS.mono h caps vs hc⟩
 |.nilf,v,hv=>hv
 | .mp id, v, hv => by
   obtain⟨L,h1,h2⟩:=hv;exact⟨L,h.loc _ _ h1,h2⟩
 |.any,v,hv=>hv
theorem RlC.mono{E E':Env}(h:nI E E'):∀ (cs:List AV) (vs:List Value),RlC E cs vs->RlC E' cs vs
 | [],_,hv=>hv
 | c :: cs, _, hv => by
   obtain⟨u,us,h1,h2,h3,h4⟩:=hv;exact⟨u,us,h1,h2,Rl.mono h c u h3,RlC.mono h cs us h4⟩
theorem RlS.mono{E E':Env}(h:nI E E'):∀ (cs:List AV) (vs:List Value),RlS E cs vs->RlS E' cs vs
 | [],_,hv=>hv
 | c :: cs, _, hv => by
   obtain⟨u,us,h1,h3,h4⟩:=hv;exact⟨u,us,h1,Rl.mono h c u h3,RlS.mono h cs us h4⟩
theorem RlE.mono{E E':Env}(h:nI E E')(e:Nat):∀ (xs:List (List AV)) (vs:List Value),RlE E e xs vs->RlE E' e xs vs
 | [],_,hv=>hv
 | x :: xs, _, hv => by
   obtain⟨us,ws,h1,h2,h3,h4⟩:=hv;exact⟨us,ws,h1,h2,RlC.mono h x us h3,RlE.mono h e xs ws h4⟩
end
mutual
def ren(r:Nat->Nat):AV->AV
 |.dead=>.dead
 |.bool b=>.bool b
 |.int k n=>.int k n
 |.str s=>.str s
 |.agg cs=>.agg (dN r cs)
 |.sl e cl xs=>.sl e cl (dm r xs)
 |.tup us=>.tup (dN r us)
 |.ptr id off=>.ptr (r id) off
 |.nilp=>.nilp
 |.hs e id off len=>.hs e (r id) off len
 |.va e id off len=>.va e (r id) off len
 |.elt e xs i off=>.elt e (dm r xs) i off
 |.vp e id i off=>.vp e (r id) i off
 |.fn f caps=>.fn f (dN r caps)
 |.nilf=>.nilf
 |.mp id=>.mp (r id)
 |.any=>.any
def dN(r:Nat->Nat):List AV->List AV
 | []=>[]
 |c::cs=>ren r c::dN r cs
def dm(r:Nat->Nat):List (List AV)->List (List AV)
 | []=>[]
 |x::xs=>dN r x::dm r xs
end
theorem CV(r:Nat->Nat):∀cs,dN r cs=cs.map (ren r)
 | []=>rfl
 |c::cs=>by rw[dN,CV r cs];rfl
theorem Gr(r:Nat->Nat):∀xs,dm r xs=xs.map (dN r)
 | []=>rfl
 |c::cs=>by rw[dm,Gr r cs];rfl
@[simp] theorem Y2(r:Nat->Nat)(cs:List AV):(dN r cs).length=cs.length:=by simp[CV]
@[simp] theorem qA(r:Nat->Nat)(cs:List (List AV)):(dm r cs).length=cs.length:=by simp[Gr]
theorem Ta(r:Nat->Nat)(c:AV):(ren r c).cell=c.cell:=by cases c<;>rfl
mutual
theorem AJ{E E':Env}{r:Nat->Nat}(h:∀id,E'.loc id=E.loc (r id))(hw:E'.w=E.w)(hF:E'.F=E.F):∀ (av:AV) (v:Value),Rl E' av v↔Rl E (ren r av) v
 |.dead,_=>aeN
 |.bool b,v=>aeN
 |.int k n,v=>aeN
 |.str s,v=>aeN
 | .agg cs, v => by
   simp only[Rl,ren,zW h hw hF cs]
 | .sl e cl xs, v => by
   simp only[Rl,ren,vv h hw hF e xs,qA,hw,hF]
 | .tup us, v => by
   simp only[Rl,ren,sV h hw hF us]
 |.ptr id off,v=>by simp only[Rl,ren,h]
 |.nilp,v=>aeN
 |.hs e id off len,v=>by simp only[Rl,ren,h]
 |.va e id off len,v=>by simp only[Rl,ren,h]
 | .elt e xs i off, v => by
   simp only[Rl,ren,vv h hw hF e xs,qA,hw,hF]
 |.vp e id i off,v=>by simp only[Rl,ren,h]
 | .fn f caps, v => by
   simp only[Rl,ren,sV h hw hF caps]
 |.nilf,v=>aeN
 |.mp id,v=>by simp only[Rl,ren,h]
 |.any,v=>aeN
theorem zW{E E':Env}{r:Nat->Nat}(h:∀id,E'.loc id=E.loc (r id))(hw:E'.w=E.w)(hF:E'.F=E.F):∀ (cs:List AV) (vs:List Value),RlC E' cs vs↔RlC E (dN r cs) vs
 | [],_=>aeN
 | c :: cs, vs => by
   simp only[RlC,dN,AJ h hw hF c,zW h hw hF cs,Ta]
theorem sV{E E':Env}{r:Nat->Nat}(h:∀id,E'.loc id=E.loc (r id))(hw:E'.w=E.w)(hF:E'.F=E.F):∀ (cs:List AV) (vs:List Value),RlS E' cs vs↔RlS E (dN r cs) vs
 | [],_=>aeN
 | c :: cs, vs => by
   simp only[RlS,dN,AJ h hw hF c,sV h hw hF cs]
theorem vv{E E':Env}{r:Nat->Nat}(h:∀id,E'.loc id=E.loc (r id))(hw:E'.w=E.w)(hF:E'.F=E.F)(e:Nat):∀ (xs:List (List AV)) (vs:List Value),RlE E' e xs vs↔RlE E e (dm r xs) vs
 | [],_=>aeN
 | x :: xs, vs => by
   simp only[RlE,dm,zW h hw hF x,vv h hw hF e xs]
end
theorem RlC.length{E:Env}:∀ {cs:List AV} {vs:List Value},RlC E cs vs->vs.length=cs.length
 | [],_,h=>by simp only[RlC]at h;grind
 | c :: cs, _, h => by
   obtain⟨u,d,rfl,_,_,b⟩:=h;simp[RlC.length b]
theorem RlC.app{E:Env}:∀ {a b:List AV} {e d:List Value},RlC E a e->RlC E b d->RlC E (a++b) (e++d)
 | [],_,_,_,h,f=>by simp only[RlC]at h;grind
 | c :: cs, _, _, _, h, f => by
   obtain⟨u,i,rfl,j,k,g⟩:=h;exact⟨u,i++_,rfl,j,k,RlC.app g f⟩
theorem RlC.take{E:Env}:∀ {a:List AV} {b:List Value} (n:Nat),RlC E a b->RlC E (a.take n) (b.take n)
 | [],_,n,h=>by subst h;simp[RlC]
 |c::cs,_,0,h=>by simp[RlC]
 | c :: cs, _, n + 1, h => by
   obtain⟨u,e,rfl,f,g,d⟩:=h;exact⟨u,e.take n,rfl,f,g,RlC.take n d⟩
theorem RlC.drop{E:Env}:∀ {a:List AV} {b:List Value} (n:Nat),RlC E a b->RlC E (a.drop n) (b.drop n)
 | [],_,n,h=>by subst h;simp[RlC]
 |c::cs,_,0,h=>h
 | c :: cs, _, n + 1, h => by
   obtain⟨u,e,rfl,f,g,d⟩:=h;exact RlC.drop n d
theorem CA{E:Env}{c:AV}{u:Value}(h:Rl E c u)(b:c.cell=true):u.oneCell'=true:=by
 cases c<;>simp only[AV.cell]at b<;>simp only[Rl]at h
 all_goals first
  |grind
  |omega
  |(obtain⟨_,_,_,rfl,_⟩:=h;rfl)
  |omega
  |(obtain⟨_,rfl,_⟩:=h;rfl)
  |omega
theorem RlC.one{E:Env}:∀ {a:List AV} {d:List Value},RlC E a d->∀u∈d,u.oneCell'=true
 | [],_,h,u,b=>by simp only[RlC]at h;grind
 | c :: cs, _, h, u, b => by
   obtain⟨j,k,rfl,f,g,i⟩:=h;rcases acW.1 b with rfl|e
   ·exact CA g f
   ·exact RlC.one i u e
theorem RlS.length{E:Env}:∀ {cs:List AV} {vs:List Value},RlS E cs vs->vs.length=cs.length
 | [],_,h=>by simp only[RlS]at h;grind
 | c :: cs, _, h => by
   obtain⟨u,d,rfl,_,b⟩:=h;simp[RlS.length b]
theorem RlS.app{E:Env}:∀ {a b:List AV} {e f:List Value},RlS E a e->RlS E b f->RlS E (a++b) (e++f)
 | [],_,_,_,h,d=>by simp only[RlS]at h;grind
 | c :: cs, _, _, _, h, d => by
   obtain⟨u,i,rfl,j,g⟩:=h;exact⟨u,i++_,rfl,j,RlS.app g d⟩
theorem RlS.get{E:Env}:∀ {a:List AV} {d:List Value} (n:Nat) (b:n<a.length),RlS E a d->∃u,d[n]?=some u/\Rl E a[n] u
 | [],_,n,b,h=>by grind
 | c :: cs, _, 0, b, h => by
   obtain⟨u,f,rfl,i,e⟩:=h;grind
 | c :: cs, _, n + 1, b, h => by
   obtain⟨u,f,rfl,i,e⟩:=h;obtain⟨j,g⟩:=RlS.get n af3 e;grind
theorem RlE.length{E:Env}{e:Nat}:∀ {xs:List (List AV)} {vs:List Value},RlE E e xs vs->vs.length=xs.length*e
 | [],_,h=>by simp only[RlE]at h;grind
 | x :: xs, _, h => by
   obtain⟨d,ws,rfl,c,f,b⟩:=h;simp[RlE.length b,c,acQ,afg]
theorem RlE.app{E:Env}{e:Nat}:∀ {a b:List (List AV)} {f d:List Value},RlE E e a f->RlE E e b d->RlE E e (a++b) (f++d)
 | [],_,_,_,h,g=>by simp only[RlE]at h;grind
 | c :: cs, _, _, _, h, g => by
   obtain⟨j,ws,rfl,k,l,i⟩:=h;exact⟨j,ws++_,af1,k,l,RlE.app i g⟩
theorem RlE.drop{E:Env}{e:Nat}:∀ {a:List (List AV)} {d:List Value} (n:Nat),RlE E e a d->RlE E e (a.drop n) (d.drop (n*e))
 | [],_,n,h=>by subst h;simp[RlE]
 |c::cs,_,0,h=>by grind
 | c :: cs, _, n + 1, h => by
   obtain⟨b,ws,rfl,i,j,g⟩:=h;have:=RlE.drop n g;have f:(n+1)*e=b.length+n*e:=af3
   rw[f,adz,acK (adA b.length (n*e)),adN,adc];grind
theorem RlE.take{E:Env}{e:Nat}:∀ {a:List (List AV)} {d:List Value} (n:Nat),RlE E e a d->RlE E e (a.take n) (d.take (n*e))
 | [],_,n,h=>by subst h;simp[RlE]
 |c::cs,_,0,h=>by simp[RlE]
 | c :: cs, _, n + 1, h => by
   obtain⟨b,ws,rfl,g,i,j⟩:=h;have:=RlE.take n j;have f:(n+1)*e=b.length+n*e:=af3
   rw[f,adQ,afD (adA b.length (n*e)),adc];exact⟨b,_,rfl,g,i,this⟩
theorem RlE.get{E:Env}{e:Nat}:∀ {a:List (List AV)} {f:List Value} (n:Nat) (b:n<a.length),RlE E e a f->RlC E a[n] ((f.drop (n*e)).take e)
 | [],_,n,b,h=>by grind
 | c :: cs, _, 0, b, h => by
   obtain⟨d,ws,rfl,l,k,g⟩:=h;grind
 | c :: cs, _, n + 1, b, h => by
   obtain⟨d,ws,rfl,l,k,g⟩:=h;have:=RlE.get n af3 g;have j:(n+1)*e=d.length+n*e:=af3
   rw[j,adz,acK (adA d.length (n*e)),adN,adc];grind
theorem RlE.one{E:Env}{e:Nat}:∀ {a:List (List AV)} {d:List Value},RlE E e a d->∀u∈d,u.oneCell'=true
 | [],_,h,u,f=>by simp only[RlE]at h;grind
 | c :: cs, _, h, u, f => by
   obtain⟨k,ws,rfl,j,g,i⟩:=h;rcases afR.1 f with b|b
   ·exact g.one u b
   ·exact RlE.one i u b
theorem RlE.elen{E:Env}{e:Nat}:∀ {a:List (List AV)} {f:List Value},RlE E e a f->∀x∈a,x.length=e
 | [],_,h,u,b=>by grind
 | c :: cs, _, h, u, b => by
   obtain⟨k,ws,rfl,i,g,j⟩:=h;rcases acW.1 b with rfl|d
   ·rw[<-g.length,i]
   ·exact RlE.elen j u d
inductive bZ where
 |gone
 |var (cs:List AV)
 |vec (e:Nat) (xs:List (List AV))
 |vex (e:Nat) (xs:List (List AV))
 |map (es:List (List AV))
 |iter (m n:Nat) (seen:List Nat)
 deriving Inhabited
def bZ.live:bZ->Bool
 |.gone=>false
 |_=>true
abbrev St:=List bZ
def RlM(E:Env):List (List AV)->List MapEntry->Nat->Prop
 | [],es,_=>es=[]
 |x::xs,es,b=>∃e r,es=e::r/\RlS E x [e.key,e.val]/\e.born=b/\RlM E xs r (b+1)
theorem RlM.mono{E E':Env}(h:nI E E'):∀ {xs:List (List AV)} {es:List MapEntry} {b:Nat},RlM E xs es b->RlM E' xs es b
 | [],_,_,hx=>hx
 |_::_,_,_,⟨e,r,h1,h2,h3,h4⟩=>⟨e,r,h1,RlS.mono h _ _ h2,h3,RlM.mono h h4⟩
theorem RlM.length{E:Env}:∀ {xs:List (List AV)} {a:List MapEntry} {b:Nat},RlM E xs a b->a.length=xs.length
 | [],_,_,h=>by simp only[RlM]at h;grind
 |_::_,_,_,⟨e,r,d,f,g,c⟩=>by subst d;simp[RlM.length c]
def iA(E:Env)(L:Loc):bZ->Prop
 |.gone=>True
 |.var cs=>L.has=true/\L.base=0/\∃ (vs:List Value) (t:TypeId),E.w.heap[L.blk]?=some (.cells vs.toArray t (0,0))/\RlC E cs vs
 |.vec e xs=>(L.has=false/\xs=[])\/(L.has=true/\∃ (cs vs ws:List Value) (t:TypeId),E.w.heap[L.blk]?=some (.cells (cs++vs++ws).toArray t (0,0))/\cs.length=L.base/\(cs++vs++ws).length=L.rows/\RlE E e xs vs/\∀u∈ws,u.oneCell'=true)
 |.vex e xs=>(L.has=false/\xs=[])\/(L.has=true/\∃ (cs vs:List Value) (t:TypeId),E.w.heap[L.blk]?=some (.cells (cs++vs).toArray t (0,0))/\cs.length=L.base/\(cs++vs).length=L.rows/\RlE E e xs vs)
 |.map es=>L.has=true/\∃ents:List MapEntry,E.w.heap[L.blk]?=some (.map ents.toArray es.length)/\RlM E es ents 0
 |.iter m n seen=>L.has=true/\L.base=0/\∃Lm,E.loc m=some Lm/\Lm.has=true/\E.w.heap[L.blk]?=some (.mapIter (some Lm.blk) n seen.toArray n)
def aV(σ:St)(loc:Nat->Option Loc)(b:Nat):Prop:=∃id o L,σ[id]?=some o/\o.live=true/\loc id=some L/\L.has=true/\L.blk=b
def im(X:Nat->Prop)(σ:St)(loc:Nat->Option Loc)(b:Nat):Prop:=X b\/aV σ loc b
abbrev aR(X:Nat->Prop)(loc:Nat->Option Loc)(σ:St)(w:World):Env:=⟨loc,im X σ loc,w⟩
structure Rel(X:Nat->Prop)(loc:Nat->Option Loc)(σ:St)(w:World):Prop where
 obj:∀ (id:Nat) (o:bZ),σ[id]?=some o->o.live=true->∃L,loc id=some L/\iA (aR X loc σ w) L o
 apart:∀ (i j:Nat) (a b:bZ) (La Lb:Loc),i≠j->σ[i]?=some a->σ[j]?=some b->a.live=true->b.live=true->loc i=some La->loc j=some Lb->La.has=true->Lb.has=true->La.blk≠Lb.blk
 out:∀b,X b->b<w.heap.size/\¬aV σ loc b
 beyond:∀id,σ.length<=id->loc id=none
structure Ev(D:Nat->Prop)(w w':World):Prop where
 size:w.heap.size<=w'.heap.size
 blk:∀b,b<w.heap.size->¬D b->w'.heap[b]?=w.heap[b]?
 os:w'.os=w.os
 tape:w'.tape=w.tape
 output:w'.output=w.output
theorem Ev.refl(D:Nat->Prop)(w:World):Ev D w w:=⟨afE _,fun _ _ _=>rfl,rfl,rfl,rfl⟩
theorem Ev.trans{D D':Nat->Prop}{w w1 w2:World}(h:Ev D w w1)(h':Ev D' w1 w2)(hD:∀b,b<w.heap.size->D' b->D b):Ev D w w2:=
 ⟨acn h.size h'.size,fun b hb hn=>(h'.blk b (ady hb h.size) fun hd=>hn (hD b hb hd)).trans (h.blk b hb hn),h'.os.trans h.os,h'.tape.trans h.tape,h'.output.trans h.output⟩
theorem Ev.alloc(D:Nat->Prop)(w:World)(o:Obj):Ev D w (w.alloc o):=
 ⟨af1,fun b a _=>Below.heap_alloc w o b a,rfl,rfl,rfl⟩
theorem Ev.drew(D:Nat->Prop)(w:World):Ev D w w.drew:=⟨afE _,fun _ _ _=>rfl,rfl,rfl,rfl⟩
theorem Ev.setRow{D:Nat->Prop}{w:World}{b:Nat}(h:D b)(c:Array Value):Ev D w (w.setRow b c):=
 ⟨af1,fun k _ a=>setRow_other w b k c af3,rfl,rfl,rfl⟩
theorem Ev.below{D:Nat->Prop}{w w':World}(h:Ev D w w')(hD:∀b,b<w.heap.size->¬D b):Below w.heap.size w w':=
 ⟨h.os,h.tape,h.output,h.size,fun b hb=>h.blk b hb (hD b hb)⟩
theorem aV.lt{X:Nat->Prop}{loc:Nat->Option Loc}{σ:St}{w:World}(h:Rel X loc σ w){b:Nat}(i:aV σ loc b):b<w.heap.size:=by
 obtain⟨id,o,L,j,g,u,p,rfl⟩:=i;obtain⟨q,r,a⟩:=h.obj id o j g;cases o with
 |gone=>cases g
 | var cs =>
   obtain⟨_,_,d,t,c,_⟩:=a;grind
 | vec e xs =>
   rcases a with⟨k,_⟩|⟨_,cs,d,ws,t,c,_⟩
   ·grind
   grind
 | vex e xs =>
   rcases a with⟨k,_⟩|⟨_,cs,d,t,c,_⟩
   ·grind
   grind
 | map s =>
   obtain⟨_,f,c,_⟩:=a;grind
 | iter m n seen =>
   obtain⟨_,_,l,_,_,c⟩:=a;grind
structure Out(X:Nat->Prop)(loc:Nat->Option Loc)(σ:St)(w:World)(av:AV)(σ':St)(v:Value)(w':World)(loc':Nat->Option Loc):Prop where
 locs:∀id L,loc id=some L->loc' id=some L
 rel:Rel X loc' σ' w'
 val:Rl (aR X loc' σ' w') av v
 ev:Ev (aV σ loc) w w'
 old:∀b,aV σ' loc' b->aV σ loc b\/w.heap.size<=b
theorem mm{X:Nat->Prop}{loc loc':Nat->Option Loc}{σ σ':St}{w w':World}(hX:Rel X loc σ w)(locs:∀id L,loc id=some L->loc' id=some L)(ev:Ev (aV σ loc) w w')(old:∀b,aV σ' loc' b->aV σ loc b\/w.heap.size<=b):
 nI (aR X loc σ w) (aR X loc' σ' w'):=
 ⟨locs,ev.size,fun b hb hn=>⟨fun hf=>hf.elim (fun hx=>hn (.inl hx)) (fun hl=>(old b hl).elim (fun h1=>hn (.inr h1)) (fun h2=>absurd hb (Nat.not_lt.2 h2))),ev.blk b hb fun hd=>hn (.inr hd)⟩⟩
theorem Out.envLe{X:Nat->Prop}{loc loc':Nat->Option Loc}{σ σ':St}{w w':World}{av:AV}{v:Value}(hX:Rel X loc σ w)(h:Out X loc σ w av σ' v w' loc'):nI (aR X loc σ w) (aR X loc' σ' w'):=
 mm hX h.locs h.ev h.old
structure Fr where
 nv:Nat
 vs:List AV
 ts:List (Nat×AV)
def qB:List (Nat×AV)->Nat->AV
 | [],_=>.dead
 |(k,v)::r,t=>if t=k then v else qB r t
def Fr.get(f:Fr)(t:Nat):AV:=if t<f.nv then f.vs.getD t .dead else qB f.ts t
def Fr.put(f:Fr)(t:Nat)(v:AV):Fr:=if t<f.nv then { f with vs:=f.vs.set t v }else { f with ts:=(t,v)::f.ts }
def Fr.putO(f:Fr):Option Nat->AV->Fr
 |some t,v=>f.put t v
 |none,_=>f
theorem Fr.get_put_ne(f:Fr){t u:Nat}(v:AV)(h:t≠u):(f.put t v).get u=f.get u:=by
 unfold Fr.put Fr.get;by_cases a:t<f.nv
 ·grind
 ·simp only[a];by_cases b:u<f.nv
  ·grind
  ·simp[qB,afv h]
theorem Fr.get_put_same(f:Fr)(t:Nat)(v:AV):(f.put t v).get t=v\/(f.put t v).get t=.dead:=by
 unfold Fr.put Fr.get;by_cases b:t<f.nv
 ·grind
 ·simp[b,qB]
structure Cx where
 X:Nat->Prop
 w0:World
 D0:Nat->Prop
 loc0:Nat->Option Loc
structure SR(C:Cx)(nt k:Nat)(fr:Fr)(σ:St)(loc:Nat->Option Loc)(a:Act)(w:World):Prop where
 rel:Rel C.X loc σ w
 frm:∀t,Rl (aR C.X loc σ w) (fr.get t) (a.tmps.getD t undef)
 size:a.tmps.size=nt
 dfr:a.defers=[]
 ev:Ev C.D0 C.w0 w
 old:∀b,aV σ loc b->C.D0 b\/C.w0.heap.size<=b
 pre:∀id,id<k->loc id=C.loc0 id
 klen:k<=σ.length
theorem SR.step{C:Cx}{p k:Nat}{m:Fr}{σ σ':St}{loc loc':Nat->Option Loc}{a:Act}{w w':World}{av:AV}{v:Value}(h:SR C p k m σ loc a w)(o:Out C.X loc σ w av σ' v w' loc')
 (u:∀id,id<k->loc' id=loc id) (x:σ.length<=σ'.length) (c:Option Nat) (r:∀t,c=some t->t<p):SR C p k (m.putO c av) σ' loc' (a.put c v) w':=by
 have j:=o.envLe h.rel;refine⟨o.rel,fun t=>?_,?_,?_,h.ev.trans o.ev ?_,?_,?_,acn h.klen x⟩
 ·cases c with
  |none=>exact Rl.mono j _ _ (h.frm t)
  | some d =>
    have n:=r d rfl;simp only[Fr.putO,Act.put];by_cases l:d=t
    ·subst l
     have q:(a.tmps.setIfInBounds d v).getD d undef=v:=by
      simp[h.size,n]
     rw[q];rcases Fr.get_put_same m d av with f|f
     ·rw[f];exact o.val
     ·rw[f];trivial
    ·have q:(a.tmps.setIfInBounds d v).getD t undef=a.tmps.getD t undef:=by
      simp_all
     rw[q];rw[Fr.get_put_ne m av l];exact Rl.mono j _ _ (h.frm t)
 ·cases c<;>simp[Act.put,h.size]
 ·cases c<;>simp[Act.put,h.dfr]
 ·intro b s r;rcases h.old b r with f|f
  ·omega
  omega
 ·intro b s;rcases o.old b s with f|f
  ·exact h.old b f
  ·exact .inr (acn h.ev.size f)
 ·intro id g;rw[u id g,h.pre id g]
def yV(f:TypeId->Option (List Nat))(P:Program):List Field->Nat->Option (List Nat)
 | [],_=>some []
 | g :: gs, off => match f g.type, yV f P gs (off + P.cellsOf g.type) with
   | some a, some b => if g.name ≠ "_" /\ g.offset = off /\ P.cellsOf g.type = a.length then some (a ++ b) else none
   |_,_=>none
def jC(P:Program):Nat->TypeId->Option (List Nat)
 |0,_=>none
 | d + 1, t => match P.underlying t with
   |some .bool=>some [0]
   |some (.int _)=>some [1]
   |some .string=>some [2]
   | some (.array n e) => match jC P d e with
     |some l=>if P.cellsOf e=l.length then some (List.replicate n l).flatten else none
     |none=>none
   |some (.struct fs)=>if P.stoodInHeld t then none else yV (jC P d) P fs.toList 0
   |_=>none
def i8:Value->Nat
 |.bool _=>0
 |.int _ _=>1
 |.string _=>2
 |_=>3
def E5:Value->Value->Option Bool
 |.int k a,.int k' b=>if k=k' then some (a==b)else none
 |.bool a,.bool b=>some (a==b)
 |.string a,.string b=>some (a.toList==b.toList)
 |_,_=>none
def pv:List Value->List Value->Option Bool
 | [],[]=>some true
 | x :: xs, y :: ys => match E5 x y, pv xs ys with
   |some a,some b=>some (a&&b)
   |_,_=>none
 |_,_=>none
theorem DA:∀ {a c b d:List Value} {r:Bool},a.length=c.length->pv (a++b) (c++d)=some r->∃x y,pv a c=some x/\pv b d=some y/\r=(x&&y)
 | [],[],b,d,r,_,h=>⟨true,r,rfl,af3,af1⟩
 | [],_::_,_,_,_,f,_=>by grind
 |_::_,[],_,_,_,f,_=>by grind
 | x :: a, y :: c, b, d, r, f, h => by
   simp only[aea,pv]at h;split at h
   ·rename_i p q i g;obtain⟨u,v,j,k,l⟩:=DA af3 g;exact⟨p&&u,v,by simp[pv,i,j],k,af3⟩
   grind
def rj(P:Program)(t:TypeId):Bool:=match P.underlying t with|some (.struct _)|some (.array _ _)=>true|_=>false
def pk(P:Program)(t:TypeId)(us:List Value):Value:=if rj P t then .agg us.toArray else us.headD (.tuple #[])
theorem oQ{P:Program}(w:World){e:TypeId}{ks:List Nat}{d:Nat}(h:jC P d e=some ks)(hc:P.cellsOf e=ks.length)(xs:Array Value)(off:Nat)(hl:off+ks.length<=xs.size):
 (part e xs off).run P w=.ok (pk P e ((xs.toList.drop off).take ks.length)) w:=by
 cases d with
 |zero=>simp[jC]at h
 | succ d =>
   unfold jC at h;cases hu:P.underlying e with
   |none=>grind
   | some td =>
     have hinfo:∃i,P.info? e=some i:=by
      unfold Program.underlying at hu;grind
     obtain⟨i,hi⟩:=hinfo;have hsz:P.cellsOf e=i.size:=by simp[Program.cellsOf,hi]
     have one:ks.length=1->(∀fs,td≠.struct fs)->(∀n e,td≠.array n e)->(part e xs off).run P w=.ok (pk P e ((xs.toList.drop off).take ks.length)) w:=by
      intro h1 h2 h3
      have hag:(isAgg e).run P w=.ok false w:=by
       unfold isAgg;rw[Sem.run_bind,run_underlying hu w];simp
      have hat:rj P e=false:=by
       unfold rj;grind
      have hlt:off<xs.size:=af0
      have:(xs.toList.drop off).take ks.length=[xs[off]]:=by
       rw[h1,acG af0,List.take_succ_cons];simp
      simp[part,hag,hlt,pk,hat,this]
     have agg:(∃fs,td=.struct fs)\/(∃n e,td=.array n e)->(part e xs off).run P w=.ok (pk P e ((xs.toList.drop off).take ks.length)) w:=by
      intro hk
      have hag:(isAgg e).run P w=.ok true w:=by
       unfold isAgg;rw[Sem.run_bind,run_underlying hu w];rcases hk with⟨fs,rfl⟩|⟨n,e',rfl⟩<;>simp
      have hat:rj P e=true:=by
       unfold rj;grind
      have h9:(xs.extract off (off+i.size))=((xs.toList.drop off).take ks.length).toArray:=by
       grind
      simp[part,hag,sizeOf,typeInfo,hi,pk,hat,h9]
     grind
theorem sJ {P : Program} : ∀ (d : Nat) {t : TypeId} {ks : List Nat}, jC P d t = some ks -> ∀ {us vs : List Value} {r : Bool}, us.map i8 = ks -> vs.map i8 = ks -> pv us vs = some r ->
 ∀ (m:Nat) (w:World),(Op.equalIn (d+m) t (pk P t us) (pk P t vs)).run P w=.ok r w
 |0,_,_,h,_,_,_,_,_,_,_,_=>by simp[jC]at h
 | d + 1, t, ks, h, us, vs, r, hu, hv, he, m, w => by
   have ih:=@sJ P d;have e0:d+1+m=(d+m)+1:=af0
   rw[e0];unfold jC at h;cases hut:P.underlying t with
   |none=>grind
   | some td =>
     simp only[hut]at h;cases td<;>simp only[reduceCtorEq,afC]at h
     case bool=>
      subst h;match us,vs with
      | [.bool a],[.bool b]=>simp[pv,E5]at he;subst he;simpa[pk,rj,hut]using run_equalIn_bool' w (d+m) t a b hut
      | [],_=>grind
      |_::_::_,_=>grind
      | [x],[]=>grind
      | [x],_::_::_=>grind
      | [x],[y]=>cases x<;>simp[i8]at hu<;>cases y<;>simp[i8]at hv<;>simp[pv,E5]at he<;>(subst he;simpa[pk,rj,hut]using run_equalIn_bool' w (d+m) t _ _ hut)
     case int k0=>
      subst h;match us,vs with
      | [],_=>grind
      |_::_::_,_=>grind
      | [x],[]=>grind
      | [x],_::_::_=>grind
      | [x], [y] =>
        cases x<;>simp[i8]at hu
        cases y<;>simp[i8]at hv
        simp[pv,E5]at he;split at he
        ·rename_i p hp hq
         split at hp
         ·rename_i hk;subst hk;simp only[afC]at hp hq he;subst hp;subst hq;subst he;simpa[pk,rj,hut]using run_equalIn_int w (d+m) t _ k0 _ _ hut
         ·cases hp
        grind
     case string=>
      subst h;match us,vs with
      | [],_=>simp at hu
      |_::_::_,_=>simp at hu
      | [x],[]=>simp at hv
      | [x],_::_::_=>simp at hv
      | [x], [y] =>
        cases x<;>simp[i8]at hu
        cases y<;>simp[i8]at hv
        simp[pv,E5]at he;subst he;simpa[pk,rj,hut]using run_equalIn_string w (d+m) t _ _ hut
     case array n e=>
      split at h
      ·rename_i l hl
       split at h
       ·rename_i hc
        simp only[afC]at h;subst h;have hat:rj P t=true:=by simp[rj,hut]
        simp only[pk,hat,aco]
        have hinfo:∃i,P.info? e=some i:=by
         cases hi:P.info? e with
         |some i=>exact⟨i,rfl⟩
         | none =>
           exfalso
           have:P.underlying e=none:=by simp[Program.underlying,hi]
           cases d with
           |zero=>simp[jC]at hl
           |succ d=>unfold jC at hl;simp[this]at hl
        obtain⟨i,hi⟩:=hinfo;rw[run_equalIn_array w (d+m) us.toArray vs.toArray hut hi,List.range_eq_range'];have hlu:us.length=n*l.length:=by have:=acM List.length hu;simpa using this
        have hlv:vs.length=n*l.length:=by have:=acM List.length hv;simpa using this
        have key:∀ (q s:Nat) (r:Bool),s+q=n->pv (us.drop (s*l.length)) (vs.drop (s*l.length))=some r->(us.drop (s*l.length)).map i8=(List.replicate q l).flatten->(vs.drop (s*l.length)).map i8=(List.replicate q l).flatten->
         (Op.eqItems (d+m) e (P.cellsOf e) us.toArray vs.toArray (List.range' s q)).run P w=.ok r w:=by
         intro q;induction q with
         | zero =>
           intro s r hs h1 h2 h3;have z1:us.drop (s*l.length)=[]:=by simpa using h2
           have z2:vs.drop (s*l.length)=[]:=by simpa using h3
           rw[z1,z2]at h1;simp only[pv,afC]at h1;subst h1;simp[Op.eqItems]
         | succ q ihq =>
           intro s r hs h1 h2 h3
           have hle:s*l.length+l.length<=n*l.length:=by
            have:(s+1)*l.length<=n*l.length:=acr _ af0;rw[acQ]at this;omega
           rw[List.range'_succ,Op.eqItems,hc,Sem.run_bind,oQ w hl hc us.toArray (s*l.length) (by simp[hlu];exact hle),Result.andThen_ok,Sem.run_bind,
            oQ w hl hc vs.toArray (s*l.length) (by simp[hlv];exact hle),Result.andThen_ok,Sem.run_bind]
           have ea:us.drop (s*l.length)=(us.drop (s*l.length)).take l.length++us.drop ((s+1)*l.length):=by
            rw[acQ,Nat.one_mul,<-adj,afX]
           have eb:vs.drop (s*l.length)=(vs.drop (s*l.length)).take l.length++vs.drop ((s+1)*l.length):=by
            rw[acQ,Nat.one_mul,<-adj,afX]
           have la:((us.drop (s*l.length)).take l.length).length=l.length:=by simp[hlu];omega
           have lb:((vs.drop (s*l.length)).take l.length).length=l.length:=by simp[hlv];omega
           rw[ea,eb]at h1;rw[ea,acu,ad8,afa]at h2;rw[eb,acu,ad8,afa]at h3;obtain⟨k1,k2⟩:=aeY h2 (by rw[adw,la]);obtain⟨k3,k4⟩:=aeY h3 (by rw[adw,lb]);obtain⟨x,y,g1,g2,rfl⟩:=DA (by rw[la,lb]) h1;have:=ih hl k1 k3 g1 m w;simp only[this,Result.andThen_ok];cases x
           ·simp
           ·have:=ihq (s+1) y af0 g2 k2 k4;rw[hc]at this;simpa using this
        exact key n 0 r af0 (by simpa using he) (by simpa using hu) (by simpa using hv)
       ·cases h
      ·cases h
     case struct fs =>
      split at h
      ·cases h
      ·rename_i hst
       have hat:rj P t=true:=by simp[rj,hut]
       have hfo:P.fieldsOf t=fs:=by simp[Program.fieldsOf,hut]
       simp only[pk,hat,aco];rw[run_equalIn_struct w (d+m) t us.toArray vs.toArray (by rw[hfo];exact hut) (by simpa using hst),hfo]
       have key:∀ (gs:List Field) (off:Nat) (ks:List Nat) (r:Bool),yV (jC P d) P gs off=some ks->pv (us.drop off) (vs.drop off)=some r->(us.drop off).map i8=ks->(vs.drop off).map i8=ks->off+ks.length=us.length->off+ks.length=vs.length->
        (Op.eqFields (d+m) us.toArray vs.toArray gs).run P w=.ok r w:=by
        intro gs;induction gs with
        | nil =>
          intro off ks r h0 h1 h2 h3 _ _;simp only[yV,afC]at h0;subst h0;have z1:us.drop off=[]:=by simpa using h2
          have z2:vs.drop off=[]:=by simpa using h3
          rw[z1,z2]at h1;simp only[pv,afC]at h1;subst h1;simp[Op.eqFields]
        | cons g gs ihg =>
          intro off ks r h0 h1 h2 h3 h4 h5;simp only[yV]at h0;split at h0
          ·rename_i a b ha hb
           split at h0
           ·rename_i hcond
            obtain⟨hn,rfl,hc⟩:=hcond;simp only[afC]at h0;subst h0;rw[afB]at h4 h5;rw[Op.eqFields,afA hn,Sem.run_bind,oQ w ha hc us.toArray g.offset (by simp;omega),Result.andThen_ok,Sem.run_bind,oQ w ha hc vs.toArray g.offset (by simp;omega),Result.andThen_ok,Sem.run_bind];have ea:us.drop g.offset=(us.drop g.offset).take a.length++us.drop (g.offset+a.length):=by rw[<-adj,afX]
            have eb:vs.drop g.offset=(vs.drop g.offset).take a.length++vs.drop (g.offset+a.length):=by rw[<-adj,afX]
            have la:((us.drop g.offset).take a.length).length=a.length:=by simp;omega
            have lb:((vs.drop g.offset).take a.length).length=a.length:=by simp;omega
            rw[ea,eb]at h1;rw[ea,acu]at h2;rw[eb,acu]at h3;obtain⟨k1,k2⟩:=aeY h2 (by rw[adw,la]);obtain⟨k3,k4⟩:=aeY h3 (by rw[adw,lb]);obtain⟨x,y,g1,g2,rfl⟩:=DA (by rw[la,lb]) h1;have:=ih ha k1 k3 g1 m w;simp only[this,Result.andThen_ok];cases x
            ·simp
            ·have:=ihg (g.offset+a.length) b y (by rw[<-hc];exact hb) g2 k2 k4 af0 af0;simpa using this
           ·cases h0
          ·cases h0
       exact key fs.toList 0 ks r h (by simpa using he) (by simpa using hu) (by simpa using hv) (by
        have:=acM List.length hu;simp at this;omega) (by
        have:=acM List.length hv;simp at this;omega)
inductive Opd where
 |t (n:Nat)
 |c (v:AV)
 deriving Inhabited
def Opd.ev(fr:Fr):Opd->AV
 |.t n=>fr.get n
 |.c v=>v
inductive MOp where
 |mkm
 |lkp (kk:Option Nat) (z:AV) (ok:Bool)
 |upd (kk:Option Nat)
 |rng
 |ent
 deriving Inhabited
inductive AOp where
 |mv (x:Opd)
 |pick (c a b:Opd)
 |bin (op:BinOp) (x y:Opd)
 |eqv (kd:Nat) (neg:Bool) (x y:Opd)
 |eqa (ks:List (Nat×Nat)) (neg:Bool) (x y:Opd)
 |un (op:UnOp) (x:Opd)
 |cvt (k:IntKind) (x:Opd)
 |b2s (x:Opd)
 |nilc (x:Opd)
 |fld (ag:Bool) (off sz:Nat) (x:Opd)
 |fldA (off:Nat) (x:Opd)
 |idx (ag:Bool) (n e:Nat) (x i:Opd)
 |idxA (n e:Nat) (x i:Opd)
 |idxS (e:Nat) (x i:Opd)
 |ld (ag:Bool) (sz:Nat) (x:Opd)
 |sto (sz:Nat) (x y:Opd)
 |new (z:List AV)
 |box (sz:Nat) (x:Opd)
 |bld (z:List AV) (ps:List (Nat×Nat×Opd))
 |bldS (e n:Nat) (z:List AV) (ps:List (Nat×Opd))
 |bldO (e n:Nat) (z:List AV) (ps:List (Nat×Opd))
 |mk (e bytes:Nat) (z:List AV) (l c:Opd)
 |sli (e:Nat) (x:Opd) (lo hi mx:Option Opd)
 |sliA (e n:Nat) (x:Opd) (lo hi:Option Opd)
 |ext (i:Nat) (x:Opd)
 |len (st:Bool) (x:Opd)
 |cap (x:Opd)
 |app (e bytes:Nat) (s x:Opd)
 |cpy (e:Nat) (d s:Opd)
 |mn (xs:List Opd)
 |mx (xs:List Opd)
 |mkf (f:Fn) (caps:List Opd)
 |call (f:Opd) (xs:List Opd)
 |isn (neg:Bool) (x:Opd)
 |mop (q:MOp) (xs:List Opd)
 |nxt (x:Opd)
 |slx (e:Nat) (x:Opd) (lo hi mx:Option Opd)
 |apx (e bytes:Nat) (s x:Opd)
 |apm (e bytes:Nat) (z:List AV) (s x:Opd)
 |clr (e:Nat) (z:List AV) (x:Opd)
 |cpx (e:Nat) (d s:Opd)
 |cpq (x:Opd)
 |ovl (e:Nat) (x y:Opd)
 |cmb (x y:Opd)
 deriving Inhabited
structure cS where
 dst:Option Nat
 op:AOp
 gd:Option (Nat×Bool)
 deriving Inhabited
def zc(b:Bool)(x y:AV):AV:=match x,y with
 |.bool x,.bool y=>.bool (cond b x y)
 |x,y=>cond b x y
def gD(k:IntKind)(a b:Int):Int:=k.wrap (BitVec.ofInt k.bits a &&& BitVec.ofInt k.bits b).toNat
def ior(k:IntKind)(a b:Int):Int:=k.wrap (BitVec.ofInt k.bits a ||| BitVec.ofInt k.bits b).toNat
def Qu(k:IntKind)(a b:Int):Int:=k.wrap (BitVec.ofInt k.bits a ^^^ BitVec.ofInt k.bits b).toNat
def FR(k:IntKind)(a b:Int):Int:=k.wrap (BitVec.ofInt k.bits a &&& ~~~ BitVec.ofInt k.bits b).toNat
def Er(k:IntKind)(a:Int)(n:Nat):Int:=k.wrap (a*2 ^ (min n k.bits))
def fd(k:IntKind)(a:Int)(n:Nat):Int:=a.fdiv (2 ^ (min n k.bits))
def aaK(k:IntKind)(n:Int):Int:=k.wrap (BitVec.ofInt k.bits (if k.signed then -1 else k.max) ^^^ BitVec.ofInt k.bits n).toNat
def mZ(op:BinOp)(k:IntKind)(a:Int)(k':IntKind)(b:Int)(K:AV->Prop):Prop:=match op with
 |.shl=>0<=b/\K (.int k (Er k a b.toNat))
 |.shr=>0<=b/\K (.int k (fd k a b.toNat))
 |.add=>k=k'/\K (.int k (k.wrap (a+b)))
 |.sub=>k=k'/\K (.int k (k.wrap (a-b)))
 |.mul=>k=k'/\K (.int k (k.wrap (a*b)))
 |.quo=>k=k'/\b≠0/\K (.int k (k.wrap (a.tdiv b)))
 |.rem=>k=k'/\b≠0/\K (.int k (a.tmod b))
 |.and=>k=k'/\K (.int k (gD k a b))
 |.or=>k=k'/\K (.int k (ior k a b))
 |.xor=>k=k'/\K (.int k (Qu k a b))
 |.andNot=>k=k'/\K (.int k (FR k a b))
 |.eql=>k=k'/\K (.bool (a==b))
 |.neq=>k=k'/\K (.bool (a != b))
 |.lss=>k=k'/\K (.bool (decide (a<b)))
 |.leq=>k=k'/\K (.bool (decide (a<=b)))
 |.gtr=>k=k'/\K (.bool (decide (b<a)))
 |.geq=>k=k'/\K (.bool (decide (b<=a)))
def xF:AV->AV->Option Bool
 |.int k a,.int k' b=>if k=k' then some (a==b)else none
 |.bool a,.bool b=>some (a==b)
 |.str a,.str b=>some (a==b)
 |_,_=>none
def iB:List AV->List AV->Option Bool
 | [],[]=>some true
 | x :: xs, y :: ys => match xF x y, iB xs ys with
   |some a,some b=>some (a&&b)
   |_,_=>none
 |_,_=>none
def qf:Nat->AV->AV->Option Bool
 |0,.bool a,.bool b=>some (a==b)
 |1,.str a,.str b=>some (a==b)
 |2,.nilp,.nilp=>some true
 |2,.nilp,.ptr _ _|2,.ptr _ _,.nilp|2,.nilp,.vp _ _ _ _|2,.vp _ _ _ _,.nilp|2,.nilp,.elt _ _ _ _|2,.elt _ _ _ _,.nilp=>some false
 |3,.nilf,.nilf=>some true
 |3,.nilf,.fn _ _|3,.fn _ _,.nilf=>some false
 |_,_,_=>none
def unV:UnOp->AV->Option AV
 |.neg,.int k n=>some (.int k (k.wrap (0-n)))
 |.xor,.int k n=>some (.int k (aaK k n))
 |.not,.bool b=>some (.bool !b)
 |_,_=>none
def tI:List AV->UInt8
 | [.int .u8 n]=>UInt8.ofNat n.toNat
 |_=>0
def mL:List AV->Bool
 | [.int .u8 _]=>true
 |_=>false
def cut(cs:List AV)(off n:Nat):List AV:=(cs.drop off).take n
def spl(cs:List AV)(off:Nat)(vs:List AV):List AV:=cs.take off++vs++cs.drop (off+vs.length)
def pack(ag:Bool)(cs:List AV):AV:=if ag then .agg cs else cs.headD .dead
def AV.cellsOf:AV->List AV
 |.agg cs=>cs
 |v=>[v]
def bK(cs:List AV):Bool:=cs.all AV.cell
def chunk(e:Nat):Nat->List AV->List (List AV)
 |0,_=>[]
 |n+1,cs=>cs.take e::chunk e n (cs.drop e)
def rdS(σ:St)(e:Nat):AV->Option (List (List AV))
 |.sl e' _ xs=>if e'=e\/xs=[]then some xs else none
 | .hs e' id off len => if e' = e then match σ[id]? with
   |some (.vec e2 xs)=>if e2=e/\off+len<=xs.length then some ((xs.drop off).take len)else none
   |_=>none else none
 | .va e' id off len => if e' = e then match σ[id]? with
   |some (.var cs)=>if off+len*e<=cs.length then some (chunk e len (cs.drop off))else none
   |_=>none else none
 |.str s=>if e=1 then some (s.map fun b=>[.int .u8 b.toNat])else none
 |_=>none
def rws:Option bZ->Option (Bool×Nat×List (List AV))
 |some (.vec e xs)=>some (false,e,xs)
 |some (.vex e xs)=>some (true,e,xs)
 |_=>none
def mkr(ex:Bool)(e:Nat)(xs:List (List AV)):bZ:=if ex then .vex e xs else .vec e xs
def D9:List UInt8->List UInt8->Int
 | [],[]=>0
 | [],_::_=>-1
 |_::_,[]=>1
 |a::x,b::y=>if a<b then -1 else if b<a then 1 else D9 x y
def rdX(σ:St)(e:Nat):AV->Option (List (List AV))
 | .hs e' id off len => if e' = e then match rws σ[id]? with
   |some (_,e2,xs)=>if e2=e/\off+len<=xs.length then some ((xs.drop off).take len)else none
   |none=>none else none
 |v=>rdS σ e v
def rdB(σ:St):AV->Option (List (List AV))
 |.str _=>none
 |v=>rdS σ 1 v
def mV:AV->List Nat
 |.hs _ id _ _|.va _ id _ _=>[id]
 |_=>[]
def MA:Bool->AV->Option Nat
 |false,.sl _ _ xs=>some xs.length
 |false,.hs _ _ _ len|false,.va _ _ _ len=>some len
 |true,.str s=>some s.length
 |_,_=>none
def MK:AV->List AV->Option AV
 |x,[]=>some x
 |.int k a,.int k' b::r=>MK (.int k (if b<a then b else a)) r
 |_,_=>none
def MI:AV->List AV->Option AV
 |x,[]=>some x
 |.int k a,.int k' b::r=>MI (.int k (if b > a then b else a)) r
 |_,_=>none
def JH(cs:List AV):List (Nat×Nat×AV)->List AV
 | []=>cs
 |(off,_,v)::r=>JH (spl cs off v.cellsOf) r
def tq(n:Nat):List (Nat×Nat×AV)->Bool
 | []=>true
 |(off,sz,v)::r=>v.cellsOf.length==sz&&decide (off+sz<=n)&&bK v.cellsOf&&tq n r
def WK(x:AV):Int:=match x with|.int _ n=>n|_=>-1
def bz(ρ:Opd->AV)(d:Int):Option Opd->Int
 |none=>d
 |some x=>WK (ρ x)
def eF:AV->Nat
 |.bool _=>0
 |.int _ _=>1
 |.str _=>2
 |_=>3
def iU:List (Nat×Nat)->List AV->Bool
 | [],cs=>cs.isEmpty
 |(n,k)::r,cs=>(cs.take n).length==n&&(cs.take n).all (eF ·==k)&&iU r (cs.drop n)
def I0:List (Nat×Nat)->List Nat
 | []=>[]
 |(n,k)::r=>List.replicate n k++I0 r
def sqG(k n:Nat):List Nat->List (Nat×Nat)
 | []=>[(n,k)]
 |x::r=>if x=k then sqG k (n+1) r else (n,k)::sqG x 1 r
def lh:List Nat->List (Nat×Nat)
 | []=>[]
 |x::r=>sqG x 1 r
def nU(xs:List (List AV)):List (Nat×AV)->List (List AV)
 | []=>xs
 |(i,v)::r=>nU (xs.set i v.cellsOf) r
def qH(e n:Nat):List (Nat×AV)->Bool
 | []=>true
 |(i,v)::r=>v.cellsOf.length==e&&decide (i<n)&&bK v.cellsOf&&qH e n r
def pP:Option Nat->AV->Bool
 |none,.int _ _=>true
 |some n,.agg cs=>iU [(n,1)] cs
 |_,_=>false
def keq:AV->AV->Option Bool
 |.int k a,.int k' b=>if k=k' then some (a==b)else none
 |.agg a,.agg b=>iB a b
 |_,_=>none
def ko(kk:Option Nat)(k:AV):List (List AV)->Option (Option Nat)
 | []=>some none
 | x :: r => match x with
   | [a, _] => if pP kk a then match keq k a with
     |some true=>some (some 0)
     |some false=>(ko kk k r).map (·.map (·+1))
     |none=>none else none
   |_=>none
def mM(n:Nat)(σ:St)(K:AV->List Nat->Bool->St->Prop):MOp->List AV->Prop
 |.mkm,[]=>K (.mp n) [n] true (σ.set n (.map []))
 | .lkp kk z ok, [.mp id, k] => pP kk k = true /\ match σ[id]? with
   | some (.map es) => (match ko kk k es with
     |some (some j)=>K (if ok then .tup [(es.getD j []).getD 1 .dead,.bool true]else (es.getD j []).getD 1 .dead) [id] false σ
     |some none=>K (if ok then .tup [z,.bool false]else z) [id] false σ
     |none=>False)
   |_=>False
 | .upd kk, [.mp id, k, v] => pP kk k = true /\ match σ[id]? with
   | some (.map es) => (match ko kk k es with
     |some (some j)=>K (.tup []) [id] true (σ.set id (.map (es.set j [k,v])))
     |some none=>K (.tup []) [id] true (σ.set id (.map (es++[[k,v]])))
     |none=>False)
   |_=>False
 | .rng, [.mp id] => (match σ[id]? with
   |some (.map es)=>K (.ptr n 0) [n,id] true (σ.set n (.iter id es.length []))
   |_=>False)
 | .ent, [.ptr id 0] => (match σ[id]? with
   | some (.iter m N seen) => (match seen.getLast?, σ[m]? with
     |some i,some (.map es)=>es.length=N/\i<N/\K (.tup (es.getD i [])) [id,m] false σ
     |_,_=>False)
   |_=>False)
 |_,_=>False
theorem UL{n m:Nat}{σ:St}{K:AV->List Nat->Bool->St->Prop}{q:MOp}{l:List AV}(h:q≠.mkm/\q≠.rng)(b:mM n σ K q l):mM m σ K q l:=by
 cases q;case mkm=>grind
 case rng=>grind
 all_goals(rcases l with _|⟨x,_|⟨y,_|⟨z,_|⟨u,l⟩⟩⟩⟩<;>first|exact b|(cases x<;>first|exact b|(rename_i i o;cases o<;>exact b)))
def qF(x:AV)(σ:St)(K:AV->St->Prop):Prop:=match x with
 | .ptr id 0 => (match σ[id]? with
   | some (.iter m N seen) => (match σ[m]? with
     |some (.map es)=>id≠m/\es.length=N/\(∀i,i<N->i∉seen->K (.tup (.bool true::es.getD i [])) (σ.set id (.iter m N (seen++[i]))))/\((∀i,i<N->i∈seen)->K (.tup [.bool false]) σ)
     |_=>False)
   |_=>False)
 |_=>False
def opF (n : Nat) (σ : St) (ρ : Opd -> AV) (K : AV -> List Nat -> Bool -> St -> Prop) : AOp -> Prop
 |.mv x=>K (ρ x) [] false σ
 | .pick c a b => match ρ c with
   |.bool t=>K (zc t (ρ a) (ρ b)) [] false σ
   |_=>False
 | .bin op x y => match ρ x, ρ y with
   |.int k a,.int k' b=>mZ op k a k' b fun v=>K v [] false σ
   |_,_=>False
 | .eqv kd neg x y => match qf kd (ρ x) (ρ y) with
   |some b=>K (.bool (b != neg)) [] false σ
   |none=>False
 | .eqa ks neg x y => match ρ x, ρ y with
   | .agg a, .agg b => iU ks a = true /\ iU ks b = true /\ match iB a b with
     |some r=>K (.bool (r != neg)) [] false σ
     |none=>False
   |_,_=>False
 | .un op x => match unV op (ρ x) with
   |some v=>K v [] false σ
   |none=>False
 | .cvt k x => match ρ x with
   |.int _ m=>K (.int k (k.wrap m)) [] false σ
   |_=>False
 | .b2s x => match rdB σ (ρ x) with
   |some xs=>xs.all mL=true/\K (.str (xs.map tI)) (mV (ρ x)) false σ
   |none=>False
 | .nilc x => match ρ x with
   |.ptr id o=>K (.ptr id o) [] false σ
   |.vp e id i o=>K (.vp e id i o) [] false σ
   |.elt e xs i o=>K (.elt e xs i o) [] false σ
   |.fn (.func f) cs=>K (.fn (.func f) cs) [] false σ
   |_=>False
 | .fld ag off sz x => match ρ x with
   |.agg cs=>off+sz<=cs.length/\K (pack ag (cut cs off sz)) [] false σ
   |_=>False
 | .fldA off x => match ρ x with
   |.ptr id o=>K (.ptr id (o+off)) [] false σ
   |.vp e id i o=>K (.vp e id i (o+off)) [] false σ
   |.elt e xs i o=>K (.elt e xs i (o+off)) [] false σ
   |_=>False
 | .idx ag m e x i => match ρ x, ρ i with
   |.agg cs,.int _ j=>0<=j/\j<m/\cs.length=m*e/\K (pack ag (cut cs (j.toNat*e) e)) [] false σ
   |_,_=>False
 | .idxA m e x i => match ρ x, ρ i with
   |.ptr id o,.int _ j=>0<=j/\j<m/\K (.ptr id (o+j.toNat*e)) [] false σ
   |.vp e' id q o,.int _ j=>0<=j/\j<m/\K (.vp e' id q (o+j.toNat*e)) [] false σ
   |.elt e' xs q o,.int _ j=>0<=j/\j<m/\K (.elt e' xs q (o+j.toNat*e)) [] false σ
   |_,_=>False
 | .idxS e x i => match ρ x, ρ i with
   |.sl e' cl xs,.int _ j=>e'=e/\0<=j/\j<xs.length/\K (.elt e xs j.toNat 0) [] false σ
   |.hs e' id off len,.int _ j=>e'=e/\0<=j/\j<len/\K (.vp e id (off+j.toNat) 0) [] false σ
   |.va e' id off len,.int _ j=>e'=e/\0<=j/\j<len/\K (.ptr id (off+j.toNat*e)) [] false σ
   |_,_=>False
 | .ld ag sz x => match ρ x with
   | .ptr id o => match σ[id]? with
     |some (.var cs)=>o+sz<=cs.length/\K (pack ag (cut cs o sz)) [id] false σ
     |_=>False
   | .vp e id i o => match σ[id]? with
     |some (.vec e' xs)=>e'=e/\o+sz<=e/\i<xs.length/\K (pack ag (cut (xs.getD i []) o sz)) [id] false σ
     |_=>False
   |.elt e xs i o=>o+sz<=e/\i<xs.length/\K (pack ag (cut (xs.getD i []) o sz)) [] false σ
   |_=>False
 | .sto sz x y => (ρ y).cellsOf.length = sz /\ bK (ρ y).cellsOf = true /\ match ρ x with
   | .ptr id o => match σ[id]? with
     |some (.var cs)=>o+sz<=cs.length/\K (.tup []) [id] true (σ.set id (.var (spl cs o (ρ y).cellsOf)))
     |_=>False
   | .vp e id i o => match σ[id]? with
     |some (.vec e' xs)=>e'=e/\o+sz<=e/\i<xs.length/\K (.tup []) [id] true (σ.set id (.vec e (xs.set i (spl (xs.getD i []) o (ρ y).cellsOf))))
     |_=>False
   |_=>False
 |.new z=>K (.ptr n 0) [n] true (σ.set n (.var z))
 |.box sz x=>(ρ x).cellsOf.length=sz/\bK (ρ x).cellsOf=true/\K (.ptr n 0) [n] true (σ.set n (.var (ρ x).cellsOf))
 |.bld z ps=>tq z.length (ps.map fun p=>(p.1,p.2.1,ρ p.2.2))=true/\K (.agg (JH z (ps.map fun p=>(p.1,p.2.1,ρ p.2.2)))) [] false σ
 |.bldS e m z ps=>qH e m (ps.map fun p=>(p.1,ρ p.2))=true/\K (.sl e true (nU (List.replicate m z) (ps.map fun p=>(p.1,ρ p.2)))) [] false σ
 |.bldO e m z ps=>qH e m (ps.map fun p=>(p.1,ρ p.2))=true/\K (.hs e n 0 m) [n] true (σ.set n (.vec e (nU (List.replicate m z) (ps.map fun p=>(p.1,ρ p.2)))))
 | .mk e bytes z l c => match ρ l, ρ c with
   |.int _ a,.int _ b=>0<=a/\a<=b/\(bytes:Int)*b<=281474976710656/\b<=9223372036854775807/\K (.hs e n 0 a.toNat) [n] true (σ.set n (.vec e (List.replicate a.toNat z)))
   |_,_=>False
 | .sli e x lo hi mx => match ρ x with
   |.sl e' cl xs=>(e'=e\/xs=[])/\0<=bz ρ 0 lo/\bz ρ 0 lo<=bz ρ xs.length hi/\bz ρ xs.length hi<=bz ρ xs.length mx/\bz ρ xs.length mx<=xs.length/\(mx=none\/hi≠none)/\
    K (.sl e (match mx with|none=>cl&&hi.isNone|some _=>decide (bz ρ xs.length mx=bz ρ xs.length hi)) ((xs.drop (bz ρ 0 lo).toNat).take ((bz ρ xs.length hi).toNat-(bz ρ 0 lo).toNat))) [] false σ
   | .hs e' id off len => e' = e /\ match mx with
     |none=>0<=bz ρ 0 lo/\bz ρ 0 lo<=bz ρ len hi/\bz ρ len hi<=len/\K (.hs e id (off+(bz ρ 0 lo).toNat) ((bz ρ len hi).toNat-(bz ρ 0 lo).toNat)) [] false σ
     |some _=>hi≠none/\bz ρ 0 lo=0/\bz ρ len hi=0/\bz ρ len mx=0/\K (.sl e true []) [] false σ
   |.va e' id off len=>e'=e/\mx=none/\0<=bz ρ 0 lo/\bz ρ 0 lo<=bz ρ len hi/\bz ρ len hi<=len/\K (.va e id (off+(bz ρ 0 lo).toNat*e) ((bz ρ len hi).toNat-(bz ρ 0 lo).toNat)) [] false σ
   |_=>False
 | .sliA e m x lo hi => match ρ x with
   |.ptr id o=>0<=bz ρ 0 lo/\bz ρ 0 lo<=bz ρ m hi/\bz ρ m hi<=m/\K (.va e id (o+(bz ρ 0 lo).toNat*e) ((bz ρ m hi).toNat-(bz ρ 0 lo).toNat)) [] false σ
   |_=>False
 | .ext i x => match ρ x with
   |.tup vs=>i<vs.length/\K (vs.getD i .dead) [] false σ
   |_=>False
 | .len st x => match MA st (ρ x) with
   |some m=>K (.int .i64 m) [] false σ
   |none=>False
 | .cap x => match ρ x with
   |.sl _ true xs=>K (.int .i64 xs.length) [] false σ
   |_=>False
 | .app e bytes s x => match rdS σ e (ρ x) with
   |none=>False
   | some ys => match ρ s with
     |.sl e' cl xs=>(e'=e\/xs=[])/\cl=true/\(xs=[]\/ys≠[])/\(xs.length+ys.length)*bytes<=140737488355328/\xs.length+ys.length<=9223372036854775807/\
      K (.hs e n 0 (xs.length+ys.length)) (n::mV (ρ x)) true (σ.set n (.vec e (xs++ys)))
     | .hs e' id off len => e' = e /\ match σ[id]? with
       |some (.vec e2 xs)=>e2=e/\off+len<=xs.length/\(len+ys.length)*bytes<=140737488355328/\len+ys.length<=9223372036854775807/\
        K (.hs e n 0 (len+ys.length)) (n::id::mV (ρ x)) true ((σ.set id .gone).set n (.vec e ((xs.drop off).take len++ys)))
       |_=>False
     |_=>False
 | .cpy e d s => match rdS σ e (ρ s) with
   |none=>False
   | some ys => match ρ d with
     | .hs e' id off len => e' = e /\ match σ[id]? with
       |some (.vec e2 xs)=>e2=e/\off+len<=xs.length/\K (.int .i64 (min ys.length len:Nat)) (id::mV (ρ s)) true (σ.set id (.vec e (xs.take off++ys.take (min ys.length len)++xs.drop (off+min ys.length len))))
       |_=>False
     | .va e' id off len => e' = e /\ match σ[id]? with
       |some (.var cs)=>off+len*e<=cs.length/\K (.int .i64 (min ys.length len:Nat)) (id::mV (ρ s)) true (σ.set id (.var (spl cs off (ys.take (min ys.length len)).flatten)))
       |_=>False
     |_=>False
 | .mn xs => match xs.map ρ with
   | v :: r => match MK v r with
     |some u=>K u [] false σ
     |none=>False
   | []=>False
 | .mx xs => match xs.map ρ with
   | v :: r => match MI v r with
     |some u=>K u [] false σ
     |none=>False
   | []=>False
 |.mkf f caps=>K (.fn f (caps.map ρ)) [] false σ
 |.mop q xs=>mM n σ K q (xs.map ρ)
 | .slx e x lo hi mx => match ρ x with
   | .hs e' id off len => e' = e /\ match mx with
     | none => (match rws σ[id]? with
       |some (_,e2,xs)=>e2=e/\off+len<=xs.length/\0<=bz ρ 0 lo/\bz ρ 0 lo<=bz ρ len hi/\off+bz ρ len hi<=xs.length/\K (.hs e id (off+(bz ρ 0 lo).toNat) ((bz ρ len hi).toNat-(bz ρ 0 lo).toNat)) [id] false σ
       |none=>False)
     |some _=>hi≠none/\0<=bz ρ 0 lo/\bz ρ 0 lo<=bz ρ len hi/\bz ρ len hi<=bz ρ len mx/\bz ρ len mx<=len/\K .dead [] false σ
   |_=>False
 | .apx e bytes s x => match rdX σ e (ρ x) with
   |none=>False
   | some ys => match ρ s with
     | .hs e' id off len => e' = e /\ match rws σ[id]? with
       | some (ex, e2, xs) => e2 = e /\ off + len <= xs.length /\ if off + len + ys.length <= xs.length then
          K (.hs e n 0 (len+ys.length)) (n::id::mV (ρ x)) true ((σ.set id .gone).set n (mkr ex e ((xs.drop off).take len++ys++xs.drop (off+len+ys.length))))
         else ex=true/\(len+ys.length)*bytes<=140737488355328/\len+ys.length<=9223372036854775807/\
          K (.hs e n 0 (len+ys.length)) (n::id::mV (ρ x)) true (σ.set n (.vec e ((xs.drop off).take len++ys)))
       |none=>False
     |_=>False
 | .apm e bytes z s x => match ρ s, ρ x with
   | .hs e' id off len, .int _ m => e' = e /\ match σ[id]? with
     |some (.vex e2 xs)=>e2=e/\off+len<=xs.length/\0<m.toNat/\m.toNat=m/\xs.length<off+len+m.toNat/\(len+m.toNat)*bytes<=140737488355328/\len+m.toNat<=9223372036854775807/\
      K (.hs e n 0 (len+m.toNat)) [n,id] true (σ.set n (.vec e ((xs.drop off).take len++List.replicate m.toNat z)))
     |_=>False
   |_,_=>False
 | .clr e z x => match ρ x with
   | .hs e' id off len => e' = e /\ match rws σ[id]? with
     |some (ex,e2,xs)=>e2=e/\off+len<=xs.length/\K (.tup []) [id] true (σ.set id (mkr ex e (xs.take off++List.replicate len z++xs.drop (off+len))))
     |none=>False
   |_=>False
 | .cpx e d s => match rdX σ e (ρ s) with
   |none=>False
   | some ys => match ρ d with
     | .hs e' id off len => e' = e /\ match rws σ[id]? with
       |some (ex,e2,xs)=>e2=e/\off+len<=xs.length/\K (.int .i64 (min ys.length len:Nat)) (id::mV (ρ s)) true (σ.set id (mkr ex e (xs.take off++ys.take (min ys.length len)++xs.drop (off+min ys.length len))))
       |none=>False
     |_=>False
 | .cpq x => match ρ x with
   | .hs e id off len => (match σ[id]? with
     |some (.vex e2 xs)=>e2=e/\0<e/\off+len<=xs.length/\K (.int .i64 (xs.length-off:Nat)) [id] false σ
     |_=>False)
   |_=>False
 | .cmb x y => match ρ x, ρ y with
   | .va e1 ix ox nx, .va e2 iy oy ny => (match rdS σ 1 (.va e1 ix ox nx), rdS σ 1 (.va e2 iy oy ny) with
     |some a,some b=>a.all mL=true/\b.all mL=true/\K (.int .i64 (D9 (a.map tI) (b.map tI))) [ix,iy] false σ
     |_,_=>False)
   |_,_=>False
 | .ovl e x y => match ρ x, ρ y with
   | .hs ex i ox nx, .hs ey j oy ny => (match rws σ[i]?, rws σ[j]? with
     |some (_,e1,xs),some (_,e2,ys)=>ex=e/\ey=e/\e1=e/\e2=e/\0<e/\i≠j/\ox+nx<=xs.length/\oy+ny<=ys.length/\K (.bool false) [i,j] false σ
     |_,_=>False)
   | .sl ex _ _, .hs ey j oy ny => (match rws σ[j]? with
     |some (_,e2,ys)=>ex=e/\ey=e/\e2=e/\0<e/\oy+ny<=ys.length/\K (.bool false) [j] false σ
     |_=>False)
   |_,_=>False
 |.call _ _|.isn _ _|.nxt _=>False
def ofCell:Value->Option AV
 |.bool b=>some (.bool b)
 |.int k n=>some (.int k n)
 |.string s=>some (.str s.data.toList)
 |.pointer none=>some .nilp
 |.slice none 0 0=>some (.sl 0 true [])
 |.nilFunc=>some .nilf
 |_=>none
def ofCells:List Value->Option (List AV)
 | []=>some []
 | v :: vs => match ofCell v, ofCells vs with
   |some a,some b=>some (a::b)
   |_,_=>none
def ofVal:Value->Option AV
 |.agg cs=>(ofCells cs.toList).map .agg
 |.map none=>some .dead
 |v=>ofCell v
def az:Operand->Option Opd
 |.tmp t=>some (.t t)
 |.const v=>(ofVal v).map .c
 |.func f=>some (.c (.fn (.func f) []))
 |.global _=>none
def en:List Operand->Option (List Opd)
 | []=>some []
 | x :: xs => match az x, en xs with
   |some a,some b=>some (a::b)
   |_,_=>none
def fP:Option Operand->Option (Option Opd)
 |none=>some none
 |some x=>(az x).map some
def gQ(P:Program)(t:TypeId):Option (Bool×Nat):=match P.underlying t,P.info? t with
 |some (.struct _),some i=>some (true,i.size)
 |some (.array _ _),some i=>some (true,i.size)
 |some _,some i=>if i.size=1 then some (false,1)else none
 |_,_=>none
def jJ(P:Program)(t:TypeId):Option (List AV):=match P.info? t with
 | some i => match i.zero with
   |some z=>if z.cells.size=i.size then ofCells z.cells.toList else none
   |none=>none
 |none=>none
def lG(P:Program)(fs:Array Field):List (Nat×Operand)->Option (List (Nat×Nat×Opd))
 | []=>some []
 | (i, x) :: r => match fs[i]?, az x, lG P fs r with
   | some f, some y, some q => match P.info? f.type with
     |some ti=>some ((f.offset,ti.size,y)::q)
     |none=>none
   |_,_,_=>none
def lE(sz:Nat):List (Nat×Operand)->Option (List (Nat×Nat×Opd))
 | []=>some []
 | (i, x) :: r => match az x, lE sz r with
   |some y,some q=>some ((i*sz,sz,y)::q)
   |_,_=>none
def jN:List (Nat×Operand)->Option (List (Nat×Opd))
 | []=>some []
 | (i, x) :: r => match az x, jN r with
   |some y,some q=>some ((i,y)::q)
   |_,_=>none
def iT (P : Program) (c : Call) : Option AOp := match c.callee with
 | .value f => match az f, en c.args.toList with
   |some g,some xs=>some (.call g xs)
   |_,_=>none
 | .builtin b => match b, c.args.toList, c.argTypes.toList with
   | .len, [x], [t] => match P.underlying t with
     |some (.slice _)=>(az x).map (.len false)
     |some .string=>(az x).map (.len true)
     |_=>none
   | .cap, [x], [t] => match P.underlying t with
     |some (.slice _)=>(az x).map .cap
     |_=>none
   | .append, [s, x], [t, u] => match P.underlying t with
     | some (.slice e) => match P.info? e, jJ P e, az s, az x with
       | some i, some _, some a, some b => (match P.underlying u with
         |some (.slice _)|some .string=>if 0<i.size/\0<i.bytes then some (.app i.size i.bytes a b)else none
         |_=>none)
       |_,_,_,_=>none
     |_=>none
   | .copy, [d, s], [t, u] => match P.underlying t with
     | some (.slice e) => match P.info? e, az d, az s with
       |some i,some a,some b=>if 0<i.size then some (.cpy i.size a b)else none
       |_,_,_=>none
     |_=>none
   |.min,xs,_=>(en xs).map .mn
   |.max,xs,_=>(en xs).map .mx
   |_,_,_=>none
 |.invoke _ _=>none
def Ca(P:Program)(t:TypeId):Option (Option Nat):=match P.underlying t with
 |some (.int _)=>some none
 | some (.array n e) => (match P.underlying e with
   |some (.int _)=>if jC P 40 t=some (List.replicate n 1)/\P.cellsOf e=1/\I0 [(n,1)]=List.replicate n 1 then some (some n)else none
   |_=>none)
 |_=>none
def Ph(P:Program)(t:TypeId):Option AV:=match P.info? t with
 | some i => match i.zero with
   |some v=>ofCell v
   |none=>none
 |none=>none
def kQ (P : Program) : Op -> Option AOp
 |.move x|.assign x=>(az x).map .mv
 | .pick c a b => match az c, az a, az b with
   |some c,some a,some b=>some (.pick c a b)
   |_,_,_=>none
 | .binOp op t x y _ => match az x, az y with
   | some a, some b => (match P.underlying t with
     |some (.int _)=>some (.bin op a b)
     |some .bool=>(match op with|.eql=>some (.eqv 0 false a b)|.neq=>some (.eqv 0 true a b)|_=>none)
     |some .string=>(match op with|.eql=>some (.eqv 1 false a b)|.neq=>some (.eqv 1 true a b)|_=>none)
     |some (.pointer _)=>(match op with|.eql=>some (.eqv 2 false a b)|.neq=>some (.eqv 2 true a b)|_=>none)
     |some (.func _ _ _)=>(match op with|.eql=>some (.eqv 3 false a b)|.neq=>some (.eqv 3 true a b)|_=>none)
     | some (.struct _) | some (.array _ _) => (match jC P 40 t with
       |some l=>if I0 (lh l)=l/\P.eqGuardType P.depth t=false then (match op with|.eql=>some (.eqa (lh l) false a b)|.neq=>some (.eqa (lh l) true a b)|_=>none)else none
       |none=>none)
     |some (.slice _)=>(match y with|.const (.slice none 0 0)=>(match op with|.eql=>some (.isn false a)|.neq=>some (.isn true a)|_=>none)|_=>none)
     |_=>none)
   |_,_=>none
 |.unOp op _ x=>(az x).map (.un op)
 | .convert s d x => match P.underlying s, P.underlying d, az x with
   |some (.int _),some (.int k),some a=>some (.cvt k a)
   |some (.slice e),some .string,some a=>(match P.underlying e with|some (.int .u8)=>some (.b2s a)|_=>none)
   |_,_,_=>none
 |.nilCheck x=>(az x).map .nilc
 | .field t x i => match P.underlying t, az x with
   | some (.struct fs), some a => (match fs[i]? with
     |some f=>(gQ P f.type).map fun p=>.fld p.1 f.offset p.2 a
     |none=>none)
   |_,_=>none
 | .fieldAddr t x i => match P.underlying t, az x with
   | some (.struct fs), some a => (match fs[i]? with
     | some f => (match P.info? f.type with
       |some ti=>if ti.size=0 then none else some (.fldA f.offset a)
       |none=>none)
     |none=>none)
   |_,_=>none
 | .index t x i => match P.underlying t, az x, az i with
   |some (.array n e),some a,some b=>(gQ P e).map fun p=>.idx p.1 n p.2 a b
   |_,_,_=>none
 | .indexAddr t x i => match P.underlying t, az x, az i with
   |some (.array n e),some a,some b=>(P.info? e).map fun ti=>.idxA n ti.size a b
   |some (.slice e),some a,some b=>(match P.info? e with|some ti=>if 0<ti.size then some (.idxS ti.size a b)else none|none=>none)
   |_,_,_=>none
 | .load t x => match gQ P t, az x with
   |some p,some a=>some (.ld p.1 p.2 a)
   |_,_=>none
 | .store t x y => match P.info? t, az x, az y with
   |some i,some a,some b=>some (.sto i.size a b)
   |_,_,_=>none
 | .alloc t => match jJ P t, P.info? t with
   |some z,some i=>some (.new z)
   |_,_=>none
 | .box t x => match P.info? t, az x with
   |some i,some a=>some (.box i.size a)
   |_,_=>none
 | .build t ps => match P.underlying t, jJ P t with
   |some (.struct fs),some z=>(lG P fs ps.toList).bind fun q=>if fs.toList.all fun f=>(P.info? f.type).isSome then some (.bld z q)else none
   |some (.array n e),some z=>(P.info? e).bind fun ti=>(lE ti.size ps.toList).map (.bld z)
   |_,_=>none
 | .buildSlice t n ps => match P.underlying t with
   | some (.slice e) => (match jJ P e, P.info? e, jN ps.toList with
     |some z,some i,some q=>if 0<i.size/\n*i.size<=2 ^ 24 then some (if i.size=96/\0<n then .bldO i.size n z q else .bldS i.size n z q)else none
     |_,_,_=>none)
   |_=>none
 | .makeSlice t l c => match P.underlying t with
   | some (.slice e) => (match jJ P e, P.info? e, az l, az c with
     |some z,some i,some a,some b=>if 0<i.size then some (.mk i.size i.bytes z a b)else none
     |_,_,_,_=>none)
   |_=>none
 | .slice t x lo hi mx => match P.underlying t, az x, fP lo, fP hi, fP mx with
   |some (.slice e),some a,some l,some h,some m=>(match P.info? e with|some i=>if 0<i.size then some (.sli i.size a l h m)else none|none=>none)
   |some (.array n e),some a,some l,some h,some none=>(match P.info? e with|some i=>if 0<i.size/\n<=maxLen then some (.sliA i.size n a l h)else none|none=>none)
   |_,_,_,_,_=>none
 |.extract x i=>(az x).map (.ext i)
 |.makeFunc f first caps=>if first.isEmpty then (en caps.toList).map (.mkf f)else none
 |.call c=>iT P c
 | .makeMap t r => if r.isSome then none else match P.underlying t with
   |some (.map _ _)=>some (.mop .mkm [])
   |_=>none
 | .lookup t m k ok => match P.underlying t, az m, az k with
   | some (.map kt et), some a, some b => (match Ca P kt, Ph P et with
     |some kk,some z=>some (.mop (.lkp kk z ok) [a,b])
     |_,_=>none)
   |_,_,_=>none
 | .mapUpdate t m k v => match P.underlying t, az m, az k, az v with
   |some (.map kt _),some a,some b,some c=>(Ca P kt).map fun kk=>.mop (.upd kk) [a,b,c]
   |_,_,_,_=>none
 | .range t m => match P.underlying t, az m with
   |some (.map _ _),some a=>some (.mop .rng [a])
   |_,_=>none
 |.next it st=>if st then none else (az it).map .nxt
 |.entry it=>(az it).map fun a=>.mop .ent [a]
 |_=>none
def wx (n : String) : Bool := n == "slices.overlaps[int]" || n == "slices.overlaps[forkhead/api.Table]" || n == "slices.overlaps[forkhead/api.Request]"
def Fy (P : Program) : Op -> Option AOp
 | .slice t x lo hi mx => match P.underlying t, az x, fP lo, fP hi, fP mx with
   |some (.slice e),some a,some l,some h,some m=>(match P.info? e with|some i=>if 0<i.size then some (.slx i.size a l h m)else none|none=>none)
   |_,_,_,_,_=>none
 | .call c => match c.callee with
   | .value (.func f) => (match P.funcs[f]?, en c.args.toList with
     | some fn, some [a, b] => if fn.body.isNone && fn.origin == "slices.overlaps" && wx fn.name then (match fn.params.toList with
       | t :: _ => (match P.underlying t with
         | some (.slice e) => (match P.info? e with
           |some i=>if 0<i.size then some (.ovl i.size a b)else none
           |none=>none)
         |_=>none)
       | _ => none) else if fn.body.isNone && fn.name == "internal/bytealg.Compare" && fn.origin == "" then some (.cmb a b) else iT P c
     |_,_=>iT P c)
   | .builtin b => (match b, c.args.toList, c.argTypes.toList with
     | .cap, [x], [t] => (match P.underlying t with
       |some (.slice _)=>(az x).map .cpq
       |_=>none)
     | .append, [s, x], [t, u] => (match P.underlying t with
       | some (.slice e) => (match P.info? e, jJ P e, az s, az x with
         | some i, some _, some a, some b => (match P.underlying u with
           |some (.slice _)|some .string=>if 0<i.size/\0<i.bytes then some (.apx i.size i.bytes a b)else none
           | some (.int _) => (match jJ P e with
             |some z=>if 0<i.size then some (.apm i.size i.bytes z a b)else none
             |none=>none)
           |_=>none)
         |_,_,_,_=>none)
       |_=>none)
     | .copy, [d, s], [t, u] => (match P.underlying t with
       | some (.slice e) => (match P.info? e, az d, az s with
         |some i,some a,some b=>if 0<i.size then some (.cpx i.size a b)else none
         |_,_,_=>none)
       |_=>none)
     | .clear, [x], [t] => (match P.underlying t with
       | some (.slice e) => (match P.info? e, jJ P e, az x with
         |some i,some z,some a=>if 0<i.size then some (.clr i.size z a)else none
         |_,_,_=>none)
       |_=>none)
     |_,_,_=>iT P c)
   |_=>iT P c
 |op=>kQ P op
def Oe(fx:Bool)(P:Program)(op:Op):Option AOp:=if fx then Fy P op else kQ P op
theorem sX{d:Bool}{P:Program}{c:Op}{b:AOp}(h:Oe d P c=some b)(j:(∃g xs,b=.call g xs)\/(∃n x,b=.isn n x)\/∃x,b=.nxt x):kQ P c=some b:=by
 cases d with
 |false=>exact h
 | true =>
   have h:Fy P c=some b:=h;unfold Fy at h
   (repeat' split at h)<;>first
    |exact h
    |grind
    |omega
    |(obtain⟨_,_,rfl⟩:=afI.1 h;grind)
def zj (P : Program) : Code -> Bool
 | .region _ ops _ => ops.toList.any fun o => match o.op with
   | .call c => (match c.callee with
     |.builtin .clear|.builtin .cap=>true
     | .value (.func f) => (match P.funcs[f]? with
       |some fn=>fn.body.isNone
       |none=>false)
     |_=>false)
   |_=>false
 |.seq a b=>zj P a || zj P b
 |.cond _ a b=>zj P a || zj P b
 |.block _ b=>zj P b
 |.loop b=>zj P b
 |_=>false
def Snd(X:Nat->Prop)(loc:Nat->Option Loc)(σ:St)(w:World)(n:Nat)(r:Result Next)(K:AV->List Nat->Bool->St->Prop):Prop:=
 ∃av ft wr σ' v w' loc',K av ft wr σ'/\(r=.ok (.value v) w'\/(r=.ok .skip w'/\v=undef))/\Out X loc σ w av σ' v w' loc'/\(∀id,id≠n->loc' id=loc id)/\σ'.length=σ.length
section
variable{X:Nat->Prop}{loc:Nat->Option Loc}{σ:St}{w:World}{n:Nat}{P:Program}{ρ:Operand->Value}{ρ':Opd->AV}{K:AV->List Nat->Bool->St->Prop}
theorem Snd.pure(hr:Rel X loc σ w){r:Result Next}{v:Value}{av:AV}{ft:List Nat}{wr:Bool}(h1:r=.ok (.value v) w)(h2:Rl (aR X loc σ w) av v)(h3:K av ft wr σ):Snd X loc σ w n r K:=
 ⟨av,ft,wr,σ,v,w,loc,h3,.inl h1,⟨fun _ _ h=>h,hr,h2,Ev.refl _ _,fun _ h=>.inl h⟩,fun _ _=>rfl,rfl⟩
theorem Snd.of(hr:Rel X loc σ w){r:Result Next}{v:Value}{av:AV}{ft:List Nat}{wr:Bool}(h3:K av ft wr σ)(h1:r=.ok (.value v) w)(h2:Rl (aR X loc σ w) av v):Snd X loc σ w n r K:=Snd.pure hr h1 h2 h3
theorem Rl.ofCell(E:Env){v:Value}{a:AV}(h:ofCell v=some a):a.cell=true/\Rl E a v:=by
 unfold Go.FH.ofCell at h;split at h<;>simp only[afC,reduceCtorEq]at h<;>subst h
 ·exact⟨rfl,rfl⟩
 ·exact⟨rfl,rfl⟩
 ·refine⟨rfl,?_⟩;simp[Rl]
 ·exact⟨rfl,rfl⟩
 ·exact⟨rfl,none,0,0,rfl,rfl,afE _,af0,fun _=>rfl,fun _=>rfl,.inl rfl⟩
 ·exact⟨rfl,rfl⟩
theorem RlC.ofCells(E:Env):∀ {vs:List Value} {cs:List AV},ofCells vs=some cs->RlC E cs vs
 | [],_,h=>by simp only[Go.FH.ofCells,afC]at h;subst h;rfl
 | v :: vs, _, h => by
   simp only[Go.FH.ofCells]at h;split at h
   ·rename_i a b f g;simp only[afC]at h;subst h;obtain⟨i,d⟩:=Rl.ofCell E f;exact⟨v,vs,rfl,i,d,RlC.ofCells E g⟩
   grind
theorem Rl.ofVal(E:Env){v:Value}{a:AV}(h:ofVal v=some a):Rl E a v:=by
 unfold Go.FH.ofVal at h;split at h
 ·rename_i cs;obtain⟨qs,h1,rfl⟩:=afI.1 h;exact⟨cs.toList,af1,RlC.ofCells E h1⟩
 ·cases h;trivial
 ·exact(Rl.ofCell E h).2
theorem Hv{E:Env}{d:Fr}{a:Act}(i:∀t,Rl E (d.get t) (a.tmps.getD t undef)){x:Operand}{y:Opd}(h:az x=some y):Rl E (y.ev d) (a.eval x):=by
 cases x with
 |tmp t=>simp only[az,afC]at h;subst h;exact i t
 | const v =>
   obtain⟨c,e,rfl⟩:=afI.1 h;exact Rl.ofVal E e
 |global g=>simp[az]at h
 |func f=>simp only[az,afC]at h;subst h;exact⟨[],rfl,rfl⟩
def lm(E:Env)(ρ:Operand->Value)(ρ':Opd->AV):Prop:=∀x y,az x=some y->Rl E (ρ' y) (ρ x)
theorem io{E:Env}(h:lm E ρ ρ'):∀ {xs:List Operand} {ys:List Opd},en xs=some ys->RlS E (ys.map ρ') (xs.map ρ)
 | [],_,d=>by simp only[en,afC]at d;subst d;rfl
 | x :: xs, _, d => by
   simp only[en]at d;split at d
   ·rename_i a b f e;simp only[afC]at d;subst d;exact⟨ρ x,xs.map ρ,rfl,h x a f,io h e⟩
   grind
theorem VB{E:Env}{b:Bool}{x y:AV}{u v:Value}(d:Rl E x u)(c:Rl E y v):Rl E (zc b x y) (if b then u else v):=by
 unfold zc;split
 ·grind
 grind
theorem Ez(E:Env)(op:BinOp)(k k':IntKind)(a b:Int)(t:TypeId)(x y:Operand)(Q:AV->Prop)(h:mZ op k a k' b Q):
 ∃av v,Q av/\(do eqGuard op t x y (.int k a) (.int k' b);binOp op t (.int k a) (.int k' b):Sem Value).run P w=.ok v w/\Rl E av v:=by
 cases op<;>simp only[mZ]at h
 case add=>obtain⟨rfl,h⟩:=h;exact⟨_,_,h,by simp[eqGuard,binOp,Op.intArith],rfl⟩
 case sub=>obtain⟨rfl,h⟩:=h;exact⟨_,_,h,by simp[eqGuard,binOp,Op.intArith],rfl⟩
 case mul=>obtain⟨rfl,h⟩:=h;exact⟨_,_,h,by simp[eqGuard,binOp,Op.intArith],rfl⟩
 case quo=>obtain⟨rfl,h0,h⟩:=h;exact⟨_,_,h,by simp[eqGuard,binOp,Op.intDiv,h0],rfl⟩
 case rem=>obtain⟨rfl,h0,h⟩:=h;exact⟨_,_,h,by simp[eqGuard,binOp,Op.intDiv,h0],rfl⟩
 case and=>obtain⟨rfl,h⟩:=h;exact⟨_,_,h,by simp[eqGuard,binOp,Op.intBits,gD,ior,Qu,FR],rfl⟩
 case or=>obtain⟨rfl,h⟩:=h;exact⟨_,_,h,by simp[eqGuard,binOp,Op.intBits,gD,ior,Qu,FR],rfl⟩
 case xor=>obtain⟨rfl,h⟩:=h;exact⟨_,_,h,by simp[eqGuard,binOp,Op.intBits,gD,ior,Qu,FR],rfl⟩
 case andNot=>obtain⟨rfl,h⟩:=h;exact⟨_,_,h,by simp[eqGuard,binOp,Op.intBits,gD,ior,Qu,FR],rfl⟩
 case shl=>obtain⟨h0,h⟩:=h;exact⟨_,_,h,by simp[eqGuard,binOp,Op.shift,ac8.2 h0,Er,fd],rfl⟩
 case shr=>obtain⟨h0,h⟩:=h;exact⟨_,_,h,by simp[eqGuard,binOp,Op.shift,ac8.2 h0,Er,fd],rfl⟩
 case eql=>obtain⟨rfl,h⟩:=h;exact⟨_,_,h,by simp[eqGuard,binOp,Op.intCmp],rfl⟩
 case neq=>obtain⟨rfl,h⟩:=h;exact⟨_,_,h,by simp[eqGuard,binOp,Op.intCmp],rfl⟩
 case lss=>obtain⟨rfl,h⟩:=h;exact⟨_,_,h,by simp[eqGuard,binOp,Op.intCmp],rfl⟩
 case leq=>obtain⟨rfl,h⟩:=h;exact⟨_,_,h,by simp[eqGuard,binOp,Op.intCmp],rfl⟩
 case gtr=>obtain⟨rfl,h⟩:=h;exact⟨_,_,h,by simp[eqGuard,binOp,Op.intCmp],rfl⟩
 case geq=>obtain⟨rfl,h⟩:=h;exact⟨_,_,h,by simp[eqGuard,binOp,Op.intCmp],rfl⟩
theorem WQ{w:World}{b:Nat}{c:Array Value}{t:TypeId}{f:Nat×Nat}(h:w.heap[b]?=some (.cells c t f))(o:Nat):w.cell? ⟨b,o,none⟩=c[o]?:=by
 simp[World.cell?,h]
theorem gL(b o j:Nat):(⟨b,o,none⟩:Addr).add j=⟨b,o+j,none⟩:=by unfold Addr.add;simp
theorem nG{w:World}{b o m:Nat}{vs:List Value}(h:range? w b o m=some vs.toArray):vs.length=m/\∀j u,vs[j]?=some u->w.cell? ⟨b,o+j,none⟩=some u:=by
 obtain⟨e,d⟩:=range?_cells h;grind
theorem pX{w:World}{b o m:Nat}{vs:List Value}(h:range? w b o m=some vs.toArray)(p q:Nat)(n:p+q<=m):range? w b (o+p) q=some ((vs.drop p).take q).toArray:=by
 unfold range? at h ⊢;cases k:w.heap[b]? with
 |none=>grind
 | some l =>
   cases l with
   | cells c t f =>
     simp only[k]at h ⊢;by_cases e:o+m<=c.size
     ·rw[afA e]at h;rw[afA af0];simp only[afC]at h ⊢;apply acw.1
      have g:=acM Array.toList h;simp only[Array.toList_extract]at g ⊢;rw[<-g,ae2,adW,adj,adk af0];simp
     grind
   |_=>grind
theorem lW{w:World}{b:Nat}{cs vs ws:List Value}{t:TypeId}{f:Nat×Nat}(h:w.heap[b]?=some (.cells (cs++vs++ws).toArray t f)):range? w b cs.length vs.length=some vs.toArray:=by
 rw[range?_of h _ _ af1];simp
def sB(ag:Bool)(vs:List Value):Value:=if ag then .agg vs.toArray else vs.headD undef
theorem Rl.pack{E:Env}{a:Bool}{cs:List AV}{vs:List Value}(h:RlC E cs vs)(e:a=false->cs.length=1):Rl E (pack a cs) (sB a vs):=by
 cases a
 ·cases cs with
  |nil=>grind
  | cons c cs =>
    obtain⟨u,f,rfl,_,d,_⟩:=h;exact d
 ·exact⟨vs,rfl,h⟩
theorem nq{P:Program}{t:TypeId}{b:Nat}(h:gQ P t=some (true,b)):LB P t=true/\K0 P t=b:=by
 unfold gQ at h;unfold LB K0;grind
theorem gv{P:Program}{t:TypeId}{b:Nat}(h:gQ P t=some (false,b)):b=1/\(∀w,(isAgg t).run P w=.ok false w)/\∃i,P.info? t=some i/\i.size=1:=by
 unfold gQ at h;split at h
 ·grind
 ·grind
 ·rename_i d i g f j k
  split at h
  ·rename_i c;simp only[afC,afc,aes]at h;refine⟨h.symm,fun w=>?_,i,k,c⟩;unfold isAgg;rw[Sem.run_bind,run_underlying j w];simp
  grind
 grind
theorem uG{P:Program}{t:TypeId}{e:Bool}{d:Nat}(h:gQ P t=some (e,d)):∃i,P.info? t=some i/\i.size=d:=by
 cases e
 ·obtain⟨rfl,_,h⟩:=gv h;omega
 ·obtain⟨b,f⟩:=nq h;unfold LB at b;rw[afL]at b;obtain⟨i,c⟩:=adH.1 b.2;exact⟨i,c,by simpa[K0,c]using f⟩
theorem sK(P:Program)(w:World)(b o:Nat){t:TypeId}{d:Bool}{i:Nat}{vs:List Value}(g:gQ P t=some (d,i))(h:range? w b o i=some vs.toArray):
 (loadVar t ⟨b,o,none⟩).run P w=.ok (sB d vs) w:=by
 cases d
 ·obtain⟨rfl,e,_⟩:=gv g
  obtain⟨f,k⟩:=nG h;match vs,f with
  | [v], _ =>
    have:=k 0 v rfl;simp only[acR]at this;simp[loadVar,e,this,sB]
 ·obtain⟨e,f⟩:=nq g;subst f;exact xk P w b o t vs.toArray e h
variable(hr:Rel X loc σ w)(hρ:lm (aR X loc σ w) ρ ρ')
include hr hρ
theorem VU{o:Oper}{x:Operand}{a:Opd}(b:o.op=.move x\/o.op=.assign x)(e:az x=some a)(h:opF n σ ρ' K (.mv a)):Snd X loc σ w n ((execOp ρ o).run P w) K:=by
 refine Snd.pure hr (v:=ρ x) ?_ (hρ x a e) h;rcases b with b|b<;>simp[execOp,b]
theorem VX{o:Oper}{c x y:Operand}{g a b:Opd}(p:o.op=.pick c x y)(j:az c=some g)(i:az x=some a)(l:az y=some b)(h:opF n σ ρ' K (.pick g a b)):Snd X loc σ w n ((execOp ρ o).run P w) K:=by
 simp only[opF]at h;split at h
 ·rename_i t m;have d:=hρ c g j;rw[m]at d;simp only[Rl]at d;refine Snd.pure hr (v:=if t then ρ x else ρ y) ?_ (VB (hρ x a i) (hρ y b l)) h;simp[execOp,p,d,asBool]
 grind
theorem X9{o:Oper}{g:BinOp}{t q:TypeId}{x y:Operand}{a b:Opd}(A:o.op=.binOp g t x y q)(B:az x=some a)(j:az y=some b)(h:opF n σ ρ' K (.bin g a b)):Snd X loc σ w n ((execOp ρ o).run P w) K:=by
 simp only[opF]at h;split at h
 ·rename_i k m i r s u;have d:=hρ x a B;have c:=hρ y b j;rw[s]at d;rw[u]at c;simp only[Rl]at d c;obtain⟨av,v,z,f,C⟩:=Ez (P:=P) (w:=w) (aR X loc σ w) g k i m r t x y _ h;refine Snd.pure hr (v:=v) ?_ C z;simp only[execOp,A,d,c,Sem.run_bind,f,Result.andThen_ok,Sem.run_pure]
 grind
end
theorem iA.mono{E E':Env}(h:nI E E'){L:Loc}{o:bZ}(k:o.live=true->L.has=true->E'.w.heap[L.blk]?=E.w.heap[L.blk]?)(i:iA E L o):iA E' L o:=by
 cases o with
 |gone=>trivial
 | var cs =>
   obtain⟨a,f,g,t,b,c⟩:=i;exact⟨a,f,g,t,(k rfl a).trans b,RlC.mono h _ _ c⟩
 | vec e xs =>
   rcases i with a|⟨a,cs,g,ws,t,b,c,d,p,r⟩
   ·exact .inl a
   ·exact .inr ⟨a,cs,g,ws,t,(k rfl a).trans b,c,d,RlE.mono h _ _ _ p,r⟩
 | vex e xs =>
   rcases i with a|⟨a,cs,g,t,b,c,d,p⟩
   ·exact .inl a
   ·exact .inr ⟨a,cs,g,t,(k rfl a).trans b,c,d,RlE.mono h _ _ _ p⟩
 | map u =>
   obtain⟨a,j,f,b⟩:=i;exact⟨a,j,(k rfl a).trans f,b.mono h⟩
 | iter m n seen =>
   obtain⟨a,f,s,b,c,d⟩:=i;exact⟨a,f,s,h.loc _ _ b,c,(k rfl a).trans d⟩
section
variable{X:Nat->Prop}{loc loc':Nat->Option Loc}{σ σ':St}{w w':World}{n:Nat}{P:Program}{ρ:Operand->Value}{ρ':Opd->AV}{K:AV->List Nat->Bool->St->Prop}
theorem Rel.change(p:Rel X loc σ w)(e:∀id L,loc id=some L->loc' id=some L)(v:Ev (aV σ loc) w w')(g:∀b,aV σ' loc' b->aV σ loc b\/w.heap.size<=b)
 (d:∀id,σ'.length<=id->loc' id=none)
 (s:∀ (id:Nat) (o:bZ),σ'[id]?=some o->o.live=true->(σ[id]?=some o/\∀L,loc id=some L->L.has=true->w'.heap[L.blk]?=w.heap[L.blk]?)\/∃L,loc' id=some L/\iA (aR X loc' σ' w') L o)
 (f:∀ (i j:Nat) (a b:bZ) (n m:Loc),i≠j->σ'[i]?=some a->σ'[j]?=some b->a.live=true->b.live=true->loc' i=some n->loc' j=some m->n.has=true->m.has=true->n.blk≠m.blk):
 Rel X loc' σ' w':=by
 have q:=mm (X:=X) p e v g;refine⟨fun id o k h=>?_,f,fun b x=>?_,d⟩
 ·rcases s id o k h with⟨l,r⟩|l
  ·obtain⟨L,t,y⟩:=p.obj id o l h;exact⟨L,e _ _ t,iA.mono q (fun _ z=>r L t z) y⟩
  omega
 ·obtain⟨k,h⟩:=p.out b x;exact⟨ady k v.size,fun l=>(g b l).elim h fun r=>absurd k (Nat.not_lt.2 r)⟩
theorem fD(σ:St)(id j:Nat)(o:bZ){o':bZ}(h:(σ.set id o)[j]?=some o'):(id=j/\o=o'/\id<σ.length)\/(j≠id/\σ[j]?=some o'):=by
 grind
theorem Rel.turn(k:Rel X loc σ w){id:Nat}{o o':bZ}{L:Loc}(A:σ[id]?=some o)(C:o.live=true)(J:o'.live=true)(z:loc id=some L)(B:L.has=true)(c:Array Value)
 (P:∀E:Env,nI (aR X loc σ w) E->E.w=w.setRow L.blk c->iA E L o'):
 Rel X loc (σ.set id o') (w.setRow L.blk c)/\(∀b,aV (σ.set id o') loc b->aV σ loc b)/\Ev (aV σ loc) w (w.setRow L.blk c):=by
 have f:aV σ loc L.blk:=⟨id,o,L,A,C,z,B,rfl⟩
 have d:∀b,aV (σ.set id o') loc b->aV σ loc b:=by
  rintro b ⟨j,u,q,m,l,y,n,rfl⟩;rcases fD σ id j o' m with⟨rfl,_,_⟩|⟨_,g⟩
  ·grind
  ·exact⟨j,u,q,g,l,y,n,rfl⟩
 have e:=Ev.setRow (w:=w) f c;have D:=mm (X:=X) k (fun _ _ h=>h) e fun b s=>.inl (d b s)
 refine⟨k.change (fun _ _ h=>h) e (fun b s=>.inl (d b s)) (fun j Q=>k.beyond j af3) ?_ ?_,d,e⟩
 ·intro j u m l
  rcases fD σ id j o' m with⟨rfl,rfl,_⟩|⟨n,g⟩
  ·grind
  ·refine .inl ⟨g,fun q v t=>setRow_other w L.blk q.blk c ?_⟩;exact k.apart j id u o q L n g A l C v z t B
 ·intro i j a b H I x m l y n g v t F
  have:∀ (i:Nat) (a:bZ),(σ.set id o')[i]?=some a->a.live=true->∃r,σ[i]?=some r/\r.live=true:=by
   grind
  obtain⟨r,M,K⟩:=this i a m y;obtain⟨N,O,G⟩:=this j b l n;exact k.apart i j r N H I x M O K G g v t F
def iY(loc:Nat->Option Loc)(n:Nat)(L:Loc):Nat->Option Loc:=fun id=>if id=n then some L else loc id
theorem dY(loc:Nat->Option Loc)(n:Nat)(L:Loc):iY loc n L n=some L:=by simp[iY]
theorem eH(loc:Nat->Option Loc)(n:Nat)(L:Loc){id:Nat}(h:id≠n):iY loc n L id=loc id:=by simp[iY,h]
theorem fI{loc:Nat->Option Loc}{n:Nat}(c:loc n=none)(L:Loc)(id:Nat)(b:Loc)(h:loc id=some b):iY loc n L id=some b:=by
 rw[eH]
 ·omega
 grind
theorem Rel.add(m:Rel X loc σ w)(M:n<σ.length)(t:loc n=none)(o:bZ)(L:Loc)(w':World)(u:Ev (aV σ loc) w w')(σ0:St)(hσ0:∀ (id:Nat) (o:bZ),σ0[id]?=some o->o.live=true->σ[id]?=some o)(r:σ0.length=σ.length)
 (N:∀ (id:Nat) (o:bZ) (h:Loc),σ0[id]?=some o->o.live=true->loc id=some h->h.has=true->(L.has=true->h.blk≠L.blk)/\w'.heap[h.blk]?=w.heap[h.blk]?)
 (K:L.has=true->aV σ loc L.blk\/w.heap.size<=L.blk)
 (z:∀E:Env,nI (aR X loc σ w) E->E.w=w'->iA E L o):
 Rel X (iY loc n L) (σ0.set n o) w'/\(∀b,aV (σ0.set n o) (iY loc n L) b->aV σ loc b\/w.heap.size<=b):=by
 have c:∀b,aV (σ0.set n o) (iY loc n L) b->aV σ loc b\/w.heap.size<=b:=by
  rintro b ⟨j,s,J,k,g,f,l,rfl⟩;rcases fD σ0 n j o k with⟨rfl,rfl,_⟩|⟨d,e⟩
  ·rw[dY]at f;grind
  ·rw[eH _ _ _ d]at f;exact .inl ⟨j,s,J,hσ0 _ _ e g,g,f,l,rfl⟩
 have p:=mm (X:=X) m (fI t L) u c;refine⟨m.change (fI t L) u c (fun j v=>?_) ?_ ?_,c⟩
 ·simp only[adO,r]at v;rw[eH _ _ _ af0];exact m.beyond j v
 ·intro j s k g;rcases fD σ0 n j o k with⟨rfl,rfl,_⟩|⟨d,e⟩
  ·exact .inr ⟨L,dY _ _ _,z _ p rfl⟩
  grind
 ·intro i j a b F H q k g f l d e C I
  rcases fD σ0 n i o k with⟨rfl,rfl,_⟩|⟨x,G⟩<;>rcases fD σ0 n j o g with⟨rfl,rfl,_⟩|⟨y,B⟩
  ·omega
  ·rw[dY]at d;rw[eH _ _ _ y]at e;grind
  ·rw[dY]at e;rw[eH _ _ _ x]at d;grind
  ·rw[eH _ _ _ x]at d;rw[eH _ _ _ y]at e;exact m.apart i j a b F H q (hσ0 _ _ G f) (hσ0 _ _ B l) f l d e C I
theorem Rel.alloc(e:Rel X loc σ w)(k:n<σ.length)(i:loc n=none)(o:bZ)(L:Loc)(r:L.has=true)(a:L.blk=w.heap.size)(d:Obj)
 (j:∀E:Env,nI (aR X loc σ w) E->E.w=w.alloc d->iA E L o):
 Rel X (iY loc n L) (σ.set n o) (w.alloc d)/\(∀b,aV (σ.set n o) (iY loc n L) b->aV σ loc b\/w.heap.size<=b):=by
 refine e.add k i o L _ (Ev.alloc _ _ _) σ (fun _ _ h _=>h) rfl (fun id o' f g m l p=>?_) (fun _=>.inr (afh a.symm)) j;have c:=aV.lt e ⟨id,o',f,g,m,l,p,rfl⟩;exact⟨fun _=>af0,Below.heap_alloc w d f.blk c⟩
theorem Snd.alloc(f:Rel X loc σ w)(l:n<σ.length)(e:loc n=none)(o:bZ)(L:Loc)(g:L.has=true)(a:L.blk=w.heap.size)(d:Obj){r:Result Next}{v:Value}{av:AV}{ft:List Nat}{wr:Bool}
 (h:K av ft wr (σ.set n o)) (i:∀E:Env,nI (aR X loc σ w) E->E.w=w.alloc d->iA E L o)
 (j:r=.ok (.value v) (w.alloc d)) (m:∀E:Env,E.loc n=some L->Rl E av v):Snd X loc σ w n r K:=by
 obtain⟨k,p⟩:=f.alloc l e o L g a d i;exact⟨av,ft,wr,_,v,_,_,h,.inl j,⟨fI e L,k,m _ (dY _ _ _),Ev.alloc _ _ _,p⟩,fun id b=>eH _ _ _ b,af1⟩
theorem Rel.var(e:Rel X loc σ w){id:Nat}{cs:List AV}{L:Loc}(h:σ[id]?=some (.var cs))(g:loc id=some L):
 L.has=true/\L.base=0/\∃ (vs:List Value) (t:TypeId),w.heap[L.blk]?=some (.cells vs.toArray t (0,0))/\RlC (aR X loc σ w) cs vs:=by
 obtain⟨i,c,d⟩:=e.obj id _ h rfl;rw[g]at c;cases c;exact d
theorem Rel.vec(k:Rel X loc σ w){id e:Nat}{xs:List (List AV)}{L:Loc}(h:σ[id]?=some (.vec e xs))(i:loc id=some L):
 (L.has=false/\xs=[])\/(L.has=true/\∃ (cs vs ws:List Value) (t:TypeId),w.heap[L.blk]?=some (.cells (cs++vs++ws).toArray t (0,0))/\cs.length=L.base/\(cs++vs++ws).length=L.rows/\RlE (aR X loc σ w) e xs vs/\∀u∈ws,u.oneCell'=true):=by
 obtain⟨l,f,g⟩:=k.obj id _ h rfl;rw[i]at f;cases f;exact g
def WC(ex:Bool)(ws:List Value):Prop:=(ex=true->ws=[])/\∀u∈ws,u.oneCell'=true
theorem Rel.rws(m:Rel X loc σ w){id e:Nat}{ex:Bool}{xs:List (List AV)}{L:Loc}(h:rws σ[id]?=some (ex,e,xs))(n:loc id=some L):
 σ[id]?=some (mkr ex e xs)/\((L.has=false/\xs=[])\/(L.has=true/\∃ (cs vs ws:List Value) (t:TypeId),w.heap[L.blk]?=some (.cells (cs++vs++ws).toArray t (0,0))/\cs.length=L.base/\(cs++vs++ws).length=L.rows/\RlE (aR X loc σ w) e xs vs/\WC ex ws)):=by
 unfold Go.FH.rws at h;split at h
 ·rename_i q g hσ;obtain⟨rfl,rfl,rfl⟩:=h;refine⟨hσ,?_⟩;rcases m.vec hσ n with a|⟨a,cs,vs,ws,t,d,k,o,i,p⟩
  ·grind
  ·exact .inr ⟨a,cs,vs,ws,t,d,k,o,i,fun h=>af3,p⟩
 ·rename_i q g hσ;obtain⟨rfl,rfl,rfl⟩:=h;refine⟨hσ,?_⟩;obtain⟨v,a,d⟩:=m.obj id _ hσ rfl;rw[n]at a;cases a;rcases d with a|⟨a,cs,vs,t,d,k,o,i⟩
  ·grind
  ·exact .inr ⟨a,cs,vs,[],t,af3,k,af3,i,fun _=>rfl,fun u r=>af3⟩
 grind
theorem iA.mkr{E:Env}{L:Loc}{ex:Bool}{e:Nat}{xs:List (List AV)}{cs vs ws:List Value}{t:TypeId}(g:L.has=true)(k:E.w.heap[L.blk]?=some (.cells (cs++vs++ws).toArray t (0,0)))(h:cs.length=L.base)(l:(cs++vs++ws).length=L.rows)(j:RlE E e xs vs)(i:WC ex ws):iA E L (mkr ex e xs):=by
 cases ex with
 |false=>exact .inr ⟨g,cs,vs,ws,t,k,h,l,j,i.2⟩
 | true =>
   obtain rfl:=i.1 rfl;exact .inr ⟨g,cs,vs,t,af3,h,af3,j⟩
theorem nZ(ex:Bool)(e:Nat)(xs:List (List AV)):(mkr ex e xs).live=true:=by cases ex<;>rfl
theorem mz{w:World}{b:Nat}{vs:List Value}{t:TypeId}{f:Nat×Nat}(h:w.heap[b]?=some (.cells vs.toArray t f))(o m:Nat)(k:o+m<=vs.length):range? w b o m=some ((vs.drop o).take m).toArray:=by
 have j:w.heap[b]?=some (.cells (vs.take o++(vs.drop o).take m++vs.drop (o+m)).toArray t f):=by
  rw[h];rw[afZ,<-adj,afX,afX]
 have i:=lW j;simpa[adk (show o<=vs.length by omega),adk (show m<=vs.length-o by omega)]using i
theorem kW(e:Nat):∀ (n:Nat) (cs:List AV),(chunk e n cs).length=n
 |0,_=>rfl
 |n+1,cs=>by simp[chunk,kW e n]
theorem RlE.chunk{E:Env}{e:Nat}:∀ (n:Nat) {cs:List AV} {vs:List Value},RlC E cs vs->n*e<=cs.length->RlE E e (chunk e n cs) (vs.take (n*e))
 |0,_,_,_,_=>by simp[Go.FH.chunk,RlE]
 | n + 1, cs, vs, h, d => by
   have f:(n+1)*e=e+n*e:=af3
   have g:=h.length;refine⟨vs.take e,(vs.drop e).take (n*e),?_,af3,h.take e,RlE.chunk n (h.drop e) af3⟩;grind
theorem E9(E:Env):∀s:List UInt8,RlE E 1 (s.map fun b=>[AV.int .u8 b.toNat]) (s.map fun b=>Value.int .u8 b.toNat)
 | []=>rfl
 |b::s=>⟨[_],_,rfl,rfl,⟨_,[],rfl,rfl,rfl,rfl⟩,E9 E s⟩
theorem vl (hr : Rel X loc σ w) {tx : TypeId} (hk : (∃ e', P.underlying tx = some (.slice e')) \/ P.underlying tx = some .string) {e : Nat} (he : 0 < e) {av : AV} {v : Value} {ys : List (List AV)} (h : rdS σ e av = some ys) (hv : Rl (aR X loc σ w) av v) :
 ∃news,Src P e tx v ys.length news w/\RlE (aR X loc σ w) e ys news/\∀m,m<=ys.length->(Builtin.firstCells e m v).run P w=.ok (news.take (m*e)).toArray w:=by
 have mk:∀ (ad:Addr) (c:Nat) (news:List Value),news.length=ys.length*e->(∀j u,news[j]?=some u->w.cell? (ad.add j)=some u)->(∀u∈news,u.oneCell'=true)->Src P e tx (.slice (some ad) ys.length c) ys.length news w/\
  ∀m,m<=ys.length->(Builtin.firstCells e m (.slice (some ad) ys.length c)).run P w=.ok (news.take (m*e)).toArray w:=
  fun ad c news h1 h2 h3=>⟨⟨hk,fun _=>rfl,run_firstCells_some w e _ ad _ c news h1 h2,run_firstCells_some w.drew e _ ad _ c news h1 af4,h1,h3⟩,
   fun m hm=>run_firstCells_some w e m ad _ c (news.take (m*e)) af4 fun j u hj=>h2 j u af3⟩
 have nil:ys=[]->∀ (a:Option Addr) (c:Nat),Src P e tx (.slice a 0 c) ys.length [] w/\∀m,m<=ys.length->(Builtin.firstCells e m (.slice a 0 c)).run P w=.ok (([]:List Value).take (m*e)).toArray w:=by
  rintro rfl a c;refine⟨⟨hk,fun _=>rfl,?_,?_,af1,fun _ h=>af3⟩,fun m hm=>?_⟩
  ·cases a<;>simp[Builtin.firstCells,loadCells,loadCellsFrom]
  ·cases a<;>simp[Builtin.firstCells,loadCells,loadCellsFrom]
  ·have:m=0:=af3
   subst this;cases a<;>simp[Builtin.firstCells,loadCells,loadCellsFrom]
 cases av<;>simp only[rdS,reduceCtorEq]at h
 case str s=>
  split at h
  ·rename_i h1
   subst h1;simp only[afC]at h;subst h;simp only[Rl]at hv;subst hv;refine⟨byteCells ⟨s.toArray⟩,⟨hk,fun _=>by simp[Builtin.lenOf,ByteArray.size],?_,?_,?_,?_⟩,?_,?_⟩
   ·have:=firstCells_string (P:=P) ⟨s.toArray⟩ w;simpa[ByteArray.size]using this
   ·have:=firstCells_string (P:=P) ⟨s.toArray⟩ w.drew;simpa[ByteArray.size]using this
   ·simp[byteCells]
   ·intro u hu;obtain⟨_,_,rfl⟩:=acz.1 hu;rfl
   ·have:byteCells ⟨s.toArray⟩=s.map fun b=>Value.int .u8 b.toNat:=by simp[byteCells]
    rw[this];exact E9 _ s
   ·intro m hm
    have:byteCells ⟨s.toArray⟩=s.map fun b=>Value.int .u8 b.toNat:=by simp[byteCells]
    rw[this,acO,<-ael]
    have h2:((⟨s.toArray⟩:ByteArray).extract 0 m).data.toList=s.take m:=by
     simp
    have h3:(((⟨s.toArray⟩:ByteArray).extract 0 m).data.map fun b=>Value.int .u8 (b.toNat:Int))=((s.take m).map fun b=>Value.int .u8 (b.toNat:Int)).toArray:=by
     simp
    simp only[Builtin.firstCells,Sem.run_pure,h3]
  grind
 case sl e' cl xs =>
  split at h
  ·rename_i h1
   simp only[afC]at h;subst h;obtain⟨a,m,cap,rfl,rfl,h2,h3,h4,h5,h6⟩:=hv;by_cases hx:xs=[]
   ·subst hx;exact⟨[],(nil rfl a cap).1,rfl,(nil rfl a cap).2⟩
   ·have he':e'=e:=h1.resolve_right hx
    subst he';rcases h6 with h6|⟨b,off,vs,rfl,_,_,h7,h8⟩
    ·exact absurd (afV h6) hx
    ·obtain⟨g1,g2⟩:=nG h7;have g4:=mk ⟨b,off,none⟩ cap _ g1 (fun j u hj=>by rw[gL];exact g2 j u hj) h8.one;exact⟨vs,g4.1,h8,g4.2⟩
  grind
 case hs e' id off len =>
  split at h
  ·rename_i he'
   subst he';split at h
   ·rename_i e2 xs hσ
    split at h
    ·rename_i hle
     obtain⟨he2,hle⟩:=hle;obtain rfl:e'=e2:=he2.symm;simp only[afC]at h;subst h;obtain⟨a,cap,L,rfl,h2,h3,h4,h5,h6⟩:=hv;have hlen:((xs.drop off).take len).length=len:=by simp;omega
     by_cases h0:len=0
     ·subst h0;have g4:=nil af1 a cap;exact⟨[],by simpa using g4.1,by simp[RlE],by simpa using g4.2⟩
     ·rcases h6 with h6|⟨h6,rfl,h7⟩
      ·omega
      ·rcases hr.vec hσ h5 with⟨h8,_⟩|⟨_,cs,vs,ws,t,h9,h10,h11,h12,_⟩
       ·rw[h6]at h8;cases h8
       ·have hvl:=h12.length;have hq:off*e'+len*e'<=vs.length:=by rw[hvl,<-acQ];exact acr _ hle
        have g0:=pX (lW h9) (off*e') (len*e') hq;rw[h10]at g0;obtain⟨g1,g2⟩:=nG g0;have g3:=(h12.drop off).take len;have g4:=mk ⟨L.blk,L.base+off*e',none⟩ cap _ (by rw[g1,hlen]) (fun j u hj=>by rw[gL];exact g2 j u hj) g3.one;rw[hlen]at g4 ⊢;exact⟨_,g4.1,g3,g4.2⟩
    ·cases h
   ·cases h
  ·cases h
 case va e' id off len =>
  split at h
  ·rename_i he'
   subst he';split at h
   ·rename_i cs hσ
    split at h
    ·rename_i hle
     simp only[afC]at h;subst h;obtain⟨a,cap,L,rfl,h2,h3,h4,h5,h6,h7⟩:=hv;obtain⟨_,h8,vs,t,h9,h10⟩:=hr.var hσ h5;have hvl:=h10.length;by_cases h0:len=0
     ·subst h0;exact⟨[],(nil rfl a cap).1,rfl,(nil rfl a cap).2⟩
     ·rcases h7 with h7|rfl
      ·omega
      ·have g0:=mz h9 off (len*e') af0;obtain⟨g1,g2⟩:=nG g0;have g3:=RlE.chunk (e:=e') len (h10.drop off) (by simp;omega);have g4:=mk ⟨L.blk,L.base+off,none⟩ cap _ (by rw[g1,kW]) (fun j u hj=>by rw[gL,h8,acC];exact g2 j u hj) g3.one;rw[kW]at g4 ⊢;exact⟨_,g4.1,g3,g4.2⟩
    ·cases h
   ·cases h
  ·cases h
end
theorem AF{E:Env}:∀ {xs ys:List AV} {f vs:List Value} {r:Bool},RlC E xs f->RlC E ys vs->iB xs ys=some r->pv f vs=some r
 | [], [], f, vs, r, k, g, h => by
   subst k;subst g;exact h
 | [],_::_,_,_,_,_,_,h=>by simp[iB]at h
 |_::_,[],_,_,_,_,_,h=>by simp[iB]at h
 | x :: xs, y :: ys, _, _, r, k, g, h => by
   obtain⟨u,f,rfl,_,l,j⟩:=k;obtain⟨v,vs,rfl,_,m,i⟩:=g;simp only[iB]at h;split at h
   ·rename_i a b d o
    have:=AF j i o
    have n:E5 u v=some a:=by
     cases x<;>simp only[xF,reduceCtorEq]at d<;>cases y<;>simp only[xF,reduceCtorEq]at d<;>simp only[Rl]at l m<;>subst l<;>subst m
     ·simpa[E5]using d
     ·simpa[E5]using d
     ·simp[E5,ByteArray.toList_eq,<-d]
    simpa[pv,n,this]using h
   grind
theorem Xk{E:Env}{c:AV}{u:Value}{k:Nat}(h:Rl E c u)(b:eF c=k)(d:k<=2):i8 u=k:=by
 cases c<;>simp only[eF]at b<;>first|omega|(subst h;exact b)
theorem wl{E:Env}:∀ {cs:List AV} {b:List Value} {e:List (Nat×Nat)},RlC E cs b->iU e cs=true->(∀p∈e,p.2<=2)->b.map i8=I0 e
 | cs, b, [], h, d, _ => by
   simp only[iU,List.isEmpty_iff]at d;subst d;subst h;rfl
 | cs, b, (n, k) :: r, h, d, i => by
   simp only[iU,afL,ac0]at d;obtain⟨⟨j,w⟩,l⟩:=d;have m:=wl (h.drop n) l fun p o=>i p (acA _ o)
   have q:=h.take n;have s:k<=2:=i (n,k) (adX ..)
   have t:∀ {cs:List AV} {b:List Value},RlC E cs b->cs.all (eF ·==k)=true->b.map i8=List.replicate cs.length k:=by
    intro cs;induction cs with
    |nil=>intro b h _;simp only[RlC]at h;grind
    | cons c cs v =>
      intro b h f;obtain⟨u,b,rfl,_,x,y⟩:=h;simp only[ad6,afL,ac0]at f;simp[ad8,v y f.2,Xk x f.1 s]
   have g:=t q w;rw[j]at g;rw[I0,<-g,<-m,<-acu,afX]
theorem tQ{P:Program}{w:World}{t e:TypeId}(d:P.underlying t=some (.pointer e))(a:Addr):(Op.equalIn (9999+1) t (.pointer (some a)) (.pointer none)).run P w=.ok false w:=by
 rw[Op.equalIn];simp[run_underlying d]
theorem tP{P:Program}{w:World}{t e:TypeId}(d:P.underlying t=some (.pointer e))(a:Addr):(Op.equalIn (9999+1) t (.pointer none) (.pointer (some a))).run P w=.ok false w:=by
 rw[Op.equalIn];simp[run_underlying d]
theorem sI{P:Program}{w:World}{t e:TypeId}(c:P.underlying t=some (.pointer e)):(Op.equalIn (9999+1) t (.pointer none) (.pointer none)).run P w=.ok true w:=by
 rw[Op.equalIn];simp[run_underlying c]
theorem ve{P:Program}{w:World}{t:TypeId}{p q:Array TypeId}{v:Bool}(d:P.underlying t=some (.func p q v))(f:Fn)(x y:Array Value):(Op.equalIn (9999+1) t (.func f x y) .nilFunc).run P w=.ok false w:=by
 rw[Op.equalIn];simp[run_underlying d]
theorem vf{P:Program}{w:World}{t:TypeId}{p q:Array TypeId}{v:Bool}(d:P.underlying t=some (.func p q v))(f:Fn)(x y:Array Value):(Op.equalIn (9999+1) t .nilFunc (.func f x y)).run P w=.ok false w:=by
 rw[Op.equalIn];simp[run_underlying d]
theorem sH{P:Program}{w:World}{t:TypeId}{p q:Array TypeId}{v:Bool}(e:P.underlying t=some (.func p q v)):(Op.equalIn (9999+1) t .nilFunc .nilFunc).run P w=.ok true w:=by
 rw[Op.equalIn];simp[run_underlying e]
theorem NE(s:List UInt8):(⟨s.toArray⟩:ByteArray).size=s.length:=by
 show s.toArray.size=_
 simp
theorem er{ρ:Operand->Value}{o:Oper}{b:Builtin}{xs:Array Operand}{ats:Array TypeId}(g:o.op=.call { callee:=.builtin b,args:=xs,argTypes:=ats }):
 execOp ρ o=builtin b ats o.type (xs.map fun|.const _=>true|_=>false) (xs.map ρ):=by
 obtain⟨e,j,i,pos,f,h⟩:=o;subst g;rfl
theorem aaY{P:Program}{w:World}{k e:IntKind}{a b:Int}:(Builtin.min2 (.int k a) (.int e b)).run P w=.ok (.int k (if b<a then b else a)) w:=by simp[Builtin.min2]
theorem aaX{P:Program}{w:World}{k e:IntKind}{a b:Int}:(Builtin.max2 (.int k a) (.int e b)).run P w=.ok (.int k (if b > a then b else a)) w:=by simp[Builtin.max2]
theorem UJ{P:Program}{w:World}{E:Env}:∀ {r:List AV} {d:List Value} {x u:AV} {v:Value},RlS E r d->Rl E x v->MK x r=some u->∃b,(d.foldlM Builtin.min2 v:Sem Value).run P w=.ok b w/\Rl E u b
 | [], _, x, u, v, h, e, c => by
   simp only[RlS]at h;simp only[MK,afC]at c;simp_all
 | y :: r, _, x, u, v, h, e, c => by
   obtain⟨z,d,rfl,j,h⟩:=h;cases x<;>cases y<;>simp only[MK,reduceCtorEq]at c
   subst e;subst j;have f:=fun v k=>UJ (P:=P) (w:=w) (v:=v) h k c
   obtain⟨b,l,g⟩:=f _ rfl;refine⟨b,?_,g⟩;exact l
theorem UH{P:Program}{w:World}{E:Env}:∀ {r:List AV} {d:List Value} {x u:AV} {v:Value},RlS E r d->Rl E x v->MI x r=some u->∃b,(d.foldlM Builtin.max2 v:Sem Value).run P w=.ok b w/\Rl E u b
 | [], _, x, u, v, h, e, c => by
   simp only[RlS]at h;simp only[MI,afC]at c;simp_all
 | y :: r, _, x, u, v, h, e, c => by
   obtain⟨z,d,rfl,j,h⟩:=h;cases x<;>cases y<;>simp only[MI,reduceCtorEq]at c
   subst e;subst j;have f:=fun v k=>UH (P:=P) (w:=w) (v:=v) h k c
   obtain⟨b,l,g⟩:=f _ rfl;refine⟨b,?_,g⟩;exact l
section
variable{X:Nat->Prop}{loc loc':Nat->Option Loc}{σ σ':St}{w w':World}{n:Nat}{P:Program}{ρ:Operand->Value}{ρ':Opd->AV}{K:AV->List Nat->Bool->St->Prop}
variable(hr:Rel X loc σ w)(hρ:lm (aR X loc σ w) ρ ρ')
include hr hρ
theorem oR{o:Oper}{t yt:TypeId}{x y:Operand}{a b:Opd}{kd:Nat}{neg:Bool}(ho:o.op=.binOp (if neg then .neq else .eql) t x y yt)(hx:az x=some a)(hy:az y=some b)
 (hk:(kd=0/\P.underlying t=some .bool)\/(kd=1/\P.underlying t=some .string)\/(kd=2/\∃e,P.underlying t=some (.pointer e))\/(kd=3/\∃p q v,P.underlying t=some (.func p q v)))
 (h:opF n σ ρ' K (.eqv kd neg a b)):Snd X loc σ w n ((execOp ρ o).run P w) K:=by
 simp only[opF]at h;split at h
 ·rename_i r hr'
  have hx':=hρ x a hx;have hy':=hρ y b hy;refine Snd.of hr h (v:=.bool (r != neg)) ?_ rfl;clear h;generalize ρ' a=A at *;generalize ρ' b=B at *;rcases hk with⟨rfl,hu⟩|⟨rfl,hu⟩|⟨rfl,e,hu⟩|⟨rfl,p,q,vr,hu⟩
  ·cases A<;>simp only[qf,reduceCtorEq]at hr'<;>cases B<;>simp only[qf,reduceCtorEq,afC]at hr'<;>simp only[Rl]at hx' hy'
   subst hr';cases neg<;>simp[execOp,ho,hx',hy',eqGuard,binOp,run_equal_bool w t _ _ hu]
  ·cases A<;>simp only[qf,reduceCtorEq]at hr'<;>cases B<;>simp only[qf,reduceCtorEq,afC]at hr'<;>simp only[Rl]at hx' hy'
   subst hr';cases neg<;>simp[execOp,ho,hx',hy',eqGuard,binOp,Op.stringOp,ByteArray.toList_eq]
  ·have e1:∀a:Addr,(Op.equal t (.pointer (some a)) (.pointer none)).run P w=.ok false w:=fun a=>tQ hu a
   have e2:∀a:Addr,(Op.equal t (.pointer none) (.pointer (some a))).run P w=.ok false w:=fun a=>tP hu a
   have e3:(Op.equal t (.pointer none) (.pointer none)).run P w=.ok true w:=sI hu
   cases A<;>simp only[qf,reduceCtorEq]at hr'<;>cases B<;>simp only[qf,reduceCtorEq,afC]at hr'<;>simp only[Rl]at hx' hy'<;>subst hr' <;>
    (first
     |(obtain⟨L,_,_,hx'⟩:=hx')
     |(obtain⟨L2,_,_,hy'⟩:=hy')
     |omega
     |omega
     |skip) <;>
    cases neg<;>simp[execOp,ho,hx',hy',eqGuard,binOp,e1,e2,e3]
  ·have e1:∀ (f:Fn) (p q:Array Value),(Op.equal t (.func f p q) .nilFunc).run P w=.ok false w:=fun f p q=>ve hu f p q
   have e2:∀ (f:Fn) (p q:Array Value),(Op.equal t .nilFunc (.func f p q)).run P w=.ok false w:=fun f p q=>vf hu f p q
   have e3:(Op.equal t .nilFunc .nilFunc).run P w=.ok true w:=sH hu
   cases A<;>simp only[qf,reduceCtorEq]at hr'<;>cases B<;>simp only[qf,reduceCtorEq,afC]at hr'<;>simp only[Rl]at hx' hy'<;>subst hr' <;>
    (first
     |(obtain⟨_,hx',_⟩:=hx')
     |(obtain⟨_,hy',_⟩:=hy')
     |skip) <;>
    cases neg<;>simp[execOp,ho,hx',hy',eqGuard,binOp,e1,e2,e3]
 grind
theorem Ar{o:Oper}{t s:TypeId}{x y:Operand}{a b:Opd}{j:List (Nat×Nat)}{neg:Bool}(I:o.op=.binOp (if neg then .neq else .eql) t x y s)(J:az x=some a)(N:az y=some b)
 (O:rj P t=true) (q:jC P 40 t=some (I0 j)) (f:∀p∈j,p.2<=2) (u:P.eqGuardType P.depth t=false) (h:opF n σ ρ' K (.eqa j neg a b)):Snd X loc σ w n ((execOp ρ o).run P w) K:=by
 simp only[opF]at h;split at h
 ·rename_i B C D E
  obtain⟨F,G,h⟩:=h;split at h
  ·rename_i r H;have d:=hρ x a J;have c:=hρ y b N;rw[D]at d;rw[E]at c;obtain⟨Q,k,g⟩:=d;obtain⟨R,l,i⟩:=c;refine Snd.of hr h (v:=.bool (r != neg)) ?_ rfl;have m:=sJ 40 q (wl g F f) (wl i G f) (AF g i H) 9960 w;simp only[pk,O,aco]at m;cases neg<;>simp[execOp,I,k,l,run_eqGuard_agg w _ _ _ _ _ _ u,run_eql_struct,run_neq_struct,m]
  grind
 grind
theorem Z3{o:Oper}{i:UnOp}{t:TypeId}{x:Operand}{a:Opd}(e:o.op=.unOp i t x)(j:az x=some a)(h:opF n σ ρ' K (.un i a)):Snd X loc σ w n ((execOp ρ o).run P w) K:=by
 simp only[opF]at h;split at h
 ·rename_i v c;have b:=hρ x a j;generalize ρ' a=A at *;unfold unV at c;split at c<;>simp only[afC,reduceCtorEq]at c<;>subst c<;>simp only[Rl]at b
  ·exact Snd.of hr h (by simp[execOp,e,b,Op.unary,Op.intArith]) rfl
  ·exact Snd.of hr h (by simp[execOp,e,b,Op.unary,Op.intBits,aaK]) rfl
  ·exact Snd.of hr h (by simp[execOp,e,b,Op.unary]) rfl
 grind
theorem Yh{o:Oper}{s d:TypeId}{x:Operand}{a:Opd}{k j:IntKind}(g:o.op=.convert s d x)(r:P.underlying s=some (.int j))(i:P.underlying d=some (.int k))(l:az x=some a)(h:opF n σ ρ' K (.cvt k a)):Snd X loc σ w n ((execOp ρ o).run P w) K:=by
 simp only[opF]at h;split at h
 ·rename_i u m t;have b:=hρ x a l;rw[t]at b;simp only[Rl]at b;exact Snd.of hr h (v:=.int k (k.wrap m)) (by simp[execOp,g,b,convert,run_underlying r,run_underlying i,Conv.intToInt]) rfl
 grind
theorem VW{o:Oper}{x:Operand}{a:Opd}(i:o.op=.nilCheck x)(r:az x=some a)(h:opF n σ ρ' K (.nilc a)):Snd X loc σ w n ((execOp ρ o).run P w) K:=by
 simp only[opF]at h;have c:=hρ x a r;split at h
 ·rename_i e;rw[e]at c;obtain⟨L,j,m,d⟩:=c;exact Snd.of hr h (v:=ρ x) (by simp[execOp,i,d]) ⟨L,j,m,d⟩
 ·rename_i e;rw[e]at c;obtain⟨L,j,m,d⟩:=c;exact Snd.of hr h (v:=ρ x) (by simp[execOp,i,d]) ⟨L,j,m,d⟩
 ·rename_i e;rw[e]at c;obtain⟨b,s,p,d,k⟩:=c;exact Snd.of hr h (v:=ρ x) (by simp[execOp,i,d]) ⟨b,s,p,d,k⟩
 ·rename_i e;rw[e]at c;obtain⟨p,d,k⟩:=c;exact Snd.of hr h (v:=ρ x) (by simp[execOp,i,d]) ⟨p,d,k⟩
 grind
theorem Yk{o:Oper}{t:TypeId}{x:Operand}{i:Nat}{a:Opd}{fs:Array Field}{f:Field}{p:Bool}{j:Nat}(C:o.op=.field t x i)(B:P.underlying t=some (.struct fs))(D:fs[i]?=some f)(m:gQ P f.type=some (p,j))(O:az x=some a)
 (h:opF n σ ρ' K (.fld p f.offset j a)):Snd X loc σ w n ((execOp ρ o).run P w) K:=by
 simp only[opF]at h;split at h
 ·rename_i cs G
  obtain⟨M,h⟩:=h;have e:=hρ x a O;rw[G]at e;obtain⟨l,A,E⟩:=e;have F:=(E.drop f.offset).take j;have H:=E.length;refine Snd.pure hr (v:=sB p ((l.drop f.offset).take j)) ?_ (Rl.pack F (fun I=>by subst I;rw[(gv m).1]at M ⊢;grind)) h;cases p
  ·obtain⟨rfl,s,_⟩:=gv m
   have:((l.drop f.offset).take 1).head?.getD undef=l[f.offset]' af0:=by
    rw[acG af0];rfl
   have u:f.offset<l.length:=af0
   simp[execOp,C,Instr.field,run_underlying B,D,A,asAgg,part,s,sB,this,u]
  ·obtain⟨s,S⟩:=nq m
   obtain⟨R,N,y⟩:=uG m
   have z:(isAgg f.type).run P w=.ok true w:=by
    unfold LB at s;unfold isAgg;cases L:P.underlying f.type with
    |none=>grind
    |some d=>rw[Sem.run_bind,run_underlying L w];cases d<;>simp_all
   simp[execOp,C,Instr.field,run_underlying B,D,A,asAgg,part,z,sB,sizeOf,typeInfo,N,y]
 grind
theorem VR{o:Oper}{t:TypeId}{x:Operand}{i:Nat}{a:Opd}{fs:Array Field}{f:Field}{A:TypeInfo}(r:o.op=.fieldAddr t x i)(q:P.underlying t=some (.struct fs))(u:fs[i]?=some f)(v:P.info? f.type=some A)(m:A.size≠0)(D:az x=some a)
 (h:opF n σ ρ' K (.fldA f.offset a)):Snd X loc σ w n ((execOp ρ o).run P w) K:=by
 simp only[opF]at h;have d:=hρ x a D;split at h
 ·rename_i k;rw[k]at d;obtain⟨L,s,p,j⟩:=d;exact Snd.of hr h (by simp[execOp,r,Instr.fieldAt,run_underlying q,u,Instr.sureAddr,j,fieldPlace,sizeOf,typeInfo,v,m,gL];rfl) ⟨L,s,p,af1⟩
 ·rename_i k;rw[k]at d;obtain⟨L,s,p,j⟩:=d;exact Snd.of hr h (by simp[execOp,r,Instr.fieldAt,run_underlying q,u,Instr.sureAddr,j,fieldPlace,sizeOf,typeInfo,v,m,gL];rfl) ⟨L,s,p,af1⟩
 ·rename_i k;rw[k]at d;obtain⟨b,E,F,j,B⟩:=d;exact Snd.of hr h (by simp[execOp,r,Instr.fieldAt,run_underlying q,u,Instr.sureAddr,j,fieldPlace,sizeOf,typeInfo,v,m,gL];rfl) ⟨b,E,F,af1,B⟩
 grind
theorem Yl{o:Oper}{t e:TypeId}{x i:Operand}{a b:Opd}{m:Nat}{ag:Bool}{sz:Nat}(ho:o.op=.index t x i)(ht:P.underlying t=some (.array m e))(hs:gQ P e=some (ag,sz))(hx:az x=some a)(hi:az i=some b)
 (h:opF n σ ρ' K (.idx ag m sz a b)):Snd X loc σ w n ((execOp ρ o).run P w) K:=by
 simp only[opF]at h;split at h
 ·rename_i cs k j hv hw
  obtain⟨h0,h1,hl,h⟩:=h;have hx':=hρ x a hx;have hi':=hρ i b hi;rw[hv]at hx';rw[hw]at hi';obtain⟨vs,g1,g2⟩:=hx';simp only[Rl]at hi';have g3:=(g2.drop (j.toNat*sz)).take sz;have hvl:=g2.length
  have hle:j.toNat*sz+sz<=cs.length:=by
   have:(j.toNat+1)*sz<=m*sz:=acr _ af0;grind
  obtain⟨ti,hti,hsz⟩:=uG hs;refine Snd.pure hr (v:=sB ag ((vs.drop (j.toNat*sz)).take sz)) ?_ (Rl.pack g3 (fun h0=>by subst h0;rw[(gv hs).1]at hle ⊢;grind)) h;cases ag
  ·obtain⟨rfl,g4,_⟩:=gv hs
   have hlt:j.toNat<vs.length:=af0
   have:((vs.drop j.toNat).take 1).head?.getD undef=vs[j.toNat]:=by
    rw[acG hlt];rfl
   simp[execOp,ho,Instr.index,run_underlying ht,g1,hi',asIntOf,h0,h1,part,g4,sB,this,hlt,sizeOf,typeInfo,hti,hsz]
  ·obtain⟨g4,g5⟩:=nq hs
   have hag:(isAgg e).run P w=.ok true w:=by
    unfold LB at g4;unfold isAgg;cases hu:P.underlying e with
    |none=>grind
    |some d=>rw[Sem.run_bind,run_underlying hu w];cases d<;>simp_all
   simp[execOp,ho,Instr.index,run_underlying ht,g1,hi',asIntOf,h0,h1,part,hag,sB,sizeOf,typeInfo,hti,hsz]
 grind
theorem VS{o:Oper}{t e:TypeId}{x i:Operand}{a b:Opd}{m:Nat}{ti:TypeInfo}(ho:o.op=.indexAddr t x i)(ht:P.underlying t=some (.array m e))(hti:P.info? e=some ti)(hx:az x=some a)(hi:az i=some b)
 (h:opF n σ ρ' K (.idxA m ti.size a b)):Snd X loc σ w n ((execOp ρ o).run P w) K:=by
 simp only[opF]at h;have hx':=hρ x a hx;have hi':=hρ i b hi;split at h
 ·rename_i hv hw;rw[hv]at hx';rw[hw]at hi';obtain⟨L,g1,g2,g3⟩:=hx';simp only[Rl]at hi';obtain⟨h0,h1,h⟩:=h;exact Snd.of hr h (by simp[execOp,ho,Instr.indexAt,run_underlying ht,Instr.sureAddr,g3,hi',asIntOf,h0,h1,sizeOf,typeInfo,hti,gL];rfl) ⟨L,g1,g2,af1⟩
 ·rename_i hv hw;rw[hv]at hx';rw[hw]at hi';obtain⟨L,g1,g2,g3⟩:=hx';simp only[Rl]at hi';obtain⟨h0,h1,h⟩:=h;exact Snd.of hr h (by simp[execOp,ho,Instr.indexAt,run_underlying ht,Instr.sureAddr,g3,hi',asIntOf,h0,h1,sizeOf,typeInfo,hti,gL];rfl) ⟨L,g1,g2,af1⟩
 ·rename_i hv hw;rw[hv]at hx';rw[hw]at hi';obtain⟨bb,oo,vs,g3,g4⟩:=hx';simp only[Rl]at hi';obtain⟨h0,h1,h⟩:=h;exact Snd.of hr h (by simp[execOp,ho,Instr.indexAt,run_underlying ht,Instr.sureAddr,g3,hi',asIntOf,h0,h1,sizeOf,typeInfo,hti,gL];rfl) ⟨bb,oo,vs,af1,g4⟩
 grind
theorem Yj{o:Oper}{x:Operand}{a:Opd}{i:Nat}(p:o.op=.extract x i)(f:az x=some a)(h:opF n σ ρ' K (.ext i a)):Snd X loc σ w n ((execOp ρ o).run P w) K:=by
 simp only[opF]at h;split at h
 ·rename_i s l;obtain⟨m,h⟩:=h;have d:=hρ x a f;rw[l]at d;obtain⟨t,k,q⟩:=d;obtain⟨u,r,y⟩:=q.get i m;refine Snd.pure hr (v:=u) ?_ af3 h;simp[execOp,p,Instr.extract,k,r]
 grind
theorem O0{o:Oper}{x:Operand}{a:Opd}{t:TypeId}{u:Bool}(D:o.op=.call { callee:=.builtin .len,args:=#[x],argTypes:=#[t] })(c:(u=false/\∃e,P.underlying t=some (.slice e))\/(u=true/\P.underlying t=some .string))(z:az x=some a)
 (h:opF n σ ρ' K (.len u a)):Snd X loc σ w n ((execOp ρ o).run P w) K:=by
 simp only[opF]at h;have b:=hρ x a z;split at h
 ·rename_i m i
  refine Snd.of hr h (v:=.int .i64 m) ?_ rfl
  have e0:(execOp ρ o)=(do pure (Next.value (<-Builtin.len_ #[t] o.type #[ρ x])):Sem Next):=by
   rw[er D];simp[builtin]
  have C:(Builtin.len_ #[t] o.type #[ρ x]).run P w=.ok (.int .i64 m) w:=by
   generalize ρ' a=A at *;rcases c with⟨rfl,e,c⟩|⟨rfl,c⟩<;>cases A<;>simp only[MA,reduceCtorEq,afC]at i
   case inl.sl e cl xs=>
    obtain⟨ad,q,f,g,B,_⟩:=b;simp[Builtin.len_,run_underlying c,g,goInt,<-i,B]
   case inl.hs e id off len=>
    obtain⟨ad,f,L,g,_⟩:=b;simp[Builtin.len_,run_underlying c,g,goInt,<-i]
   case inl.va e id off len=>
    obtain⟨ad,f,L,g,_⟩:=b;simp[Builtin.len_,run_underlying c,g,goInt,<-i]
   case inr.str s=>
    simp only[Rl]at b;simp only[Builtin.len_,b,goInt,<-i];simp[run_underlying c,NE]
  rw[e0,Sem.run_bind,C];rfl
 grind
theorem Yb{o:Oper}{x:Operand}{a:Opd}{t e:TypeId}(j:o.op=.call { callee:=.builtin .cap,args:=#[x],argTypes:=#[t] })(r:P.underlying t=some (.slice e))(k:az x=some a)
 (h:opF n σ ρ' K (.cap a)):Snd X loc σ w n ((execOp ρ o).run P w) K:=by
 simp only[opF]at h;split at h
 ·rename_i A xs p;have c:=hρ x a k;rw[p]at c;obtain⟨ad,q,cap,s,l,D,C,y,_⟩:=c;refine Snd.of hr h (v:=.int .i64 xs.length) ?_ rfl;rw[er j];have i:=y rfl;subst i;simp[builtin,Builtin.cap_,run_underlying r,s,goInt,l]
 grind
theorem Z1{o:Oper}{xs:Array Operand}{ys:List Opd}{ats:Array TypeId}(i:o.op=.call { callee:=.builtin .min,args:=xs,argTypes:=ats })(e:en xs.toList=some ys)
 (h:opF n σ ρ' K (.mn ys)):Snd X loc σ w n ((execOp ρ o).run P w) K:=by
 simp only[opF]at h;have a:=io hρ e;split at h
 ·rename_i v r j
  split at h
  ·rename_i u d;rw[j]at a;obtain⟨z,s,f,m,l⟩:=a;obtain⟨k,p,q⟩:=UJ (P:=P) (w:=w) l m d;refine Snd.of hr h (v:=k) ?_ q;rw[er i];simp only[builtin,Builtin.min_,aev,f,Sem.run_bind,p,Result.andThen_ok,Sem.run_pure]
  grind
 grind
theorem Z2{o:Oper}{xs:Array Operand}{ys:List Opd}{ats:Array TypeId}(i:o.op=.call { callee:=.builtin .max,args:=xs,argTypes:=ats })(e:en xs.toList=some ys)
 (h:opF n σ ρ' K (.mx ys)):Snd X loc σ w n ((execOp ρ o).run P w) K:=by
 simp only[opF]at h;have a:=io hρ e;split at h
 ·rename_i v r j
  split at h
  ·rename_i u d;rw[j]at a;obtain⟨z,s,f,m,l⟩:=a;obtain⟨k,p,q⟩:=UH (P:=P) (w:=w) l m d;refine Snd.of hr h (v:=k) ?_ q;rw[er i];simp only[builtin,Builtin.max_,aev,f,Sem.run_bind,p,Result.andThen_ok,Sem.run_pure]
  grind
 grind
theorem Yo{o:Oper}{f:Fn}{a b:Array Operand}{ys:List Opd}(j:o.op=.makeFunc f a b)(m:a=#[])(p:en b.toList=some ys)
 (h:opF n σ ρ' K (.mkf f ys)):Snd X loc σ w n ((execOp ρ o).run P w) K:=by
 have g:=io hρ p;refine Snd.of hr h (v:=.func f #[] (b.map ρ)) ?_ ⟨_,by rw[<-aev],g⟩;subst m;simp[execOp,j,Instr.makeFunc]
theorem VT{o:Oper}{t e:TypeId}{x i:Operand}{a b:Opd}{ti:TypeInfo}(ho:o.op=.indexAddr t x i)(ht:P.underlying t=some (.slice e))(hti:P.info? e=some ti)(hx:az x=some a)(hi:az i=some b)
 (h:opF n σ ρ' K (.idxS ti.size a b)):Snd X loc σ w n ((execOp ρ o).run P w) K:=by
 simp only[opF]at h;have hx':=hρ x a hx;have hi':=hρ i b hi;split at h
 ·rename_i e' cl xs k j hv hw
  rw[hv]at hx';rw[hw]at hi';obtain⟨rfl,h0,h1,h⟩:=h;obtain⟨ad,q,cap,g1,g2,g3,g4,g5,g6,g7⟩:=hx';simp only[Rl]at hi';rcases g7 with g7|⟨bb,off,vs,rfl,k2,k3,k4,k5⟩
  ·omega
  ·have h1':j<(q:Int):=af0
   refine Snd.of hr h (v:=.pointer (some ⟨bb,off+j.toNat*ti.size+0,none⟩)) ?_ ⟨bb,off,vs,rfl,k2,k3,af3,k5⟩;simp[execOp,ho,Instr.indexAt,run_underlying ht,g1,hi',asIntOf,h0,h1',sizeOf,typeInfo,hti,gL]
 ·rename_i e' id off len k j hv hw
  rw[hv]at hx';rw[hw]at hi';obtain⟨rfl,h0,h1,h⟩:=h;obtain⟨ad,cap,L,g1,g2,g3,g4,g5,g6⟩:=hx';simp only[Rl]at hi';rcases g6 with g6|⟨k1,rfl,k3⟩
  ·omega
  ·refine Snd.of hr h (v:=.pointer (some ⟨L.blk,L.base+(off+j.toNat)*ti.size+0,none⟩)) ?_ ⟨L,g5,k1,rfl⟩;have:L.base+off*ti.size+j.toNat*ti.size=L.base+(off+j.toNat)*ti.size:=af3
   simp[execOp,ho,Instr.indexAt,run_underlying ht,g1,hi',asIntOf,h0,h1,sizeOf,typeInfo,hti,gL,this]
 ·rename_i e' id off len k j hv hw
  rw[hv]at hx';rw[hw]at hi';obtain⟨rfl,h0,h1,h⟩:=h;obtain⟨ad,cap,L,g1,g2,g3,g4,g5,g6,g7⟩:=hx';simp only[Rl]at hi';rcases g7 with g7|rfl
  ·omega
  ·refine Snd.of hr h (v:=.pointer (some ⟨L.blk,L.base+(off+j.toNat*ti.size),none⟩)) ?_ ⟨L,g5,g6,rfl⟩;simp[execOp,ho,Instr.indexAt,run_underlying ht,g1,hi',asIntOf,h0,h1,sizeOf,typeInfo,hti,gL,acZ]
 grind
theorem ZZ{o:Oper}{t:TypeId}{x:Operand}{a:Opd}{ag:Bool}{sz:Nat}(ho:o.op=.load t x)(hs:gQ P t=some (ag,sz))(hx:az x=some a)
 (h:opF n σ ρ' K (.ld ag sz a)):Snd X loc σ w n ((execOp ρ o).run P w) K:=by
 simp only[opF]at h;have hx':=hρ x a hx
 have fin:∀ {cs:List AV} {vs:List Value} {b oo:Nat} {ft:List Nat},RlC (aR X loc σ w) cs vs->cs.length=sz->range? w b oo sz=some vs.toArray->ρ x=.pointer (some ⟨b,oo,none⟩)->K (pack ag cs) ft false σ->Snd X loc σ w n ((execOp ρ o).run P w) K:=by
  intro cs vs b oo ft k1 k2 k3 k4 k5;refine Snd.of hr k5 (v:=sB ag vs) ?_ (Rl.pack k1 fun h0=>by subst h0;rw[k2];exact(gv hs).1);have:=sK P w b oo hs k3;simp[execOp,ho,Instr.loadAt,k4,Instr.sureAddr,this]
 split at h
 ·rename_i id oo hv
  rw[hv]at hx';obtain⟨L,g1,g2,g3⟩:=hx';split at h
  ·rename_i cs hσ;obtain⟨hl,h⟩:=h;obtain⟨_,k1,vs,tt,k2,k3⟩:=hr.var hσ g1;have hvl:=k3.length;have k4:=mz k2 oo sz af0;rw[k1,acC]at g3;exact fin ((k3.drop oo).take sz) af3 k4 g3 h
  grind
 ·rename_i e id i oo hv
  rw[hv]at hx';obtain⟨L,g1,g2,g3⟩:=hx';split at h
  ·rename_i e' xs hσ
   obtain⟨rfl,hl,hi,h⟩:=h;rcases hr.vec hσ g1 with⟨k0,_⟩|⟨_,cs,vs,ws,tt,k2,k3,k4,k5,_⟩
   ·grind
   ·have hvl:=k5.length
    have hle:i*e'+e'<=vs.length:=by
     rw[hvl];have:(i+1)*e'<=xs.length*e':=acr _ hi;grind
    have k6:=pX (lW k2) (i*e'+oo) sz af0;rw[k3]at k6;have k7:=k5.get i hi;have k8:=(k7.drop oo).take sz;have hel:=RlE.elen k5 xs[i] (afY hi);have hd:xs.getD i []=xs[i]:=af3
    rw[hd]at h
    have e1:(((vs.drop (i*e')).take e').drop oo).take sz=(vs.drop (i*e'+oo)).take sz:=by
     rw[ae2,adW,adj,adk af0]
    rw[e1]at k8;exact fin k8 af3 k6 af3 h
  grind
 ·rename_i e xs i oo hv
  rw[hv]at hx';obtain⟨hl,hi,h⟩:=h;obtain⟨b,off,vs,g3,g4,g5,g6,k5⟩:=hx';have hvl:=k5.length
  have hle:i*e+e<=xs.length*e:=by
   have:(i+1)*e<=xs.length*e:=acr _ hi;rw[acQ]at this;omega
  have k6:=pX g6 (i*e+oo) sz af0;have k7:=k5.get i hi;have k8:=(k7.drop oo).take sz;have hel:=RlE.elen k5 xs[i] (afY hi);have hd:xs.getD i []=xs[i]:=af3
  rw[hd]at h
  have e1:(((vs.drop (i*e)).take e).drop oo).take sz=(vs.drop (i*e+oo)).take sz:=by
   rw[ae2,adW,adj,adk af0]
  rw[e1]at k8;exact fin k8 (by simp;omega) k6 (by rw[g3];congr 3;omega) h
 grind
end
theorem RlC.ofVal{E:Env}{av:AV}{v:Value}(h:Rl E av v)(a:bK av.cellsOf=true):RlC E av.cellsOf v.cells.toList:=by
 cases av<;>simp only[AV.cellsOf,bK,ad6,List.all_nil,adI]at a ⊢
 case agg cs=>obtain⟨d,rfl,b⟩:=h;simpa[Value.cells]using b
 case dead=>simp[AV.cell]at a
 case tup=>simp[AV.cell]at a
 all_goals(
  have c:=CA h rfl;refine⟨v,[],?_,rfl,h,rfl⟩;cases v<;>simp_all[Value.cells,Value.oneCell'])
theorem RlC.spl{E:Env}{cs ys:List AV}{vs c:List Value}(h:RlC E cs vs)(d:RlC E ys c)(o:Nat):RlC E (spl cs o ys) (vs.take o++c++vs.drop (o+c.length)):=by
 rw[d.length];exact((h.take o).app d).app (h.drop _)
theorem RlE.set{E:Env}{e:Nat}:∀ {xs:List (List AV)} {vs:List Value} (i:Nat) (k:i<xs.length) {x:List AV} {a:List Value},RlE E e xs vs->RlC E x a->a.length=e->RlE E e (xs.set i x) (vs.take (i*e)++a++vs.drop (i*e+e))
 | [],_,i,k,_,_,_,_,_=>by grind
 | c :: cs, _, 0, _, x, a, h, b, f => by
   obtain⟨q,ws,rfl,j,l,g⟩:=h;refine⟨a,ws,?_,f,b,g⟩;grind
 | c :: cs, _, i + 1, k, x, a, h, b, f => by
   obtain⟨q,ws,rfl,j,l,g⟩:=h;have n:=RlE.set i af3 g b f;refine⟨q,_,?_,j,l,n⟩;have o:(i+1)*e=q.length+i*e:=af3
   have m:(i+1)*e+e=q.length+(i*e+e):=af0
   rw[m,o,adQ,afD (adA _ _),adc,adz,acK (adA _ _),adc];simp
theorem RlE.flat{E:Env}{e:Nat}:∀ {xs:List (List AV)} {vs:List Value},RlE E e xs vs->RlC E xs.flatten vs
 | [],_,h=>h
 | x :: xs, _, h => by
   obtain⟨d,ws,rfl,_,c,b⟩:=h;exact c.app (RlE.flat b)
theorem oq(cs vs ws c:List Value)(p:Nat)(g:p+c.length<=vs.length):
 (cs++vs++ws).take (cs.length+p)++c++(cs++vs++ws).drop (cs.length+p+c.length)=cs++(vs.take p++c++vs.drop (p+c.length))++ws:=by
 rw[afZ cs vs ws,adQ,afD (adA _ _),adc,acZ,adz,acK (adA _ _),adc,adQ,adz];have f:p-vs.length=0:=af0
 simp_all
theorem oe(w:World){b:Nat}{cs:List Value}{t:TypeId}(h:w.heap[b]?=some (.cells cs.toArray t (0,0)))(ds:List Value):(w.setRow b ds.toArray).heap[b]?=some (.cells ds.toArray t (0,0)):=
 setRow_heap w b _ _ t (0,0) h
section
variable{X:Nat->Prop}{loc loc':Nat->Option Loc}{σ σ':St}{w w':World}{n:Nat}{P:Program}{ρ:Operand->Value}{ρ':Opd->AV}{K:AV->List Nat->Bool->St->Prop}
theorem Rel.putVar(g:Rel X loc σ w){id:Nat}{cs a:List AV}{L:Loc}(hσ:σ[id]?=some (.var cs))(f:loc id=some L)(c:List Value)(h:RlC (aR X loc σ w) a c):
 Rel X loc (σ.set id (.var a)) (w.setRow L.blk c.toArray)/\(∀b,aV (σ.set id (.var a)) loc b->aV σ loc b)/\Ev (aV σ loc) w (w.setRow L.blk c.toArray):=by
 obtain⟨e,k,m,t,j,n⟩:=g.var hσ f;exact g.turn hσ rfl rfl f e c.toArray fun E l i=>⟨e,k,c,t,by rw[i];exact oe w j c,RlC.mono l _ _ h⟩
theorem Rel.putVec(m:Rel X loc σ w){id e:Nat}{xs c:List (List AV)}{L:Loc}(hσ:σ[id]?=some (.vec e xs))(n:loc id=some L)(k:L.has=true){cs vs ws d:List Value}{t:TypeId}
 (q:w.heap[L.blk]?=some (.cells (cs++vs++ws).toArray t (0,0))) (o:cs.length=L.base) (v:(cs++vs++ws).length=L.rows) (h:RlE (aR X loc σ w) e c d) (x:d.length=vs.length) (p:∀u∈ws,u.oneCell'=true):
 Rel X loc (σ.set id (.vec e c)) (w.setRow L.blk (cs++d++ws).toArray)/\(∀b,aV (σ.set id (.vec e c)) loc b->aV σ loc b)/\Ev (aV σ loc) w (w.setRow L.blk (cs++d++ws).toArray):=
 m.turn hσ rfl rfl n k _ fun E s r=>.inr ⟨k,cs,d,ws,t,by rw[r];exact oe w q _,o,af3,RlE.mono s _ _ _ h,p⟩
theorem Snd.turned{r:Result Next}{av:AV}{v:Value}{ft:List Nat}{wr:Bool}(hR:Rel X loc σ' w'/\(∀b,aV σ' loc b->aV σ loc b)/\Ev (aV σ loc) w w')(hl:σ'.length=σ.length)
 (h3:K av ft wr σ') (h1:r=.ok (.value v) w'\/(r=.ok .skip w'/\v=undef)) (h2:Rl (aR X loc σ' w') av v):Snd X loc σ w n r K:=
 ⟨av,ft,wr,σ',v,w',loc,h3,h1,⟨fun _ _ h=>h,hR.1,h2,hR.2.2,fun b hb=>.inl (hR.2.1 b hb)⟩,fun _ _=>rfl,hl⟩
theorem yz{b o:Nat}{t ty:TypeId}{i:TypeInfo}{c:List Value}{v:Value}(g:P.info? ty=some i)(k:w.heap[b]?=some (.cells c.toArray t (0,0)))(h:v.cells.size=i.size)(m:o+v.cells.size<=c.length)(l:∀u∈v.cells.toList,u.oneCell'=true):
 (storeVar ty ⟨b,o,none⟩ v).run P w=.ok () (w.setRow b (c.take o++v.cells.toList++c.drop (o+v.cells.toList.length)).toArray):=by
 have e:=run_storeCells_at (P:=P) b o t v.cells.toList 0 c.toArray w k af0 l;simp[storeVar,sizeOf,typeInfo,g,h,e]
variable(hr:Rel X loc σ w)(hρ:lm (aR X loc σ w) ρ ρ')
include hr hρ
theorem Yw {o : Oper} {t : TypeId} {x y : Operand} {a b : Opd} {i : TypeInfo} (ho : o.op = .store t x y) (hi : P.info? t = some i) (hx : az x = some a) (hy : az y = some b)
 (h:opF n σ ρ' K (.sto i.size a b)):Snd X loc σ w n ((execOp ρ o).run P w) K:=by
 simp only[opF]at h;obtain⟨hsz,hall,h⟩:=h;have hx':=hρ x a hx;have hy':=hρ y b hy;have hc:=RlC.ofVal hy' hall;have hcl:=hc.length;have hvs:(ρ y).cells.size=i.size:=af3
 have fin:∀ {bb oo:Nat} {t':TypeId} {rs:List Value},ρ x=.pointer (some ⟨bb,oo,none⟩)->w.heap[bb]?=some (.cells rs.toArray t' (0,0))->oo+i.size<=rs.length->
  (execOp ρ o).run P w=.ok .skip (w.setRow bb (rs.take oo++(ρ y).cells.toList++rs.drop (oo+(ρ y).cells.toList.length)).toArray):=by
  intro bb oo t' rs k1 k2 k3;have:=yz (P:=P) (o:=oo) hi k2 hvs af0 hc.one;simp only[execOp,ho,Instr.storeAt,k1,Instr.sureAddr,Sem.run_bind,Sem.run_pure,Result.andThen_ok];simp_all
 split at h
 ·rename_i id oo hv
  rw[hv]at hx';obtain⟨L,g1,g2,g3⟩:=hx';split at h
  ·rename_i cs hσ;obtain⟨hl,h⟩:=h;obtain⟨_,k1,vs,tt,k2,k3⟩:=hr.var hσ g1;have hvl:=k3.length;rw[k1,acC]at g3;exact Snd.turned (hr.putVar hσ g1 _ (k3.spl hc oo)) af1 h (.inr ⟨fin g3 k2 af0,rfl⟩) ⟨[],rfl,rfl⟩
  grind
 ·rename_i e id q oo hv
  rw[hv]at hx';obtain⟨L,g1,g2,g3⟩:=hx';split at h
  ·rename_i e' xs hσ
   obtain⟨rfl,hl,hi',h⟩:=h;rcases hr.vec hσ g1 with⟨k0,_⟩|⟨_,cs,vs,ws,tt,k2,k3,k4,k5,k51⟩
   ·grind
   ·have hvl:=k5.length
    have hle:q*e'+e'<=vs.length:=by
     rw[hvl];have:(q+1)*e'<=xs.length*e':=acr _ hi';grind
    have hd:xs.getD q []=xs[q]:=af3
    rw[hd]at h;have k7:=(k5.get q hi').spl hc oo;have hlu:((ρ y).cells.toList).length=i.size:=af0
    have k8:=k5.set q hi' k7 af3
    have e1:vs.take (q*e')++(((vs.drop (q*e')).take e').take oo++(ρ y).cells.toList++((vs.drop (q*e')).take e').drop (oo+(ρ y).cells.toList.length))++vs.drop (q*e'+e')=
     vs.take (q*e'+oo)++(ρ y).cells.toList++vs.drop (q*e'+oo+(ρ y).cells.toList.length):=by
     have a1:vs.take (q*e')++((vs.drop (q*e')).take e').take oo=vs.take (q*e'+oo):=by
      rw[adW,adk af0,<-afs]
     have a2:((vs.drop (q*e')).take e').drop (oo+(ρ y).cells.toList.length)++vs.drop (q*e'+e')=vs.drop (q*e'+oo+(ρ y).cells.toList.length):=by
      have h9:=afX (e' - (oo+(ρ y).cells.toList.length)) (vs.drop (q*e'+(oo+(ρ y).cells.toList.length)));rw[adj]at h9;have e5:q*e'+(oo+(ρ y).cells.toList.length)+(e' - (oo+(ρ y).cells.toList.length))=q*e'+e':=af0
      rw[e5]at h9;rw[ae2,adj,h9,acZ]
     rw[<-a1,<-a2];simp[afZ]
    rw[e1]at k8;have g4:ρ x=.pointer (some ⟨L.blk,cs.length+(q*e'+oo),none⟩):=by rw[g3,k3];congr 3;omega
    have k9:=hr.putVec hσ g1 g2 k2 k3 k4 k8 (by simp;omega) k51;rw[<-oq cs vs ws _ (q*e'+oo) af0]at k9;exact Snd.turned k9 af1 h (.inr ⟨fin g4 k2 (by simp;omega),rfl⟩) ⟨[],rfl,rfl⟩
  grind
 grind
variable(hn:n<σ.length)(hg:loc n=none)
include hn hg
omit hρ in
theorem Yq{o:Oper}{t:TypeId}{z:List AV}(l:o.op=.alloc t)(a:jJ P t=some z)(h:opF n σ ρ' K (.new z)):Snd X loc σ w n ((execOp ρ o).run P w) K:=by
 unfold jJ at a;split at a
 ·rename_i i p
  split at a
  ·rename_i f g
   split at a
   ·refine Snd.alloc hr hn hg (.var z) ⟨true,w.heap.size,0,f.cells.size⟩ rfl rfl (.cells f.cells t (0,0)) (v:=.pointer (some ⟨w.heap.size,0,none⟩)) h (fun E k s=>⟨rfl,rfl,f.cells.toList,t,?_,RlC.ofCells E a⟩) ?_ (fun E k=>⟨_,k,rfl,rfl⟩)
    ·rw[s,_root_.Go.heap_alloc_new]
    ·simp[execOp,l,Instr.alloc,zeroValue,typeInfo,p,g,newVar,newRow,Sem.run]
   grind
  grind
 grind
theorem Ya{o:Oper}{t:TypeId}{x:Operand}{a:Opd}{s:Nat}(m:o.op=.box t x)(p:az x=some a)(h:opF n σ ρ' K (.box s a)):Snd X loc σ w n ((execOp ρ o).run P w) K:=by
 obtain⟨q,d,h⟩:=h;have l:=RlC.ofVal (hρ x a p) d;refine Snd.alloc hr hn hg (.var (ρ' a).cellsOf) ⟨true,w.heap.size,0,(ρ x).cells.size⟩ rfl rfl (.cells (ρ x).cells t (0,0)) (v:=.pointer (some ⟨w.heap.size,0,none⟩)) h (fun E i u=>⟨rfl,rfl,(ρ x).cells.toList,t,?_,RlC.mono i _ _ l⟩) ?_ (fun E i=>⟨_,i,rfl,rfl⟩)
 ·rw[u,_root_.Go.heap_alloc_new]
 ·simp[execOp,m,Instr.box,newVar,newRow,Sem.run]
end
theorem BH:∀ (vs:List Value) (off k:Nat) (cs:List Value),off+k+vs.length<=cs.length->
 ((vs.zipIdx k).foldl (fun(cs:Array Value) (x:Value×Nat)=>cs.setIfInBounds (off+x.2) x.1) cs.toArray)=(cs.take (off+k)++vs++cs.drop (off+k+vs.length)).toArray
 | [],off,k,cs,_=>by simp
 | v :: vs, off, k, cs, h => by
   rw[List.zipIdx_cons,ad1];have i:(cs.toArray.setIfInBounds (off+k) v)=(cs.set (off+k) v).toArray:=af1
   simp only[i];rw[BH vs off (k+1) (cs.set (off+k) v) af3]
   have j:(cs.set (off+k) v).take (off+(k+1))=cs.take (off+k)++[v]:=by
    rw[<-acZ,List.take_succ_eq_append_getElem af3,List.take_set_of_le (afE _)];simp
   have l:(cs.set (off+k) v).drop (off+(k+1)+vs.length)=cs.drop (off+k+(v::vs).length):=by
    rw[List.drop_set_of_lt af0];grind
   grind
theorem HN{E:Env}(a:Nat->Option (Nat×Nat)):∀ (g:List (Nat×Value)) (f:List (Nat×Nat×AV)) (cs:List AV) (e:List Value),RlC E cs e->g.length=f.length->
 (∀ (j:Nat) (p:Nat×Value) (q:Nat×Nat×AV),g[j]?=some p->f[j]?=some q->a p.1=some (q.1,q.2.1)/\Rl E q.2.2 p.2)->tq cs.length f=true->
 ∃c:List Value,Instr.fill a e.toArray g=some c.toArray/\RlC E (JH cs f) c/\c.length=e.length
 | [],[],cs,e,h,_,_,_=>⟨e,rfl,h,rfl⟩
 | [],_::_,_,_,_,m,_,_=>by grind
 |_::_,[],_,_,_,m,_,_=>by grind
 | (i, v) :: g, (off, x, av) :: f, cs, e, h, m, n, k => by
   simp only[tq,afL,ac0,afJ]at k;obtain⟨⟨⟨D,B⟩,r⟩,F⟩:=k;obtain⟨u,w⟩:=n 0 (i,v) (off,x,av) rfl rfl;have o:=RlC.ofVal w r;have s:=o.length;have z:=h.length;have t:=h.spl o off;have C:(spl cs off av.cellsOf).length=cs.length:=by simp[spl];omega
   obtain⟨c,y,A,H⟩:=HN a g f (spl cs off av.cellsOf) _ t af3 (fun j p q I G=>n (j+1) p q af3 af3) af3;refine⟨c,?_,A,?_⟩
   ·simp only[Instr.fill,u];rw[afx af3];rw[<-y];have:=BH v.cells.toList off 0 e af3;simp only[acR]at this;rw[<-this];rw[<-Array.foldl_toList];simp
   grind
theorem rR{P:Program}{fs:Array Field}:∀ {c:List (Nat×Operand)} {b:List (Nat×Nat×Opd)},lG P fs c=some b->c.length=b.length/\∀ (j:Nat) (p:Nat×Operand) (q:Nat×Nat×Opd),c[j]?=some p->b[j]?=some q->
 ∃f d,fs[p.1]?=some f/\P.info? f.type=some d/\q.1=f.offset/\q.2.1=d.size/\az p.2=some q.2.2
 | [],b,h=>by simp only[lG,afC]at h;grind
 | (i, x) :: c, b, h => by
   simp only[lG]at h;split at h
   ·rename_i f y q l k e
    split at h
    ·obtain⟨m,g⟩:=rR e;grind
    grind
   grind
theorem rQ{d:Nat}:∀ {c:List (Nat×Operand)} {b:List (Nat×Nat×Opd)},lE d c=some b->c.length=b.length/\∀ (j:Nat) (p:Nat×Operand) (q:Nat×Nat×Opd),c[j]?=some p->b[j]?=some q->
 q.1=p.1*d/\q.2.1=d/\az p.2=some q.2.2
 | [],b,h=>by simp only[lE,afC]at h;grind
 | (i, x) :: c, b, h => by
   simp only[lE]at h;split at h
   ·rename_i y q g e;obtain⟨k,f⟩:=rQ e;grind
   grind
theorem nQ:∀ {c:List (Nat×Operand)} {b:List (Nat×Opd)},jN c=some b->c.length=b.length/\∀ (j:Nat) (p:Nat×Operand) (q:Nat×Opd),c[j]?=some p->b[j]?=some q->
 q.1=p.1/\az p.2=some q.2
 | [],b,h=>by simp only[jN,afC]at h;grind
 | (i, x) :: c, b, h => by
   simp only[jN]at h;split at h
   ·rename_i y q f d;obtain⟨g,e⟩:=nQ d;grind
   grind
theorem j9:∀ {l:List Value} {z:List AV},ofCells l=some z->∀u∈l,u.oneCell'=true
 | [],_,_,u,d=>by grind
 | v :: l, z, h, u, d => by
   simp only[ofCells]at h;split at h
   ·rename_i a b e f
    rcases acW.1 d with rfl|d
    ·unfold ofCell at e;split at e<;>first|rfl|grind
    ·exact j9 f u d
   grind
theorem ig{P:Program}{t:TypeId}{z:List AV}(h:jJ P t=some z):∃i b,P.info? t=some i/\i.zero=some b/\b.cells.size=i.size/\ofCells b.cells.toList=some z:=by
 unfold jJ at h;split at h
 ·grind
 grind
theorem my(b:List Value)(g:0<b.length):∀n,(madeCells b.toArray (n*b.length)).toList=(List.replicate n b).flatten
 |0=>by simp[madeCells]
 | n + 1 => by
   have f:=my b g n;simp only[madeCells,aev,Array.toList_range]at f ⊢;rw[List.replicate_succ',List.flatten_append,<-f,acQ,Nat.one_mul,List.range_add,acu];congr 1;apply ac1
   intro i;by_cases e:i<b.length
   ·simp[e,Nat.mod_eq_of_lt e]
   grind
theorem RlE.rep{E:Env}{z:List AV}{zs:List Value}{e:Nat}(h:RlC E z zs)(he:zs.length=e):∀n,RlE E e (List.replicate n z) (List.replicate n zs).flatten
 |0=>rfl
 |n+1=>⟨zs,_,rfl,he,h,RlE.rep h he n⟩
theorem BF{E:Env}{e:Nat}:∀ (k:List (Nat×Value)) (f:List (Nat×AV)) (xs:List (List AV)) (c:List Value),RlE E e xs c->k.length=f.length->
 (∀ (j:Nat) (p:Nat×Value) (q:Nat×AV),k[j]?=some p->f[j]?=some q->q.1=p.1/\Rl E q.2 p.2)->qH e xs.length f=true->
 ∃b:List Value,Instr.fill (fun i=>some (i*e,e)) c.toArray k=some b.toArray/\RlE E e (nU xs f) b
 | [],[],xs,c,h,_,_,_=>⟨c,rfl,h⟩
 | [],_::_,_,_,_,r,_,_=>by grind
 |_::_,[],_,_,_,r,_,_=>by grind
 | (i, v) :: k, (g, av) :: f, xs, c, h, r, n, l => by
   simp only[qH,afL,ac0,afJ]at l;obtain⟨⟨⟨F,o⟩,y⟩,G⟩:=l;obtain⟨w,x⟩:=n 0 (i,v) (g,av) rfl rfl;subst w;have s:=RlC.ofVal x y;have z:=s.length;have t:=h.length;have B:v.cells.size=e:=af3
   have u:=h.set g o s af0
   have D:g*e+e<=c.length:=by
    have:(g+1)*e<=xs.length*e:=acr _ o;grind
   obtain⟨b,A,C⟩:=BF k f (xs.set g av.cellsOf) _ u af3 (fun j p q H I=>n (j+1) p q af3 af3) af3;refine⟨b,?_,C⟩;simp only[Instr.fill];rw[afx af3];rw[<-A];have:=BH v.cells.toList (g*e) 0 c af3;simp only[acR]at this;have m:v.cells.toList.length=e:=af0
   rw[m]at this;rw[<-this,<-Array.foldl_toList];simp
theorem zf{P:Program}{w:World}{t e:TypeId}{i:TypeInfo}(ht:P.underlying t=some (.slice e))(hi:P.info? e=some i)(a:Option Addr)(m d:Nat)(lo g mx:Option Value)(l h q:Nat)
 (j:(lo=none/\l=0)\/∃k,lo=some (.int k l)) (o:(g=none/\h=m)\/∃k,g=some (.int k h)) (hmx:(mx=none/\q=d)\/((∃k,mx=some (.int k q))/\g≠none)) (h1:l<=h) (h2:h<=q) (h3:q<=d):
 (Instr.sliceAt t (.slice a m d) lo g mx).run P w=.ok (.slice (vN a l q i.size) (h-l) (q-l)) w:=by
 have c1:(l:Int)<=(h:Int):=af0
 have c2:(h:Int)<=(q:Int):=af0
 have c3:(q:Int)<=(d:Int):=af0
 rcases hmx with⟨rfl,rfl⟩|⟨⟨km,rfl⟩,hne⟩
 ·rcases j with⟨rfl,rfl⟩|⟨k,rfl⟩<;>rcases o with⟨rfl,rfl⟩|⟨k',rfl⟩ <;>
   simp[Instr.sliceAt,Instr.slice,Instr.sliceBounds,Instr.sliceBound,asIntOf,run_underlying ht,sizeOf,typeInfo,hi,vN,h1,h2]
 ·rcases o with⟨rfl,rfl⟩|⟨k',rfl⟩
  ·grind
  ·rcases j with⟨rfl,rfl⟩|⟨k,rfl⟩ <;>
    simp[Instr.sliceAt,Instr.slice,Instr.sliceBounds,Instr.sliceBound,asIntOf,run_underlying ht,sizeOf,typeInfo,hi,vN,h1,h2,h3]
theorem Rl.sliced{E:Env}{e c:Nat}{v i:Bool}{xs:List (List AV)}{ad:Option Addr}{m g:Nat}(t:Rl E (.sl c v xs) (.slice ad m g))(x:c=e\/xs=[]){l h q:Nat}(G:l<=h)(N:h<=xs.length)(C:h<=q)(F:q<=g)(j:i=true->q-l=h-l):
 Rl E (.sl e i ((xs.drop l).take (h-l))) (.slice (vN ad l q e) (h-l) (q-l)):=by
 obtain⟨a,J,p,w,K,L,M,O,D,o⟩:=t;obtain⟨rfl,rfl,rfl⟩:=w;refine⟨_,_,_,rfl,af3,af0,af0,j,fun n=>?_,?_⟩
 ·unfold vN at n;split at n
  ·omega
  simp_all
 ·by_cases H:h-l=0
  ·omega
  ·rcases o with o|⟨b,off,I,rfl,s,z,y,A⟩
   ·omega
   ·have k:xs≠[]:=af3
    obtain rfl:=x.resolve_right k
    have B:l*c+(h-l)*c<=m*c:=by
     rw[<-acQ];exact acr _ af0
    have r:=pX y (l*c) ((h-l)*c) B;right
    refine⟨b,off+l*c,_,?_,s,z,r,(A.drop l).take (h-l)⟩;have:¬q=l:=af0
    simp[vN,this,gL]
theorem iR{E:Env}{ρ:Operand->Value}{ρ':Opd->AV}(hρ:lm E ρ ρ'){e:Option Operand}{a:Option Opd}(h:fP e=some a)(d:Nat)(f:0<=bz ρ' d a):
 (a=none/\e.map ρ=none/\(bz ρ' d a).toNat=d)\/(a≠none/\∃k,e.map ρ=some (.int k (bz ρ' d a).toNat)):=by
 cases e with
 |none=>simp only[fP,afC]at h;subst h;exact .inl ⟨rfl,rfl,by simp[bz]⟩
 | some x =>
   obtain⟨y,l,rfl⟩:=afI.1 h;have g:=hρ x y l;simp only[bz,WK]at f ⊢;split at f
   ·rename_i k z i;rw[i]at g;simp only[Rl]at g;grind
   omega
theorem jd{c:Option Operand}{b:Option Opd}(h:fP c=some b):b=none↔c=none:=by
 cases c with
 |none=>simp only[fP,afC]at h;subst h;simp
 |some x=>obtain⟨y,_,rfl⟩:=afI.1 h;simp
section
variable{X:Nat->Prop}{loc loc':Nat->Option Loc}{σ σ':St}{w w':World}{n:Nat}{P:Program}{ρ:Operand->Value}{ρ':Opd->AV}{K:AV->List Nat->Bool->St->Prop}
variable(hr:Rel X loc σ w)(hρ:lm (aR X loc σ w) ρ ρ')
include hr hρ
theorem VO{o:Oper}{t e:TypeId}{m:Nat}{f:Array (Nat×Operand)}{s:List (Nat×Nat×Opd)}{z:List AV}{c:TypeInfo}(J:o.op=.build t f)(L:P.underlying t=some (.array m e))(M:jJ P t=some z)(x:P.info? e=some c)
 (F:lE c.size f.toList=some s) (h:opF n σ ρ' K (.bld z s)):Snd X loc σ w n ((execOp ρ o).run P w) K:=by
 obtain⟨y,h⟩:=h;obtain⟨i,T,U,A,G,u⟩:=ig M;obtain⟨Z,g⟩:=rQ F;have l:=RlC.ofCells (aR X loc σ w) u
 obtain⟨b,N,O,_⟩:=HN (E:=aR X loc σ w) (fun i=>some (i*c.size,c.size)) ((f.toList).map fun p=>(p.1,ρ p.2)) (s.map fun p=>(p.1,p.2.1,ρ' p.2.2)) z T.cells.toList l af3 (fun j p q R C=>by
  obtain⟨I,B,rfl⟩:=acs ..▸R |> afI.1
  obtain⟨V,D,rfl⟩:=acs ..▸C |> afI.1
  obtain⟨k1,k2,W⟩:=g j I V B D;exact⟨af3,hρ _ _ W⟩) y
 refine Snd.of hr h (v:=.agg b.toArray) ?_ ⟨b,rfl,O⟩;simp[execOp,J,Instr.build,zeroValue,typeInfo,U,A,run_underlying L,sizeOf,x,N]
theorem RV{o:Oper}{t:TypeId}{fs:Array Field}{e:Array (Nat×Operand)}{x:List (Nat×Nat×Opd)}{z:List AV}(S:o.op=.build t e)(Q:P.underlying t=some (.struct fs))(Y:jJ P t=some z)
 (J:lG P fs e.toList=some x) (u:fs.toList.all (fun f=>(P.info? f.type).isSome)=true) (h:opF n σ ρ' K (.bld z x)):Snd X loc σ w n ((execOp ρ o).run P w) K:=by
 obtain⟨y,h⟩:=h;obtain⟨i,L,M,N,U,A⟩:=ig Y;obtain⟨k,B⟩:=rR J;have C:=RlC.ofCells (aR X loc σ w) A
 have s:∀ (l:List Field),(l.all fun f=>(P.info? f.type).isSome)=true->(l.mapM fun f=>(P.info? f.type).map fun i=>(f.offset,i.size))=some (l.map fun f=>(f.offset,P.cellsOf f.type)):=by
  intro l;induction l with
  |nil=>simp
  | cons f l O =>
    intro k;simp only[ad6,afL]at k;obtain⟨j,r⟩:=adH.1 k.1;rw[List.mapM_cons,O k.2];simp[r,Program.cellsOf]
 obtain⟨a,g1,T,_⟩:=HN (E:=aR X loc σ w) ((fs.toList.map fun f=>(f.offset,P.cellsOf f.type)).toArray[·]?) ((e.toList).map fun p=>(p.1,ρ p.2)) (x.map fun p=>(p.1,p.2.1,ρ' p.2.2)) z L.cells.toList C af3 (fun j p q r D=>by
  obtain⟨W,H,rfl⟩:=acs ..▸r |> afI.1
  obtain⟨Z,I,rfl⟩:=acs ..▸D |> afI.1
  obtain⟨f,ti,k0,k1,k2,k3,k4⟩:=B j W Z H I;refine⟨?_,hρ _ _ k4⟩;simp[k0,k2,k3,Program.cellsOf,k1]) y
 refine Snd.of hr h (v:=.agg a.toArray) ?_ ⟨a,rfl,T⟩
 have hb:P.built t ((e.map fun p=>(p.1,ρ p.2)).toList)=some a.toArray:=by
  simp only[Program.built,M,Q,s _ u];simp_all
 have:=run_build (P:=P) w t (e.map fun p=>(p.1,ρ p.2)) a.toArray hb;simp only[execOp,S,Sem.run_bind];rw[this];rfl
theorem Yu {o : Oper} {t e : TypeId} {x : Operand} {lo hi mx : Option Operand} {a : Opd} {lo' hi' mx' : Option Opd} {ti : TypeInfo} (ho : o.op = .slice t x lo hi mx) (ht : P.underlying t = some (.slice e)) (hti : P.info? e = some ti)
 (hx:az x=some a) (hlo:fP lo=some lo') (hhi:fP hi=some hi') (hmx:fP mx=some mx') (h:opF n σ ρ' K (.sli ti.size a lo' hi' mx')):Snd X loc σ w n ((execOp ρ o).run P w) K:=by
 simp only[opF]at h;have hx':=hρ x a hx
 have run:∀ {ad:Option Addr} {m cap l hh q:Nat},ρ x=.slice ad m cap->((lo.map ρ=none/\l=0)\/∃k,lo.map ρ=some (.int k l))->((hi.map ρ=none/\hh=m)\/∃k,hi.map ρ=some (.int k hh))->
  ((mx.map ρ=none/\q=cap)\/((∃k,mx.map ρ=some (.int k q))/\hi.map ρ≠none))->l<=hh->hh<=q->q<=cap->(execOp ρ o).run P w=.ok (.value (.slice (vN ad l q ti.size) (hh-l) (q-l))) w:=by
  intro ad m cap l hh q k1 k2 k3 k4 k5 k6 k7;have:=zf (P:=P) (w:=w) ht hti ad m cap _ _ _ l hh q k2 k3 k4 k5 k6 k7;simp only[execOp,ho,Sem.run_bind,k1];simp_all
 split at h
 ·rename_i e' cl xs hv
  rw[hv]at hx';obtain⟨he,h0,h1,h2,h3,h4,h⟩:=h;have hx2:=hx';obtain⟨ad,m,cap,g1,rfl,g3,g4,g5,g6,g7⟩:=hx2;have k1:=iR hρ hlo 0 h0;have k2:=iR hρ hhi xs.length af0;have k3:=iR hρ hmx xs.length af0;rw[g1]at hx';generalize hL:bz ρ' ((0:Nat):Int) lo'=l at *;generalize hH:bz ρ' (xs.length:Int) hi'=hh at *;generalize hM:bz ρ' (xs.length:Int) mx'=q at *;have a1:(lo.map ρ=none/\l.toNat=0)\/∃k,lo.map ρ=some (.int k l.toNat):=k1.imp (fun x=>x.2) (fun x=>x.2)
  have a2:(hi.map ρ=none/\hh.toNat=xs.length)\/∃k,hi.map ρ=some (.int k hh.toNat):=k2.imp (fun x=>x.2) (fun x=>x.2)
  rcases k3 with⟨b1,b2,b3⟩|⟨b1,b2⟩
  ·have r:=run g1 a1 a2 (.inl ⟨b2,rfl⟩) af0 af0 (afE _);subst b1;refine Snd.of hr h r (Rl.sliced hx' he af0 af0 af0 (afE _) fun hc=>?_);simp_all
  ·have hne:hi.map ρ≠none:=by
    have:hi'≠none:=h4.resolve_left b1;have h5:=(not_congr (jd hhi)).1 this;simpa using h5
   have r:=run g1 a1 a2 (.inr ⟨b2,hne⟩) af0 af0 af0;refine Snd.of hr h r (Rl.sliced hx' he af0 af0 af0 af0 fun hc=>?_);cases mx' with
   |none=>exact absurd rfl b1
   | some _ =>
     simp only[afJ]at hc;omega
 ·rename_i e' id off len hv
  rw[hv]at hx';obtain⟨rfl,h⟩:=h;have hx2:=hx';obtain⟨ad,cap,L,g1,g2,g3,g4,g5,g6⟩:=hx2;split at h
  ·obtain⟨h0,h1,h2,h⟩:=h
   have k1:=iR hρ hlo 0 h0;have k2:=iR hρ hhi len af0;have hmn:mx=none:=(jd hmx).1 rfl;subst hmn;generalize hL:bz ρ' ((0:Nat):Int) lo'=l at *;generalize hH:bz ρ' (len:Int) hi'=hh at *;have a1:(lo.map ρ=none/\l.toNat=0)\/∃k,lo.map ρ=some (.int k l.toNat):=k1.imp (fun x=>x.2) (fun x=>x.2)
   have a2:(hi.map ρ=none/\hh.toNat=len)\/∃k,hi.map ρ=some (.int k hh.toNat):=k2.imp (fun x=>x.2) (fun x=>x.2)
   have r:=run g1 a1 a2 (.inl ⟨rfl,rfl⟩) af0 af0 (afE _);refine Snd.of hr h r ⟨_,_,L,rfl,af0,af0,fun hn=>?_,g5,?_⟩
   ·unfold vN at hn;split at hn
    ·omega
    ·have:=g4 (by simpa using hn);omega
   ·have e3:off+l.toNat+(cap-l.toNat)=off+cap:=af0
    rcases g6 with⟨g6,g7⟩|⟨g6,rfl,g7⟩
    ·have e4:l.toNat=0:=af0
     exact .inl ⟨af0,fun h=>by rw[e4];exact g7 h⟩
    ·by_cases hc:cap=l.toNat
     ·exact .inl ⟨af0,fun h=>by rw[<-hc];exact g7⟩
     ·right
      refine⟨g6,by simp[vN,hc,gL,acQ,acZ],?_⟩;rw[e3];exact g7
  ·rename_i m
   obtain⟨h0,h1,h2,h3,h⟩:=h;have h1:bz ρ' ((0:Nat):Int) lo'=0:=h1;have k1:=iR hρ hlo 0 af0;have k2:=iR hρ hhi len af0;have k3:=iR hρ hmx len af0;have a1:(lo.map ρ=none/\0=0)\/∃k,lo.map ρ=some (.int k ((0:Nat):Int)):=k1.imp (fun x=>⟨x.2.1,rfl⟩) (fun x=>by obtain⟨_,k,hk⟩:=x;exact⟨k,by rw[hk,h1];rfl⟩)
   have a2:∃k,hi.map ρ=some (.int k ((0:Nat):Int)):=by
    rcases k2 with⟨q,_⟩|⟨_,k,hk⟩
    ·exact absurd q h0
    ·exact⟨k,by rw[hk,h2];rfl⟩
   have a3:∃k,mx.map ρ=some (.int k ((0:Nat):Int)):=by
    rcases k3 with⟨q,_⟩|⟨_,k,hk⟩
    ·cases q
    ·exact⟨k,by rw[hk,h3];rfl⟩
   have r:=run g1 a1 (.inr a2) (.inr ⟨a3,by obtain⟨k,hk⟩:=a2;rw[hk];simp⟩) (afE 0) (afE 0) (afK _);exact Snd.of hr h r ⟨_,0,0,rfl,rfl,afE _,afK _,fun _=>rfl,fun _=>rfl,.inl rfl⟩
 ·rename_i e' id off len hv
  rw[hv]at hx';obtain⟨rfl,rfl,h0,h1,h2,h⟩:=h;have hx2:=hx';obtain⟨ad,cap,L,g1,g2,g3,g4,g5,g6,g7⟩:=hx2;have k1:=iR hρ hlo 0 h0;have k2:=iR hρ hhi len af0;have hmn:mx=none:=(jd hmx).1 rfl;subst hmn;generalize hL:bz ρ' ((0:Nat):Int) lo'=l at *;generalize hH:bz ρ' (len:Int) hi'=hh at *;have a1:(lo.map ρ=none/\l.toNat=0)\/∃k,lo.map ρ=some (.int k l.toNat):=k1.imp (fun x=>x.2) (fun x=>x.2)
  have a2:(hi.map ρ=none/\hh.toNat=len)\/∃k,hi.map ρ=some (.int k hh.toNat):=k2.imp (fun x=>x.2) (fun x=>x.2)
  have r:=run g1 a1 a2 (.inl ⟨rfl,rfl⟩) af0 af0 (afE _);refine Snd.of hr h r ⟨_,_,L,rfl,af0,af0,fun hn=>?_,g5,g6,?_⟩
  ·unfold vN at hn;split at hn
   ·omega
   ·have:=g4 (by simpa using hn);omega
  ·rcases g7 with g7|rfl
   ·left;omega
   ·by_cases hc:cap=l.toNat
    ·left;omega
    ·right
     simp[vN,hc,gL,acZ]
 grind
end
section
variable{X:Nat->Prop}{loc loc':Nat->Option Loc}{σ σ':St}{w w':World}{n:Nat}{P:Program}{ρ:Operand->Value}{ρ':Opd->AV}{K:AV->List Nat->Bool->St->Prop}
variable(hr:Rel X loc σ w)(hρ:lm (aR X loc σ w) ρ ρ')
include hr hρ
theorem VY{o:Oper}{t e:TypeId}{m:Nat}{x:Operand}{p j:Option Operand}{a:Opd}{g f:Option Opd}{s:TypeInfo}(ho:o.op=.slice t x p j none)(Z:P.underlying t=some (.array m e))(z:P.info? e=some s)(hm:m<=maxLen)
 (S:az x=some a) (v:fP p=some g) (D:fP j=some f) (h:opF n σ ρ' K (.sliA s.size m a g f)):Snd X loc σ w n ((execOp ρ o).run P w) K:=by
 simp only[opF]at h;have r:=hρ x a S;split at h
 ·rename_i id u Y
  rw[Y]at r;obtain⟨G,h1,I,h⟩:=h;obtain⟨L,M,N,O⟩:=r;have Q:=iR hρ v 0 G;have R:=iR hρ D m af0;generalize hL:bz ρ' ((0:Nat):Int) g=l at *;generalize hH:bz ρ' (m:Int) f=B at *;have T:(p.map ρ=none/\l.toNat=0)\/∃k,p.map ρ=some (.int k l.toNat):=Q.imp (fun x=>x.2) (fun x=>x.2)
  have J:(j.map ρ=none/\B.toNat=m)\/∃k,j.map ρ=some (.int k B.toNat):=R.imp (fun x=>x.2) (fun x=>x.2)
  obtain⟨l,rfl⟩:=afF G;obtain⟨q,rfl⟩:=afF (show 0<=B by omega);have c1:(l:Int)<=(q:Int):=h1;have c2:(q:Int)<=(m:Int):=I;have V:l<=q:=af0
  have W:q<=m:=af0
  have run:(execOp ρ o).run P w=.ok (.value (.slice (some (if m=l then ⟨L.blk,L.base+u,none⟩else ⟨L.blk,L.base+u+l*s.size,none⟩)) (q-l) (m-l))) w:=by
   have e0:(Instr.sliceAt t (ρ x) (p.map ρ) (j.map ρ) none).run P w=.ok (.slice (some (if m=l then ⟨L.blk,L.base+u,none⟩else ⟨L.blk,L.base+u+l*s.size,none⟩)) (q-l) (m-l)) w:=by
    rw[O]
    rcases T with⟨F,rfl⟩|⟨k,F⟩<;>rcases J with⟨H,rfl⟩|⟨k',H⟩ <;>
     simp[Instr.sliceAt,Instr.sureAddr,Instr.sliceBounds,Instr.sliceBound,asIntOf,run_underlying Z,sizeOf,typeInfo,z,F,H,V,W,gL]
   simp only[execOp];simp_all
  refine Snd.of hr h run ⟨_,_,L,rfl,af0,af0,af1,M,N,?_⟩;by_cases hc:m=l
  ·omega
  grind
 grind
theorem Yg {o : Oper} {t u e : TypeId} {d s : Operand} {a b : Opd} {ti : TypeInfo} (ho : o.op = .call { callee := .builtin .copy, args := #[d, s], argTypes := #[t, u] }) (ht : P.underlying t = some (.slice e)) (hti : P.info? e = some ti) (hpos : 0 < ti.size)
 (hd:az d=some a) (hs:az s=some b) (h:opF n σ ρ' K (.cpy ti.size a b)):Snd X loc σ w n ((execOp ρ o).run P w) K:=by
 simp only[opF]at h;have hd':=hρ d a hd;have hs':=hρ s b hs;split at h
 ·grind
 ·rename_i ys hys
  obtain⟨news,hsrc,hE,hf⟩:=vl (P:=P) hr (tx:=t) (.inl ⟨e,ht⟩) hpos hys hs';have hlen:=hsrc.len w
  have hexec:∀ {ad:Option Addr} {len cap:Nat} {W:World},ρ d=.slice ad len cap->((match ad with|some a=>storeCells a (news.take (min ys.length len*ti.size))|none=>pure ():Sem Unit)).run P w=.ok () W->(execOp ρ o).run P w=.ok (.value (.int .i64 (min ys.length len:Nat))) W:=by
   intro ad len cap W k1 k2;rw[er ho];have h2:=hf (min ys.length len) (aeF _ _)
   have e0:(Builtin.copy_ #[t,u] o.type #[ρ d,ρ s]).run P w=.ok (.int .i64 (min ys.length len:Nat)) W:=by
    rw[k1];have hm:Nat.min ys.length len=min ys.length len:=rfl;cases ad with
    | none =>
      simp only[Sem.run_pure,Result.ok.injEq,aes]at k2;subst k2;simp[Builtin.copy_,run_underlying ht,hlen,sizeOf,typeInfo,hti,hm,h2,goInt]
    | some ad =>
      simp only at k2;simp[Builtin.copy_,run_underlying ht,hlen,sizeOf,typeInfo,hti,hm,h2,k2,goInt]
   simp only[builtin,adF,acv,acX,Sem.run_bind];rw[e0];rfl
  have hnl:(news.take (min ys.length (0:Nat)*ti.size))=[]:=af1
  split at h
  ·rename_i e' id off len hv
   rw[hv]at hd';obtain⟨rfl,h⟩:=h;obtain⟨ad,cap,L,g1,g2,g3,g4,g5,g6⟩:=hd';split at h
   ·rename_i e2 xs hσ
    obtain⟨rfl,hle,h⟩:=h;by_cases hz:min ys.length len=0
    ·have e0:(news.take (min ys.length len*ti.size))=[]:=af3
     refine Snd.turned (σ':=σ.set id (.vec ti.size (xs.take off++ys.take (min ys.length len)++xs.drop (off+min ys.length len)))) ?_ af1 h (.inl (hexec g1 (W:=w) ?_)) rfl
     ·have e1:xs.take off++ys.take (min ys.length len)++xs.drop (off+min ys.length len)=xs:=by rw[hz];simp
      rw[e1]
      have e9:σ.set id (.vec ti.size xs)=σ:=by
       apply ac1
       intro j;by_cases hj:id=j
       ·subst hj;obtain⟨hlt,hget⟩:=afO.1 hσ;simp[hlt,hget]
       ·rw[aet hj]
      rw[e9];exact⟨hr,fun _ h=>h,Ev.refl _ _⟩
     ·rw[e0];cases ad<;>rfl
    ·rcases g6 with g6|⟨g6,rfl,g7⟩
     ·omega
     ·rcases hr.vec hσ g5 with⟨k0,_⟩|⟨_,cs,vs,ws,tt,k2,k3,k4,k5,k51⟩
      ·rw[g6]at k0;cases k0
      ·have hvl:=k5.length;have hnl:=hE.length;have k6:=(hE.take (min ys.length len));have k7:=((k5.take off).app k6).app (k5.drop (off+min ys.length len));have q1:(off+min ys.length len)*ti.size<=vs.length:=by rw[hvl];exact acr _ af0
       rw[acQ]at q1;have q2:min ys.length len*ti.size<=ys.length*ti.size:=acr _ (aeF _ _);have q3:(news.take (min ys.length len*ti.size)).length=min ys.length len*ti.size:=by simp;omega
       have e1:vs.drop ((off+min ys.length len)*ti.size)=vs.drop (off*ti.size+(news.take (min ys.length len*ti.size)).length):=by rw[q3,acQ]
       rw[e1]at k7;have k9:=hr.putVec hσ g5 g6 k2 k3 k4 k7 (by simp;omega) k51;rw[<-oq cs vs ws _ (off*ti.size) af0]at k9;refine Snd.turned k9 af1 h (.inl (hexec g1 ?_)) rfl;have hst:=run_storeCells_at (P:=P) L.blk (L.base+off*ti.size) tt (news.take (min ys.length len*ti.size)) 0 _ w k2 (by simp;omega) (fun u hu=>hsrc.one u (adL hu));simp only[acR]at hst;simpa[k3]using hst
   grind
  ·rename_i e' id off len hv
   rw[hv]at hd';obtain⟨rfl,h⟩:=h;obtain⟨ad,cap,L,g1,g2,g3,g4,g5,g6,g7⟩:=hd';split at h
   ·rename_i cs hσ
    obtain⟨hle,h⟩:=h;obtain⟨_,k1,vs,tt,k2,k3⟩:=hr.var hσ g5;have hvl:=k3.length;have hnl:=hE.length;have q2:min ys.length len*ti.size<=ys.length*ti.size:=acr _ (aeF _ _);have q4:min ys.length len*ti.size<=len*ti.size:=acr _ (Nat.min_le_right _ _);have q3:(news.take (min ys.length len*ti.size)).length=min ys.length len*ti.size:=by simp;omega
    have k6:=RlE.flat (hE.take (min ys.length len));have k7:=k3.spl k6 off;by_cases hz:min ys.length len=0
    ·have e0:(news.take (min ys.length len*ti.size))=[]:=by rw[hz];simp
     refine Snd.turned (σ':=σ.set id (.var (spl cs off (ys.take (min ys.length len)).flatten))) ?_ af1 h (.inl (hexec g1 (W:=w) ?_)) rfl
     ·have e1:spl cs off (ys.take (min ys.length len)).flatten=cs:=by rw[hz];simp[spl]
      rw[e1]
      have e2:σ.set id (.var cs)=σ:=by
       apply ac1
       intro j;by_cases hj:id=j
       ·subst hj;obtain⟨hlt,hget⟩:=afO.1 hσ;simp[hlt,hget]
       ·rw[aet hj]
      rw[e2];exact⟨hr,fun _ h=>h,Ev.refl _ _⟩
     ·rw[e0];cases ad<;>rfl
    ·rcases g7 with g7|rfl
     ·omega
     ·refine Snd.turned (hr.putVar hσ g5 _ k7) af1 h (.inl (hexec g1 ?_)) rfl;have hst:=run_storeCells_at (P:=P) L.blk (L.base+off) tt (news.take (min ys.length len*ti.size)) 0 _ w k2 (by simp;omega) (fun u hu=>hsrc.one u (adL hu));simp only[acR,k1,acC]at hst;simpa[k1]using hst
   ·exact h.elim
  grind
theorem X8 {o : Oper} {s d e : TypeId} {x : Operand} {a : Opd} (ho : o.op = .convert s d x) (hs : P.underlying s = some (.slice e)) (he : P.underlying e = some (.int .u8)) (hd : P.underlying d = some .string) (hx : az x = some a)
 (h:opF n σ ρ' K (.b2s a)):Snd X loc σ w n ((execOp ρ o).run P w) K:=by
 simp only[opF]at h;split at h
 ·rename_i xs hxs0
  obtain⟨hb,h⟩:=h;have hx':=hρ x a hx;have hns:∀q,ρ' a≠.str q:=by rintro q hq;rw[hq]at hxs0;simp[rdB]at hxs0
  have hxs:rdS σ 1 (ρ' a)=some xs:=by
   rw[<-hxs0];cases hq:ρ' a<;>first|rfl|grind
  obtain⟨news,hsrc,hE,hf⟩:=vl (P:=P) hr (tx:=s) (.inl ⟨e,hs⟩) (Nat.one_pos) hxs hx'
  have hcells:news=(xs.map fun c=>Value.int .u8 ((match c with| [.int .u8 m]=>m|_=>0:Int))):=by
   clear hsrc hf hxs hxs0 h;induction xs generalizing news with
   |nil=>simpa[RlE]using hE
   | cons c cs ih =>
     obtain⟨us,ws,rfl,h2,h3,h4⟩:=hE;simp only[ad6,afL]at hb;rw[ih hb.2 _ h4];unfold mL at hb;split at hb
     ·obtain⟨u,us',rfl,_,hu,hus⟩:=h3;simp only[Rl]at hu;grind
     grind
  have hfull:=hf xs.length (afE _);have hnl:=hE.length;rw[acO]at hfull hnl;rw[afD af0]at hfull
  have hfold:∀ (ns:List Int) (acc:ByteArray),(ns.foldl (fun r n=>r.push (UInt8.ofNat n.toNat)) acc)=⟨(acc.data.toList++ns.map fun n=>UInt8.ofNat n.toNat).toArray⟩:=by
   intro ns;induction ns with
   |nil=>simp
   | cons n ns ih =>
     simp_all
  have hval:(xs.map tI)=(xs.map fun c=>(match c with| [.int .u8 m]=>m|_=>0:Int)).map fun n=>UInt8.ofNat n.toNat:=by
   rw[afi];apply acN
   intro c hc;have:=aew.1 hb c hc;unfold mL at this;split at this
   ·rfl
   grind
  refine Snd.of hr h (v:=.string ⟨(xs.map tI).toArray⟩) ?_ rfl
  have hsl:(∃ad cap,ρ x=.slice ad xs.length cap/\(ad=none->cap=0)/\xs.length<=cap):=by
   clear hsrc hf h hE hnl hfull hcells;generalize ρ' a=A at *;cases A<;>simp only[rdS,reduceCtorEq]at hxs
   case str q=>grind
   case sl e' cl ys=>
    split at hxs
    ·simp only[afC]at hxs;subst hxs;obtain⟨ad,m,cap,g1,g2,g3,g4,g5,g6,_⟩:=hx';grind
    grind
   case hs e' id off len =>
    split at hxs
    ·split at hxs
     ·split at hxs
      ·rename_i hle;simp only[afC]at hxs;obtain⟨ad,cap,L,g1,g2,g3,g4,_⟩:=hx';have hl:xs.length=len:=by rw[<-hxs];simp;omega
       exact⟨ad,cap,by rw[hl];exact g1,g4,af0⟩
      ·cases hxs
     ·cases hxs
    ·cases hxs
   case va e' id off len =>
    split at hxs
    ·split at hxs
     ·split at hxs
      ·rename_i hle;simp only[afC]at hxs;obtain⟨ad,cap,L,g1,g2,g3,g4,_⟩:=hx';have hl:xs.length=len:=by rw[<-hxs,kW]
       exact⟨ad,cap,by rw[hl];exact g1,g4,af0⟩
      ·cases hxs
     ·cases hxs
    ·cases hxs
  obtain⟨ad,cap,g1,g2,g3⟩:=hsl
  have hrun:(Conv.bytesToString (ρ x)).run P w=.ok (.string ⟨(xs.map tI).toArray⟩) w:=by
   cases ad with
   | none =>
     have h0:xs=[]:=afV (by have:=g2 rfl;omega);subst h0;rw[g1];simp[Conv.bytesToString];rfl
   | some ad =>
     rw[g1]at hfull ⊢
     have hl:(loadCells ad xs.length).run P w=.ok ((xs.map fun c=>(match c with| [.int .u8 m]=>m|_=>0:Int)).map (Value.int .u8)).toArray w:=by
      simp only[Builtin.firstCells,acO]at hfull;rw[hfull,hcells];simp[afi,Function.comp_def]
     rw[run_bytesToString w ad xs.length cap _ hl,hfold,hval];rfl
  rw[g1]at hrun
  have hcv:(convert s d (ρ x)).run P w=.ok (.string ⟨(xs.map tI).toArray⟩) w:=by
   rw[g1];simp only[convert,Sem.run_bind,run_underlying hs,run_underlying hd,run_underlying he,Result.andThen_ok,hrun]
  simp only[execOp,ho,Sem.run_bind];simp_all
 grind
variable(hn:n<σ.length)(hg:loc n=none)
include hn hg
theorem Z0{o:Oper}{t e:TypeId}{l c:Operand}{a b:Opd}{z:List AV}{ti:TypeInfo}(ho:o.op=.makeSlice t l c)(ht:P.underlying t=some (.slice e))(hz:jJ P e=some z)(hti:P.info? e=some ti)(hpos:0<ti.size)
 (hl:az l=some a) (hc:az c=some b) (h:opF n σ ρ' K (.mk ti.size ti.bytes z a b)):Snd X loc σ w n ((execOp ρ o).run P w) K:=by
 simp only[opF]at h;split at h
 ·rename_i k1 x k2 y hx hy
  obtain⟨h0,h1,h2,h3,h⟩:=h;have hx':=hρ l a hl;have hy':=hρ c b hc;rw[hx]at hx';rw[hy]at hy';simp only[Rl]at hx' hy';obtain⟨i,zv,hi,hzv,hzs,hzc⟩:=ig hz;rw[hti]at hi;cases hi;have hrun:=run_make (P:=P) w t e ti zv ht hti hzv k1 k2 x y h0 h1 h2 h3;have hzl:zv.cells.toList.length=ti.size:=af0
  have hcells:(madeCells zv.cells (y.toNat*ti.size)).toList=(List.replicate y.toNat zv.cells.toList).flatten:=by
   have:=my zv.cells.toList af0 y.toNat
   simp_all
  have hsplit:(List.replicate y.toNat zv.cells.toList).flatten=(List.replicate x.toNat zv.cells.toList).flatten++(List.replicate (y.toNat-x.toNat) zv.cells.toList).flatten:=by
   rw[<-List.flatten_append,List.replicate_append_replicate];congr 2;omega
  refine Snd.alloc hr hn hg (.vec ti.size (List.replicate x.toNat z)) ⟨true,w.heap.size,0,y.toNat*ti.size⟩ rfl rfl (.cells (madeCells zv.cells (y.toNat*ti.size)) e (0,0)) (v:=.slice (some ⟨w.heap.size,0,none⟩) x.toNat y.toNat) h (fun E hE hw=>?_) ?_ (fun E hE=>?_)
  ·refine .inr ⟨rfl,[],(List.replicate x.toNat zv.cells.toList).flatten,(List.replicate (y.toNat-x.toNat) zv.cells.toList).flatten,e,?_,rfl,?_,RlE.rep (RlC.ofCells E hzc) hzl _,fun u hu=>by obtain⟨l,hl,hu⟩:=List.mem_flatten.1 hu;rw[aeD hl]at hu;exact j9 hzc u hu⟩
   ·rw[hw,_root_.Go.heap_alloc_new];congr 2;grind
   ·have:=acM List.length hcells;rw[hsplit]at this;simp only[ae0,size_madeCells]at this;grind
  ·simp only[execOp,ho,hx',hy',Sem.run_bind];rw[hrun];rfl
  ·refine⟨_,_,_,rfl,af0,by simp only[maxLen];omega,af1,hE,.inr ⟨rfl,af1,af1⟩⟩
 grind
end
end Go.FH
