/-
 The abstract walk, part 43: the program's structures as arguments. Printed by a program of mine (structs.py).
-/
import Derived.Test.YtkgimpdgncakjaaW3
namespace Go.FH
set_option linter.unusedVariables false
set_option linter.unusedSimpArgs false
open Go Go.RowKit
structure Lim.Ok(x:Lim):Prop where
 node:(Lit.int .i64 x.node).wf=true
 orph:(Lit.int .i64 x.orph).wf=true
 early:(Lit.int .i64 x.early).wf=true
 table:(Lit.int .i64 x.table).wf=true
 retry:(Lit.int .i64 x.retry).wf=true
 backoff:(Lit.int .u64 x.backoff).wf=true
abbrev Fj_:Sh:=.st [.int .i64,.int .i64,.int .i64,.int .i64,.int .i64,.int .u64]
theorem Opn.lim{cs:List AV}(h:Opn Fj_ cs):∃x:Lim,cs=br_ x∧x.Ok:=by
 have h:=h.inv_st;obtain⟨a0,b0,rfl,h0,h⟩:=h.inv_cons;obtain⟨a1,b1,rfl,h1,h⟩:=h.inv_cons;obtain⟨a2,b2,rfl,h2,h⟩:=h.inv_cons;obtain⟨a3,b3,rfl,h3,h⟩:=h.inv_cons;obtain⟨a4,b4,rfl,h4,h⟩:=h.inv_cons;obtain⟨a5,b5,rfl,h5,h⟩:=h.inv_cons;have h:=h.inv_nil;subst h;obtain⟨n0,w0,rfl⟩:=h0.inv_int;obtain⟨n1,w1,rfl⟩:=h1.inv_int;obtain⟨n2,w2,rfl⟩:=h2.inv_int;obtain⟨n3,w3,rfl⟩:=h3.inv_int;obtain⟨n4,w4,rfl⟩:=h4.inv_int;obtain⟨n5,w5,rfl⟩:=h5.inv_int;exact⟨⟨n0,n1,n2,n3,n4,n5⟩,by simp only[br_,List.cons_append,List.nil_append,List.append_nil,List.append_assoc],⟨w0,w1,w2,w3,w4,w5⟩⟩
structure Cfg.Ok(x:Cfg):Prop where
 lim:x.lim.Ok
 spe:(Lit.int .u64 x.spe).wf=true
 boost:(Lit.int .u64 x.boost).wf=true
 ttd:∀n∈x.ttd.1,0≤n∧n<18446744073709551616
 bals:∃ns:List Int,x.bals=.sl 1 false (au_ .u64 ns)∧ns.length≤maxLen∧∀n∈ns,(Lit.int .u64 n).wf=true
abbrev ES_:Sh:=.st [Fj_,.int .u64,.int .u64,.arr 4 (.int .u64),.arr 32 (.int .u8),.sl (.int .u64)]
theorem Opn.cfg{cs:List AV}(h:Opn ES_ cs):∃x:Cfg,cs=aU_ x∧x.Ok:=by
 have h:=h.inv_st;obtain⟨a0,b0,rfl,h0,h⟩:=h.inv_cons;obtain⟨a1,b1,rfl,h1,h⟩:=h.inv_cons;obtain⟨a2,b2,rfl,h2,h⟩:=h.inv_cons;obtain⟨a3,b3,rfl,h3,h⟩:=h.inv_cons;obtain⟨a4,b4,rfl,h4,h⟩:=h.inv_cons;obtain⟨a5,b5,rfl,h5,h⟩:=h.inv_cons;have h:=h.inv_nil;subst h;obtain⟨n0,rfl,w0⟩:=h0.lim;obtain⟨n1,w1,rfl⟩:=h1.inv_int;obtain⟨n2,w2,rfl⟩:=h2.inv_int;obtain⟨n3,rfl,w3⟩:=h3.wd;obtain⟨n4,rfl⟩:=h4.rt;obtain⟨n5,l5,w5,rfl⟩:=h5.inv_nums;exact⟨⟨n0,n1,n2,n3,n4,_⟩,by simp only[aU_,List.cons_append,List.nil_append,List.append_nil,List.append_assoc],⟨w0,w1,w2,w3,⟨n5,rfl,l5,w5⟩⟩⟩
end Go.FH
