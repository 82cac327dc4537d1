/-
  The abstract walk, part 30: the program's structures as arguments. Printed by a program of mine (structs.py).
-/
import Derived.Test.YtachiahepppajaaBt
namespace Go.FH
set_option linter.unusedVariables false
set_option linter.unusedSimpArgs false
open Go Go.RowKit

structure Cp.Ok (x : Cp) : Prop where
  ep : (Lit.int .u64 x.ep).wf = true
abbrev cpS : Sh := .st [.int .u64, .arr 32 (.int .u8)]
theorem Opn.cp {cs : List AV} (h : Opn cpS cs) : ∃ x : Cp, cs = cpC x ∧ x.Ok := by
  have h := h.inv_st
  obtain ⟨a0, b0, rfl, h0, h⟩ := h.inv_cons
  obtain ⟨a1, b1, rfl, h1, h⟩ := h.inv_cons
  have h := h.inv_nil; subst h
  obtain ⟨n0, w0, rfl⟩ := h0.inv_int
  obtain ⟨n1, rfl⟩ := h1.rt
  exact ⟨⟨n0, n1⟩, by simp only [cpC, List.cons_append, List.nil_append, List.append_nil, List.append_assoc], ⟨w0⟩⟩
structure Pul.Ok (x : Pul) : Prop where
  j : x.j.Ok
  f : x.f.Ok
abbrev pulS : Sh := .st [cpS, cpS]
theorem Opn.pul {cs : List AV} (h : Opn pulS cs) : ∃ x : Pul, cs = pulC x ∧ x.Ok := by
  have h := h.inv_st
  obtain ⟨a0, b0, rfl, h0, h⟩ := h.inv_cons
  obtain ⟨a1, b1, rfl, h1, h⟩ := h.inv_cons
  have h := h.inv_nil; subst h
  obtain ⟨n0, rfl, w0⟩ := h0.cp
  obtain ⟨n1, rfl, w1⟩ := h1.cp
  exact ⟨⟨n0, n1⟩, by simp only [pulC, List.cons_append, List.nil_append, List.append_nil, List.append_assoc], ⟨w0, w1⟩⟩
structure Blk.Ok (x : Blk) : Prop where
  pul : x.pul.Ok
  slot : (Lit.int .u64 x.slot).wf = true
  diff : ∀ n ∈ x.diff.1, 0 ≤ n ∧ n < 18446744073709551616
  pdiff : ∀ n ∈ x.pdiff.1, 0 ≤ n ∧ n < 18446744073709551616
  just : x.just.Ok
  fin : x.fin.Ok
abbrev blkS : Sh := .st [pulS, .int .u64, .arr 32 (.int .u8), .arr 32 (.int .u8), .arr 32 (.int .u8), .arr 4 (.int .u64), .arr 4 (.int .u64), cpS, cpS, .bool]
theorem Opn.blk {cs : List AV} (h : Opn blkS cs) : ∃ x : Blk, cs = blkC x ∧ x.Ok := by
  have h := h.inv_st
  obtain ⟨a0, b0, rfl, h0, h⟩ := h.inv_cons
  obtain ⟨a1, b1, rfl, h1, h⟩ := h.inv_cons
  obtain ⟨a2, b2, rfl, h2, h⟩ := h.inv_cons
  obtain ⟨a3, b3, rfl, h3, h⟩ := h.inv_cons
  obtain ⟨a4, b4, rfl, h4, h⟩ := h.inv_cons
  obtain ⟨a5, b5, rfl, h5, h⟩ := h.inv_cons
  obtain ⟨a6, b6, rfl, h6, h⟩ := h.inv_cons
  obtain ⟨a7, b7, rfl, h7, h⟩ := h.inv_cons
  obtain ⟨a8, b8, rfl, h8, h⟩ := h.inv_cons
  obtain ⟨a9, b9, rfl, h9, h⟩ := h.inv_cons
  have h := h.inv_nil; subst h
  obtain ⟨n0, rfl, w0⟩ := h0.pul
  obtain ⟨n1, w1, rfl⟩ := h1.inv_int
  obtain ⟨n2, rfl⟩ := h2.rt
  obtain ⟨n3, rfl⟩ := h3.rt
  obtain ⟨n4, rfl⟩ := h4.rt
  obtain ⟨n5, rfl, w5⟩ := h5.wd
  obtain ⟨n6, rfl, w6⟩ := h6.wd
  obtain ⟨n7, rfl, w7⟩ := h7.cp
  obtain ⟨n8, rfl, w8⟩ := h8.cp
  obtain ⟨n9, rfl⟩ := h9.inv_bool
  exact ⟨⟨n0, n1, n2, n3, n4, n5, n6, n7, n8, n9⟩, by simp only [blkC, List.cons_append, List.nil_append, List.append_nil, List.append_assoc], ⟨w0, w1, w5, w6, w7, w8⟩⟩
structure Att.Ok (x : Att) : Prop where
  slot : (Lit.int .u64 x.slot).wf = true
  target : x.target.Ok
  vals : ∃ ns : List Int, x.vals = .sl 1 false (nums .i64 ns) ∧ ns.length ≤ maxLen ∧ ∀ n ∈ ns, (Lit.int .i64 n).wf = true
abbrev attS : Sh := .st [.int .u64, .arr 32 (.int .u8), cpS, .sl (.int .i64)]
theorem Opn.att {cs : List AV} (h : Opn attS cs) : ∃ x : Att, cs = attC x ∧ x.Ok := by
  have h := h.inv_st
  obtain ⟨a0, b0, rfl, h0, h⟩ := h.inv_cons
  obtain ⟨a1, b1, rfl, h1, h⟩ := h.inv_cons
  obtain ⟨a2, b2, rfl, h2, h⟩ := h.inv_cons
  obtain ⟨a3, b3, rfl, h3, h⟩ := h.inv_cons
  have h := h.inv_nil; subst h
  obtain ⟨n0, w0, rfl⟩ := h0.inv_int
  obtain ⟨n1, rfl⟩ := h1.rt
  obtain ⟨n2, rfl, w2⟩ := h2.cp
  obtain ⟨n3, l3, w3, rfl⟩ := h3.inv_nums
  exact ⟨⟨n0, n1, n2, _⟩, by simp only [attC, List.cons_append, List.nil_append, List.append_nil, List.append_assoc], ⟨w0, w2, ⟨n3, rfl, l3, w3⟩⟩⟩
structure Clm.Ok (x : Clm) : Prop where
  src : (Lit.int .u64 x.src).wf = true
  tgt : (Lit.int .u64 x.tgt).wf = true
  vals : ∃ ns : List Int, x.vals = .sl 1 false (nums .i64 ns) ∧ ns.length ≤ maxLen ∧ ∀ n ∈ ns, (Lit.int .i64 n).wf = true
abbrev clmS : Sh := .st [.int .u64, .int .u64, .arr 32 (.int .u8), .sl (.int .i64)]
theorem Opn.clm {cs : List AV} (h : Opn clmS cs) : ∃ x : Clm, cs = clmC x ∧ x.Ok := by
  have h := h.inv_st
  obtain ⟨a0, b0, rfl, h0, h⟩ := h.inv_cons
  obtain ⟨a1, b1, rfl, h1, h⟩ := h.inv_cons
  obtain ⟨a2, b2, rfl, h2, h⟩ := h.inv_cons
  obtain ⟨a3, b3, rfl, h3, h⟩ := h.inv_cons
  have h := h.inv_nil; subst h
  obtain ⟨n0, w0, rfl⟩ := h0.inv_int
  obtain ⟨n1, w1, rfl⟩ := h1.inv_int
  obtain ⟨n2, rfl⟩ := h2.rt
  obtain ⟨n3, l3, w3, rfl⟩ := h3.inv_nums
  exact ⟨⟨n0, n1, n2, _⟩, by simp only [clmC, List.cons_append, List.nil_append, List.append_nil, List.append_assoc], ⟨w0, w1, ⟨n3, rfl, l3, w3⟩⟩⟩
structure Slg.Ok (x : Slg) : Prop where
  fst : x.fst.Ok
  snd : x.snd.Ok
abbrev slgS : Sh := .st [clmS, clmS]
theorem Opn.slg {cs : List AV} (h : Opn slgS cs) : ∃ x : Slg, cs = slgC x ∧ x.Ok := by
  have h := h.inv_st
  obtain ⟨a0, b0, rfl, h0, h⟩ := h.inv_cons
  obtain ⟨a1, b1, rfl, h1, h⟩ := h.inv_cons
  have h := h.inv_nil; subst h
  obtain ⟨n0, rfl, w0⟩ := h0.clm
  obtain ⟨n1, rfl, w1⟩ := h1.clm
  exact ⟨⟨n0, n1⟩, by simp only [slgC, List.cons_append, List.nil_append, List.append_nil, List.append_assoc], ⟨w0, w1⟩⟩
structure Tab.Ok (x : Tab) : Prop where
  cp : x.cp.Ok
  bals : ∃ ns : List Int, x.bals = .sl 1 false (nums .u64 ns) ∧ ns.length ≤ maxLen ∧ ∀ n ∈ ns, (Lit.int .u64 n).wf = true
abbrev tabS : Sh := .st [cpS, .sl (.int .u64)]
theorem Opn.tab {cs : List AV} (h : Opn tabS cs) : ∃ x : Tab, cs = tabC x ∧ x.Ok := by
  have h := h.inv_st
  obtain ⟨a0, b0, rfl, h0, h⟩ := h.inv_cons
  obtain ⟨a1, b1, rfl, h1, h⟩ := h.inv_cons
  have h := h.inv_nil; subst h
  obtain ⟨n0, rfl, w0⟩ := h0.cp
  obtain ⟨n1, l1, w1, rfl⟩ := h1.inv_nums
  exact ⟨⟨n0, _⟩, by simp only [tabC, List.cons_append, List.nil_append, List.append_nil, List.append_assoc], ⟨w0, ⟨n1, rfl, l1, w1⟩⟩⟩
structure Vdt.Ok (x : Vdt) : Prop where
  tag : (Lit.int .u64 x.tag).wf = true
  kind : (Lit.int .i64 x.kind).wf = true
abbrev vdtS : Sh := .st [.st [.int .u64], .int .i64, .arr 32 (.int .u8)]
theorem Opn.vdt {cs : List AV} (h : Opn vdtS cs) : ∃ x : Vdt, cs = vdtC x ∧ x.Ok := by
  have h := h.inv_st
  obtain ⟨a0, b0, rfl, h0, h⟩ := h.inv_cons
  obtain ⟨a1, b1, rfl, h1, h⟩ := h.inv_cons
  obtain ⟨a2, b2, rfl, h2, h⟩ := h.inv_cons
  have h := h.inv_nil; subst h
  obtain ⟨y0, z0, rfl, g0, q0⟩ := h0.inv_st.inv_cons
  have q0 := q0.inv_nil; subst q0
  obtain ⟨n0, w0, rfl⟩ := g0.inv_int
  obtain ⟨n1, w1, rfl⟩ := h1.inv_int
  obtain ⟨n2, rfl⟩ := h2.rt
  exact ⟨⟨n0, n1, n2⟩, by simp only [vdtC, List.cons_append, List.nil_append, List.append_nil, List.append_assoc], ⟨w0, w1⟩⟩
structure SOp.Ok (x : SOp) : Prop where
  kind : (Lit.int .i64 x.kind).wf = true
  blk : x.blk.Ok
  att : x.att.Ok
  slg : x.slg.Ok
  tab : x.tab.Ok
  vdt : x.vdt.Ok
  write : (Lit.int .i64 x.write).wf = true
  keep : (Lit.int .i64 x.keep).wf = true
abbrev sOpS : Sh := .st [.int .i64, blkS, attS, slgS, tabS, vdtS, .int .i64, .int .i64]
theorem Opn.sOp {cs : List AV} (h : Opn sOpS cs) : ∃ x : SOp, cs = sOpC x ∧ x.Ok := by
  have h := h.inv_st
  obtain ⟨a0, b0, rfl, h0, h⟩ := h.inv_cons
  obtain ⟨a1, b1, rfl, h1, h⟩ := h.inv_cons
  obtain ⟨a2, b2, rfl, h2, h⟩ := h.inv_cons
  obtain ⟨a3, b3, rfl, h3, h⟩ := h.inv_cons
  obtain ⟨a4, b4, rfl, h4, h⟩ := h.inv_cons
  obtain ⟨a5, b5, rfl, h5, h⟩ := h.inv_cons
  obtain ⟨a6, b6, rfl, h6, h⟩ := h.inv_cons
  obtain ⟨a7, b7, rfl, h7, h⟩ := h.inv_cons
  have h := h.inv_nil; subst h
  obtain ⟨n0, w0, rfl⟩ := h0.inv_int
  obtain ⟨n1, rfl, w1⟩ := h1.blk
  obtain ⟨n2, rfl, w2⟩ := h2.att
  obtain ⟨n3, rfl, w3⟩ := h3.slg
  obtain ⟨n4, rfl, w4⟩ := h4.tab
  obtain ⟨n5, rfl, w5⟩ := h5.vdt
  obtain ⟨n6, w6, rfl⟩ := h6.inv_int
  obtain ⟨n7, w7, rfl⟩ := h7.inv_int
  exact ⟨⟨n0, n1, n2, n3, n4, n5, n6, n7⟩, by simp only [sOpC, List.cons_append, List.nil_append, List.append_nil, List.append_assoc], ⟨w0, w1, w2, w3, w4, w5, w6, w7⟩⟩
end Go.FH
