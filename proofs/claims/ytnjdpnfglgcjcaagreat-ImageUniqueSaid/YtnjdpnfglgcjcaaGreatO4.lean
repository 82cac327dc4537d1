/- Joined. -/
import Derived.Test.YtnjdpnfglgcjcaaGreatO3
import Derived.Test.YtnjdpnfglgcjcaaGreatU4
set_option linter.unusedVariables false
set_option linter.unusedSimpArgs false
set_option maxRecDepth 8000
set_option maxHeartbeats 4000000
namespace Go.Proofs.YtnjdpnfglgcjcaaGreat
open Go Go.FH Go.RowKit
variable{P:Program}{nt k:Nat}{fr:Fr}{σ:St}
theorem Z3{x z:ab}{Q0 Q:Ex->Fr->St->Prop}{nv:Nat}{vs:List AV}{ts:List (Nat×AV)}(us:List (Nat×AV))(S:St)(h:Tri P nt k x (fun e fr' σ'=>e=.normal/\GC k fr' σ' ⟨nv,jc us vs,[]⟩ S) ⟨nv,vs,ts⟩ σ)
 (hz:Tri P nt k z Q0 ⟨nv,jc us vs,[]⟩ S):Tri P nt k x (gf (Tri P nt k z Q0) Q) ⟨nv,vs,ts⟩ σ:=Cf h z _ _ hz
theorem Pa{α:Type}{one:RR α}:∀ (n:Nat) (acc:List α) (b:List UInt8) (e:Int),(rLp one n acc b e).1.length<=acc.length+n
 |0,acc,b,e=>amb _
 | n + 1, acc, b, e => by
   show (if e≠0 then (acc,b,e)else rLp one n (acc++[(one b e).1]) (one b e).2.1 (one b e).2.2).1.length<=_
   split
   ·exact ajI _ _
   ·have:=Pa (one:=one) n (acc++[(one b e).1]) (one b e).2.1 (one b e).2.2;simp only[akC,ajr]at this;omega
theorem WQ:dN Gg:=dN.rb xL fun v=>by
 cases v
 ·exact dN.rt1 _
 ·exact dN.rb IF fun _=>dN.rb eY fun _=>dN.rt1 _
theorem o8(m:Int):dN (fun bs e=>gv bs e m):=fun bs e=>by
 have:=se bs e bU;dsimp only;unfold gv;(repeat' split)<;>first|exact amP _|exact(alK _ _).trans this
theorem UZ(bs:List UInt8)(e m:Int):(gv bs e m).1.length<=bs.length:=by
 have:=cV bs e bU;unfold gv;(repeat' split)<;>first|exact amc _|(dsimp only;rw[amA];omega)
theorem O8:dN zW:=(show dN (rb (fun bs e=>aR bs e bU) fun s=>rb pp fun r=>rb pp fun p=>rb pp fun y=>rb gE fun d=>rb gE fun g=>rb rCp fun j=>rb rCp fun f=>rb rCp fun u=>rb rCp fun v=>rb fE fun t=>rt1 (⟨⟨u,v⟩,s,r,p,y,d,g,j,f,t⟩:Blk))from
 IF.rb fun _=>dN.rb eY fun _=>dN.rb eY fun _=>dN.rb eY fun _=>dN.rb sf fun _=>dN.rb sf fun _=>dN.rb xN fun _=>dN.rb xN fun _=>dN.rb xN fun _=>dN.rb xN fun _=>dN.rb xL fun _=>dN.rt1 _)
theorem Pe:dN mV:=(show dN (rb (fun bs e=>aR bs e bU) fun s=>rb pp fun r=>rb (fun bs e=>aR bs e 1024) fun n=>rb (f9 n.toNat []) fun l=>rt1 ((⟨s,r⟩:Cp),l))from
 IF.rb fun _=>dN.rb eY fun _=>dN.rb (IH 1024) fun _=>dN.rb (fun b e=>Er _ _ b e) fun _=>dN.rt1 _)
theorem dw{α β:Type}{r:RR α}{f:α->RR β}{b b':List UInt8}{e e':Int}{v:α}(h:r b e=(v,b',e')):rb r f b e=f v b' e':=by
 unfold rb;rw[h]
end Go.Proofs.YtnjdpnfglgcjcaaGreat
