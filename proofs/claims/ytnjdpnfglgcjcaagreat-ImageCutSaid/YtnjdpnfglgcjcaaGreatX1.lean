/- Joined. -/
import Derived.Test.YtnjdpnfglgcjcaaGreatO8
set_option linter.unusedVariables false
set_option linter.unusedSimpArgs false
set_option maxRecDepth 8000
set_option maxHeartbeats 4000000
namespace Go.Proofs.YtnjdpnfglgcjcaaGreat
open Go Go.FH Go.RowKit
theorem aac{b:List UInt8}(c:b.length<=2097152)(h:∀s,afO s->ej s≠b):FJ dP b=(Fx,25):=by
 unfold FJ;rw[al5 fun q=>h _ (ae8 (((WK Hk).p b c q.1).2) q.2.2.1) q.2.2.2]
theorem aiC{s:aI}(h:afO s){q:Nat}(l:q<(ej s).length):FJ dP ((ej s).take q)=(Fx,25):=by
 have j:=h.len;refine aac (by grind) fun t i e=>?_
 have k:=(Y8 ag3 h).f [];have g:=(Y8 ag3 i).f ((ej s).drop q);rw[e,amF]at g;grind
theorem aiB{s:aI}(h:afO s){t:List UInt8}(g:0<t.length)(d:t.length<=100):FJ dP (ej s++t)=(Fx,25):=by
 have e:=h.len;refine aac (by grind) fun u b i=>?_
 have j:=(Y8 ag3 h).f t;have c:=(Y8 ag3 b).f [];grind
theorem pc_ImageCut(l:List Int)(hl:l.length<=maxLen)(hwl:∀z∈l,(Lit.int .i64 z).wf=true)(at_:Int)(hat:(Lit.int .i64 at_).wf=true)(t:List UInt8)(ht:t.length<=maxLen):PC Tryz.prog 7 [.sl 1 false (aH .i64 l),.int .i64 at_,.sl 1 false (bts t)] (.bool true):=by
 refine PC.fact 13 Pt (by simp) puA puA ?_;unfold Hf;refine bd ?_;by_cases q0:t.length=0
 ·have e0:((t.length:Int)==0)=true:=by grind
  repeat(first|refine bY ?_|simp_all)
  refine agF ?_;refine ahG N2 ?_;exact ai
 have e0:((t.length:Int)==0)=false:=by rw[ajL];omega
 by_cases q1:100<t.length
 ·have e1:decide ((100:Int)<(t.length:Int))=true:=au (by omega);refine cH e0 e1 ?_;refine ahG N2 ?_;exact ai
 have e1:decide ((100:Int)<(t.length:Int))=false:=aA (by omega);obtain⟨s,hg,cs⟩:=E3 l;obtain⟨w3,hw3,_⟩:=Ci at_ 16777215 (by decide) (by decide);have c2:=D7 s hg.ty.enc;rw[hg.enc.1,hg.enc.2]at c2;have hln:=hg.len;have hp:=acV s;obtain⟨q,hq,hq'⟩:=dF (k:=(w3:Int)) (n:=(ej s).length) (by omega) (by omega);have c3:=D6 ((ej s).take q) (by rw[amA];omega);rw[aiC hg.e hq']at c3;have c4:=D6 (ej s++t) (by rw[akC];omega);rw[aiB hg.e (by omega) (by omega)]at c4;have e2:(((ej s).length:Int)==0)=false:=by rw[ajL];omega
 generalize ej s=B at *;refine fU e0 e1 ?_;refine ahG cs ?_;refine am c2 ?_;refine bJ e2 ?_;refine aZ hw3 hq ?_;refine ahG c3 ?_
 have cD:=ay.give (σ:=[.vec 1 (bts (B++t))]) (args:=[.hs 1 0 0 (B++t).length]) (r:=_) (by
  have ht2:List.take (B++t).length (bts (B++t))=bts (B++t):=amf (by simp);(try simp only[go_sem,ht2,al8,ama,ake,ako])
  exact c4)
 rw[akC]at cD;refine gon ?_;refine aG [2] (cD) evd (aq.mk' (by simp) evd) ?_;refine evg ?_;refine gon ?_;refine ahG N2 ?_;exact ai
end Go.Proofs.YtnjdpnfglgcjcaaGreat
