/- Joined. -/
import Derived.Test.YtblipkgpoaonaaaGreatO7
set_option linter.unusedVariables false
set_option linter.unusedSimpArgs false
set_option maxRecDepth 8000
set_option maxHeartbeats 4000000
namespace Go.Proofs.YtblipkgpoaonaaaGreat
open Go Go.FH Go.RowKit
theorem MH(a b:Int):∃u:UInt8,Yz .u8 a b=(u.toNat:Int):=⟨_,vQ _⟩
theorem K2(C:List UInt8)(c:C.length<=2097152):Tri Tryz.prog 87 0 (cm.tl 6) (PQ [.tmp 8] (.bool true)) ⟨61,[.dead,.dead,.dead,.dead,.dead,.dead,.dead,.dead,.bool false,.dead,.dead,.dead,.sl 1 false (bts C),.dead,.dead,.dead,.dead,.dead,.dead,.dead,.dead,.dead,.dead,.dead,.dead,.dead,.dead,.dead,.dead,.dead,.dead,.dead,.dead,.dead,.dead,.dead,.dead,.dead,.dead,.dead,.dead,.dead,.dead,.dead,.dead,.dead,.dead,.dead,.dead,.dead,.dead,.dead,.dead,.dead,.dead,.dead,.dead,.dead,.dead,.dead,.dead],[]⟩ []:=by
 unfold cm;refine bd ?_;simp only[ab.tl];have e:=D6 C c;have g:=Ja C c;have h:=Jn KV c;rw[Js c]at e;refine gon ?_;refine ahG e ?_;refine am g ?_;repeat(first|refine bY ?_|omega)
 refine ahG h ?_;refine ahG zF ?_;exact ai
theorem pc_ImageChanged(l:List Int)(hl:l.length<=maxLen)(hwl:∀z∈l,(Lit.int .i64 z).wf=true)(how:Int)(hwh:(Lit.int .i64 how).wf=true)(at_:Int)(hat:(Lit.int .i64 at_).wf=true)(by_:Int)(hby:(Lit.int .u8 by_).wf=true):PC Tryz.prog 3 [.sl 1 false (aH .i64 l),.int .i64 how,.int .i64 at_,.int .u8 by_] (.bool true):=by
 have tl:=K2;obtain⟨s,hg,cs⟩:=EW l;obtain⟨w3,hw3,_⟩:=Ci at_ 16777215 NC NC;have c2:=Zp s hg.ty.enc;rw[hg.enc.1,hg.enc.2]at c2;have hln:=hg.len;have hp:=acV s;obtain⟨q,hq,hq'⟩:=dF (k:=(w3:Int)) (n:=(ej s).length) NB NB;have e2:(((ej s).length:Int)==0)=false:=NF
 generalize ej s=B at *;generalize hW:lI .i64 how 3=W;refine pfn 61 pq ?_;have hc:cm=.seq cm.hd (.seq (cm.tl 1).hd (.seq (cm.tl 2).hd (.seq (cm.tl 3).hd (.seq (cm.tl 4).hd (.seq (cm.tl 5).hd (cm.tl 6)))))):=rfl;rw[hc];clear hc;generalize cm.tl 6=cT at *;unfold cm;refine bd ?_;simp only[ab.tl,ab.hd];refine gon ?_;refine ahG cs ?_;refine am c2 ?_;refine bJ e2 ?_;repeat(first|refine bY ?_|simp_all)
 by_cases q0:W=0
 ·have e:(W==0)=true:=by simp[q0]
  have hqi:IntKind.i64.wrap ((q:Int)+1)=((q+1:Nat):Int):=af hq' NB;have h1:q<=B.length:=NB
  have h2:q+1<=B.length:=NB
  refine bw e ?_;have h3:q+1+(B.length-(q+1))<=B.length:=NB
  have h4:(List.take (B.length-(q+1)) (List.drop (q+1) B)).length=B.length-(q+1):=NC
  have h5:(q+(B.length-(q+1)))<=140737488355328:=NB
  have h6:(q+(B.length-(q+1)))<=9223372036854775807:=NB
  refine mP hqi h1 h2 h3 h4 h5 h6 amv ?_;have hC:(List.take q B++List.take (B.length-(q+1)) (List.drop (q+1) B)).length<=2097152:=by simp only[akC,amA,ajJ,akB,al8,ama];omega
  have ht:List.take (q+(B.length-(q+1))) (bts (List.take q B++List.take (B.length-(q+1)) (List.drop (q+1) B)))=bts (List.take q B++List.take (B.length-(q+1)) (List.drop (q+1) B)):=amf (by simp;try omega);have hle:q+(B.length-(q+1))<=(List.take q B++List.take (B.length-(q+1)) (List.drop (q+1) B)).length:=by simp;try omega
  have t:=tl _ hC;generalize List.take q B++List.take (B.length-(q+1)) (List.drop (q+1) B)=C at *;refine EK [1] ?_;simp only[evZ,F7];(try simp only[go_sem,Nat.reduceAdd,Nat.reduceSub,Nat.reduceMul,Nat.reduceLT,Nat.reduceLeDiff,Nat.reduceEqDiff,reduceIte,Int.reduceToNat,Int.reduceLT,Int.reduceLE,Int.reduceEq,Int.reduceNeg,reduceCtorEq,Int.reduceBEq,Int.reduceBNe,ht,hle])
  refine eg ?_ t;exact ais [] []
 have e:(W==0)=false:=by simp[q0]
 refine aF e ?_;clear e;by_cases q1:W=1
 ·have e:(W==1)=true:=by simp[q1]
  obtain⟨us,hu1,hu2⟩:=wd (ns:=[by_]) (by simpa using hby)
  obtain⟨u,rfl⟩:∃u,us=[u]:=by
   match us,hu2 with
   | [u],_=>exact⟨u,rfl⟩
  have hu:by_=(u.toNat:Int):=by simpa[aH,bts]using hu1
  subst hu;refine aM e ?_;have hC:(B++[u]).length<=2097152:=by simp only[akC,amA,ajJ,akB,al8,ama];omega
  have ht:List.take (B.length+1) (bts (B++[u]))=bts (B++[u]):=amf (by simp;try omega);have hle:B.length+1<=(B++[u]).length:=by simp;try omega
  have t:=tl _ hC;generalize B++[u]=C at *;refine EK [1] ?_;simp only[evZ,F7];(try simp only[go_sem,Nat.reduceAdd,Nat.reduceSub,Nat.reduceMul,Nat.reduceLT,Nat.reduceLeDiff,Nat.reduceEqDiff,reduceIte,Int.reduceToNat,Int.reduceLT,Int.reduceLE,Int.reduceEq,Int.reduceNeg,reduceCtorEq,Int.reduceBEq,Int.reduceBNe,ht,hle])
  refine eg ?_ t;exact ais [] []
 have e:(W==1)=false:=by simp[q1]
 refine bJ e ?_;obtain⟨u,hu⟩:=MH ((B[q]'hq').toNat:Int) (ior .u8 by_ 1);repeat(first|refine bY ?_|simp only[go_sem,HT hq',hu,KL,hq'])
 have hC:(B.set q u).length<=2097152:=by simp only[akC,amA,ajJ,akB,al8,ama];omega
 have ht:List.take (B.length) (bts (B.set q u))=bts (B.set q u):=amf (by simp;try omega);have hle:B.length<=(B.set q u).length:=by simp;try omega
 have t:=tl _ hC;generalize B.set q u=C at *;refine EK [0] ?_;simp only[evZ,F7];(try simp only[go_sem,Nat.reduceAdd,Nat.reduceSub,Nat.reduceMul,Nat.reduceLT,Nat.reduceLeDiff,Nat.reduceEqDiff,reduceIte,Int.reduceToNat,Int.reduceLT,Int.reduceLE,Int.reduceEq,Int.reduceNeg,reduceCtorEq,Int.reduceBEq,Int.reduceBNe,ht,hle])
 refine eg ?_ t;exact ais [] []
end Go.Proofs.YtblipkgpoaonaaaGreat
