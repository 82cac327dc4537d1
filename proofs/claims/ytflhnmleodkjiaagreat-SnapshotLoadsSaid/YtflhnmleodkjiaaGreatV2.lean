/- Joined. -/
import Derived.Test.YtflhnmleodkjiaaGreatV1
import Derived.Test.YtflhnmleodkjiaaGreatW5
import Derived.Test.YtflhnmleodkjiaaGreatW3
set_option linter.unusedVariables false
set_option linter.unusedSimpArgs false
set_option maxRecDepth 8000
set_option maxHeartbeats 4000000
namespace Go.Proofs.YtflhnmleodkjiaaGreat
open Go Go.FH Go.RowKit
structure OpV where
 kind:Int
 blk:Blk
 att:Int×Rt×Cp×List Int
 slg:Sv
 tab:Tv
 vdt:Vdt
 write:Int
 keep:Int
theorem fw(x:Int×Rt×Cp×List Int):(rj x).vals=.sl 1 false (aH .i64 x.2.2.2):=rfl
theorem jN(x:Tv):(EU x).bals=.sl 1 false (aH .u64 x.2):=rfl
theorem qT(x:Tv):(EU x).cp=x.1:=rfl
attribute [go_sem] fw jN qT
structure OpU(x:OpV):Prop where
 blk:NQ x.blk
 slot:U64 x.att.1
 ep:U64 x.att.2.2.1.ep
 att:x.att.2.2.2.length<=140737488355328
 fst:Dj (ahc x.slg.1) x.slg.1.2.2.2 false
 snd:Dj (ahc x.slg.2) x.slg.2.2.2.2 false
 tab:GR (EU x.tab) x.tab.2 false
 tag:U64 x.vdt.tag
theorem VY{x:Blk}(u:NQ x):(i9 x).length<=1000:=by
 have r1:=x.root.2;have r2:=x.parent.2;have r3:=x.payload.2;have r4:=(bT x.diff).2;have r5:=(bT x.pdiff).2;have q1:=u.slot.len;have q2:=eK u.just;have q3:=eK u.fin;have q4:=eK u.j;have q5:=eK u.f;have q6:(fW x.timely).length<=1:=by cases x.timely<;>simp[fW]
 simp only[i9,akC];omega
theorem NH(bs:List UInt8)(cl:Bool)(e:Int):ay Tryz.prog 215 [.ptr 0 0] [rdr cl bs e] (.sl 1 cl (bts bs)) [rdr cl bs e]:=by
 refine afn 3 BK ?_;unfold qm;refine bd ?_;refine gon ?_;exact ahY [] [0]
def tkl(bs:List UInt8)(k:Nat)(e:Int):List UInt8:=if e=0 then bs.drop k else bs
theorem EJ(bs:List UInt8)(cl:Bool)(e:Int)(k:Nat)(hk:k<=bs.length):ay Tryz.prog 213 [.ptr 0 0,.int .i64 (k:Int),.int .i64 e] [rdr cl bs 0] (.tup []) [rdr cl (tkl bs k e) e]:=by
 refine afn 3 qB ?_;unfold kv tkl;refine bd ?_;refine bk ?_;by_cases he:e=0
 ·subst he;have e3:List.take (bs.length-k) (List.drop k bs)=List.drop k bs:=amf (by simp);rw[al7 rfl];refine aB ?_;refine ah e3 ?_;exact ahY [] [0]
 ·have he':(e != 0)=true:=by simpa using he
  rw[al5 he];refine ax ?_ (by(try simp only[go_sem,he']);try exact evd);refine gon ?_;refine ocg [0] (iJ bs cl 0 e) ?_;exact ahY [] [0]
theorem acZ(bs:List UInt8)(e:Int):tkl bs 0 e=bs:=by simp[tkl]
attribute [go_sem] acZ
end Go.Proofs.YtflhnmleodkjiaaGreat
