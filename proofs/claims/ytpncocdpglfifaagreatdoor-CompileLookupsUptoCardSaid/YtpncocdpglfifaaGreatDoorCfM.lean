/- Part M of a proof. -/
import Derived.Test.YtpncocdpglfifaaGreatDoorCfJ
import Derived.Test.YtpncocdpglfifaaGreatDoorCfK
import Derived.Test.YtpncocdpglfifaaGreatDoorCfC
import Derived.Test.YtpncocdpglfifaaGreatDoorCfA
set_option linter.unusedVariables false
set_option linter.unusedSimpArgs false
set_option linter.unusedSectionVars false
set_option linter.constructorNameAsVariable false
set_option linter.unnecessarySimpa false
set_option maxRecDepth 100000
namespace Go.Proofs
open Go Av
def JE7:List Sch:=[⟨[111,114,100,101,114],1,.mk 9 0 0 0 [] [] [.mk 1 [105,100] 1 (.mk 2 0 999 0 [] [] []) [],.mk 2 [97,109,111,117,110,116] 1 (.mk 2 0 100 0 [] [] []) [],.mk 3 [107,105,110,100] 1 (.mk 4 0 0 0 [[97],[98],[99]] [] []) [],.mk 4 [105,116,101,109,115] 1 (.mk 8 0 4 0 [] [.mk 9 0 0 0 [] [] [.mk 1 [115,107,117] 1 (.mk 2 0 9 0 [] [] []) [],.mk 2 [113,116,121] 1 (.mk 2 0 9 0 [] [] []) []]] []) [],.mk 5 [110,111,116,101] 2 (.mk 4 0 20 0 [] [] []) [],.mk 6 [102,108,97,103] 3 (.mk 1 0 0 0 [] [] []) [.mk 1 0 0 [] [] []]]⟩,⟨[108,105,110,101],1,.mk 9 0 0 0 [] [] [.mk 1 [105,100] 1 (.mk 2 0 999 0 [] [] []) [],.mk 2 [107,105,110,100] 1 (.mk 4 0 0 0 [[97],[98],[99]] [] []) [],.mk 3 [115,107,117] 1 (.mk 2 0 9 0 [] [] []) [],.mk 4 [113,116,121] 1 (.mk 2 0 9 0 [] [] []) []]⟩,⟨[98,105,108,108],1,.mk 9 0 0 0 [] [] [.mk 1 [105,100] 1 (.mk 2 0 999 0 [] [] []) [],.mk 2 [107,105,110,100] 1 (.mk 4 0 0 0 [[97],[98],[99]] [] []) [],.mk 3 [116,111,116,97,108] 1 (.mk 2 0 100000 0 [] [] []) [],.mk 4 [99,111,117,110,116] 1 (.mk 2 0 256 0 [] [] []) []]⟩,⟨[97,110,115,119,101,114],1,.mk 9 0 0 0 [] [] [.mk 1 [111,107] 1 (.mk 1 0 0 0 [] [] []) [],.mk 2 [99,111,100,101] 1 (.mk 2 0 99 0 [] [] []) []]⟩]
def JBE:List Epd:=[⟨[105,110,95,97],1,[111,114,100,101,114],1,1,0,[]⟩,⟨[105,110,95,98],1,[111,114,100,101,114],1,4,0,[]⟩,⟨[97,103,97,105,110],3,[111,114,100,101,114],1,1,0,[]⟩,⟨[111,117,116,95,111,114,100,101,114],2,[111,114,100,101,114],1,4,0,[]⟩,⟨[111,117,116,95,108,105,110,101],2,[108,105,110,101],1,2,44,[]⟩,⟨[111,117,116,95,98,105,108,108],2,[98,105,108,108],1,1,0,[]⟩]
def JDR:List Svc:=[⟨[112,97,121],[98,105,108,108],[97,110,115,119,101,114],true⟩,⟨[115,116,111,99,107],[108,105,110,101],[97,110,115,119,101,114],true⟩,⟨[109,97,105,108],[98,105,108,108],[97,110,115,119,101,114],false⟩]
def JHl(x:Epd):Dat:=.agg [.str x.name,.int .i64 x.kind,.str x.schema,.int .i64 x.version,.int .i64 x.fkind,.int .i64 x.sep,.nil 1]
def JIw:Dat:=.agg [.int .i64 1,.list 9 (JE7.map UB),.list 7 (JBE.map JHl),.list 4 (JDR.map Uy),.nil 3]
def K84(f:Nat):Nat:=if f==47||f==85 then 2 else K27 f
theorem k84:JNC Tryz.prog JIv K84 47 [.int .i64 1] (.d JIw)=true:=kR
theorem JSX:PT 47 [.int .i64 1] (.d JIw):=(JGO (K:=K84) JFh k84).1
theorem k10:JNC Tryz.prog JIv K27 10 [] (.d (.bool true))=true:=kR
theorem JSY:PT 10 [] (.d (.bool true)):=(JGO (K:=K27) JFh k10).1
def JEh(r:List Rou):Prg:=⟨1,JE7,JBE,JDR,r⟩
theorem JHm:(JBE.map JHl).map Dat.canon=JBE.map Jo:=rfl
end Go.Proofs
