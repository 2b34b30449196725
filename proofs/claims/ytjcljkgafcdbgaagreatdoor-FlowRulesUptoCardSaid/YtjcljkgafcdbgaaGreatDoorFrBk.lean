/- Part Bk of a proof. -/
import Derived.Test.YtjcljkgafcdbgaaGreatDoorFrBh
import Derived.Test.YtjcljkgafcdbgaaGreatDoorFrBi
import Derived.Test.YtjcljkgafcdbgaaGreatDoorFrBj
import Derived.Test.YtjcljkgafcdbgaaGreatDoorFrC
import Derived.Test.YtjcljkgafcdbgaaGreatDoorFrA
set_option linter.unusedVariables false
set_option linter.unusedSimpArgs false
set_option linter.unusedSectionVars false
set_option linter.constructorNameAsVariable false
set_option linter.unnecessarySimpa false
set_option maxRecDepth 100000
namespace Go.Proofs.YtjcljkgafcdbgaaGreatDoor.FlowRules
open Go Go.Proofs
theorem of_ldB{a b i:Nat}(h:ldB a b=true)(h0:a≤i)(h1:i<a+b):((Tryz.prog.funcs[i]?).elim [] Tryz.prog.leadsTo)=gA i:=by
 have:=List.all_eq_true.1 h i (List.mem_range'_1.2 ⟨h0,h1⟩);exact beq_iff_eq.1 this
theorem sz_f:Tryz.prog.funcs.size=652:=kR
theorem lead_eq(i:Nat):((Tryz.prog.funcs[i]?).elim [] Tryz.prog.leadsTo)=gA i:=by
 by_cases h1:i<218
 ·exact of_ldB ld1 oM oM
 by_cases h2:i<436
 ·exact of_ldB ld2 oM oM
 by_cases h3:i<652
 ·exact of_ldB ld3 oM oM
 have e1:Tryz.prog.funcs[i]? =none:=Array.getElem?_eq_none (by rw[sz_f];omega);have e2:gT[i]? =none:=List.getElem?_eq_none (by rw[show gT.length=652 from by kernel_rfl];omega);rw[e1,gA,e2];rfl
noncomputable def cloG:Nat→List Nat→List Nat→List Nat
 |0,_,seen=>seen.reverse
 |_,[],seen=>seen.reverse
 |n+1,f::todo,seen=>if seen.contains f then cloG n todo seen else cloG n (gA f++todo) (f::seen)
theorem via_eq:∀(n:Nat) (todo seen:List Nat),Tryz.prog.closureVia n todo seen=cloG n todo seen
 |0,_,_=>by simp only[Program.closureVia,cloG]
 |n+1,[],_=>by simp only[Program.closureVia,cloG]
 |n+1,f::todo,seen=>by
  simp only[Program.closureVia,cloG];rw[lead_eq f,via_eq n,via_eq n]
theorem fuel_eq:(Tryz.prog.funcs.toList.map fun g=>(Tryz.prog.leadsTo g).length+1)=(List.range 652).map fun i=>(gA i).length+1:=by
 refine List.ext_getElem (by rw[Vc,Vc,List.length_range,Array.length_toList,sz_f]) fun i h1 h2=>?_
 have hi:i<Tryz.prog.funcs.size:=sX h1;rw[List.getElem_map,List.getElem_map,List.getElem_range,←lead_eq i,Array.getElem?_eq_getElem hi];rfl
theorem clo:Tryz.prog.closure 3=[3,4,14,44,46,48,6,17,45,47,40,73,124,74,18,19,11,26,55,91,41,75,126,38,71,117,21,49,118,119,120,121,122,123,125,220,94,146,254,147,92,148,95,28,60,59,105,149,255,256,83,134,231,324,325,326,415,328,417,508,509,510,511,512,513,514,292,373,515,516,517,518,519,520,418,521,522,570,13,419,327,416,346,206,232,233,329,109,203,421,420,523,422,525,524,144,88,145,423,25,54,90,89,135,234,330,150,93,151,152,153,154,155,156,157,158,159,160,161,202,162,163,164,165,166,167,168,169,170,171,172,173,174,175,176,177,27,58,57,104,97,96,178,98,99,179,258,78,110,204,293,374,375,217,473,474,376,377,475,476,550,551,129,224,301,394,302,395,225,226,257,180,259,181,260,351,350,444,56,100,101,182,261,352,445,534,262,353,263,183,264,354,184,265,266,355,446,447,535,536,441,532,572,573,469,546,533,448,449,450,451,452,537,574,575,576,596,538,453,454,539,267,268,356,269,270,357,455,358,456,359,79,130,102,185,103,186,188,187,271,24,53,272,82,132,227,228,303,304,305,306,396,277,366,467,468,542,578,579,580,543,544,545,470,547,581,604,619,471,548,582,605,620,621,549,583,606,584,585,607,586,367,278,368,307,133,229,230,308,309,310,280,369,472,370,314,311,397,318,398,399,405,320,312,400,313,315,401,501,502,503,504,505,490,561,484,555,67,115,218,589,590,591,554,316,317,402,403,404,406,407,408,409,319,321,322,410,411,506,569,245,114,216,339,431,437,531,432,528,433,295,296,434,529,530,571,435,436,438,439,414,323,412,507,413,275,189,191,274,361,457,459,460,465,458,540,360,362,363,364,461,541,577,597,598,599,600,612,613,601,602,614,615,616,617,603,618,462,365,463,464,466,190,273,192,276,279,281,371,193,282,195,283,372,284,194,196,197,198,285,286,287,199,288,289,200,290,201,291,42,50,76,43,77,127,23,51,80,131,81,52,84,137,235,136,236,331,424,425,526,332,426,427,429,428,527,86,87,141,246,140,244,338,142,247,340,341,342,440,343,344,249,250,116,219,299,379,477,478,479,480,380,383,381,481,483,482,552,553,587,608,382,485,556,557,588,609,486,558,384,487,559,562,488,497,560,489,385,386,387,491,492,493,563,388,389,494,564,592,593,610,495,565,566,594,611,390,496,498,567,595,499,568,248,345,143,251,30,64,63,65,113,208,209,294,210,211,297,298,378,212,213,214,215,66,252,347,348,253,349,442,443,85,139,138,237,238,333,430,334,335,239,240,336,242,337,241,243,128,221,223,300,391,500,392,222,393,12,15,5,16,7,20,33,8,22,37,9,29,61,62,106,107,108,111,205,112,207,31,68,69,70,32,10,34,36,35,72,39]:=by
 unfold Program.closure;rw[fuel_eq,via_eq]
 kernel_rfl
end Go.Proofs.YtjcljkgafcdbgaaGreatDoor.FlowRules
