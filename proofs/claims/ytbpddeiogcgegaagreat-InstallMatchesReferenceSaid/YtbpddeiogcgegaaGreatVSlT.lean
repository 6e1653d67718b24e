/-
  Part of a proof.
-/
import Derived.Test.YtbpddeiogcgegaaGreatChecked
import Derived.KernelRfl
import Derived.Test.YtbpddeiogcgegaaGreatVSlG
set_option maxHeartbeats 0
set_option maxRecDepth 4000
set_option linter.all false
namespace Go.Proofs.YtbpddeiogcgegaaGreat
open Go.Sl
def ti2:Ti:=⟨.int .i64,1,8,.int .i64 0⟩
def ti3:Ti:=⟨.int .i64,1,8,.int .i64 0⟩
def ti4:Ti:=⟨.bool,1,1,.bool false⟩
def ti5:Ti:=⟨.int .u8,1,1,.int .u8 0⟩
def ti9:Ti:=⟨.string,1,16,.string ByteArray.empty⟩
def Rg:Ti:=⟨.interface #[],1,16,.nilIface⟩
def PG:Ti:=⟨.slice 28,1,24,.slice none 0 0⟩
def PF:Ti:=⟨.array 4 5,4,4,.agg #[.int .u8 0,.int .u8 0,.int .u8 0,.int .u8 0]⟩
def Mu:Ti:=⟨.slice 5,1,24,.slice none 0 0⟩
def PE:Ti:=⟨.struct #[⟨ "L",22,0,false, "", "",0⟩,⟨ "W",23,1,false, "", "",24⟩,⟨ "Old",24,5,false, "", "",32⟩],6,56,.agg #[.slice none 0 0,.int .u8 0,.int .u8 0,.int .u8 0,.int .u8 0,.slice none 0 0]⟩
def PD:Ti:=⟨.slice 58,1,24,.slice none 0 0⟩
def Ml:Ti:=⟨.array 3 5,3,3,.agg #[.int .u8 0,.int .u8 0,.int .u8 0]⟩
def Re:Ti:=⟨.slice 24,1,24,.slice none 0 0⟩
def Rb:Ti:=⟨.slice 3,1,24,.slice none 0 0⟩
def Ra:Ti:=⟨.slice 4,1,24,.slice none 0 0⟩
def P9:Ti:=⟨.struct #[⟨ "Size",3,0,false, "", "",0⟩,⟨ "Data",30,1,false, "", "",8⟩,⟨ "Wear",31,2,false, "", "",32⟩,⟨ "Limit",3,3,false, "", "",56⟩,⟨ "Dead",32,4,false, "", "",64⟩],5,88,.agg #[.int .i64 0,.slice none 0 0,.slice none 0 0,.int .i64 0,.slice none 0 0]⟩
def P8:Ti:=⟨.array 2 3,2,16,.agg #[.int .i64 0,.int .i64 0]⟩
def P7:Ti:=⟨.struct #[⟨ "Sectors",3,0,false, "", "",0⟩,⟨ "Journal",35,1,false, "", "",8⟩,⟨ "Settings",35,3,false, "", "",24⟩,⟨ "Stage",31,5,false, "", "",40⟩,⟨ "Undo",31,6,false, "", "",64⟩,⟨ "Stash",31,7,false, "", "",88⟩],8,112,.agg #[.int .i64 0,.int .i64 0,.int .i64 0,.int .i64 0,.int .i64 0,.slice none 0 0,.slice none 0 0,.slice none 0 0]⟩
def P6:Ti:=⟨.slice 157,1,24,.slice none 0 0⟩
def P5:Ti:=⟨.struct #[⟨ "Lifted",4,0,false, "", "",0⟩,⟨ "In",3,1,false, "", "",8⟩,⟨ "Out",3,2,false, "", "",16⟩,⟨ "Ops",38,3,false, "", "",24⟩],4,48,.agg #[.bool false,.int .i64 0,.int .i64 0,.slice none 0 0]⟩
def P4:Ti:=⟨.struct #[⟨ "Size",3,0,false, "", "",0⟩,⟨ "Sectors",3,1,false, "", "",8⟩,⟨ "Patch",40,2,false, "", "",16⟩,⟨ "Seq",31,6,false, "", "",64⟩,⟨ "Stash",31,7,false, "", "",88⟩],8,112,.agg #[.int .i64 0,.int .i64 0,.bool false,.int .i64 0,.int .i64 0,.slice none 0 0,.slice none 0 0,.slice none 0 0]⟩
def P3:Ti:=⟨.slice 384,1,24,.slice none 0 0⟩
def P2:Ti:=⟨.struct #[⟨ "Version",3,0,false, "", "",0⟩,⟨ "From",3,1,false, "", "",8⟩,⟨ "Plan",42,2,false, "", "",16⟩,⟨ "Rules",43,10,false, "", "",128⟩],11,152,.agg #[.int .i64 0,.int .i64 0,.int .i64 0,.int .i64 0,.bool false,.int .i64 0,.int .i64 0,.slice none 0 0,.slice none 0 0,.slice none 0 0,.slice none 0 0]⟩
def P1:Ti:=⟨.struct #[⟨ "Pk",45,0,false, "", "",0⟩,⟨ "Is",4,11,false, "", "",152⟩],12,160,.agg #[.int .i64 0,.int .i64 0,.int .i64 0,.int .i64 0,.bool false,.int .i64 0,.int .i64 0,.slice none 0 0,.slice none 0 0,.slice none 0 0,.slice none 0 0,.bool false]⟩
def P0:Ti:=⟨.struct #[⟨ "Stash",3,0,false, "", "",0⟩,⟨ "Undo",3,1,false, "", "",8⟩,⟨ "Ram",3,2,false, "", "",16⟩,⟨ "Erases",3,3,false, "", "",24⟩,⟨ "Ops",3,4,false, "", "",32⟩],5,40,.agg #[.int .i64 0,.int .i64 0,.int .i64 0,.int .i64 0,.int .i64 0]⟩
def PZ:Ti:=⟨.struct #[⟨ "F",34,0,false, "", "",0⟩,⟨ "L",37,5,false, "", "",88⟩,⟨ "H",47,13,false, "", "",200⟩,⟨ "Old",24,25,false, "", "",360⟩,⟨ "New",24,26,false, "", "",384⟩,⟨ "Need",49,27,false, "", "",408⟩],32,448,.agg #[.int .i64 0,.slice none 0 0,.slice none 0 0,.int .i64 0,.slice none 0 0,.int .i64 0,.int .i64 0,.int .i64 0,.int .i64 0,.int .i64 0,.slice none 0 0,.slice none 0 0,.slice none 0 0,.int .i64 0,.int .i64 0,.int .i64 0,.int .i64 0,.bool false,.int .i64 0,.int .i64 0,.slice none 0 0,.slice none 0 0,.slice none 0 0,.slice none 0 0,.bool false,.slice none 0 0,.slice none 0 0,.int .i64 0,.int .i64 0,.int .i64 0,.int .i64 0,.int .i64 0]⟩
def PY:Ti:=⟨.int .i64,1,8,.int .i64 0⟩
def PX:Ti:=⟨.struct #[⟨ "F",34,0,false, "", "",0⟩,⟨ "N",3,5,false, "", "",88⟩,⟨ "E",53,6,false, "", "",96⟩],7,104,.agg #[.int .i64 0,.slice none 0 0,.slice none 0 0,.int .i64 0,.slice none 0 0,.int .i64 0,.int .i64 0]⟩
def PC:Ti:=⟨.struct #[⟨ "After",5,0,false, "", "",0⟩,⟨ "Mask",24,1,false, "", "",8⟩],2,32,.agg #[.int .u8 0,.slice none 0 0]⟩
def PW:Ti:=⟨.struct #[⟨ "Kind",3,0,false, "", "",0⟩,⟨ "Sector",3,1,false, "", "",8⟩,⟨ "At",3,2,false, "", "",16⟩,⟨ "Data",24,3,false, "", "",24⟩],4,48,.agg #[.int .i64 0,.int .i64 0,.int .i64 0,.slice none 0 0]⟩
def PV:Ti:=⟨.struct #[⟨ "X",60,0,false, "", "",0⟩,⟨ "Done",4,4,false, "", "",48⟩,⟨ "E",53,5,false, "", "",56⟩],6,64,.agg #[.int .i64 0,.int .i64 0,.int .i64 0,.slice none 0 0,.bool false,.int .i64 0]⟩
def PU:Ti:=⟨.struct #[⟨ "Phase",3,0,false, "", "",0⟩,⟨ "Step",3,1,false, "", "",8⟩,⟨ "Sub",3,2,false, "", "",16⟩,⟨ "Undo",3,3,false, "", "",24⟩,⟨ "Tries",3,4,false, "", "",32⟩,⟨ "Set",3,5,false, "", "",40⟩,⟨ "Stage",3,6,false, "", "",48⟩,⟨ "Version",3,7,false, "", "",56⟩,⟨ "Last",3,8,false, "", "",64⟩],9,72,.agg #[.int .i64 0,.int .i64 0,.int .i64 0,.int .i64 0,.int .i64 0,.int .i64 0,.int .i64 0,.int .i64 0,.int .i64 0]⟩
def MT:Ti:=⟨.struct #[⟨ "Old",24,0,false, "", "",0⟩,⟨ "P",40,1,false, "", "",24⟩,⟨ "Size",3,5,false, "", "",72⟩,⟨ "Sectors",3,6,false, "", "",80⟩],7,88,.agg #[.slice none 0 0,.bool false,.int .i64 0,.int .i64 0,.slice none 0 0,.int .i64 0,.int .i64 0]⟩
def MS:Ti:=⟨.array 3 3,3,24,.agg #[.int .i64 0,.int .i64 0,.int .i64 0]⟩
def MR:Ti:=⟨.struct #[⟨ "S",73,0,false, "", "",0⟩,⟨ "Torn",3,9,false, "", "",72⟩,⟨ "E",53,10,false, "", "",80⟩],11,88,.agg #[.int .i64 0,.int .i64 0,.int .i64 0,.int .i64 0,.int .i64 0,.int .i64 0,.int .i64 0,.int .i64 0,.int .i64 0,.int .i64 0,.int .i64 0]⟩
def MQ:Ti:=⟨.struct #[⟨ "sector",3,0,false, "", "inlay/journal",0⟩,⟨ "other",3,1,false, "", "inlay/journal",8⟩,⟨ "gen",3,2,false, "", "inlay/journal",16⟩,⟨ "s",73,3,false, "", "inlay/journal",24⟩,⟨ "found",4,12,false, "", "inlay/journal",96⟩,⟨ "free",3,13,false, "", "inlay/journal",104⟩,⟨ "places",3,14,false, "", "inlay/journal",112⟩,⟨ "torn",3,15,false, "", "inlay/journal",120⟩],16,128,.agg #[.int .i64 0,.int .i64 0,.int .i64 0,.int .i64 0,.int .i64 0,.int .i64 0,.int .i64 0,.int .i64 0,.int .i64 0,.int .i64 0,.int .i64 0,.int .i64 0,.bool false,.int .i64 0,.int .i64 0,.int .i64 0]⟩
def MP:Ti:=⟨.struct #[⟨ "e",53,0,false, "", "inlay/install",0⟩],1,8,.agg #[.int .i64 0]⟩
def MO:Ti:=⟨.pointer 140,1,8,.pointer none⟩
def MN:Ti:=⟨.struct #[⟨ "f",34,0,false, "", "inlay/install",0⟩,⟨ "l",37,5,false, "", "inlay/install",88⟩,⟨ "s",73,13,false, "", "inlay/install",200⟩,⟨ "pk",45,22,false, "", "inlay/install",272⟩,⟨ "op",60,33,false, "", "inlay/install",424⟩,⟨ "found",4,37,false, "", "inlay/install",472⟩],38,480,.agg #[.int .i64 0,.slice none 0 0,.slice none 0 0,.int .i64 0,.slice none 0 0,.int .i64 0,.int .i64 0,.int .i64 0,.int .i64 0,.int .i64 0,.slice none 0 0,.slice none 0 0,.slice none 0 0,.int .i64 0,.int .i64 0,.int .i64 0,.int .i64 0,.int .i64 0,.int .i64 0,.int .i64 0,.int .i64 0,.int .i64 0,.int .i64 0,.int .i64 0,.int .i64 0,.int .i64 0,.bool false,.int .i64 0,.int .i64 0,.slice none 0 0,.slice none 0 0,.slice none 0 0,.slice none 0 0,.int .i64 0,.int .i64 0,.int .i64 0,.slice none 0 0,.bool false]⟩
def MM:Ti:=⟨.map 3 141,1,8,.map none⟩
def ML:Ti:=⟨.struct #[⟨ "Seq",31,0,false, "", "",0⟩,⟨ "Stash",31,1,false, "", "",24⟩,⟨ "E",53,2,false, "", "",48⟩],3,56,.agg #[.slice none 0 0,.slice none 0 0,.int .i64 0]⟩
def MK:Ti:=⟨.slice 31,1,24,.slice none 0 0⟩
def xj:Ti:=⟨.struct #[⟨ "Kind",3,0,false, "", "",0⟩,⟨ "From",3,1,false, "", "",8⟩,⟨ "Len",3,2,false, "", "",16⟩,⟨ "B",5,3,false, "", "",24⟩,⟨ "Data",24,4,false, "", "",32⟩],5,56,.agg #[.int .i64 0,.int .i64 0,.int .i64 0,.int .u8 0,.slice none 0 0]⟩
def MJ:Ti:=⟨.slice 225,1,24,.slice none 0 0⟩
def MI:Ti:=⟨.slice 232,1,24,.slice none 0 0⟩
def MH:Ti:=⟨.struct #[⟨ "Words",162,0,false, "", "",0⟩,⟨ "Marks",32,1,false, "", "",24⟩,⟨ "Labels",31,2,false, "", "",48⟩],3,72,.agg #[.slice none 0 0,.slice none 0 0,.slice none 0 0]⟩
def MG:Ti:=⟨.struct #[⟨ "Sector",3,0,false, "", "",0⟩,⟨ "Other",3,1,false, "", "",8⟩,⟨ "Gen",3,2,false, "", "",16⟩,⟨ "S",73,3,false, "", "",24⟩,⟨ "Free",3,12,false, "", "",96⟩,⟨ "Torn",3,13,false, "", "",104⟩,⟨ "Is",4,14,false, "", "",112⟩],15,120,.agg #[.int .i64 0,.int .i64 0,.int .i64 0,.int .i64 0,.int .i64 0,.int .i64 0,.int .i64 0,.int .i64 0,.int .i64 0,.int .i64 0,.int .i64 0,.int .i64 0,.int .i64 0,.int .i64 0,.bool false]⟩
def MF:Ti:=⟨.struct #[⟨ "B",24,0,false, "", "",0⟩,⟨ "At",3,1,false, "", "",24⟩,⟨ "E",53,2,false, "", "",32⟩],3,40,.agg #[.slice none 0 0,.int .i64 0,.int .i64 0]⟩
def ME:Ti:=⟨.struct #[⟨ "Sector",3,0,false, "", "",0⟩,⟨ "Old",24,1,false, "", "",8⟩,⟨ "New",24,2,false, "", "",32⟩],3,56,.agg #[.int .i64 0,.slice none 0 0,.slice none 0 0]⟩
def MD:Ti:=⟨.struct #[⟨ "At",3,0,false, "", "",0⟩,⟨ "B",24,1,false, "", "",8⟩],2,32,.agg #[.int .i64 0,.slice none 0 0]⟩
def MC:Ti:=⟨.array 5 3,5,40,.agg #[.int .i64 0,.int .i64 0,.int .i64 0,.int .i64 0,.int .i64 0]⟩
def MB:Ti:=⟨.int .u64,1,8,.int .u64 0⟩
def Mz:Ti:=⟨.struct #[⟨ "L",159,0,false, "", "",0⟩,⟨ "In",3,1,false, "", "",24⟩,⟨ "Size",3,2,false, "", "",32⟩],3,40,.agg #[.slice none 0 0,.int .i64 0,.int .i64 0]⟩
def My:Ti:=⟨.slice 223,1,24,.slice none 0 0⟩
def Mx:Ti:=⟨.struct #[⟨ "From",3,0,false, "", "",0⟩,⟨ "To",3,1,false, "", "",8⟩],2,16,.agg #[.int .i64 0,.int .i64 0]⟩
def Mw:Ti:=⟨.struct #[⟨ "Old",4,0,false, "", "",0⟩,⟨ "At",3,1,false, "", "",8⟩,⟨ "B",5,2,false, "", "",16⟩],3,24,.agg #[.bool false,.int .i64 0,.int .u8 0]⟩
def Mv:Ti:=⟨.int .u32,1,4,.int .u32 0⟩
def Mt:Ti:=⟨.int .i64,1,8,.int .i64 0⟩
def Ms:Ti:=⟨.int .u64,1,8,.int .u64 0⟩
def Mr:Ti:=⟨.pointer 305,1,8,.pointer none⟩
def Mq:Ti:=⟨.slice 266,1,24,.slice none 0 0⟩
def Mp:Ti:=⟨.pointer 73,1,8,.pointer none⟩
def Mo:Ti:=⟨.pointer 3,1,8,.pointer none⟩
def Mn:Ti:=⟨.struct #[⟨ "value",264,0,false, "", "inlay/journal",0⟩,⟨ "width",3,1,false, "", "inlay/journal",8⟩],2,16,.agg #[.pointer none,.int .i64 0]⟩
def Mm:Ti:=⟨.pointer 269,1,8,.pointer none⟩
def Ib:Ti:=⟨.struct #[⟨ "b",24,0,false, "", "inlay/journal",0⟩],1,24,.agg #[.slice none 0 0]⟩
def Mj:Ti:=⟨.map 3 3,1,8,.map none⟩
def Mi:Ti:=⟨.int .u64,1,8,.int .u64 0⟩
def Mh:Ti:=⟨.struct #[],0,0,.agg #[]⟩
def Mg:Ti:=Ib
def Mf:Ti:=⟨.pointer 60,1,8,.pointer none⟩
def Me:Ti:=⟨.struct #[⟨ "b",24,0,false, "", "inlay/saved",0⟩],1,24,.agg #[.slice none 0 0]⟩
def Md:Ti:=⟨.interface #[("inlay/patch.cost",309),("inlay/patch.right",274),("inlay/patch.symbol",342)],1,16,.nilIface⟩
def Mc:Ti:=⟨.pointer 297,1,8,.pointer none⟩
def Mb:Ti:=⟨.pointer 312,1,8,.pointer none⟩
def Ia:Ti:=⟨.struct #[],0,0,.agg #[]⟩
def Ma:Ti:=⟨.pointer 334,1,8,.pointer none⟩
def L9:Ti:=⟨.struct #[⟨ "rest",312,0,true, "", "inlay/saved",0⟩,⟨ "last",3,1,false, "", "inlay/saved",24⟩,⟨ "size",3,2,false, "", "inlay/saved",32⟩],3,40,.agg #[.slice none 0 0,.int .i64 0,.int .i64 0]⟩
def L8:Ti:=xj
def L7:Ti:=xj
def L6:Ti:=xj
def L5:Ti:=xj
def L4:Ti:=⟨.struct #[],0,0,.agg #[]⟩
def L3:Ti:=⟨.struct #[⟨ "Kind",3,0,false, "", "",0⟩,⟨ "Name",9,1,false, "", "",8⟩,⟨ "To",9,2,false, "", "",24⟩,⟨ "Val",9,3,false, "", "",40⟩],4,56,.agg #[.int .i64 0,.string ByteArray.empty,.string ByteArray.empty,.string ByteArray.empty]⟩
theorem tk {P:Program}{t:Nat}{i:Ti}(j)(hu:P.underlying t=some i.desc:=by kernel_rfl)(h1:P.info? t=some j:=by kernel_rfl)(h2:j.size=i.size:=by kernel_rfl)(h3:j.bytes=i.bytes:=by kernel_rfl)(h4:j.zero=some i.zero:=by kernel_rfl):TiOk P t i:=⟨hu,j,h1,h2,h3,h4⟩
def tab:List (Nat×Ti):=[(2,ti2),(3,ti3),(4,ti4),(5,ti5),(9,ti9),(20,Rg),(22,PG),(23,PF),(24,Mu),(26,PE),(27,PD),(28,Ml),(30,Re),(31,Rb),(32,Ra),(34,P9),(35,P8),(37,P7),(38,P6),(40,P5),(42,P4),(43,P3),(45,P2),(47,P1),(49,P0),(51,PZ),(53,PY),(55,PX),(58,PC),(60,PW),(62,PV),(73,PU),(100,MT),(104,MS),(108,MR),(128,MQ),(136,MP),(138,MO),(140,MN),(143,MM),(151,ML),(153,MK),(157,xj),(159,MJ),(162,MI),(164,MH),(171,MG),(175,MF),(184,ME),(187,MD),(189,MC),(196,MB),(212,Mz),(220,My),(223,Mx),(225,Mw),(232,Mv),(246,Mt),(256,Ms),(258,Mr),(261,Mq),(263,Mp),(264,Mo),(266,Mn),(267,Mm),(269,Ib),(286,Mj),(297,Mi),(303,Mh),(305,Mg),(310,Mf),(312,Me),(316,Md),(319,Mc),(330,Mb),(331,Ia),(332,Ma),(334,L9),(337,L8),(338,L7),(339,L6),(340,L5),(341,L4),(384,L3)]
theorem Ie:∀ t i,ar t tab=some i→TiOk Tryz.prog t i:=by
 refine ab (tk Tryz.t2) ?_
 refine ab (tk Tryz.t3) ?_
 refine ab (tk Tryz.t4) ?_
 refine ab (tk Tryz.t5) ?_
 refine ab (tk Tryz.t9) ?_
 refine ab (tk Tryz.t20) ?_
 refine ab (tk Tryz.t22) ?_
 refine ab (tk Tryz.t23) ?_
 refine ab (tk Tryz.t24) ?_
 refine ab (tk Tryz.t26) ?_
 refine ab (tk Tryz.t27) ?_
 refine ab (tk Tryz.t28) ?_
 refine ab (tk Tryz.t30) ?_
 refine ab (tk Tryz.t31) ?_
 refine ab (tk Tryz.t32) ?_
 refine ab (tk Tryz.t34) ?_
 refine ab (tk Tryz.t35) ?_
 refine ab (tk Tryz.t37) ?_
 refine ab (tk Tryz.t38) ?_
 refine ab (tk Tryz.t40) ?_
 refine ab (tk Tryz.t42) ?_
 refine ab (tk Tryz.t43) ?_
 refine ab (tk Tryz.t45) ?_
 refine ab (tk Tryz.t47) ?_
 refine ab (tk Tryz.t49) ?_
 refine ab (tk Tryz.t51) ?_
 refine ab (tk Tryz.t53) ?_
 refine ab (tk Tryz.t55) ?_
 refine ab (tk Tryz.t58) ?_
 refine ab (tk Tryz.t60) ?_
 refine ab (tk Tryz.t62) ?_
 refine ab (tk Tryz.t73) ?_
 refine ab (tk Tryz.t100) ?_
 refine ab (tk Tryz.t104) ?_
 refine ab (tk Tryz.t108) ?_
 refine ab (tk Tryz.t128) ?_
 refine ab (tk Tryz.t136) ?_
 refine ab (tk Tryz.t138) ?_
 refine ab (tk Tryz.t140) ?_
 refine ab (tk Tryz.t143) ?_
 refine ab (tk Tryz.t151) ?_
 refine ab (tk Tryz.t153) ?_
 refine ab (tk Tryz.t157) ?_
 refine ab (tk Tryz.t159) ?_
 refine ab (tk Tryz.t162) ?_
 refine ab (tk Tryz.t164) ?_
 refine ab (tk Tryz.t171) ?_
 refine ab (tk Tryz.t175) ?_
 refine ab (tk Tryz.t184) ?_
 refine ab (tk Tryz.t187) ?_
 refine ab (tk Tryz.t189) ?_
 refine ab (tk Tryz.t196) ?_
 refine ab (tk Tryz.t212) ?_
 refine ab (tk Tryz.t220) ?_
 refine ab (tk Tryz.t223) ?_
 refine ab (tk Tryz.t225) ?_
 refine ab (tk Tryz.t232) ?_
 refine ab (tk Tryz.t246) ?_
 refine ab (tk Tryz.t256) ?_
 refine ab (tk Tryz.t258) ?_
 refine ab (tk Tryz.t261) ?_
 refine ab (tk Tryz.t263) ?_
 refine ab (tk Tryz.t264) ?_
 refine ab (tk Tryz.t266) ?_
 refine ab (tk Tryz.t267) ?_
 refine ab (tk Tryz.t269) ?_
 refine ab (tk Tryz.t286) ?_
 refine ab (tk Tryz.t297) ?_
 refine ab (tk Tryz.t303) ?_
 refine ab (tk Tryz.t305) ?_
 refine ab (tk Tryz.t310) ?_
 refine ab (tk Tryz.t312) ?_
 refine ab (tk Tryz.t316) ?_
 refine ab (tk Tryz.t319) ?_
 refine ab (tk Tryz.t330) ?_
 refine ab (tk Tryz.t331) ?_
 refine ab (tk Tryz.t332) ?_
 refine ab (tk Tryz.t334) ?_
 refine ab (tk Tryz.t337) ?_
 refine ab (tk Tryz.t338) ?_
 refine ab (tk Tryz.t339) ?_
 refine ab (tk Tryz.t340) ?_
 refine ab (tk Tryz.t341) ?_
 refine ab (tk Tryz.t384) ?_
 exact vF
noncomputable def X:Cx:=⟨Tryz.prog,tab,Ie,by kernel_rfl⟩
end Go.Proofs.YtbpddeiogcgegaaGreat
