/-
  Part of a proof.
-/
import Derived.Test.YtbpddeiogcgegaaGreatChecked
import Derived.KernelRfl
import Derived.Test.YtbpddeiogcgegaaGreatYSlG
set_option maxHeartbeats 0
set_option maxRecDepth 4000
set_option linter.all false
namespace Go.Proofs.YtbpddeiogcgegaaGreat
open Go.Sl
def ti2:Ti:=⟨.int .i64,1,8,.int .i64 0⟩
def ti3:Ti:=⟨.int .i64,1,8,.int .i64 0⟩
def ti4:Ti:=⟨.bool,1,1,.bool false⟩
def ti5:Ti:=⟨.int .u8,1,1,.int .u8 0⟩
def ti9:Ti:=⟨.string,1,16,.string ByteArray.empty⟩
def Se:Ti:=⟨.interface #[],1,16,.nilIface⟩
def Nk:Ti:=⟨.slice 28,1,24,.slice none 0 0⟩
def Ng:Ti:=⟨.array 4 5,4,4,.agg #[.int .u8 0,.int .u8 0,.int .u8 0,.int .u8 0]⟩
def Mx:Ti:=⟨.slice 5,1,24,.slice none 0 0⟩
def M9:Ti:=⟨.struct #[⟨ "L",22,0,false, "", "",0⟩,⟨ "W",23,1,false, "", "",24⟩,⟨ "Old",24,5,false, "", "",32⟩],6,56,.agg #[.slice none 0 0,.int .u8 0,.int .u8 0,.int .u8 0,.int .u8 0,.slice none 0 0]⟩
def RH:Ti:=⟨.slice 58,1,24,.slice none 0 0⟩
def M3:Ti:=⟨.array 3 5,3,3,.agg #[.int .u8 0,.int .u8 0,.int .u8 0]⟩
def Sd:Ti:=⟨.slice 24,1,24,.slice none 0 0⟩
def Sc:Ti:=⟨.slice 3,1,24,.slice none 0 0⟩
def Sb:Ti:=⟨.slice 4,1,24,.slice none 0 0⟩
def Sa:Ti:=⟨.struct #[⟨ "Size",3,0,false, "", "",0⟩,⟨ "Data",30,1,false, "", "",8⟩,⟨ "Wear",31,2,false, "", "",32⟩,⟨ "Limit",3,3,false, "", "",56⟩,⟨ "Dead",32,4,false, "", "",64⟩],5,88,.agg #[.int .i64 0,.slice none 0 0,.slice none 0 0,.int .i64 0,.slice none 0 0]⟩
def R9:Ti:=⟨.array 2 3,2,16,.agg #[.int .i64 0,.int .i64 0]⟩
def R8:Ti:=⟨.struct #[⟨ "Sectors",3,0,false, "", "",0⟩,⟨ "Journal",35,1,false, "", "",8⟩,⟨ "Settings",35,3,false, "", "",24⟩,⟨ "Stage",31,5,false, "", "",40⟩,⟨ "Undo",31,6,false, "", "",64⟩,⟨ "Stash",31,7,false, "", "",88⟩],8,112,.agg #[.int .i64 0,.int .i64 0,.int .i64 0,.int .i64 0,.int .i64 0,.slice none 0 0,.slice none 0 0,.slice none 0 0]⟩
def R7:Ti:=⟨.slice 157,1,24,.slice none 0 0⟩
def R6:Ti:=⟨.struct #[⟨ "Lifted",4,0,false, "", "",0⟩,⟨ "In",3,1,false, "", "",8⟩,⟨ "Out",3,2,false, "", "",16⟩,⟨ "Ops",38,3,false, "", "",24⟩],4,48,.agg #[.bool false,.int .i64 0,.int .i64 0,.slice none 0 0]⟩
def R5:Ti:=⟨.struct #[⟨ "Size",3,0,false, "", "",0⟩,⟨ "Sectors",3,1,false, "", "",8⟩,⟨ "Patch",40,2,false, "", "",16⟩,⟨ "Seq",31,6,false, "", "",64⟩,⟨ "Stash",31,7,false, "", "",88⟩],8,112,.agg #[.int .i64 0,.int .i64 0,.bool false,.int .i64 0,.int .i64 0,.slice none 0 0,.slice none 0 0,.slice none 0 0]⟩
def R4:Ti:=⟨.slice 384,1,24,.slice none 0 0⟩
def R3:Ti:=⟨.struct #[⟨ "Version",3,0,false, "", "",0⟩,⟨ "From",3,1,false, "", "",8⟩,⟨ "Plan",42,2,false, "", "",16⟩,⟨ "Rules",43,10,false, "", "",128⟩],11,152,.agg #[.int .i64 0,.int .i64 0,.int .i64 0,.int .i64 0,.bool false,.int .i64 0,.int .i64 0,.slice none 0 0,.slice none 0 0,.slice none 0 0,.slice none 0 0]⟩
def R2:Ti:=⟨.struct #[⟨ "Pk",45,0,false, "", "",0⟩,⟨ "Is",4,11,false, "", "",152⟩],12,160,.agg #[.int .i64 0,.int .i64 0,.int .i64 0,.int .i64 0,.bool false,.int .i64 0,.int .i64 0,.slice none 0 0,.slice none 0 0,.slice none 0 0,.slice none 0 0,.bool false]⟩
def R1:Ti:=⟨.struct #[⟨ "Stash",3,0,false, "", "",0⟩,⟨ "Undo",3,1,false, "", "",8⟩,⟨ "Ram",3,2,false, "", "",16⟩,⟨ "Erases",3,3,false, "", "",24⟩,⟨ "Ops",3,4,false, "", "",32⟩],5,40,.agg #[.int .i64 0,.int .i64 0,.int .i64 0,.int .i64 0,.int .i64 0]⟩
def R0:Ti:=⟨.struct #[⟨ "F",34,0,false, "", "",0⟩,⟨ "L",37,5,false, "", "",88⟩,⟨ "H",47,13,false, "", "",200⟩,⟨ "Old",24,25,false, "", "",360⟩,⟨ "New",24,26,false, "", "",384⟩,⟨ "Need",49,27,false, "", "",408⟩],32,448,.agg #[.int .i64 0,.slice none 0 0,.slice none 0 0,.int .i64 0,.slice none 0 0,.int .i64 0,.int .i64 0,.int .i64 0,.int .i64 0,.int .i64 0,.slice none 0 0,.slice none 0 0,.slice none 0 0,.int .i64 0,.int .i64 0,.int .i64 0,.int .i64 0,.bool false,.int .i64 0,.int .i64 0,.slice none 0 0,.slice none 0 0,.slice none 0 0,.slice none 0 0,.bool false,.slice none 0 0,.slice none 0 0,.int .i64 0,.int .i64 0,.int .i64 0,.int .i64 0,.int .i64 0]⟩
def RZ:Ti:=⟨.int .i64,1,8,.int .i64 0⟩
def RY:Ti:=⟨.struct #[⟨ "F",34,0,false, "", "",0⟩,⟨ "N",3,5,false, "", "",88⟩,⟨ "E",53,6,false, "", "",96⟩],7,104,.agg #[.int .i64 0,.slice none 0 0,.slice none 0 0,.int .i64 0,.slice none 0 0,.int .i64 0,.int .i64 0]⟩
def RG:Ti:=⟨.struct #[⟨ "After",5,0,false, "", "",0⟩,⟨ "Mask",24,1,false, "", "",8⟩],2,32,.agg #[.int .u8 0,.slice none 0 0]⟩
def RX:Ti:=⟨.struct #[⟨ "Kind",3,0,false, "", "",0⟩,⟨ "Sector",3,1,false, "", "",8⟩,⟨ "At",3,2,false, "", "",16⟩,⟨ "Data",24,3,false, "", "",24⟩],4,48,.agg #[.int .i64 0,.int .i64 0,.int .i64 0,.slice none 0 0]⟩
def RW:Ti:=⟨.struct #[⟨ "X",60,0,false, "", "",0⟩,⟨ "Done",4,4,false, "", "",48⟩,⟨ "E",53,5,false, "", "",56⟩],6,64,.agg #[.int .i64 0,.int .i64 0,.int .i64 0,.slice none 0 0,.bool false,.int .i64 0]⟩
def RV:Ti:=⟨.struct #[⟨ "Phase",3,0,false, "", "",0⟩,⟨ "Step",3,1,false, "", "",8⟩,⟨ "Sub",3,2,false, "", "",16⟩,⟨ "Undo",3,3,false, "", "",24⟩,⟨ "Tries",3,4,false, "", "",32⟩,⟨ "Set",3,5,false, "", "",40⟩,⟨ "Stage",3,6,false, "", "",48⟩,⟨ "Version",3,7,false, "", "",56⟩,⟨ "Last",3,8,false, "", "",64⟩],9,72,.agg #[.int .i64 0,.int .i64 0,.int .i64 0,.int .i64 0,.int .i64 0,.int .i64 0,.int .i64 0,.int .i64 0,.int .i64 0]⟩
def NC:Ti:=⟨.struct #[⟨ "Old",24,0,false, "", "",0⟩,⟨ "P",40,1,false, "", "",24⟩,⟨ "Size",3,5,false, "", "",72⟩,⟨ "Sectors",3,6,false, "", "",80⟩],7,88,.agg #[.slice none 0 0,.bool false,.int .i64 0,.int .i64 0,.slice none 0 0,.int .i64 0,.int .i64 0]⟩
def NB:Ti:=⟨.array 3 3,3,24,.agg #[.int .i64 0,.int .i64 0,.int .i64 0]⟩
def Nz:Ti:=⟨.struct #[⟨ "sector",3,0,false, "", "inlay/journal",0⟩,⟨ "other",3,1,false, "", "inlay/journal",8⟩,⟨ "gen",3,2,false, "", "inlay/journal",16⟩,⟨ "s",73,3,false, "", "inlay/journal",24⟩,⟨ "found",4,12,false, "", "inlay/journal",96⟩,⟨ "free",3,13,false, "", "inlay/journal",104⟩,⟨ "places",3,14,false, "", "inlay/journal",112⟩,⟨ "torn",3,15,false, "", "inlay/journal",120⟩],16,128,.agg #[.int .i64 0,.int .i64 0,.int .i64 0,.int .i64 0,.int .i64 0,.int .i64 0,.int .i64 0,.int .i64 0,.int .i64 0,.int .i64 0,.int .i64 0,.int .i64 0,.bool false,.int .i64 0,.int .i64 0,.int .i64 0]⟩
def Ny:Ti:=⟨.struct #[⟨ "e",53,0,false, "", "inlay/install",0⟩],1,8,.agg #[.int .i64 0]⟩
def Nw:Ti:=⟨.pointer 140,1,8,.pointer none⟩
def Nv:Ti:=⟨.struct #[⟨ "f",34,0,false, "", "inlay/install",0⟩,⟨ "l",37,5,false, "", "inlay/install",88⟩,⟨ "s",73,13,false, "", "inlay/install",200⟩,⟨ "pk",45,22,false, "", "inlay/install",272⟩,⟨ "op",60,33,false, "", "inlay/install",424⟩,⟨ "found",4,37,false, "", "inlay/install",472⟩],38,480,.agg #[.int .i64 0,.slice none 0 0,.slice none 0 0,.int .i64 0,.slice none 0 0,.int .i64 0,.int .i64 0,.int .i64 0,.int .i64 0,.int .i64 0,.slice none 0 0,.slice none 0 0,.slice none 0 0,.int .i64 0,.int .i64 0,.int .i64 0,.int .i64 0,.int .i64 0,.int .i64 0,.int .i64 0,.int .i64 0,.int .i64 0,.int .i64 0,.int .i64 0,.int .i64 0,.int .i64 0,.bool false,.int .i64 0,.int .i64 0,.slice none 0 0,.slice none 0 0,.slice none 0 0,.slice none 0 0,.int .i64 0,.int .i64 0,.int .i64 0,.slice none 0 0,.bool false]⟩
def Nu:Ti:=⟨.map 3 141,1,8,.map none⟩
def Nt:Ti:=⟨.struct #[⟨ "Seq",31,0,false, "", "",0⟩,⟨ "Stash",31,1,false, "", "",24⟩,⟨ "E",53,2,false, "", "",48⟩],3,56,.agg #[.slice none 0 0,.slice none 0 0,.int .i64 0]⟩
def Ns:Ti:=⟨.slice 31,1,24,.slice none 0 0⟩
def yI:Ti:=⟨.struct #[⟨ "Kind",3,0,false, "", "",0⟩,⟨ "From",3,1,false, "", "",8⟩,⟨ "Len",3,2,false, "", "",16⟩,⟨ "B",5,3,false, "", "",24⟩,⟨ "Data",24,4,false, "", "",32⟩],5,56,.agg #[.int .i64 0,.int .i64 0,.int .i64 0,.int .u8 0,.slice none 0 0]⟩
def Nr:Ti:=⟨.slice 225,1,24,.slice none 0 0⟩
def Nq:Ti:=⟨.slice 232,1,24,.slice none 0 0⟩
def Np:Ti:=⟨.struct #[⟨ "Words",162,0,false, "", "",0⟩,⟨ "Marks",32,1,false, "", "",24⟩,⟨ "Labels",31,2,false, "", "",48⟩],3,72,.agg #[.slice none 0 0,.slice none 0 0,.slice none 0 0]⟩
def No:Ti:=⟨.struct #[⟨ "At",3,0,false, "", "",0⟩,⟨ "B",24,1,false, "", "",8⟩],2,32,.agg #[.int .i64 0,.slice none 0 0]⟩
def Nn:Ti:=⟨.array 5 3,5,40,.agg #[.int .i64 0,.int .i64 0,.int .i64 0,.int .i64 0,.int .i64 0]⟩
def Nm:Ti:=⟨.int .u64,1,8,.int .u64 0⟩
def Nl:Ti:=⟨.struct #[⟨ "L",159,0,false, "", "",0⟩,⟨ "In",3,1,false, "", "",24⟩,⟨ "Size",3,2,false, "", "",32⟩],3,40,.agg #[.slice none 0 0,.int .i64 0,.int .i64 0]⟩
def Nj:Ti:=⟨.slice 223,1,24,.slice none 0 0⟩
def Ni:Ti:=⟨.struct #[⟨ "From",3,0,false, "", "",0⟩,⟨ "To",3,1,false, "", "",8⟩],2,16,.agg #[.int .i64 0,.int .i64 0]⟩
def Nh:Ti:=⟨.struct #[⟨ "Old",4,0,false, "", "",0⟩,⟨ "At",3,1,false, "", "",8⟩,⟨ "B",5,2,false, "", "",16⟩],3,24,.agg #[.bool false,.int .i64 0,.int .u8 0]⟩
def Nf:Ti:=⟨.int .u32,1,4,.int .u32 0⟩
def Nc:Ti:=⟨.int .i64,1,8,.int .i64 0⟩
def Nb:Ti:=⟨.int .u64,1,8,.int .u64 0⟩
def Na:Ti:=⟨.pointer 305,1,8,.pointer none⟩
def M8:Ti:=⟨.slice 266,1,24,.slice none 0 0⟩
def M7:Ti:=⟨.pointer 73,1,8,.pointer none⟩
def M6:Ti:=⟨.pointer 3,1,8,.pointer none⟩
def M5:Ti:=⟨.struct #[⟨ "value",264,0,false, "", "inlay/journal",0⟩,⟨ "width",3,1,false, "", "inlay/journal",8⟩],2,16,.agg #[.pointer none,.int .i64 0]⟩
def M4:Ti:=⟨.pointer 269,1,8,.pointer none⟩
def Jq:Ti:=⟨.struct #[⟨ "b",24,0,false, "", "inlay/journal",0⟩],1,24,.agg #[.slice none 0 0]⟩
def M1:Ti:=⟨.map 3 3,1,8,.map none⟩
def MZ:Ti:=⟨.int .u64,1,8,.int .u64 0⟩
def MY:Ti:=⟨.struct #[],0,0,.agg #[]⟩
def MX:Ti:=Jq
def MW:Ti:=⟨.pointer 60,1,8,.pointer none⟩
def MV:Ti:=⟨.struct #[⟨ "b",24,0,false, "", "inlay/saved",0⟩],1,24,.agg #[.slice none 0 0]⟩
def MU:Ti:=⟨.interface #[("inlay/patch.cost",309),("inlay/patch.right",274),("inlay/patch.symbol",342)],1,16,.nilIface⟩
def MT:Ti:=⟨.pointer 297,1,8,.pointer none⟩
def MS:Ti:=⟨.pointer 312,1,8,.pointer none⟩
def Jp:Ti:=⟨.struct #[],0,0,.agg #[]⟩
def MR:Ti:=⟨.pointer 334,1,8,.pointer none⟩
def MQ:Ti:=⟨.struct #[⟨ "rest",312,0,true, "", "inlay/saved",0⟩,⟨ "last",3,1,false, "", "inlay/saved",24⟩,⟨ "size",3,2,false, "", "inlay/saved",32⟩],3,40,.agg #[.slice none 0 0,.int .i64 0,.int .i64 0]⟩
def MP:Ti:=yI
def MO:Ti:=yI
def MN:Ti:=yI
def MM:Ti:=yI
def ML:Ti:=⟨.struct #[],0,0,.agg #[]⟩
def MK:Ti:=⟨.struct #[⟨ "Kind",3,0,false, "", "",0⟩,⟨ "Name",9,1,false, "", "",8⟩,⟨ "To",9,2,false, "", "",24⟩,⟨ "Val",9,3,false, "", "",40⟩],4,56,.agg #[.int .i64 0,.string ByteArray.empty,.string ByteArray.empty,.string ByteArray.empty]⟩
theorem tk {P:Program}{t:Nat}{i:Ti}(j)(hu:P.underlying t=some i.desc:=by kernel_rfl)(h1:P.info? t=some j:=by kernel_rfl)(h2:j.size=i.size:=by kernel_rfl)(h3:j.bytes=i.bytes:=by kernel_rfl)(h4:j.zero=some i.zero:=by kernel_rfl):TiOk P t i:=⟨hu,j,h1,h2,h3,h4⟩
def tab:List (Nat×Ti):=[(2,ti2),(3,ti3),(4,ti4),(5,ti5),(9,ti9),(20,Se),(22,Nk),(23,Ng),(24,Mx),(26,M9),(27,RH),(28,M3),(30,Sd),(31,Sc),(32,Sb),(34,Sa),(35,R9),(37,R8),(38,R7),(40,R6),(42,R5),(43,R4),(45,R3),(47,R2),(49,R1),(51,R0),(53,RZ),(55,RY),(58,RG),(60,RX),(62,RW),(73,RV),(100,NC),(104,NB),(128,Nz),(136,Ny),(138,Nw),(140,Nv),(143,Nu),(151,Nt),(153,Ns),(157,yI),(159,Nr),(162,Nq),(164,Np),(187,No),(189,Nn),(196,Nm),(212,Nl),(220,Nj),(223,Ni),(225,Nh),(232,Nf),(246,Nc),(256,Nb),(258,Na),(261,M8),(263,M7),(264,M6),(266,M5),(267,M4),(269,Jq),(286,M1),(297,MZ),(303,MY),(305,MX),(310,MW),(312,MV),(316,MU),(319,MT),(330,MS),(331,Jp),(332,MR),(334,MQ),(337,MP),(338,MO),(339,MN),(340,MM),(341,ML),(384,MK)]
theorem Js:∀ t i,au t tab=some i→TiOk Tryz.prog t i:=by
 refine aa (tk Tryz.t2) ?_
 refine aa (tk Tryz.t3) ?_
 refine aa (tk Tryz.t4) ?_
 refine aa (tk Tryz.t5) ?_
 refine aa (tk Tryz.t9) ?_
 refine aa (tk Tryz.t20) ?_
 refine aa (tk Tryz.t22) ?_
 refine aa (tk Tryz.t23) ?_
 refine aa (tk Tryz.t24) ?_
 refine aa (tk Tryz.t26) ?_
 refine aa (tk Tryz.t27) ?_
 refine aa (tk Tryz.t28) ?_
 refine aa (tk Tryz.t30) ?_
 refine aa (tk Tryz.t31) ?_
 refine aa (tk Tryz.t32) ?_
 refine aa (tk Tryz.t34) ?_
 refine aa (tk Tryz.t35) ?_
 refine aa (tk Tryz.t37) ?_
 refine aa (tk Tryz.t38) ?_
 refine aa (tk Tryz.t40) ?_
 refine aa (tk Tryz.t42) ?_
 refine aa (tk Tryz.t43) ?_
 refine aa (tk Tryz.t45) ?_
 refine aa (tk Tryz.t47) ?_
 refine aa (tk Tryz.t49) ?_
 refine aa (tk Tryz.t51) ?_
 refine aa (tk Tryz.t53) ?_
 refine aa (tk Tryz.t55) ?_
 refine aa (tk Tryz.t58) ?_
 refine aa (tk Tryz.t60) ?_
 refine aa (tk Tryz.t62) ?_
 refine aa (tk Tryz.t73) ?_
 refine aa (tk Tryz.t100) ?_
 refine aa (tk Tryz.t104) ?_
 refine aa (tk Tryz.t128) ?_
 refine aa (tk Tryz.t136) ?_
 refine aa (tk Tryz.t138) ?_
 refine aa (tk Tryz.t140) ?_
 refine aa (tk Tryz.t143) ?_
 refine aa (tk Tryz.t151) ?_
 refine aa (tk Tryz.t153) ?_
 refine aa (tk Tryz.t157) ?_
 refine aa (tk Tryz.t159) ?_
 refine aa (tk Tryz.t162) ?_
 refine aa (tk Tryz.t164) ?_
 refine aa (tk Tryz.t187) ?_
 refine aa (tk Tryz.t189) ?_
 refine aa (tk Tryz.t196) ?_
 refine aa (tk Tryz.t212) ?_
 refine aa (tk Tryz.t220) ?_
 refine aa (tk Tryz.t223) ?_
 refine aa (tk Tryz.t225) ?_
 refine aa (tk Tryz.t232) ?_
 refine aa (tk Tryz.t246) ?_
 refine aa (tk Tryz.t256) ?_
 refine aa (tk Tryz.t258) ?_
 refine aa (tk Tryz.t261) ?_
 refine aa (tk Tryz.t263) ?_
 refine aa (tk Tryz.t264) ?_
 refine aa (tk Tryz.t266) ?_
 refine aa (tk Tryz.t267) ?_
 refine aa (tk Tryz.t269) ?_
 refine aa (tk Tryz.t286) ?_
 refine aa (tk Tryz.t297) ?_
 refine aa (tk Tryz.t303) ?_
 refine aa (tk Tryz.t305) ?_
 refine aa (tk Tryz.t310) ?_
 refine aa (tk Tryz.t312) ?_
 refine aa (tk Tryz.t316) ?_
 refine aa (tk Tryz.t319) ?_
 refine aa (tk Tryz.t330) ?_
 refine aa (tk Tryz.t331) ?_
 refine aa (tk Tryz.t332) ?_
 refine aa (tk Tryz.t334) ?_
 refine aa (tk Tryz.t337) ?_
 refine aa (tk Tryz.t338) ?_
 refine aa (tk Tryz.t339) ?_
 refine aa (tk Tryz.t340) ?_
 refine aa (tk Tryz.t341) ?_
 refine aa (tk Tryz.t384) ?_
 exact xu
noncomputable def X:Cx:=⟨Tryz.prog,tab,Js,by kernel_rfl⟩
end Go.Proofs.YtbpddeiogcgegaaGreat
