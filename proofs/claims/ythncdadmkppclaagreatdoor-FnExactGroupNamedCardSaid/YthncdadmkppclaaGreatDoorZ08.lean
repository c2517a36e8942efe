import Derived.Test.YthncdadmkppclaaGreatDoorProg
import Derived.KernelRfl
import Derived.Test.YthncdadmkppclaaGreatDoorZ07
set_option linter.unusedVariables false
set_option linter.unusedSimpArgs false
namespace Go.Proofs.YthncdadmkppclaaGreatDoor
def env:TEnv:=fun t=>match t with
  |2=>some ⟨.int .i64,1,8,.int .i64 0,false⟩
  |3=>some ⟨.int .i64,1,8,.int .i64 0,false⟩
  |4=>some ⟨.bool,1,1,.bool false,false⟩
  |5=>some ⟨.int .u8,1,1,.int .u8 0,false⟩
  |6=>some ⟨.int .u8,1,1,.int .u8 0,false⟩
  |7=>some ⟨.struct [(2,0),(3,1),(4,2),(6,3)],4,24,.agg #[.int .i64 0,.int .i64 0,.bool false,.int .u8 0],false⟩
  |8=>some ⟨.struct [(2,0),(3,1),(4,2),(6,3)],4,24,.agg #[.int .i64 0,.int .i64 0,.bool false,.int .u8 0],false⟩
  |9=>some ⟨.str,1,16,.string ⟨#[]⟩,false⟩
  |10=>some ⟨.str,1,16,.string ⟨#[]⟩,false⟩
  |11=>some ⟨.str,1,16,.string ⟨#[]⟩,false⟩
  |12=>some ⟨.int .u64,1,8,.int .u64 0,false⟩
  |13=>some ⟨.struct [(9,0),(12,1)],2,24,.agg #[.string ⟨#[]⟩,.int .u64 0],false⟩
  |14=>some ⟨.struct [(9,0),(12,1)],2,24,.agg #[.string ⟨#[]⟩,.int .u64 0],false⟩
  |15=>some ⟨.other,1,8,.pointer none,false⟩
  |16=>some ⟨.other,1,8,.pointer none,false⟩
  |17=>some ⟨.other,1,8,.pointer none,false⟩
  |18=>some ⟨.struct [(17,0)],1,8,.agg #[.pointer none],false⟩
  |19=>some ⟨.struct [(17,0)],1,8,.agg #[.pointer none],false⟩
  |21=>some ⟨.int .i32,1,4,.int .i32 0,false⟩
  |22=>some ⟨.slice 2,1,24,.slice none 0 0,false⟩
  |23=>some ⟨.slice 22,1,24,.slice none 0 0,false⟩
  |24=>some ⟨.slice 23,1,24,.slice none 0 0,false⟩
  |25=>some ⟨.struct [(22,0),(23,1),(24,2)],3,72,.agg #[.slice none 0 0,.slice none 0 0,.slice none 0 0],false⟩
  |26=>some ⟨.struct [(22,0),(23,1),(24,2)],3,72,.agg #[.slice none 0 0,.slice none 0 0,.slice none 0 0],false⟩
  |34=>some ⟨.struct [(2,0),(9,1),(9,2)],3,40,.agg #[.int .i64 0,.string ⟨#[]⟩,.string ⟨#[]⟩],false⟩
  |35=>some ⟨.struct [(2,0),(9,1),(9,2)],3,40,.agg #[.int .i64 0,.string ⟨#[]⟩,.string ⟨#[]⟩],false⟩
  |38=>some ⟨.struct [(2,0),(2,1),(9,2),(9,3)],4,48,.agg #[.int .i64 0,.int .i64 0,.string ⟨#[]⟩,.string ⟨#[]⟩],false⟩
  |39=>some ⟨.struct [(2,0),(2,1),(9,2),(9,3)],4,48,.agg #[.int .i64 0,.int .i64 0,.string ⟨#[]⟩,.string ⟨#[]⟩],false⟩
  |51=>some ⟨.slice 39,1,24,.slice none 0 0,false⟩
  |56=>some ⟨.slice 35,1,24,.slice none 0 0,false⟩
  |58=>some ⟨.slice 9,1,24,.slice none 0 0,false⟩
  |98=>some ⟨.other,1,8,.pointer none,false⟩
  |103=>some ⟨.slice 5,1,24,.slice none 0 0,false⟩
  |111=>some ⟨.int .i64,1,8,.int .i64 0,false⟩
  |112=>some ⟨.int .u64,1,8,.int .u64 0,false⟩
  |115=>some ⟨.int .u64,1,8,.int .u64 0,false⟩
  |116=>some ⟨.other,1,8,.pointer none,false⟩
  |120=>some ⟨.other,1,8,.pointer none,false⟩
  |121=>some ⟨.struct [(120,0),(103,1)],2,32,.agg #[.pointer none,.slice none 0 0],false⟩
  |122=>some ⟨.struct [(120,0),(103,1)],2,32,.agg #[.pointer none,.slice none 0 0],false⟩
  |131=>some ⟨.struct [(9,0),(9,1),(76,2)],3,48,.agg #[.string ⟨#[]⟩,.string ⟨#[]⟩,.nilIface],false⟩
  |132=>some ⟨.struct [(9,0),(9,1),(76,2)],3,48,.agg #[.string ⟨#[]⟩,.string ⟨#[]⟩,.nilIface],false⟩
  |140=>some ⟨.other,1,8,.pointer none,false⟩
  |142=>some ⟨.struct [(5,0),(5,1)],2,2,.agg #[.int .u8 0,.int .u8 0],false⟩
  |143=>some ⟨.struct [(5,0),(5,1)],2,2,.agg #[.int .u8 0,.int .u8 0],false⟩
  |145=>some ⟨.other,1,8,.pointer none,false⟩
  |146=>some ⟨.struct [(9,0)],1,16,.agg #[.string ⟨#[]⟩],false⟩
  |147=>some ⟨.struct [(9,0)],1,16,.agg #[.string ⟨#[]⟩],false⟩
  |148=>some ⟨.int .u32,1,4,.int .u32 0,false⟩
  |162=>some ⟨.struct [(17,0),(17,1),(17,2),(9,3)],4,40,.agg #[.pointer none,.pointer none,.pointer none,.string ⟨#[]⟩],false⟩
  |163=>some ⟨.struct [(17,0),(17,1),(17,2),(9,3)],4,40,.agg #[.pointer none,.pointer none,.pointer none,.string ⟨#[]⟩],false⟩
  |168=>some ⟨.int .u8,1,1,.int .u8 0,false⟩
  |169=>some ⟨.int .u8,1,1,.int .u8 0,false⟩
  |171=>some ⟨.int .i32,1,4,.int .i32 0,false⟩
  |172=>some ⟨.int .i32,1,4,.int .i32 0,false⟩
  |173=>some ⟨.struct [(12,0),(12,1),(148,2),(168,3),(5,4),(5,5),(169,6),(170,7),(140,8),(171,9),(172,10)],11,48,.agg #[.int .u64 0,.int .u64 0,.int .u32 0,.int .u8 0,.int .u8 0,.int .u8 0,.int .u8 0,.nilFunc,.pointer none,.int .i32 0,.int .i32 0],false⟩
  |174=>some ⟨.struct [(12,0),(12,1),(148,2),(168,3),(5,4),(5,5),(169,6),(170,7),(140,8),(171,9),(172,10)],11,48,.agg #[.int .u64 0,.int .u64 0,.int .u32 0,.int .u8 0,.int .u8 0,.int .u8 0,.int .u8 0,.nilFunc,.pointer none,.int .i32 0,.int .i32 0],false⟩
  |_=>none
theorem env2:env 2=some ⟨.int .i64,1,8,.int .i64 0,false⟩:=Eq.trans rfl rfl
theorem env3:env 3=some ⟨.int .i64,1,8,.int .i64 0,false⟩:=Eq.trans rfl rfl
theorem env4:env 4=some ⟨.bool,1,1,.bool false,false⟩:=Eq.trans rfl rfl
theorem env5:env 5=some ⟨.int .u8,1,1,.int .u8 0,false⟩:=Eq.trans rfl rfl
theorem env6:env 6=some ⟨.int .u8,1,1,.int .u8 0,false⟩:=Eq.trans rfl rfl
theorem env7:env 7=some ⟨.struct [(2,0),(3,1),(4,2),(6,3)],4,24,.agg #[.int .i64 0,.int .i64 0,.bool false,.int .u8 0],false⟩:=Eq.trans rfl rfl
theorem env8:env 8=some ⟨.struct [(2,0),(3,1),(4,2),(6,3)],4,24,.agg #[.int .i64 0,.int .i64 0,.bool false,.int .u8 0],false⟩:=Eq.trans rfl rfl
theorem env9:env 9=some ⟨.str,1,16,.string ⟨#[]⟩,false⟩:=Eq.trans rfl rfl
theorem env10:env 10=some ⟨.str,1,16,.string ⟨#[]⟩,false⟩:=Eq.trans rfl rfl
theorem env11:env 11=some ⟨.str,1,16,.string ⟨#[]⟩,false⟩:=Eq.trans rfl rfl
theorem env12:env 12=some ⟨.int .u64,1,8,.int .u64 0,false⟩:=Eq.trans rfl rfl
theorem env13:env 13=some ⟨.struct [(9,0),(12,1)],2,24,.agg #[.string ⟨#[]⟩,.int .u64 0],false⟩:=Eq.trans rfl rfl
theorem env14:env 14=some ⟨.struct [(9,0),(12,1)],2,24,.agg #[.string ⟨#[]⟩,.int .u64 0],false⟩:=Eq.trans rfl rfl
theorem env15:env 15=some ⟨.other,1,8,.pointer none,false⟩:=Eq.trans rfl rfl
theorem env16:env 16=some ⟨.other,1,8,.pointer none,false⟩:=Eq.trans rfl rfl
theorem env17:env 17=some ⟨.other,1,8,.pointer none,false⟩:=Eq.trans rfl rfl
theorem env18:env 18=some ⟨.struct [(17,0)],1,8,.agg #[.pointer none],false⟩:=Eq.trans rfl rfl
theorem env19:env 19=some ⟨.struct [(17,0)],1,8,.agg #[.pointer none],false⟩:=Eq.trans rfl rfl
theorem env21:env 21=some ⟨.int .i32,1,4,.int .i32 0,false⟩:=Eq.trans rfl rfl
theorem env22:env 22=some ⟨.slice 2,1,24,.slice none 0 0,false⟩:=Eq.trans rfl rfl
theorem env23:env 23=some ⟨.slice 22,1,24,.slice none 0 0,false⟩:=Eq.trans rfl rfl
theorem env24:env 24=some ⟨.slice 23,1,24,.slice none 0 0,false⟩:=Eq.trans rfl rfl
theorem env25:env 25=some ⟨.struct [(22,0),(23,1),(24,2)],3,72,.agg #[.slice none 0 0,.slice none 0 0,.slice none 0 0],false⟩:=Eq.trans rfl rfl
theorem env26:env 26=some ⟨.struct [(22,0),(23,1),(24,2)],3,72,.agg #[.slice none 0 0,.slice none 0 0,.slice none 0 0],false⟩:=Eq.trans rfl rfl
theorem env34:env 34=some ⟨.struct [(2,0),(9,1),(9,2)],3,40,.agg #[.int .i64 0,.string ⟨#[]⟩,.string ⟨#[]⟩],false⟩:=Eq.trans rfl rfl
theorem env35:env 35=some ⟨.struct [(2,0),(9,1),(9,2)],3,40,.agg #[.int .i64 0,.string ⟨#[]⟩,.string ⟨#[]⟩],false⟩:=Eq.trans rfl rfl
theorem env38:env 38=some ⟨.struct [(2,0),(2,1),(9,2),(9,3)],4,48,.agg #[.int .i64 0,.int .i64 0,.string ⟨#[]⟩,.string ⟨#[]⟩],false⟩:=Eq.trans rfl rfl
theorem env39:env 39=some ⟨.struct [(2,0),(2,1),(9,2),(9,3)],4,48,.agg #[.int .i64 0,.int .i64 0,.string ⟨#[]⟩,.string ⟨#[]⟩],false⟩:=Eq.trans rfl rfl
theorem env51:env 51=some ⟨.slice 39,1,24,.slice none 0 0,false⟩:=Eq.trans rfl rfl
theorem env56:env 56=some ⟨.slice 35,1,24,.slice none 0 0,false⟩:=Eq.trans rfl rfl
theorem env58:env 58=some ⟨.slice 9,1,24,.slice none 0 0,false⟩:=Eq.trans rfl rfl
theorem env98:env 98=some ⟨.other,1,8,.pointer none,false⟩:=Eq.trans rfl rfl
theorem env103:env 103=some ⟨.slice 5,1,24,.slice none 0 0,false⟩:=Eq.trans rfl rfl
theorem env111:env 111=some ⟨.int .i64,1,8,.int .i64 0,false⟩:=Eq.trans rfl rfl
theorem env112:env 112=some ⟨.int .u64,1,8,.int .u64 0,false⟩:=Eq.trans rfl rfl
theorem env115:env 115=some ⟨.int .u64,1,8,.int .u64 0,false⟩:=Eq.trans rfl rfl
theorem env116:env 116=some ⟨.other,1,8,.pointer none,false⟩:=Eq.trans rfl rfl
theorem env120:env 120=some ⟨.other,1,8,.pointer none,false⟩:=Eq.trans rfl rfl
theorem env121:env 121=some ⟨.struct [(120,0),(103,1)],2,32,.agg #[.pointer none,.slice none 0 0],false⟩:=Eq.trans rfl rfl
theorem env122:env 122=some ⟨.struct [(120,0),(103,1)],2,32,.agg #[.pointer none,.slice none 0 0],false⟩:=Eq.trans rfl rfl
theorem env131:env 131=some ⟨.struct [(9,0),(9,1),(76,2)],3,48,.agg #[.string ⟨#[]⟩,.string ⟨#[]⟩,.nilIface],false⟩:=Eq.trans rfl rfl
theorem env132:env 132=some ⟨.struct [(9,0),(9,1),(76,2)],3,48,.agg #[.string ⟨#[]⟩,.string ⟨#[]⟩,.nilIface],false⟩:=Eq.trans rfl rfl
theorem env140:env 140=some ⟨.other,1,8,.pointer none,false⟩:=Eq.trans rfl rfl
theorem env142:env 142=some ⟨.struct [(5,0),(5,1)],2,2,.agg #[.int .u8 0,.int .u8 0],false⟩:=Eq.trans rfl rfl
theorem env143:env 143=some ⟨.struct [(5,0),(5,1)],2,2,.agg #[.int .u8 0,.int .u8 0],false⟩:=Eq.trans rfl rfl
theorem env145:env 145=some ⟨.other,1,8,.pointer none,false⟩:=Eq.trans rfl rfl
theorem env146:env 146=some ⟨.struct [(9,0)],1,16,.agg #[.string ⟨#[]⟩],false⟩:=Eq.trans rfl rfl
theorem env147:env 147=some ⟨.struct [(9,0)],1,16,.agg #[.string ⟨#[]⟩],false⟩:=Eq.trans rfl rfl
theorem env148:env 148=some ⟨.int .u32,1,4,.int .u32 0,false⟩:=Eq.trans rfl rfl
theorem env162:env 162=some ⟨.struct [(17,0),(17,1),(17,2),(9,3)],4,40,.agg #[.pointer none,.pointer none,.pointer none,.string ⟨#[]⟩],false⟩:=Eq.trans rfl rfl
theorem env163:env 163=some ⟨.struct [(17,0),(17,1),(17,2),(9,3)],4,40,.agg #[.pointer none,.pointer none,.pointer none,.string ⟨#[]⟩],false⟩:=Eq.trans rfl rfl
theorem env168:env 168=some ⟨.int .u8,1,1,.int .u8 0,false⟩:=Eq.trans rfl rfl
theorem env169:env 169=some ⟨.int .u8,1,1,.int .u8 0,false⟩:=Eq.trans rfl rfl
theorem env171:env 171=some ⟨.int .i32,1,4,.int .i32 0,false⟩:=Eq.trans rfl rfl
theorem env172:env 172=some ⟨.int .i32,1,4,.int .i32 0,false⟩:=Eq.trans rfl rfl
theorem env173:env 173=some ⟨.struct [(12,0),(12,1),(148,2),(168,3),(5,4),(5,5),(169,6),(170,7),(140,8),(171,9),(172,10)],11,48,.agg #[.int .u64 0,.int .u64 0,.int .u32 0,.int .u8 0,.int .u8 0,.int .u8 0,.int .u8 0,.nilFunc,.pointer none,.int .i32 0,.int .i32 0],false⟩:=Eq.trans rfl rfl
theorem env174:env 174=some ⟨.struct [(12,0),(12,1),(148,2),(168,3),(5,4),(5,5),(169,6),(170,7),(140,8),(171,9),(172,10)],11,48,.agg #[.int .u64 0,.int .u64 0,.int .u32 0,.int .u8 0,.int .u8 0,.int .u8 0,.int .u8 0,.nilFunc,.pointer none,.int .i32 0,.int .i32 0],false⟩:=Eq.trans rfl rfl
attribute [go_sem] env2 env3 env4 env5 env6 env7 env8 env9 env10 env11 env12 env13 env14 env15 env16 env17 env18 env19 env21 env22 env23 env24 env25 env26 env34 env35 env38 env39 env51 env56 env58 env98 env103 env111 env112 env115 env116 env120 env121 env122 env131 env132 env140 env142 env143 env145 env146 env147 env148 env162 env163 env168 env169 env171 env172 env173 env174
theorem tok2:TOk Tryz.prog 2 ⟨.int .i64,1,8,.int .i64 0,false⟩:=⟨by kernel_rfl,by kernel_rfl,fun h=>by cases h⟩
theorem tok3:TOk Tryz.prog 3 ⟨.int .i64,1,8,.int .i64 0,false⟩:=⟨by kernel_rfl,by kernel_rfl,fun h=>by cases h⟩
theorem tok4:TOk Tryz.prog 4 ⟨.bool,1,1,.bool false,false⟩:=⟨by kernel_rfl,by kernel_rfl,fun h=>by cases h⟩
theorem tok5:TOk Tryz.prog 5 ⟨.int .u8,1,1,.int .u8 0,false⟩:=⟨by kernel_rfl,by kernel_rfl,fun h=>by cases h⟩
theorem tok6:TOk Tryz.prog 6 ⟨.int .u8,1,1,.int .u8 0,false⟩:=⟨by kernel_rfl,by kernel_rfl,fun h=>by cases h⟩
theorem tok7:TOk Tryz.prog 7 ⟨.struct [(2,0),(3,1),(4,2),(6,3)],4,24,.agg #[.int .i64 0,.int .i64 0,.bool false,.int .u8 0],false⟩:=⟨by kernel_rfl,by kernel_rfl,fun h=>by cases h⟩
theorem tok8:TOk Tryz.prog 8 ⟨.struct [(2,0),(3,1),(4,2),(6,3)],4,24,.agg #[.int .i64 0,.int .i64 0,.bool false,.int .u8 0],false⟩:=⟨by kernel_rfl,by kernel_rfl,fun h=>by cases h⟩
theorem tok9:TOk Tryz.prog 9 ⟨.str,1,16,.string ⟨#[]⟩,false⟩:=⟨by kernel_rfl,by kernel_rfl,fun h=>by cases h⟩
theorem tok10:TOk Tryz.prog 10 ⟨.str,1,16,.string ⟨#[]⟩,false⟩:=⟨by kernel_rfl,by kernel_rfl,fun h=>by cases h⟩
theorem tok11:TOk Tryz.prog 11 ⟨.str,1,16,.string ⟨#[]⟩,false⟩:=⟨by kernel_rfl,by kernel_rfl,fun h=>by cases h⟩
theorem tok12:TOk Tryz.prog 12 ⟨.int .u64,1,8,.int .u64 0,false⟩:=⟨by kernel_rfl,by kernel_rfl,fun h=>by cases h⟩
theorem tok13:TOk Tryz.prog 13 ⟨.struct [(9,0),(12,1)],2,24,.agg #[.string ⟨#[]⟩,.int .u64 0],false⟩:=⟨by kernel_rfl,by kernel_rfl,fun h=>by cases h⟩
theorem tok14:TOk Tryz.prog 14 ⟨.struct [(9,0),(12,1)],2,24,.agg #[.string ⟨#[]⟩,.int .u64 0],false⟩:=⟨by kernel_rfl,by kernel_rfl,fun h=>by cases h⟩
theorem tok15:TOk Tryz.prog 15 ⟨.other,1,8,.pointer none,false⟩:=⟨by kernel_rfl,by kernel_rfl,fun h=>by cases h⟩
theorem tok16:TOk Tryz.prog 16 ⟨.other,1,8,.pointer none,false⟩:=⟨by kernel_rfl,by kernel_rfl,fun h=>by cases h⟩
theorem tok17:TOk Tryz.prog 17 ⟨.other,1,8,.pointer none,false⟩:=⟨by kernel_rfl,by kernel_rfl,fun h=>by cases h⟩
theorem tok18:TOk Tryz.prog 18 ⟨.struct [(17,0)],1,8,.agg #[.pointer none],false⟩:=⟨by kernel_rfl,by kernel_rfl,fun h=>by cases h⟩
theorem tok19:TOk Tryz.prog 19 ⟨.struct [(17,0)],1,8,.agg #[.pointer none],false⟩:=⟨by kernel_rfl,by kernel_rfl,fun h=>by cases h⟩
theorem tok21:TOk Tryz.prog 21 ⟨.int .i32,1,4,.int .i32 0,false⟩:=⟨by kernel_rfl,by kernel_rfl,fun h=>by cases h⟩
theorem tok22:TOk Tryz.prog 22 ⟨.slice 2,1,24,.slice none 0 0,false⟩:=⟨by kernel_rfl,by kernel_rfl,fun h=>by cases h⟩
theorem tok23:TOk Tryz.prog 23 ⟨.slice 22,1,24,.slice none 0 0,false⟩:=⟨by kernel_rfl,by kernel_rfl,fun h=>by cases h⟩
theorem tok24:TOk Tryz.prog 24 ⟨.slice 23,1,24,.slice none 0 0,false⟩:=⟨by kernel_rfl,by kernel_rfl,fun h=>by cases h⟩
theorem tok25:TOk Tryz.prog 25 ⟨.struct [(22,0),(23,1),(24,2)],3,72,.agg #[.slice none 0 0,.slice none 0 0,.slice none 0 0],false⟩:=⟨by kernel_rfl,by kernel_rfl,fun h=>by cases h⟩
theorem tok26:TOk Tryz.prog 26 ⟨.struct [(22,0),(23,1),(24,2)],3,72,.agg #[.slice none 0 0,.slice none 0 0,.slice none 0 0],false⟩:=⟨by kernel_rfl,by kernel_rfl,fun h=>by cases h⟩
theorem tok34:TOk Tryz.prog 34 ⟨.struct [(2,0),(9,1),(9,2)],3,40,.agg #[.int .i64 0,.string ⟨#[]⟩,.string ⟨#[]⟩],false⟩:=⟨by kernel_rfl,by kernel_rfl,fun h=>by cases h⟩
theorem tok35:TOk Tryz.prog 35 ⟨.struct [(2,0),(9,1),(9,2)],3,40,.agg #[.int .i64 0,.string ⟨#[]⟩,.string ⟨#[]⟩],false⟩:=⟨by kernel_rfl,by kernel_rfl,fun h=>by cases h⟩
theorem tok38:TOk Tryz.prog 38 ⟨.struct [(2,0),(2,1),(9,2),(9,3)],4,48,.agg #[.int .i64 0,.int .i64 0,.string ⟨#[]⟩,.string ⟨#[]⟩],false⟩:=⟨by kernel_rfl,by kernel_rfl,fun h=>by cases h⟩
theorem tok39:TOk Tryz.prog 39 ⟨.struct [(2,0),(2,1),(9,2),(9,3)],4,48,.agg #[.int .i64 0,.int .i64 0,.string ⟨#[]⟩,.string ⟨#[]⟩],false⟩:=⟨by kernel_rfl,by kernel_rfl,fun h=>by cases h⟩
theorem tok51:TOk Tryz.prog 51 ⟨.slice 39,1,24,.slice none 0 0,false⟩:=⟨by kernel_rfl,by kernel_rfl,fun h=>by cases h⟩
theorem tok56:TOk Tryz.prog 56 ⟨.slice 35,1,24,.slice none 0 0,false⟩:=⟨by kernel_rfl,by kernel_rfl,fun h=>by cases h⟩
theorem tok58:TOk Tryz.prog 58 ⟨.slice 9,1,24,.slice none 0 0,false⟩:=⟨by kernel_rfl,by kernel_rfl,fun h=>by cases h⟩
theorem tok98:TOk Tryz.prog 98 ⟨.other,1,8,.pointer none,false⟩:=⟨by kernel_rfl,by kernel_rfl,fun h=>by cases h⟩
theorem tok103:TOk Tryz.prog 103 ⟨.slice 5,1,24,.slice none 0 0,false⟩:=⟨by kernel_rfl,by kernel_rfl,fun h=>by cases h⟩
theorem tok111:TOk Tryz.prog 111 ⟨.int .i64,1,8,.int .i64 0,false⟩:=⟨by kernel_rfl,by kernel_rfl,fun h=>by cases h⟩
theorem tok112:TOk Tryz.prog 112 ⟨.int .u64,1,8,.int .u64 0,false⟩:=⟨by kernel_rfl,by kernel_rfl,fun h=>by cases h⟩
theorem tok115:TOk Tryz.prog 115 ⟨.int .u64,1,8,.int .u64 0,false⟩:=⟨by kernel_rfl,by kernel_rfl,fun h=>by cases h⟩
theorem tok116:TOk Tryz.prog 116 ⟨.other,1,8,.pointer none,false⟩:=⟨by kernel_rfl,by kernel_rfl,fun h=>by cases h⟩
theorem tok120:TOk Tryz.prog 120 ⟨.other,1,8,.pointer none,false⟩:=⟨by kernel_rfl,by kernel_rfl,fun h=>by cases h⟩
theorem tok121:TOk Tryz.prog 121 ⟨.struct [(120,0),(103,1)],2,32,.agg #[.pointer none,.slice none 0 0],false⟩:=⟨by kernel_rfl,by kernel_rfl,fun h=>by cases h⟩
theorem tok122:TOk Tryz.prog 122 ⟨.struct [(120,0),(103,1)],2,32,.agg #[.pointer none,.slice none 0 0],false⟩:=⟨by kernel_rfl,by kernel_rfl,fun h=>by cases h⟩
theorem tok131:TOk Tryz.prog 131 ⟨.struct [(9,0),(9,1),(76,2)],3,48,.agg #[.string ⟨#[]⟩,.string ⟨#[]⟩,.nilIface],false⟩:=⟨by kernel_rfl,by kernel_rfl,fun h=>by cases h⟩
theorem tok132:TOk Tryz.prog 132 ⟨.struct [(9,0),(9,1),(76,2)],3,48,.agg #[.string ⟨#[]⟩,.string ⟨#[]⟩,.nilIface],false⟩:=⟨by kernel_rfl,by kernel_rfl,fun h=>by cases h⟩
theorem tok140:TOk Tryz.prog 140 ⟨.other,1,8,.pointer none,false⟩:=⟨by kernel_rfl,by kernel_rfl,fun h=>by cases h⟩
theorem tok142:TOk Tryz.prog 142 ⟨.struct [(5,0),(5,1)],2,2,.agg #[.int .u8 0,.int .u8 0],false⟩:=⟨by kernel_rfl,by kernel_rfl,fun h=>by cases h⟩
theorem tok143:TOk Tryz.prog 143 ⟨.struct [(5,0),(5,1)],2,2,.agg #[.int .u8 0,.int .u8 0],false⟩:=⟨by kernel_rfl,by kernel_rfl,fun h=>by cases h⟩
theorem tok145:TOk Tryz.prog 145 ⟨.other,1,8,.pointer none,false⟩:=⟨by kernel_rfl,by kernel_rfl,fun h=>by cases h⟩
theorem tok146:TOk Tryz.prog 146 ⟨.struct [(9,0)],1,16,.agg #[.string ⟨#[]⟩],false⟩:=⟨by kernel_rfl,by kernel_rfl,fun h=>by cases h⟩
theorem tok147:TOk Tryz.prog 147 ⟨.struct [(9,0)],1,16,.agg #[.string ⟨#[]⟩],false⟩:=⟨by kernel_rfl,by kernel_rfl,fun h=>by cases h⟩
theorem tok148:TOk Tryz.prog 148 ⟨.int .u32,1,4,.int .u32 0,false⟩:=⟨by kernel_rfl,by kernel_rfl,fun h=>by cases h⟩
theorem tok162:TOk Tryz.prog 162 ⟨.struct [(17,0),(17,1),(17,2),(9,3)],4,40,.agg #[.pointer none,.pointer none,.pointer none,.string ⟨#[]⟩],false⟩:=⟨by kernel_rfl,by kernel_rfl,fun h=>by cases h⟩
theorem tok163:TOk Tryz.prog 163 ⟨.struct [(17,0),(17,1),(17,2),(9,3)],4,40,.agg #[.pointer none,.pointer none,.pointer none,.string ⟨#[]⟩],false⟩:=⟨by kernel_rfl,by kernel_rfl,fun h=>by cases h⟩
theorem tok168:TOk Tryz.prog 168 ⟨.int .u8,1,1,.int .u8 0,false⟩:=⟨by kernel_rfl,by kernel_rfl,fun h=>by cases h⟩
theorem tok169:TOk Tryz.prog 169 ⟨.int .u8,1,1,.int .u8 0,false⟩:=⟨by kernel_rfl,by kernel_rfl,fun h=>by cases h⟩
theorem tok171:TOk Tryz.prog 171 ⟨.int .i32,1,4,.int .i32 0,false⟩:=⟨by kernel_rfl,by kernel_rfl,fun h=>by cases h⟩
theorem tok172:TOk Tryz.prog 172 ⟨.int .i32,1,4,.int .i32 0,false⟩:=⟨by kernel_rfl,by kernel_rfl,fun h=>by cases h⟩
theorem tok173:TOk Tryz.prog 173 ⟨.struct [(12,0),(12,1),(148,2),(168,3),(5,4),(5,5),(169,6),(170,7),(140,8),(171,9),(172,10)],11,48,.agg #[.int .u64 0,.int .u64 0,.int .u32 0,.int .u8 0,.int .u8 0,.int .u8 0,.int .u8 0,.nilFunc,.pointer none,.int .i32 0,.int .i32 0],false⟩:=⟨by kernel_rfl,by kernel_rfl,fun h=>by cases h⟩
theorem tok174:TOk Tryz.prog 174 ⟨.struct [(12,0),(12,1),(148,2),(168,3),(5,4),(5,5),(169,6),(170,7),(140,8),(171,9),(172,10)],11,48,.agg #[.int .u64 0,.int .u64 0,.int .u32 0,.int .u8 0,.int .u8 0,.int .u8 0,.int .u8 0,.nilFunc,.pointer none,.int .i32 0,.int .i32 0],false⟩:=⟨by kernel_rfl,by kernel_rfl,fun h=>by cases h⟩
theorem envOk:GOk Tryz.prog env:=by
  intro ty x h
  unfold env at h
  split at h<;>first|(cases h;done)|skip
  · cases h;exact tok2
  · cases h;exact tok3
  · cases h;exact tok4
  · cases h;exact tok5
  · cases h;exact tok6
  · cases h;exact tok7
  · cases h;exact tok8
  · cases h;exact tok9
  · cases h;exact tok10
  · cases h;exact tok11
  · cases h;exact tok12
  · cases h;exact tok13
  · cases h;exact tok14
  · cases h;exact tok15
  · cases h;exact tok16
  · cases h;exact tok17
  · cases h;exact tok18
  · cases h;exact tok19
  · cases h;exact tok21
  · cases h;exact tok22
  · cases h;exact tok23
  · cases h;exact tok24
  · cases h;exact tok25
  · cases h;exact tok26
  · cases h;exact tok34
  · cases h;exact tok35
  · cases h;exact tok38
  · cases h;exact tok39
  · cases h;exact tok51
  · cases h;exact tok56
  · cases h;exact tok58
  · cases h;exact tok98
  · cases h;exact tok103
  · cases h;exact tok111
  · cases h;exact tok112
  · cases h;exact tok115
  · cases h;exact tok116
  · cases h;exact tok120
  · cases h;exact tok121
  · cases h;exact tok122
  · cases h;exact tok131
  · cases h;exact tok132
  · cases h;exact tok140
  · cases h;exact tok142
  · cases h;exact tok143
  · cases h;exact tok145
  · cases h;exact tok146
  · cases h;exact tok147
  · cases h;exact tok148
  · cases h;exact tok162
  · cases h;exact tok163
  · cases h;exact tok168
  · cases h;exact tok169
  · cases h;exact tok171
  · cases h;exact tok172
  · cases h;exact tok173
  · cases h;exact tok174
end Go.Proofs.YthncdadmkppclaaGreatDoor
attribute [go_sem_proc] Nat.reduceAdd Nat.reduceSub Nat.reduceGT Nat.reduceEqDiff Nat.reduceMul
