import Derived.Test.YtlcddiojeghfgaaGreatDoorProg
import Derived.KernelRfl
import Derived.Test.YtlcddiojeghfgaaGreatDoorZ07
set_option linter.unusedVariables false
set_option linter.unusedSimpArgs false
namespace Go.Proofs.YtlcddiojeghfgaaGreatDoor
def env:TEnv:=fun t=>match t with
  |2=>some ⟨.int .i64,1,8,.int .i64 0,false⟩
  |3=>some ⟨.int .i64,1,8,.int .i64 0,false⟩
  |4=>some ⟨.bool,1,1,.bool false,false⟩
  |5=>some ⟨.int .u8,1,1,.int .u8 0,false⟩
  |6=>some ⟨.int .u8,1,1,.int .u8 0,false⟩
  |7=>some ⟨.struct [(2,0),(3,1),(4,2),(6,3)],4,24,.agg #[.int .i64 0,.int .i64 0,.bool false,.int .u8 0],false⟩
  |8=>some ⟨.struct [(2,0),(3,1),(4,2),(6,3)],4,24,.agg #[.int .i64 0,.int .i64 0,.bool false,.int .u8 0],false⟩
  |9=>some ⟨.str,1,16,.string ⟨#[]⟩,false⟩
  |10=>some ⟨.str,1,16,.string ⟨#[]⟩,false⟩
  |11=>some ⟨.str,1,16,.string ⟨#[]⟩,false⟩
  |12=>some ⟨.int .u64,1,8,.int .u64 0,false⟩
  |13=>some ⟨.struct [(9,0),(12,1)],2,24,.agg #[.string ⟨#[]⟩,.int .u64 0],false⟩
  |14=>some ⟨.struct [(9,0),(12,1)],2,24,.agg #[.string ⟨#[]⟩,.int .u64 0],false⟩
  |15=>some ⟨.other,1,8,.pointer none,false⟩
  |16=>some ⟨.other,1,8,.pointer none,false⟩
  |17=>some ⟨.other,1,8,.pointer none,false⟩
  |18=>some ⟨.struct [(17,0)],1,8,.agg #[.pointer none],false⟩
  |19=>some ⟨.struct [(17,0)],1,8,.agg #[.pointer none],false⟩
  |21=>some ⟨.int .i32,1,4,.int .i32 0,false⟩
  |22=>some ⟨.slice 5,1,24,.slice none 0 0,false⟩
  |24=>some ⟨.slice 48,1,24,.slice none 0 0,false⟩
  |25=>some ⟨.struct [(2,0),(24,1)],2,32,.agg #[.int .i64 0,.slice none 0 0],false⟩
  |26=>some ⟨.struct [(2,0),(24,1)],2,32,.agg #[.int .i64 0,.slice none 0 0],false⟩
  |35=>some ⟨.other,1,8,.pointer none,false⟩
  |38=>some ⟨.other,1,8,.pointer none,false⟩
  |42=>some ⟨.slice 9,1,24,.slice none 0 0,false⟩
  |48=>some ⟨.slice 2,1,24,.slice none 0 0,false⟩
  |54=>some ⟨.struct [(22,0),(3,1),(2,2)],3,40,.agg #[.slice none 0 0,.int .i64 0,.int .i64 0],false⟩
  |55=>some ⟨.struct [(22,0),(3,1),(2,2)],3,40,.agg #[.slice none 0 0,.int .i64 0,.int .i64 0],false⟩
  |65=>some ⟨.slice 24,1,24,.slice none 0 0,false⟩
  |66=>some ⟨.struct [(48,0),(24,1),(65,2)],3,72,.agg #[.slice none 0 0,.slice none 0 0,.slice none 0 0],false⟩
  |67=>some ⟨.struct [(48,0),(24,1),(65,2)],3,72,.agg #[.slice none 0 0,.slice none 0 0,.slice none 0 0],false⟩
  |72=>some ⟨.other,1,8,.pointer none,false⟩
  |73=>some ⟨.struct [(72,0),(22,1)],2,32,.agg #[.pointer none,.slice none 0 0],false⟩
  |74=>some ⟨.struct [(72,0),(22,1)],2,32,.agg #[.pointer none,.slice none 0 0],false⟩
  |81=>some ⟨.int .i64,1,8,.int .i64 0,false⟩
  |82=>some ⟨.int .u64,1,8,.int .u64 0,false⟩
  |85=>some ⟨.int .u64,1,8,.int .u64 0,false⟩
  |86=>some ⟨.other,1,8,.pointer none,false⟩
  |102=>some ⟨.other,1,8,.pointer none,false⟩
  |110=>some ⟨.struct [(9,0),(9,1),(45,2)],3,48,.agg #[.string ⟨#[]⟩,.string ⟨#[]⟩,.nilIface],false⟩
  |111=>some ⟨.struct [(9,0),(9,1),(45,2)],3,48,.agg #[.string ⟨#[]⟩,.string ⟨#[]⟩,.nilIface],false⟩
  |124=>some ⟨.int .u32,1,4,.int .u32 0,false⟩
  |131=>some ⟨.other,1,8,.pointer none,false⟩
  |132=>some ⟨.struct [(9,0)],1,16,.agg #[.string ⟨#[]⟩],false⟩
  |133=>some ⟨.struct [(9,0)],1,16,.agg #[.string ⟨#[]⟩],false⟩
  |142=>some ⟨.struct [(5,0),(5,1)],2,2,.agg #[.int .u8 0,.int .u8 0],false⟩
  |143=>some ⟨.struct [(5,0),(5,1)],2,2,.agg #[.int .u8 0,.int .u8 0],false⟩
  |159=>some ⟨.struct [(17,0),(17,1),(17,2),(9,3)],4,40,.agg #[.pointer none,.pointer none,.pointer none,.string ⟨#[]⟩],false⟩
  |160=>some ⟨.struct [(17,0),(17,1),(17,2),(9,3)],4,40,.agg #[.pointer none,.pointer none,.pointer none,.string ⟨#[]⟩],false⟩
  |165=>some ⟨.int .u8,1,1,.int .u8 0,false⟩
  |166=>some ⟨.int .u8,1,1,.int .u8 0,false⟩
  |168=>some ⟨.int .i32,1,4,.int .i32 0,false⟩
  |169=>some ⟨.int .i32,1,4,.int .i32 0,false⟩
  |170=>some ⟨.struct [(12,0),(12,1),(124,2),(165,3),(5,4),(5,5),(166,6),(167,7),(102,8),(168,9),(169,10)],11,48,.agg #[.int .u64 0,.int .u64 0,.int .u32 0,.int .u8 0,.int .u8 0,.int .u8 0,.int .u8 0,.nilFunc,.pointer none,.int .i32 0,.int .i32 0],false⟩
  |171=>some ⟨.struct [(12,0),(12,1),(124,2),(165,3),(5,4),(5,5),(166,6),(167,7),(102,8),(168,9),(169,10)],11,48,.agg #[.int .u64 0,.int .u64 0,.int .u32 0,.int .u8 0,.int .u8 0,.int .u8 0,.int .u8 0,.nilFunc,.pointer none,.int .i32 0,.int .i32 0],false⟩
  |_=>none
theorem env2:env 2=some ⟨.int .i64,1,8,.int .i64 0,false⟩:=Eq.trans rfl rfl
theorem env3:env 3=some ⟨.int .i64,1,8,.int .i64 0,false⟩:=Eq.trans rfl rfl
theorem env4:env 4=some ⟨.bool,1,1,.bool false,false⟩:=Eq.trans rfl rfl
theorem env5:env 5=some ⟨.int .u8,1,1,.int .u8 0,false⟩:=Eq.trans rfl rfl
theorem env6:env 6=some ⟨.int .u8,1,1,.int .u8 0,false⟩:=Eq.trans rfl rfl
theorem env7:env 7=some ⟨.struct [(2,0),(3,1),(4,2),(6,3)],4,24,.agg #[.int .i64 0,.int .i64 0,.bool false,.int .u8 0],false⟩:=Eq.trans rfl rfl
theorem env8:env 8=some ⟨.struct [(2,0),(3,1),(4,2),(6,3)],4,24,.agg #[.int .i64 0,.int .i64 0,.bool false,.int .u8 0],false⟩:=Eq.trans rfl rfl
theorem env9:env 9=some ⟨.str,1,16,.string ⟨#[]⟩,false⟩:=Eq.trans rfl rfl
theorem env10:env 10=some ⟨.str,1,16,.string ⟨#[]⟩,false⟩:=Eq.trans rfl rfl
theorem env11:env 11=some ⟨.str,1,16,.string ⟨#[]⟩,false⟩:=Eq.trans rfl rfl
theorem env12:env 12=some ⟨.int .u64,1,8,.int .u64 0,false⟩:=Eq.trans rfl rfl
theorem env13:env 13=some ⟨.struct [(9,0),(12,1)],2,24,.agg #[.string ⟨#[]⟩,.int .u64 0],false⟩:=Eq.trans rfl rfl
theorem env14:env 14=some ⟨.struct [(9,0),(12,1)],2,24,.agg #[.string ⟨#[]⟩,.int .u64 0],false⟩:=Eq.trans rfl rfl
theorem env15:env 15=some ⟨.other,1,8,.pointer none,false⟩:=Eq.trans rfl rfl
theorem env16:env 16=some ⟨.other,1,8,.pointer none,false⟩:=Eq.trans rfl rfl
theorem env17:env 17=some ⟨.other,1,8,.pointer none,false⟩:=Eq.trans rfl rfl
theorem env18:env 18=some ⟨.struct [(17,0)],1,8,.agg #[.pointer none],false⟩:=Eq.trans rfl rfl
theorem env19:env 19=some ⟨.struct [(17,0)],1,8,.agg #[.pointer none],false⟩:=Eq.trans rfl rfl
theorem env21:env 21=some ⟨.int .i32,1,4,.int .i32 0,false⟩:=Eq.trans rfl rfl
theorem env22:env 22=some ⟨.slice 5,1,24,.slice none 0 0,false⟩:=Eq.trans rfl rfl
theorem env24:env 24=some ⟨.slice 48,1,24,.slice none 0 0,false⟩:=Eq.trans rfl rfl
theorem env25:env 25=some ⟨.struct [(2,0),(24,1)],2,32,.agg #[.int .i64 0,.slice none 0 0],false⟩:=Eq.trans rfl rfl
theorem env26:env 26=some ⟨.struct [(2,0),(24,1)],2,32,.agg #[.int .i64 0,.slice none 0 0],false⟩:=Eq.trans rfl rfl
theorem env35:env 35=some ⟨.other,1,8,.pointer none,false⟩:=Eq.trans rfl rfl
theorem env38:env 38=some ⟨.other,1,8,.pointer none,false⟩:=Eq.trans rfl rfl
theorem env42:env 42=some ⟨.slice 9,1,24,.slice none 0 0,false⟩:=Eq.trans rfl rfl
theorem env48:env 48=some ⟨.slice 2,1,24,.slice none 0 0,false⟩:=Eq.trans rfl rfl
theorem env54:env 54=some ⟨.struct [(22,0),(3,1),(2,2)],3,40,.agg #[.slice none 0 0,.int .i64 0,.int .i64 0],false⟩:=Eq.trans rfl rfl
theorem env55:env 55=some ⟨.struct [(22,0),(3,1),(2,2)],3,40,.agg #[.slice none 0 0,.int .i64 0,.int .i64 0],false⟩:=Eq.trans rfl rfl
theorem env65:env 65=some ⟨.slice 24,1,24,.slice none 0 0,false⟩:=Eq.trans rfl rfl
theorem env66:env 66=some ⟨.struct [(48,0),(24,1),(65,2)],3,72,.agg #[.slice none 0 0,.slice none 0 0,.slice none 0 0],false⟩:=Eq.trans rfl rfl
theorem env67:env 67=some ⟨.struct [(48,0),(24,1),(65,2)],3,72,.agg #[.slice none 0 0,.slice none 0 0,.slice none 0 0],false⟩:=Eq.trans rfl rfl
theorem env72:env 72=some ⟨.other,1,8,.pointer none,false⟩:=Eq.trans rfl rfl
theorem env73:env 73=some ⟨.struct [(72,0),(22,1)],2,32,.agg #[.pointer none,.slice none 0 0],false⟩:=Eq.trans rfl rfl
theorem env74:env 74=some ⟨.struct [(72,0),(22,1)],2,32,.agg #[.pointer none,.slice none 0 0],false⟩:=Eq.trans rfl rfl
theorem env81:env 81=some ⟨.int .i64,1,8,.int .i64 0,false⟩:=Eq.trans rfl rfl
theorem env82:env 82=some ⟨.int .u64,1,8,.int .u64 0,false⟩:=Eq.trans rfl rfl
theorem env85:env 85=some ⟨.int .u64,1,8,.int .u64 0,false⟩:=Eq.trans rfl rfl
theorem env86:env 86=some ⟨.other,1,8,.pointer none,false⟩:=Eq.trans rfl rfl
theorem env102:env 102=some ⟨.other,1,8,.pointer none,false⟩:=Eq.trans rfl rfl
theorem env110:env 110=some ⟨.struct [(9,0),(9,1),(45,2)],3,48,.agg #[.string ⟨#[]⟩,.string ⟨#[]⟩,.nilIface],false⟩:=Eq.trans rfl rfl
theorem env111:env 111=some ⟨.struct [(9,0),(9,1),(45,2)],3,48,.agg #[.string ⟨#[]⟩,.string ⟨#[]⟩,.nilIface],false⟩:=Eq.trans rfl rfl
theorem env124:env 124=some ⟨.int .u32,1,4,.int .u32 0,false⟩:=Eq.trans rfl rfl
theorem env131:env 131=some ⟨.other,1,8,.pointer none,false⟩:=Eq.trans rfl rfl
theorem env132:env 132=some ⟨.struct [(9,0)],1,16,.agg #[.string ⟨#[]⟩],false⟩:=Eq.trans rfl rfl
theorem env133:env 133=some ⟨.struct [(9,0)],1,16,.agg #[.string ⟨#[]⟩],false⟩:=Eq.trans rfl rfl
theorem env142:env 142=some ⟨.struct [(5,0),(5,1)],2,2,.agg #[.int .u8 0,.int .u8 0],false⟩:=Eq.trans rfl rfl
theorem env143:env 143=some ⟨.struct [(5,0),(5,1)],2,2,.agg #[.int .u8 0,.int .u8 0],false⟩:=Eq.trans rfl rfl
theorem env159:env 159=some ⟨.struct [(17,0),(17,1),(17,2),(9,3)],4,40,.agg #[.pointer none,.pointer none,.pointer none,.string ⟨#[]⟩],false⟩:=Eq.trans rfl rfl
theorem env160:env 160=some ⟨.struct [(17,0),(17,1),(17,2),(9,3)],4,40,.agg #[.pointer none,.pointer none,.pointer none,.string ⟨#[]⟩],false⟩:=Eq.trans rfl rfl
theorem env165:env 165=some ⟨.int .u8,1,1,.int .u8 0,false⟩:=Eq.trans rfl rfl
theorem env166:env 166=some ⟨.int .u8,1,1,.int .u8 0,false⟩:=Eq.trans rfl rfl
theorem env168:env 168=some ⟨.int .i32,1,4,.int .i32 0,false⟩:=Eq.trans rfl rfl
theorem env169:env 169=some ⟨.int .i32,1,4,.int .i32 0,false⟩:=Eq.trans rfl rfl
theorem env170:env 170=some ⟨.struct [(12,0),(12,1),(124,2),(165,3),(5,4),(5,5),(166,6),(167,7),(102,8),(168,9),(169,10)],11,48,.agg #[.int .u64 0,.int .u64 0,.int .u32 0,.int .u8 0,.int .u8 0,.int .u8 0,.int .u8 0,.nilFunc,.pointer none,.int .i32 0,.int .i32 0],false⟩:=Eq.trans rfl rfl
theorem env171:env 171=some ⟨.struct [(12,0),(12,1),(124,2),(165,3),(5,4),(5,5),(166,6),(167,7),(102,8),(168,9),(169,10)],11,48,.agg #[.int .u64 0,.int .u64 0,.int .u32 0,.int .u8 0,.int .u8 0,.int .u8 0,.int .u8 0,.nilFunc,.pointer none,.int .i32 0,.int .i32 0],false⟩:=Eq.trans rfl rfl
attribute [go_sem] env2 env3 env4 env5 env6 env7 env8 env9 env10 env11 env12 env13 env14 env15 env16 env17 env18 env19 env21 env22 env24 env25 env26 env35 env38 env42 env48 env54 env55 env65 env66 env67 env72 env73 env74 env81 env82 env85 env86 env102 env110 env111 env124 env131 env132 env133 env142 env143 env159 env160 env165 env166 env168 env169 env170 env171
theorem tok2:TOk Tryz.prog 2 ⟨.int .i64,1,8,.int .i64 0,false⟩:=⟨by kernel_rfl,by kernel_rfl,fun h=>by cases h⟩
theorem tok3:TOk Tryz.prog 3 ⟨.int .i64,1,8,.int .i64 0,false⟩:=⟨by kernel_rfl,by kernel_rfl,fun h=>by cases h⟩
theorem tok4:TOk Tryz.prog 4 ⟨.bool,1,1,.bool false,false⟩:=⟨by kernel_rfl,by kernel_rfl,fun h=>by cases h⟩
theorem tok5:TOk Tryz.prog 5 ⟨.int .u8,1,1,.int .u8 0,false⟩:=⟨by kernel_rfl,by kernel_rfl,fun h=>by cases h⟩
theorem tok6:TOk Tryz.prog 6 ⟨.int .u8,1,1,.int .u8 0,false⟩:=⟨by kernel_rfl,by kernel_rfl,fun h=>by cases h⟩
theorem tok7:TOk Tryz.prog 7 ⟨.struct [(2,0),(3,1),(4,2),(6,3)],4,24,.agg #[.int .i64 0,.int .i64 0,.bool false,.int .u8 0],false⟩:=⟨by kernel_rfl,by kernel_rfl,fun h=>by cases h⟩
theorem tok8:TOk Tryz.prog 8 ⟨.struct [(2,0),(3,1),(4,2),(6,3)],4,24,.agg #[.int .i64 0,.int .i64 0,.bool false,.int .u8 0],false⟩:=⟨by kernel_rfl,by kernel_rfl,fun h=>by cases h⟩
theorem tok9:TOk Tryz.prog 9 ⟨.str,1,16,.string ⟨#[]⟩,false⟩:=⟨by kernel_rfl,by kernel_rfl,fun h=>by cases h⟩
theorem tok10:TOk Tryz.prog 10 ⟨.str,1,16,.string ⟨#[]⟩,false⟩:=⟨by kernel_rfl,by kernel_rfl,fun h=>by cases h⟩
theorem tok11:TOk Tryz.prog 11 ⟨.str,1,16,.string ⟨#[]⟩,false⟩:=⟨by kernel_rfl,by kernel_rfl,fun h=>by cases h⟩
theorem tok12:TOk Tryz.prog 12 ⟨.int .u64,1,8,.int .u64 0,false⟩:=⟨by kernel_rfl,by kernel_rfl,fun h=>by cases h⟩
theorem tok13:TOk Tryz.prog 13 ⟨.struct [(9,0),(12,1)],2,24,.agg #[.string ⟨#[]⟩,.int .u64 0],false⟩:=⟨by kernel_rfl,by kernel_rfl,fun h=>by cases h⟩
theorem tok14:TOk Tryz.prog 14 ⟨.struct [(9,0),(12,1)],2,24,.agg #[.string ⟨#[]⟩,.int .u64 0],false⟩:=⟨by kernel_rfl,by kernel_rfl,fun h=>by cases h⟩
theorem tok15:TOk Tryz.prog 15 ⟨.other,1,8,.pointer none,false⟩:=⟨by kernel_rfl,by kernel_rfl,fun h=>by cases h⟩
theorem tok16:TOk Tryz.prog 16 ⟨.other,1,8,.pointer none,false⟩:=⟨by kernel_rfl,by kernel_rfl,fun h=>by cases h⟩
theorem tok17:TOk Tryz.prog 17 ⟨.other,1,8,.pointer none,false⟩:=⟨by kernel_rfl,by kernel_rfl,fun h=>by cases h⟩
theorem tok18:TOk Tryz.prog 18 ⟨.struct [(17,0)],1,8,.agg #[.pointer none],false⟩:=⟨by kernel_rfl,by kernel_rfl,fun h=>by cases h⟩
theorem tok19:TOk Tryz.prog 19 ⟨.struct [(17,0)],1,8,.agg #[.pointer none],false⟩:=⟨by kernel_rfl,by kernel_rfl,fun h=>by cases h⟩
theorem tok21:TOk Tryz.prog 21 ⟨.int .i32,1,4,.int .i32 0,false⟩:=⟨by kernel_rfl,by kernel_rfl,fun h=>by cases h⟩
theorem tok22:TOk Tryz.prog 22 ⟨.slice 5,1,24,.slice none 0 0,false⟩:=⟨by kernel_rfl,by kernel_rfl,fun h=>by cases h⟩
theorem tok24:TOk Tryz.prog 24 ⟨.slice 48,1,24,.slice none 0 0,false⟩:=⟨by kernel_rfl,by kernel_rfl,fun h=>by cases h⟩
theorem tok25:TOk Tryz.prog 25 ⟨.struct [(2,0),(24,1)],2,32,.agg #[.int .i64 0,.slice none 0 0],false⟩:=⟨by kernel_rfl,by kernel_rfl,fun h=>by cases h⟩
theorem tok26:TOk Tryz.prog 26 ⟨.struct [(2,0),(24,1)],2,32,.agg #[.int .i64 0,.slice none 0 0],false⟩:=⟨by kernel_rfl,by kernel_rfl,fun h=>by cases h⟩
theorem tok35:TOk Tryz.prog 35 ⟨.other,1,8,.pointer none,false⟩:=⟨by kernel_rfl,by kernel_rfl,fun h=>by cases h⟩
theorem tok38:TOk Tryz.prog 38 ⟨.other,1,8,.pointer none,false⟩:=⟨by kernel_rfl,by kernel_rfl,fun h=>by cases h⟩
theorem tok42:TOk Tryz.prog 42 ⟨.slice 9,1,24,.slice none 0 0,false⟩:=⟨by kernel_rfl,by kernel_rfl,fun h=>by cases h⟩
theorem tok48:TOk Tryz.prog 48 ⟨.slice 2,1,24,.slice none 0 0,false⟩:=⟨by kernel_rfl,by kernel_rfl,fun h=>by cases h⟩
theorem tok54:TOk Tryz.prog 54 ⟨.struct [(22,0),(3,1),(2,2)],3,40,.agg #[.slice none 0 0,.int .i64 0,.int .i64 0],false⟩:=⟨by kernel_rfl,by kernel_rfl,fun h=>by cases h⟩
theorem tok55:TOk Tryz.prog 55 ⟨.struct [(22,0),(3,1),(2,2)],3,40,.agg #[.slice none 0 0,.int .i64 0,.int .i64 0],false⟩:=⟨by kernel_rfl,by kernel_rfl,fun h=>by cases h⟩
theorem tok65:TOk Tryz.prog 65 ⟨.slice 24,1,24,.slice none 0 0,false⟩:=⟨by kernel_rfl,by kernel_rfl,fun h=>by cases h⟩
theorem tok66:TOk Tryz.prog 66 ⟨.struct [(48,0),(24,1),(65,2)],3,72,.agg #[.slice none 0 0,.slice none 0 0,.slice none 0 0],false⟩:=⟨by kernel_rfl,by kernel_rfl,fun h=>by cases h⟩
theorem tok67:TOk Tryz.prog 67 ⟨.struct [(48,0),(24,1),(65,2)],3,72,.agg #[.slice none 0 0,.slice none 0 0,.slice none 0 0],false⟩:=⟨by kernel_rfl,by kernel_rfl,fun h=>by cases h⟩
theorem tok72:TOk Tryz.prog 72 ⟨.other,1,8,.pointer none,false⟩:=⟨by kernel_rfl,by kernel_rfl,fun h=>by cases h⟩
theorem tok73:TOk Tryz.prog 73 ⟨.struct [(72,0),(22,1)],2,32,.agg #[.pointer none,.slice none 0 0],false⟩:=⟨by kernel_rfl,by kernel_rfl,fun h=>by cases h⟩
theorem tok74:TOk Tryz.prog 74 ⟨.struct [(72,0),(22,1)],2,32,.agg #[.pointer none,.slice none 0 0],false⟩:=⟨by kernel_rfl,by kernel_rfl,fun h=>by cases h⟩
theorem tok81:TOk Tryz.prog 81 ⟨.int .i64,1,8,.int .i64 0,false⟩:=⟨by kernel_rfl,by kernel_rfl,fun h=>by cases h⟩
theorem tok82:TOk Tryz.prog 82 ⟨.int .u64,1,8,.int .u64 0,false⟩:=⟨by kernel_rfl,by kernel_rfl,fun h=>by cases h⟩
theorem tok85:TOk Tryz.prog 85 ⟨.int .u64,1,8,.int .u64 0,false⟩:=⟨by kernel_rfl,by kernel_rfl,fun h=>by cases h⟩
theorem tok86:TOk Tryz.prog 86 ⟨.other,1,8,.pointer none,false⟩:=⟨by kernel_rfl,by kernel_rfl,fun h=>by cases h⟩
theorem tok102:TOk Tryz.prog 102 ⟨.other,1,8,.pointer none,false⟩:=⟨by kernel_rfl,by kernel_rfl,fun h=>by cases h⟩
theorem tok110:TOk Tryz.prog 110 ⟨.struct [(9,0),(9,1),(45,2)],3,48,.agg #[.string ⟨#[]⟩,.string ⟨#[]⟩,.nilIface],false⟩:=⟨by kernel_rfl,by kernel_rfl,fun h=>by cases h⟩
theorem tok111:TOk Tryz.prog 111 ⟨.struct [(9,0),(9,1),(45,2)],3,48,.agg #[.string ⟨#[]⟩,.string ⟨#[]⟩,.nilIface],false⟩:=⟨by kernel_rfl,by kernel_rfl,fun h=>by cases h⟩
theorem tok124:TOk Tryz.prog 124 ⟨.int .u32,1,4,.int .u32 0,false⟩:=⟨by kernel_rfl,by kernel_rfl,fun h=>by cases h⟩
theorem tok131:TOk Tryz.prog 131 ⟨.other,1,8,.pointer none,false⟩:=⟨by kernel_rfl,by kernel_rfl,fun h=>by cases h⟩
theorem tok132:TOk Tryz.prog 132 ⟨.struct [(9,0)],1,16,.agg #[.string ⟨#[]⟩],false⟩:=⟨by kernel_rfl,by kernel_rfl,fun h=>by cases h⟩
theorem tok133:TOk Tryz.prog 133 ⟨.struct [(9,0)],1,16,.agg #[.string ⟨#[]⟩],false⟩:=⟨by kernel_rfl,by kernel_rfl,fun h=>by cases h⟩
theorem tok142:TOk Tryz.prog 142 ⟨.struct [(5,0),(5,1)],2,2,.agg #[.int .u8 0,.int .u8 0],false⟩:=⟨by kernel_rfl,by kernel_rfl,fun h=>by cases h⟩
theorem tok143:TOk Tryz.prog 143 ⟨.struct [(5,0),(5,1)],2,2,.agg #[.int .u8 0,.int .u8 0],false⟩:=⟨by kernel_rfl,by kernel_rfl,fun h=>by cases h⟩
theorem tok159:TOk Tryz.prog 159 ⟨.struct [(17,0),(17,1),(17,2),(9,3)],4,40,.agg #[.pointer none,.pointer none,.pointer none,.string ⟨#[]⟩],false⟩:=⟨by kernel_rfl,by kernel_rfl,fun h=>by cases h⟩
theorem tok160:TOk Tryz.prog 160 ⟨.struct [(17,0),(17,1),(17,2),(9,3)],4,40,.agg #[.pointer none,.pointer none,.pointer none,.string ⟨#[]⟩],false⟩:=⟨by kernel_rfl,by kernel_rfl,fun h=>by cases h⟩
theorem tok165:TOk Tryz.prog 165 ⟨.int .u8,1,1,.int .u8 0,false⟩:=⟨by kernel_rfl,by kernel_rfl,fun h=>by cases h⟩
theorem tok166:TOk Tryz.prog 166 ⟨.int .u8,1,1,.int .u8 0,false⟩:=⟨by kernel_rfl,by kernel_rfl,fun h=>by cases h⟩
theorem tok168:TOk Tryz.prog 168 ⟨.int .i32,1,4,.int .i32 0,false⟩:=⟨by kernel_rfl,by kernel_rfl,fun h=>by cases h⟩
theorem tok169:TOk Tryz.prog 169 ⟨.int .i32,1,4,.int .i32 0,false⟩:=⟨by kernel_rfl,by kernel_rfl,fun h=>by cases h⟩
theorem tok170:TOk Tryz.prog 170 ⟨.struct [(12,0),(12,1),(124,2),(165,3),(5,4),(5,5),(166,6),(167,7),(102,8),(168,9),(169,10)],11,48,.agg #[.int .u64 0,.int .u64 0,.int .u32 0,.int .u8 0,.int .u8 0,.int .u8 0,.int .u8 0,.nilFunc,.pointer none,.int .i32 0,.int .i32 0],false⟩:=⟨by kernel_rfl,by kernel_rfl,fun h=>by cases h⟩
theorem tok171:TOk Tryz.prog 171 ⟨.struct [(12,0),(12,1),(124,2),(165,3),(5,4),(5,5),(166,6),(167,7),(102,8),(168,9),(169,10)],11,48,.agg #[.int .u64 0,.int .u64 0,.int .u32 0,.int .u8 0,.int .u8 0,.int .u8 0,.int .u8 0,.nilFunc,.pointer none,.int .i32 0,.int .i32 0],false⟩:=⟨by kernel_rfl,by kernel_rfl,fun h=>by cases h⟩
theorem envOk:GOk Tryz.prog env:=by
  intro ty x h
  unfold env at h
  split at h<;>first|(cases h;done)|skip
  · cases h;exact tok2
  · cases h;exact tok3
  · cases h;exact tok4
  · cases h;exact tok5
  · cases h;exact tok6
  · cases h;exact tok7
  · cases h;exact tok8
  · cases h;exact tok9
  · cases h;exact tok10
  · cases h;exact tok11
  · cases h;exact tok12
  · cases h;exact tok13
  · cases h;exact tok14
  · cases h;exact tok15
  · cases h;exact tok16
  · cases h;exact tok17
  · cases h;exact tok18
  · cases h;exact tok19
  · cases h;exact tok21
  · cases h;exact tok22
  · cases h;exact tok24
  · cases h;exact tok25
  · cases h;exact tok26
  · cases h;exact tok35
  · cases h;exact tok38
  · cases h;exact tok42
  · cases h;exact tok48
  · cases h;exact tok54
  · cases h;exact tok55
  · cases h;exact tok65
  · cases h;exact tok66
  · cases h;exact tok67
  · cases h;exact tok72
  · cases h;exact tok73
  · cases h;exact tok74
  · cases h;exact tok81
  · cases h;exact tok82
  · cases h;exact tok85
  · cases h;exact tok86
  · cases h;exact tok102
  · cases h;exact tok110
  · cases h;exact tok111
  · cases h;exact tok124
  · cases h;exact tok131
  · cases h;exact tok132
  · cases h;exact tok133
  · cases h;exact tok142
  · cases h;exact tok143
  · cases h;exact tok159
  · cases h;exact tok160
  · cases h;exact tok165
  · cases h;exact tok166
  · cases h;exact tok168
  · cases h;exact tok169
  · cases h;exact tok170
  · cases h;exact tok171
end Go.Proofs.YtlcddiojeghfgaaGreatDoor
attribute [go_sem_proc] Nat.reduceAdd Nat.reduceSub Nat.reduceGT Nat.reduceEqDiff Nat.reduceMul
