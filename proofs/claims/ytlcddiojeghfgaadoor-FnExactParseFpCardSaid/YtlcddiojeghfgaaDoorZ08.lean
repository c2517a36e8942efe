import Derived.Test.YtlcddiojeghfgaaDoorProg
import Derived.KernelRfl
import Derived.Test.YtlcddiojeghfgaaDoorZ07
set_option linter.unusedVariables false
set_option linter.unusedSimpArgs false
namespace Go.Proofs.YtlcddiojeghfgaaDoor
def env:TEnv:=fun t=>match t with
  |2=>some ⟨.int .i64,1,8,.int .i64 0,false⟩
  |3=>some ⟨.int .i64,1,8,.int .i64 0,false⟩
  |4=>some ⟨.bool,1,1,.bool false,false⟩
  |5=>some ⟨.int .u8,1,1,.int .u8 0,false⟩
  |6=>some ⟨.int .u8,1,1,.int .u8 0,false⟩
  |7=>some ⟨.struct [(2,0),(3,1),(4,2),(6,3)],4,24,.agg #[.int .i64 0,.int .i64 0,.bool false,.int .u8 0],false⟩
  |8=>some ⟨.struct [(2,0),(3,1),(4,2),(6,3)],4,24,.agg #[.int .i64 0,.int .i64 0,.bool false,.int .u8 0],false⟩
  |9=>some ⟨.str,1,16,.string ⟨#[]⟩,false⟩
  |10=>some ⟨.str,1,16,.string ⟨#[]⟩,false⟩
  |11=>some ⟨.str,1,16,.string ⟨#[]⟩,false⟩
  |12=>some ⟨.int .u64,1,8,.int .u64 0,false⟩
  |13=>some ⟨.struct [(9,0),(12,1)],2,24,.agg #[.string ⟨#[]⟩,.int .u64 0],false⟩
  |14=>some ⟨.struct [(9,0),(12,1)],2,24,.agg #[.string ⟨#[]⟩,.int .u64 0],false⟩
  |15=>some ⟨.other,1,8,.pointer none,false⟩
  |16=>some ⟨.other,1,8,.pointer none,false⟩
  |17=>some ⟨.other,1,8,.pointer none,false⟩
  |18=>some ⟨.struct [(17,0)],1,8,.agg #[.pointer none],false⟩
  |19=>some ⟨.struct [(17,0)],1,8,.agg #[.pointer none],false⟩
  |21=>some ⟨.int .i32,1,4,.int .i32 0,false⟩
  |22=>some ⟨.slice 33,1,24,.slice none 0 0,false⟩
  |23=>some ⟨.struct [(2,0),(22,1)],2,32,.agg #[.int .i64 0,.slice none 0 0],false⟩
  |24=>some ⟨.struct [(2,0),(22,1)],2,32,.agg #[.int .i64 0,.slice none 0 0],false⟩
  |30=>some ⟨.slice 9,1,24,.slice none 0 0,false⟩
  |33=>some ⟨.slice 2,1,24,.slice none 0 0,false⟩
  |44=>some ⟨.other,1,8,.pointer none,false⟩
  |50=>some ⟨.slice 5,1,24,.slice none 0 0,false⟩
  |59=>some ⟨.int .i64,1,8,.int .i64 0,false⟩
  |60=>some ⟨.int .u64,1,8,.int .u64 0,false⟩
  |63=>some ⟨.int .u64,1,8,.int .u64 0,false⟩
  |64=>some ⟨.other,1,8,.pointer none,false⟩
  |68=>some ⟨.other,1,8,.pointer none,false⟩
  |69=>some ⟨.struct [(68,0),(50,1)],2,32,.agg #[.pointer none,.slice none 0 0],false⟩
  |70=>some ⟨.struct [(68,0),(50,1)],2,32,.agg #[.pointer none,.slice none 0 0],false⟩
  |81=>some ⟨.struct [(9,0),(9,1),(39,2)],3,48,.agg #[.string ⟨#[]⟩,.string ⟨#[]⟩,.nilIface],false⟩
  |82=>some ⟨.struct [(9,0),(9,1),(39,2)],3,48,.agg #[.string ⟨#[]⟩,.string ⟨#[]⟩,.nilIface],false⟩
  |90=>some ⟨.other,1,8,.pointer none,false⟩
  |92=>some ⟨.other,1,8,.pointer none,false⟩
  |93=>some ⟨.struct [(9,0)],1,16,.agg #[.string ⟨#[]⟩],false⟩
  |94=>some ⟨.struct [(9,0)],1,16,.agg #[.string ⟨#[]⟩],false⟩
  |97=>some ⟨.int .u32,1,4,.int .u32 0,false⟩
  |105=>some ⟨.struct [(5,0),(5,1)],2,2,.agg #[.int .u8 0,.int .u8 0],false⟩
  |106=>some ⟨.struct [(5,0),(5,1)],2,2,.agg #[.int .u8 0,.int .u8 0],false⟩
  |113=>some ⟨.struct [(17,0),(17,1),(17,2),(9,3)],4,40,.agg #[.pointer none,.pointer none,.pointer none,.string ⟨#[]⟩],false⟩
  |114=>some ⟨.struct [(17,0),(17,1),(17,2),(9,3)],4,40,.agg #[.pointer none,.pointer none,.pointer none,.string ⟨#[]⟩],false⟩
  |119=>some ⟨.int .u8,1,1,.int .u8 0,false⟩
  |120=>some ⟨.int .u8,1,1,.int .u8 0,false⟩
  |122=>some ⟨.int .i32,1,4,.int .i32 0,false⟩
  |123=>some ⟨.int .i32,1,4,.int .i32 0,false⟩
  |124=>some ⟨.struct [(12,0),(12,1),(97,2),(119,3),(5,4),(5,5),(120,6),(121,7),(90,8),(122,9),(123,10)],11,48,.agg #[.int .u64 0,.int .u64 0,.int .u32 0,.int .u8 0,.int .u8 0,.int .u8 0,.int .u8 0,.nilFunc,.pointer none,.int .i32 0,.int .i32 0],false⟩
  |125=>some ⟨.struct [(12,0),(12,1),(97,2),(119,3),(5,4),(5,5),(120,6),(121,7),(90,8),(122,9),(123,10)],11,48,.agg #[.int .u64 0,.int .u64 0,.int .u32 0,.int .u8 0,.int .u8 0,.int .u8 0,.int .u8 0,.nilFunc,.pointer none,.int .i32 0,.int .i32 0],false⟩
  |_=>none
theorem env2:env 2=some ⟨.int .i64,1,8,.int .i64 0,false⟩:=Eq.trans rfl rfl
theorem env3:env 3=some ⟨.int .i64,1,8,.int .i64 0,false⟩:=Eq.trans rfl rfl
theorem env4:env 4=some ⟨.bool,1,1,.bool false,false⟩:=Eq.trans rfl rfl
theorem env5:env 5=some ⟨.int .u8,1,1,.int .u8 0,false⟩:=Eq.trans rfl rfl
theorem env6:env 6=some ⟨.int .u8,1,1,.int .u8 0,false⟩:=Eq.trans rfl rfl
theorem env7:env 7=some ⟨.struct [(2,0),(3,1),(4,2),(6,3)],4,24,.agg #[.int .i64 0,.int .i64 0,.bool false,.int .u8 0],false⟩:=Eq.trans rfl rfl
theorem env8:env 8=some ⟨.struct [(2,0),(3,1),(4,2),(6,3)],4,24,.agg #[.int .i64 0,.int .i64 0,.bool false,.int .u8 0],false⟩:=Eq.trans rfl rfl
theorem env9:env 9=some ⟨.str,1,16,.string ⟨#[]⟩,false⟩:=Eq.trans rfl rfl
theorem env10:env 10=some ⟨.str,1,16,.string ⟨#[]⟩,false⟩:=Eq.trans rfl rfl
theorem env11:env 11=some ⟨.str,1,16,.string ⟨#[]⟩,false⟩:=Eq.trans rfl rfl
theorem env12:env 12=some ⟨.int .u64,1,8,.int .u64 0,false⟩:=Eq.trans rfl rfl
theorem env13:env 13=some ⟨.struct [(9,0),(12,1)],2,24,.agg #[.string ⟨#[]⟩,.int .u64 0],false⟩:=Eq.trans rfl rfl
theorem env14:env 14=some ⟨.struct [(9,0),(12,1)],2,24,.agg #[.string ⟨#[]⟩,.int .u64 0],false⟩:=Eq.trans rfl rfl
theorem env15:env 15=some ⟨.other,1,8,.pointer none,false⟩:=Eq.trans rfl rfl
theorem env16:env 16=some ⟨.other,1,8,.pointer none,false⟩:=Eq.trans rfl rfl
theorem env17:env 17=some ⟨.other,1,8,.pointer none,false⟩:=Eq.trans rfl rfl
theorem env18:env 18=some ⟨.struct [(17,0)],1,8,.agg #[.pointer none],false⟩:=Eq.trans rfl rfl
theorem env19:env 19=some ⟨.struct [(17,0)],1,8,.agg #[.pointer none],false⟩:=Eq.trans rfl rfl
theorem env21:env 21=some ⟨.int .i32,1,4,.int .i32 0,false⟩:=Eq.trans rfl rfl
theorem env22:env 22=some ⟨.slice 33,1,24,.slice none 0 0,false⟩:=Eq.trans rfl rfl
theorem env23:env 23=some ⟨.struct [(2,0),(22,1)],2,32,.agg #[.int .i64 0,.slice none 0 0],false⟩:=Eq.trans rfl rfl
theorem env24:env 24=some ⟨.struct [(2,0),(22,1)],2,32,.agg #[.int .i64 0,.slice none 0 0],false⟩:=Eq.trans rfl rfl
theorem env30:env 30=some ⟨.slice 9,1,24,.slice none 0 0,false⟩:=Eq.trans rfl rfl
theorem env33:env 33=some ⟨.slice 2,1,24,.slice none 0 0,false⟩:=Eq.trans rfl rfl
theorem env44:env 44=some ⟨.other,1,8,.pointer none,false⟩:=Eq.trans rfl rfl
theorem env50:env 50=some ⟨.slice 5,1,24,.slice none 0 0,false⟩:=Eq.trans rfl rfl
theorem env59:env 59=some ⟨.int .i64,1,8,.int .i64 0,false⟩:=Eq.trans rfl rfl
theorem env60:env 60=some ⟨.int .u64,1,8,.int .u64 0,false⟩:=Eq.trans rfl rfl
theorem env63:env 63=some ⟨.int .u64,1,8,.int .u64 0,false⟩:=Eq.trans rfl rfl
theorem env64:env 64=some ⟨.other,1,8,.pointer none,false⟩:=Eq.trans rfl rfl
theorem env68:env 68=some ⟨.other,1,8,.pointer none,false⟩:=Eq.trans rfl rfl
theorem env69:env 69=some ⟨.struct [(68,0),(50,1)],2,32,.agg #[.pointer none,.slice none 0 0],false⟩:=Eq.trans rfl rfl
theorem env70:env 70=some ⟨.struct [(68,0),(50,1)],2,32,.agg #[.pointer none,.slice none 0 0],false⟩:=Eq.trans rfl rfl
theorem env81:env 81=some ⟨.struct [(9,0),(9,1),(39,2)],3,48,.agg #[.string ⟨#[]⟩,.string ⟨#[]⟩,.nilIface],false⟩:=Eq.trans rfl rfl
theorem env82:env 82=some ⟨.struct [(9,0),(9,1),(39,2)],3,48,.agg #[.string ⟨#[]⟩,.string ⟨#[]⟩,.nilIface],false⟩:=Eq.trans rfl rfl
theorem env90:env 90=some ⟨.other,1,8,.pointer none,false⟩:=Eq.trans rfl rfl
theorem env92:env 92=some ⟨.other,1,8,.pointer none,false⟩:=Eq.trans rfl rfl
theorem env93:env 93=some ⟨.struct [(9,0)],1,16,.agg #[.string ⟨#[]⟩],false⟩:=Eq.trans rfl rfl
theorem env94:env 94=some ⟨.struct [(9,0)],1,16,.agg #[.string ⟨#[]⟩],false⟩:=Eq.trans rfl rfl
theorem env97:env 97=some ⟨.int .u32,1,4,.int .u32 0,false⟩:=Eq.trans rfl rfl
theorem env105:env 105=some ⟨.struct [(5,0),(5,1)],2,2,.agg #[.int .u8 0,.int .u8 0],false⟩:=Eq.trans rfl rfl
theorem env106:env 106=some ⟨.struct [(5,0),(5,1)],2,2,.agg #[.int .u8 0,.int .u8 0],false⟩:=Eq.trans rfl rfl
theorem env113:env 113=some ⟨.struct [(17,0),(17,1),(17,2),(9,3)],4,40,.agg #[.pointer none,.pointer none,.pointer none,.string ⟨#[]⟩],false⟩:=Eq.trans rfl rfl
theorem env114:env 114=some ⟨.struct [(17,0),(17,1),(17,2),(9,3)],4,40,.agg #[.pointer none,.pointer none,.pointer none,.string ⟨#[]⟩],false⟩:=Eq.trans rfl rfl
theorem env119:env 119=some ⟨.int .u8,1,1,.int .u8 0,false⟩:=Eq.trans rfl rfl
theorem env120:env 120=some ⟨.int .u8,1,1,.int .u8 0,false⟩:=Eq.trans rfl rfl
theorem env122:env 122=some ⟨.int .i32,1,4,.int .i32 0,false⟩:=Eq.trans rfl rfl
theorem env123:env 123=some ⟨.int .i32,1,4,.int .i32 0,false⟩:=Eq.trans rfl rfl
theorem env124:env 124=some ⟨.struct [(12,0),(12,1),(97,2),(119,3),(5,4),(5,5),(120,6),(121,7),(90,8),(122,9),(123,10)],11,48,.agg #[.int .u64 0,.int .u64 0,.int .u32 0,.int .u8 0,.int .u8 0,.int .u8 0,.int .u8 0,.nilFunc,.pointer none,.int .i32 0,.int .i32 0],false⟩:=Eq.trans rfl rfl
theorem env125:env 125=some ⟨.struct [(12,0),(12,1),(97,2),(119,3),(5,4),(5,5),(120,6),(121,7),(90,8),(122,9),(123,10)],11,48,.agg #[.int .u64 0,.int .u64 0,.int .u32 0,.int .u8 0,.int .u8 0,.int .u8 0,.int .u8 0,.nilFunc,.pointer none,.int .i32 0,.int .i32 0],false⟩:=Eq.trans rfl rfl
attribute [go_sem] env2 env3 env4 env5 env6 env7 env8 env9 env10 env11 env12 env13 env14 env15 env16 env17 env18 env19 env21 env22 env23 env24 env30 env33 env44 env50 env59 env60 env63 env64 env68 env69 env70 env81 env82 env90 env92 env93 env94 env97 env105 env106 env113 env114 env119 env120 env122 env123 env124 env125
theorem tok2:TOk Tryd.prog 2 ⟨.int .i64,1,8,.int .i64 0,false⟩:=⟨by kernel_rfl,by kernel_rfl,fun h=>by cases h⟩
theorem tok3:TOk Tryd.prog 3 ⟨.int .i64,1,8,.int .i64 0,false⟩:=⟨by kernel_rfl,by kernel_rfl,fun h=>by cases h⟩
theorem tok4:TOk Tryd.prog 4 ⟨.bool,1,1,.bool false,false⟩:=⟨by kernel_rfl,by kernel_rfl,fun h=>by cases h⟩
theorem tok5:TOk Tryd.prog 5 ⟨.int .u8,1,1,.int .u8 0,false⟩:=⟨by kernel_rfl,by kernel_rfl,fun h=>by cases h⟩
theorem tok6:TOk Tryd.prog 6 ⟨.int .u8,1,1,.int .u8 0,false⟩:=⟨by kernel_rfl,by kernel_rfl,fun h=>by cases h⟩
theorem tok7:TOk Tryd.prog 7 ⟨.struct [(2,0),(3,1),(4,2),(6,3)],4,24,.agg #[.int .i64 0,.int .i64 0,.bool false,.int .u8 0],false⟩:=⟨by kernel_rfl,by kernel_rfl,fun h=>by cases h⟩
theorem tok8:TOk Tryd.prog 8 ⟨.struct [(2,0),(3,1),(4,2),(6,3)],4,24,.agg #[.int .i64 0,.int .i64 0,.bool false,.int .u8 0],false⟩:=⟨by kernel_rfl,by kernel_rfl,fun h=>by cases h⟩
theorem tok9:TOk Tryd.prog 9 ⟨.str,1,16,.string ⟨#[]⟩,false⟩:=⟨by kernel_rfl,by kernel_rfl,fun h=>by cases h⟩
theorem tok10:TOk Tryd.prog 10 ⟨.str,1,16,.string ⟨#[]⟩,false⟩:=⟨by kernel_rfl,by kernel_rfl,fun h=>by cases h⟩
theorem tok11:TOk Tryd.prog 11 ⟨.str,1,16,.string ⟨#[]⟩,false⟩:=⟨by kernel_rfl,by kernel_rfl,fun h=>by cases h⟩
theorem tok12:TOk Tryd.prog 12 ⟨.int .u64,1,8,.int .u64 0,false⟩:=⟨by kernel_rfl,by kernel_rfl,fun h=>by cases h⟩
theorem tok13:TOk Tryd.prog 13 ⟨.struct [(9,0),(12,1)],2,24,.agg #[.string ⟨#[]⟩,.int .u64 0],false⟩:=⟨by kernel_rfl,by kernel_rfl,fun h=>by cases h⟩
theorem tok14:TOk Tryd.prog 14 ⟨.struct [(9,0),(12,1)],2,24,.agg #[.string ⟨#[]⟩,.int .u64 0],false⟩:=⟨by kernel_rfl,by kernel_rfl,fun h=>by cases h⟩
theorem tok15:TOk Tryd.prog 15 ⟨.other,1,8,.pointer none,false⟩:=⟨by kernel_rfl,by kernel_rfl,fun h=>by cases h⟩
theorem tok16:TOk Tryd.prog 16 ⟨.other,1,8,.pointer none,false⟩:=⟨by kernel_rfl,by kernel_rfl,fun h=>by cases h⟩
theorem tok17:TOk Tryd.prog 17 ⟨.other,1,8,.pointer none,false⟩:=⟨by kernel_rfl,by kernel_rfl,fun h=>by cases h⟩
theorem tok18:TOk Tryd.prog 18 ⟨.struct [(17,0)],1,8,.agg #[.pointer none],false⟩:=⟨by kernel_rfl,by kernel_rfl,fun h=>by cases h⟩
theorem tok19:TOk Tryd.prog 19 ⟨.struct [(17,0)],1,8,.agg #[.pointer none],false⟩:=⟨by kernel_rfl,by kernel_rfl,fun h=>by cases h⟩
theorem tok21:TOk Tryd.prog 21 ⟨.int .i32,1,4,.int .i32 0,false⟩:=⟨by kernel_rfl,by kernel_rfl,fun h=>by cases h⟩
theorem tok22:TOk Tryd.prog 22 ⟨.slice 33,1,24,.slice none 0 0,false⟩:=⟨by kernel_rfl,by kernel_rfl,fun h=>by cases h⟩
theorem tok23:TOk Tryd.prog 23 ⟨.struct [(2,0),(22,1)],2,32,.agg #[.int .i64 0,.slice none 0 0],false⟩:=⟨by kernel_rfl,by kernel_rfl,fun h=>by cases h⟩
theorem tok24:TOk Tryd.prog 24 ⟨.struct [(2,0),(22,1)],2,32,.agg #[.int .i64 0,.slice none 0 0],false⟩:=⟨by kernel_rfl,by kernel_rfl,fun h=>by cases h⟩
theorem tok30:TOk Tryd.prog 30 ⟨.slice 9,1,24,.slice none 0 0,false⟩:=⟨by kernel_rfl,by kernel_rfl,fun h=>by cases h⟩
theorem tok33:TOk Tryd.prog 33 ⟨.slice 2,1,24,.slice none 0 0,false⟩:=⟨by kernel_rfl,by kernel_rfl,fun h=>by cases h⟩
theorem tok44:TOk Tryd.prog 44 ⟨.other,1,8,.pointer none,false⟩:=⟨by kernel_rfl,by kernel_rfl,fun h=>by cases h⟩
theorem tok50:TOk Tryd.prog 50 ⟨.slice 5,1,24,.slice none 0 0,false⟩:=⟨by kernel_rfl,by kernel_rfl,fun h=>by cases h⟩
theorem tok59:TOk Tryd.prog 59 ⟨.int .i64,1,8,.int .i64 0,false⟩:=⟨by kernel_rfl,by kernel_rfl,fun h=>by cases h⟩
theorem tok60:TOk Tryd.prog 60 ⟨.int .u64,1,8,.int .u64 0,false⟩:=⟨by kernel_rfl,by kernel_rfl,fun h=>by cases h⟩
theorem tok63:TOk Tryd.prog 63 ⟨.int .u64,1,8,.int .u64 0,false⟩:=⟨by kernel_rfl,by kernel_rfl,fun h=>by cases h⟩
theorem tok64:TOk Tryd.prog 64 ⟨.other,1,8,.pointer none,false⟩:=⟨by kernel_rfl,by kernel_rfl,fun h=>by cases h⟩
theorem tok68:TOk Tryd.prog 68 ⟨.other,1,8,.pointer none,false⟩:=⟨by kernel_rfl,by kernel_rfl,fun h=>by cases h⟩
theorem tok69:TOk Tryd.prog 69 ⟨.struct [(68,0),(50,1)],2,32,.agg #[.pointer none,.slice none 0 0],false⟩:=⟨by kernel_rfl,by kernel_rfl,fun h=>by cases h⟩
theorem tok70:TOk Tryd.prog 70 ⟨.struct [(68,0),(50,1)],2,32,.agg #[.pointer none,.slice none 0 0],false⟩:=⟨by kernel_rfl,by kernel_rfl,fun h=>by cases h⟩
theorem tok81:TOk Tryd.prog 81 ⟨.struct [(9,0),(9,1),(39,2)],3,48,.agg #[.string ⟨#[]⟩,.string ⟨#[]⟩,.nilIface],false⟩:=⟨by kernel_rfl,by kernel_rfl,fun h=>by cases h⟩
theorem tok82:TOk Tryd.prog 82 ⟨.struct [(9,0),(9,1),(39,2)],3,48,.agg #[.string ⟨#[]⟩,.string ⟨#[]⟩,.nilIface],false⟩:=⟨by kernel_rfl,by kernel_rfl,fun h=>by cases h⟩
theorem tok90:TOk Tryd.prog 90 ⟨.other,1,8,.pointer none,false⟩:=⟨by kernel_rfl,by kernel_rfl,fun h=>by cases h⟩
theorem tok92:TOk Tryd.prog 92 ⟨.other,1,8,.pointer none,false⟩:=⟨by kernel_rfl,by kernel_rfl,fun h=>by cases h⟩
theorem tok93:TOk Tryd.prog 93 ⟨.struct [(9,0)],1,16,.agg #[.string ⟨#[]⟩],false⟩:=⟨by kernel_rfl,by kernel_rfl,fun h=>by cases h⟩
theorem tok94:TOk Tryd.prog 94 ⟨.struct [(9,0)],1,16,.agg #[.string ⟨#[]⟩],false⟩:=⟨by kernel_rfl,by kernel_rfl,fun h=>by cases h⟩
theorem tok97:TOk Tryd.prog 97 ⟨.int .u32,1,4,.int .u32 0,false⟩:=⟨by kernel_rfl,by kernel_rfl,fun h=>by cases h⟩
theorem tok105:TOk Tryd.prog 105 ⟨.struct [(5,0),(5,1)],2,2,.agg #[.int .u8 0,.int .u8 0],false⟩:=⟨by kernel_rfl,by kernel_rfl,fun h=>by cases h⟩
theorem tok106:TOk Tryd.prog 106 ⟨.struct [(5,0),(5,1)],2,2,.agg #[.int .u8 0,.int .u8 0],false⟩:=⟨by kernel_rfl,by kernel_rfl,fun h=>by cases h⟩
theorem tok113:TOk Tryd.prog 113 ⟨.struct [(17,0),(17,1),(17,2),(9,3)],4,40,.agg #[.pointer none,.pointer none,.pointer none,.string ⟨#[]⟩],false⟩:=⟨by kernel_rfl,by kernel_rfl,fun h=>by cases h⟩
theorem tok114:TOk Tryd.prog 114 ⟨.struct [(17,0),(17,1),(17,2),(9,3)],4,40,.agg #[.pointer none,.pointer none,.pointer none,.string ⟨#[]⟩],false⟩:=⟨by kernel_rfl,by kernel_rfl,fun h=>by cases h⟩
theorem tok119:TOk Tryd.prog 119 ⟨.int .u8,1,1,.int .u8 0,false⟩:=⟨by kernel_rfl,by kernel_rfl,fun h=>by cases h⟩
theorem tok120:TOk Tryd.prog 120 ⟨.int .u8,1,1,.int .u8 0,false⟩:=⟨by kernel_rfl,by kernel_rfl,fun h=>by cases h⟩
theorem tok122:TOk Tryd.prog 122 ⟨.int .i32,1,4,.int .i32 0,false⟩:=⟨by kernel_rfl,by kernel_rfl,fun h=>by cases h⟩
theorem tok123:TOk Tryd.prog 123 ⟨.int .i32,1,4,.int .i32 0,false⟩:=⟨by kernel_rfl,by kernel_rfl,fun h=>by cases h⟩
theorem tok124:TOk Tryd.prog 124 ⟨.struct [(12,0),(12,1),(97,2),(119,3),(5,4),(5,5),(120,6),(121,7),(90,8),(122,9),(123,10)],11,48,.agg #[.int .u64 0,.int .u64 0,.int .u32 0,.int .u8 0,.int .u8 0,.int .u8 0,.int .u8 0,.nilFunc,.pointer none,.int .i32 0,.int .i32 0],false⟩:=⟨by kernel_rfl,by kernel_rfl,fun h=>by cases h⟩
theorem tok125:TOk Tryd.prog 125 ⟨.struct [(12,0),(12,1),(97,2),(119,3),(5,4),(5,5),(120,6),(121,7),(90,8),(122,9),(123,10)],11,48,.agg #[.int .u64 0,.int .u64 0,.int .u32 0,.int .u8 0,.int .u8 0,.int .u8 0,.int .u8 0,.nilFunc,.pointer none,.int .i32 0,.int .i32 0],false⟩:=⟨by kernel_rfl,by kernel_rfl,fun h=>by cases h⟩
theorem envOk:GOk Tryd.prog env:=by
  intro ty x h
  unfold env at h
  split at h<;>first|(cases h;done)|skip
  · cases h;exact tok2
  · cases h;exact tok3
  · cases h;exact tok4
  · cases h;exact tok5
  · cases h;exact tok6
  · cases h;exact tok7
  · cases h;exact tok8
  · cases h;exact tok9
  · cases h;exact tok10
  · cases h;exact tok11
  · cases h;exact tok12
  · cases h;exact tok13
  · cases h;exact tok14
  · cases h;exact tok15
  · cases h;exact tok16
  · cases h;exact tok17
  · cases h;exact tok18
  · cases h;exact tok19
  · cases h;exact tok21
  · cases h;exact tok22
  · cases h;exact tok23
  · cases h;exact tok24
  · cases h;exact tok30
  · cases h;exact tok33
  · cases h;exact tok44
  · cases h;exact tok50
  · cases h;exact tok59
  · cases h;exact tok60
  · cases h;exact tok63
  · cases h;exact tok64
  · cases h;exact tok68
  · cases h;exact tok69
  · cases h;exact tok70
  · cases h;exact tok81
  · cases h;exact tok82
  · cases h;exact tok90
  · cases h;exact tok92
  · cases h;exact tok93
  · cases h;exact tok94
  · cases h;exact tok97
  · cases h;exact tok105
  · cases h;exact tok106
  · cases h;exact tok113
  · cases h;exact tok114
  · cases h;exact tok119
  · cases h;exact tok120
  · cases h;exact tok122
  · cases h;exact tok123
  · cases h;exact tok124
  · cases h;exact tok125
end Go.Proofs.YtlcddiojeghfgaaDoor
attribute [go_sem_proc] Nat.reduceAdd Nat.reduceSub Nat.reduceGT Nat.reduceEqDiff Nat.reduceMul
