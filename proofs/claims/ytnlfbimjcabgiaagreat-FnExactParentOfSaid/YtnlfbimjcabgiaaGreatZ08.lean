import Derived.Test.YtnlfbimjcabgiaaGreatProg
import Derived.KernelRfl
import Derived.Test.YtnlfbimjcabgiaaGreatZ07
set_option linter.unusedVariables false
set_option linter.unusedSimpArgs false
namespace Go.Proofs.YtnlfbimjcabgiaaGreat
def env:TEnv:=fun t=>match t with
  |2=>some ⟨.int .i64,1,8,.int .i64 0,false⟩
  |3=>some ⟨.int .i64,1,8,.int .i64 0,false⟩
  |4=>some ⟨.bool,1,1,.bool false,false⟩
  |5=>some ⟨.int .u8,1,1,.int .u8 0,false⟩
  |6=>some ⟨.int .u8,1,1,.int .u8 0,false⟩
  |7=>some ⟨.struct [(2,0),(3,1),(4,2),(6,3)],4,24,.agg #[.int .i64 0,.int .i64 0,.bool false,.int .u8 0],false⟩
  |8=>some ⟨.struct [(2,0),(3,1),(4,2),(6,3)],4,24,.agg #[.int .i64 0,.int .i64 0,.bool false,.int .u8 0],false⟩
  |9=>some ⟨.str,1,16,.string ⟨#[]⟩,false⟩
  |10=>some ⟨.str,1,16,.string ⟨#[]⟩,false⟩
  |11=>some ⟨.str,1,16,.string ⟨#[]⟩,false⟩
  |12=>some ⟨.int .u64,1,8,.int .u64 0,false⟩
  |13=>some ⟨.struct [(9,0),(12,1)],2,24,.agg #[.string ⟨#[]⟩,.int .u64 0],false⟩
  |14=>some ⟨.struct [(9,0),(12,1)],2,24,.agg #[.string ⟨#[]⟩,.int .u64 0],false⟩
  |15=>some ⟨.other,1,8,.pointer none,false⟩
  |16=>some ⟨.other,1,8,.pointer none,false⟩
  |17=>some ⟨.other,1,8,.pointer none,false⟩
  |18=>some ⟨.struct [(17,0)],1,8,.agg #[.pointer none],false⟩
  |19=>some ⟨.struct [(17,0)],1,8,.agg #[.pointer none],false⟩
  |21=>some ⟨.int .i32,1,4,.int .i32 0,false⟩
  |22=>some ⟨.slice 25,1,24,.slice none 0 0,false⟩
  |23=>some ⟨.struct [(2,0),(22,1)],2,32,.agg #[.int .i64 0,.slice none 0 0],false⟩
  |24=>some ⟨.struct [(2,0),(22,1)],2,32,.agg #[.int .i64 0,.slice none 0 0],false⟩
  |25=>some ⟨.slice 2,1,24,.slice none 0 0,false⟩
  |26=>some ⟨.slice 22,1,24,.slice none 0 0,false⟩
  |27=>some ⟨.struct [(25,0),(22,1),(26,2)],3,72,.agg #[.slice none 0 0,.slice none 0 0,.slice none 0 0],false⟩
  |28=>some ⟨.struct [(25,0),(22,1),(26,2)],3,72,.agg #[.slice none 0 0,.slice none 0 0,.slice none 0 0],false⟩
  |33=>some ⟨.struct [(2,0),(22,1)],2,32,.agg #[.int .i64 0,.slice none 0 0],false⟩
  |35=>some ⟨.struct [(25,0),(22,1),(26,2)],3,72,.agg #[.slice none 0 0,.slice none 0 0,.slice none 0 0],false⟩
  |55=>some ⟨.other,1,8,.pointer none,false⟩
  |79=>some ⟨.other,1,8,.pointer none,false⟩
  |95=>some ⟨.slice 3,1,24,.slice none 0 0,false⟩
  |108=>some ⟨.struct [(2,0),(2,1),(2,2),(2,3)],4,32,.agg #[.int .i64 0,.int .i64 0,.int .i64 0,.int .i64 0],true⟩
  |109=>some ⟨.struct [(2,0),(2,1),(2,2),(2,3)],4,32,.agg #[.int .i64 0,.int .i64 0,.int .i64 0,.int .i64 0],true⟩
  |114=>some ⟨.struct [(55,0),(22,1)],2,32,.agg #[.pointer none,.slice none 0 0],false⟩
  |115=>some ⟨.struct [(55,0),(22,1)],2,32,.agg #[.pointer none,.slice none 0 0],false⟩
  |141=>some ⟨.struct [(17,0),(17,1),(17,2),(9,3)],4,40,.agg #[.pointer none,.pointer none,.pointer none,.string ⟨#[]⟩],false⟩
  |142=>some ⟨.struct [(17,0),(17,1),(17,2),(9,3)],4,40,.agg #[.pointer none,.pointer none,.pointer none,.string ⟨#[]⟩],false⟩
  |147=>some ⟨.int .u32,1,4,.int .u32 0,false⟩
  |148=>some ⟨.int .u8,1,1,.int .u8 0,false⟩
  |149=>some ⟨.int .u8,1,1,.int .u8 0,false⟩
  |151=>some ⟨.other,1,8,.pointer none,false⟩
  |152=>some ⟨.int .i32,1,4,.int .i32 0,false⟩
  |153=>some ⟨.int .i32,1,4,.int .i32 0,false⟩
  |154=>some ⟨.struct [(12,0),(12,1),(147,2),(148,3),(5,4),(5,5),(149,6),(150,7),(151,8),(152,9),(153,10)],11,48,.agg #[.int .u64 0,.int .u64 0,.int .u32 0,.int .u8 0,.int .u8 0,.int .u8 0,.int .u8 0,.nilFunc,.pointer none,.int .i32 0,.int .i32 0],false⟩
  |155=>some ⟨.struct [(12,0),(12,1),(147,2),(148,3),(5,4),(5,5),(149,6),(150,7),(151,8),(152,9),(153,10)],11,48,.agg #[.int .u64 0,.int .u64 0,.int .u32 0,.int .u8 0,.int .u8 0,.int .u8 0,.int .u8 0,.nilFunc,.pointer none,.int .i32 0,.int .i32 0],false⟩
  |_=>none
theorem env2:env 2=some ⟨.int .i64,1,8,.int .i64 0,false⟩:=Eq.trans rfl rfl
theorem env3:env 3=some ⟨.int .i64,1,8,.int .i64 0,false⟩:=Eq.trans rfl rfl
theorem env4:env 4=some ⟨.bool,1,1,.bool false,false⟩:=Eq.trans rfl rfl
theorem env5:env 5=some ⟨.int .u8,1,1,.int .u8 0,false⟩:=Eq.trans rfl rfl
theorem env6:env 6=some ⟨.int .u8,1,1,.int .u8 0,false⟩:=Eq.trans rfl rfl
theorem env7:env 7=some ⟨.struct [(2,0),(3,1),(4,2),(6,3)],4,24,.agg #[.int .i64 0,.int .i64 0,.bool false,.int .u8 0],false⟩:=Eq.trans rfl rfl
theorem env8:env 8=some ⟨.struct [(2,0),(3,1),(4,2),(6,3)],4,24,.agg #[.int .i64 0,.int .i64 0,.bool false,.int .u8 0],false⟩:=Eq.trans rfl rfl
theorem env9:env 9=some ⟨.str,1,16,.string ⟨#[]⟩,false⟩:=Eq.trans rfl rfl
theorem env10:env 10=some ⟨.str,1,16,.string ⟨#[]⟩,false⟩:=Eq.trans rfl rfl
theorem env11:env 11=some ⟨.str,1,16,.string ⟨#[]⟩,false⟩:=Eq.trans rfl rfl
theorem env12:env 12=some ⟨.int .u64,1,8,.int .u64 0,false⟩:=Eq.trans rfl rfl
theorem env13:env 13=some ⟨.struct [(9,0),(12,1)],2,24,.agg #[.string ⟨#[]⟩,.int .u64 0],false⟩:=Eq.trans rfl rfl
theorem env14:env 14=some ⟨.struct [(9,0),(12,1)],2,24,.agg #[.string ⟨#[]⟩,.int .u64 0],false⟩:=Eq.trans rfl rfl
theorem env15:env 15=some ⟨.other,1,8,.pointer none,false⟩:=Eq.trans rfl rfl
theorem env16:env 16=some ⟨.other,1,8,.pointer none,false⟩:=Eq.trans rfl rfl
theorem env17:env 17=some ⟨.other,1,8,.pointer none,false⟩:=Eq.trans rfl rfl
theorem env18:env 18=some ⟨.struct [(17,0)],1,8,.agg #[.pointer none],false⟩:=Eq.trans rfl rfl
theorem env19:env 19=some ⟨.struct [(17,0)],1,8,.agg #[.pointer none],false⟩:=Eq.trans rfl rfl
theorem env21:env 21=some ⟨.int .i32,1,4,.int .i32 0,false⟩:=Eq.trans rfl rfl
theorem env22:env 22=some ⟨.slice 25,1,24,.slice none 0 0,false⟩:=Eq.trans rfl rfl
theorem env23:env 23=some ⟨.struct [(2,0),(22,1)],2,32,.agg #[.int .i64 0,.slice none 0 0],false⟩:=Eq.trans rfl rfl
theorem env24:env 24=some ⟨.struct [(2,0),(22,1)],2,32,.agg #[.int .i64 0,.slice none 0 0],false⟩:=Eq.trans rfl rfl
theorem env25:env 25=some ⟨.slice 2,1,24,.slice none 0 0,false⟩:=Eq.trans rfl rfl
theorem env26:env 26=some ⟨.slice 22,1,24,.slice none 0 0,false⟩:=Eq.trans rfl rfl
theorem env27:env 27=some ⟨.struct [(25,0),(22,1),(26,2)],3,72,.agg #[.slice none 0 0,.slice none 0 0,.slice none 0 0],false⟩:=Eq.trans rfl rfl
theorem env28:env 28=some ⟨.struct [(25,0),(22,1),(26,2)],3,72,.agg #[.slice none 0 0,.slice none 0 0,.slice none 0 0],false⟩:=Eq.trans rfl rfl
theorem env33:env 33=some ⟨.struct [(2,0),(22,1)],2,32,.agg #[.int .i64 0,.slice none 0 0],false⟩:=Eq.trans rfl rfl
theorem env35:env 35=some ⟨.struct [(25,0),(22,1),(26,2)],3,72,.agg #[.slice none 0 0,.slice none 0 0,.slice none 0 0],false⟩:=Eq.trans rfl rfl
theorem env55:env 55=some ⟨.other,1,8,.pointer none,false⟩:=Eq.trans rfl rfl
theorem env79:env 79=some ⟨.other,1,8,.pointer none,false⟩:=Eq.trans rfl rfl
theorem env95:env 95=some ⟨.slice 3,1,24,.slice none 0 0,false⟩:=Eq.trans rfl rfl
theorem env108:env 108=some ⟨.struct [(2,0),(2,1),(2,2),(2,3)],4,32,.agg #[.int .i64 0,.int .i64 0,.int .i64 0,.int .i64 0],true⟩:=Eq.trans rfl rfl
theorem env109:env 109=some ⟨.struct [(2,0),(2,1),(2,2),(2,3)],4,32,.agg #[.int .i64 0,.int .i64 0,.int .i64 0,.int .i64 0],true⟩:=Eq.trans rfl rfl
theorem env114:env 114=some ⟨.struct [(55,0),(22,1)],2,32,.agg #[.pointer none,.slice none 0 0],false⟩:=Eq.trans rfl rfl
theorem env115:env 115=some ⟨.struct [(55,0),(22,1)],2,32,.agg #[.pointer none,.slice none 0 0],false⟩:=Eq.trans rfl rfl
theorem env141:env 141=some ⟨.struct [(17,0),(17,1),(17,2),(9,3)],4,40,.agg #[.pointer none,.pointer none,.pointer none,.string ⟨#[]⟩],false⟩:=Eq.trans rfl rfl
theorem env142:env 142=some ⟨.struct [(17,0),(17,1),(17,2),(9,3)],4,40,.agg #[.pointer none,.pointer none,.pointer none,.string ⟨#[]⟩],false⟩:=Eq.trans rfl rfl
theorem env147:env 147=some ⟨.int .u32,1,4,.int .u32 0,false⟩:=Eq.trans rfl rfl
theorem env148:env 148=some ⟨.int .u8,1,1,.int .u8 0,false⟩:=Eq.trans rfl rfl
theorem env149:env 149=some ⟨.int .u8,1,1,.int .u8 0,false⟩:=Eq.trans rfl rfl
theorem env151:env 151=some ⟨.other,1,8,.pointer none,false⟩:=Eq.trans rfl rfl
theorem env152:env 152=some ⟨.int .i32,1,4,.int .i32 0,false⟩:=Eq.trans rfl rfl
theorem env153:env 153=some ⟨.int .i32,1,4,.int .i32 0,false⟩:=Eq.trans rfl rfl
theorem env154:env 154=some ⟨.struct [(12,0),(12,1),(147,2),(148,3),(5,4),(5,5),(149,6),(150,7),(151,8),(152,9),(153,10)],11,48,.agg #[.int .u64 0,.int .u64 0,.int .u32 0,.int .u8 0,.int .u8 0,.int .u8 0,.int .u8 0,.nilFunc,.pointer none,.int .i32 0,.int .i32 0],false⟩:=Eq.trans rfl rfl
theorem env155:env 155=some ⟨.struct [(12,0),(12,1),(147,2),(148,3),(5,4),(5,5),(149,6),(150,7),(151,8),(152,9),(153,10)],11,48,.agg #[.int .u64 0,.int .u64 0,.int .u32 0,.int .u8 0,.int .u8 0,.int .u8 0,.int .u8 0,.nilFunc,.pointer none,.int .i32 0,.int .i32 0],false⟩:=Eq.trans rfl rfl
attribute [go_sem] env2 env3 env4 env5 env6 env7 env8 env9 env10 env11 env12 env13 env14 env15 env16 env17 env18 env19 env21 env22 env23 env24 env25 env26 env27 env28 env33 env35 env55 env79 env95 env108 env109 env114 env115 env141 env142 env147 env148 env149 env151 env152 env153 env154 env155
theorem tok2:TOk Tryz.prog 2 ⟨.int .i64,1,8,.int .i64 0,false⟩:=⟨by kernel_rfl,by kernel_rfl,fun h=>by cases h⟩
theorem tok3:TOk Tryz.prog 3 ⟨.int .i64,1,8,.int .i64 0,false⟩:=⟨by kernel_rfl,by kernel_rfl,fun h=>by cases h⟩
theorem tok4:TOk Tryz.prog 4 ⟨.bool,1,1,.bool false,false⟩:=⟨by kernel_rfl,by kernel_rfl,fun h=>by cases h⟩
theorem tok5:TOk Tryz.prog 5 ⟨.int .u8,1,1,.int .u8 0,false⟩:=⟨by kernel_rfl,by kernel_rfl,fun h=>by cases h⟩
theorem tok6:TOk Tryz.prog 6 ⟨.int .u8,1,1,.int .u8 0,false⟩:=⟨by kernel_rfl,by kernel_rfl,fun h=>by cases h⟩
theorem tok7:TOk Tryz.prog 7 ⟨.struct [(2,0),(3,1),(4,2),(6,3)],4,24,.agg #[.int .i64 0,.int .i64 0,.bool false,.int .u8 0],false⟩:=⟨by kernel_rfl,by kernel_rfl,fun h=>by cases h⟩
theorem tok8:TOk Tryz.prog 8 ⟨.struct [(2,0),(3,1),(4,2),(6,3)],4,24,.agg #[.int .i64 0,.int .i64 0,.bool false,.int .u8 0],false⟩:=⟨by kernel_rfl,by kernel_rfl,fun h=>by cases h⟩
theorem tok9:TOk Tryz.prog 9 ⟨.str,1,16,.string ⟨#[]⟩,false⟩:=⟨by kernel_rfl,by kernel_rfl,fun h=>by cases h⟩
theorem tok10:TOk Tryz.prog 10 ⟨.str,1,16,.string ⟨#[]⟩,false⟩:=⟨by kernel_rfl,by kernel_rfl,fun h=>by cases h⟩
theorem tok11:TOk Tryz.prog 11 ⟨.str,1,16,.string ⟨#[]⟩,false⟩:=⟨by kernel_rfl,by kernel_rfl,fun h=>by cases h⟩
theorem tok12:TOk Tryz.prog 12 ⟨.int .u64,1,8,.int .u64 0,false⟩:=⟨by kernel_rfl,by kernel_rfl,fun h=>by cases h⟩
theorem tok13:TOk Tryz.prog 13 ⟨.struct [(9,0),(12,1)],2,24,.agg #[.string ⟨#[]⟩,.int .u64 0],false⟩:=⟨by kernel_rfl,by kernel_rfl,fun h=>by cases h⟩
theorem tok14:TOk Tryz.prog 14 ⟨.struct [(9,0),(12,1)],2,24,.agg #[.string ⟨#[]⟩,.int .u64 0],false⟩:=⟨by kernel_rfl,by kernel_rfl,fun h=>by cases h⟩
theorem tok15:TOk Tryz.prog 15 ⟨.other,1,8,.pointer none,false⟩:=⟨by kernel_rfl,by kernel_rfl,fun h=>by cases h⟩
theorem tok16:TOk Tryz.prog 16 ⟨.other,1,8,.pointer none,false⟩:=⟨by kernel_rfl,by kernel_rfl,fun h=>by cases h⟩
theorem tok17:TOk Tryz.prog 17 ⟨.other,1,8,.pointer none,false⟩:=⟨by kernel_rfl,by kernel_rfl,fun h=>by cases h⟩
theorem tok18:TOk Tryz.prog 18 ⟨.struct [(17,0)],1,8,.agg #[.pointer none],false⟩:=⟨by kernel_rfl,by kernel_rfl,fun h=>by cases h⟩
theorem tok19:TOk Tryz.prog 19 ⟨.struct [(17,0)],1,8,.agg #[.pointer none],false⟩:=⟨by kernel_rfl,by kernel_rfl,fun h=>by cases h⟩
theorem tok21:TOk Tryz.prog 21 ⟨.int .i32,1,4,.int .i32 0,false⟩:=⟨by kernel_rfl,by kernel_rfl,fun h=>by cases h⟩
theorem tok22:TOk Tryz.prog 22 ⟨.slice 25,1,24,.slice none 0 0,false⟩:=⟨by kernel_rfl,by kernel_rfl,fun h=>by cases h⟩
theorem tok23:TOk Tryz.prog 23 ⟨.struct [(2,0),(22,1)],2,32,.agg #[.int .i64 0,.slice none 0 0],false⟩:=⟨by kernel_rfl,by kernel_rfl,fun h=>by cases h⟩
theorem tok24:TOk Tryz.prog 24 ⟨.struct [(2,0),(22,1)],2,32,.agg #[.int .i64 0,.slice none 0 0],false⟩:=⟨by kernel_rfl,by kernel_rfl,fun h=>by cases h⟩
theorem tok25:TOk Tryz.prog 25 ⟨.slice 2,1,24,.slice none 0 0,false⟩:=⟨by kernel_rfl,by kernel_rfl,fun h=>by cases h⟩
theorem tok26:TOk Tryz.prog 26 ⟨.slice 22,1,24,.slice none 0 0,false⟩:=⟨by kernel_rfl,by kernel_rfl,fun h=>by cases h⟩
theorem tok27:TOk Tryz.prog 27 ⟨.struct [(25,0),(22,1),(26,2)],3,72,.agg #[.slice none 0 0,.slice none 0 0,.slice none 0 0],false⟩:=⟨by kernel_rfl,by kernel_rfl,fun h=>by cases h⟩
theorem tok28:TOk Tryz.prog 28 ⟨.struct [(25,0),(22,1),(26,2)],3,72,.agg #[.slice none 0 0,.slice none 0 0,.slice none 0 0],false⟩:=⟨by kernel_rfl,by kernel_rfl,fun h=>by cases h⟩
theorem tok33:TOk Tryz.prog 33 ⟨.struct [(2,0),(22,1)],2,32,.agg #[.int .i64 0,.slice none 0 0],false⟩:=⟨by kernel_rfl,by kernel_rfl,fun h=>by cases h⟩
theorem tok35:TOk Tryz.prog 35 ⟨.struct [(25,0),(22,1),(26,2)],3,72,.agg #[.slice none 0 0,.slice none 0 0,.slice none 0 0],false⟩:=⟨by kernel_rfl,by kernel_rfl,fun h=>by cases h⟩
theorem tok55:TOk Tryz.prog 55 ⟨.other,1,8,.pointer none,false⟩:=⟨by kernel_rfl,by kernel_rfl,fun h=>by cases h⟩
theorem tok79:TOk Tryz.prog 79 ⟨.other,1,8,.pointer none,false⟩:=⟨by kernel_rfl,by kernel_rfl,fun h=>by cases h⟩
theorem tok95:TOk Tryz.prog 95 ⟨.slice 3,1,24,.slice none 0 0,false⟩:=⟨by kernel_rfl,by kernel_rfl,fun h=>by cases h⟩
theorem tok108:TOk Tryz.prog 108 ⟨.struct [(2,0),(2,1),(2,2),(2,3)],4,32,.agg #[.int .i64 0,.int .i64 0,.int .i64 0,.int .i64 0],true⟩:=⟨by kernel_rfl,by kernel_rfl,fun _=>by kernel_rfl⟩
theorem tok109:TOk Tryz.prog 109 ⟨.struct [(2,0),(2,1),(2,2),(2,3)],4,32,.agg #[.int .i64 0,.int .i64 0,.int .i64 0,.int .i64 0],true⟩:=⟨by kernel_rfl,by kernel_rfl,fun _=>by kernel_rfl⟩
theorem tok114:TOk Tryz.prog 114 ⟨.struct [(55,0),(22,1)],2,32,.agg #[.pointer none,.slice none 0 0],false⟩:=⟨by kernel_rfl,by kernel_rfl,fun h=>by cases h⟩
theorem tok115:TOk Tryz.prog 115 ⟨.struct [(55,0),(22,1)],2,32,.agg #[.pointer none,.slice none 0 0],false⟩:=⟨by kernel_rfl,by kernel_rfl,fun h=>by cases h⟩
theorem tok141:TOk Tryz.prog 141 ⟨.struct [(17,0),(17,1),(17,2),(9,3)],4,40,.agg #[.pointer none,.pointer none,.pointer none,.string ⟨#[]⟩],false⟩:=⟨by kernel_rfl,by kernel_rfl,fun h=>by cases h⟩
theorem tok142:TOk Tryz.prog 142 ⟨.struct [(17,0),(17,1),(17,2),(9,3)],4,40,.agg #[.pointer none,.pointer none,.pointer none,.string ⟨#[]⟩],false⟩:=⟨by kernel_rfl,by kernel_rfl,fun h=>by cases h⟩
theorem tok147:TOk Tryz.prog 147 ⟨.int .u32,1,4,.int .u32 0,false⟩:=⟨by kernel_rfl,by kernel_rfl,fun h=>by cases h⟩
theorem tok148:TOk Tryz.prog 148 ⟨.int .u8,1,1,.int .u8 0,false⟩:=⟨by kernel_rfl,by kernel_rfl,fun h=>by cases h⟩
theorem tok149:TOk Tryz.prog 149 ⟨.int .u8,1,1,.int .u8 0,false⟩:=⟨by kernel_rfl,by kernel_rfl,fun h=>by cases h⟩
theorem tok151:TOk Tryz.prog 151 ⟨.other,1,8,.pointer none,false⟩:=⟨by kernel_rfl,by kernel_rfl,fun h=>by cases h⟩
theorem tok152:TOk Tryz.prog 152 ⟨.int .i32,1,4,.int .i32 0,false⟩:=⟨by kernel_rfl,by kernel_rfl,fun h=>by cases h⟩
theorem tok153:TOk Tryz.prog 153 ⟨.int .i32,1,4,.int .i32 0,false⟩:=⟨by kernel_rfl,by kernel_rfl,fun h=>by cases h⟩
theorem tok154:TOk Tryz.prog 154 ⟨.struct [(12,0),(12,1),(147,2),(148,3),(5,4),(5,5),(149,6),(150,7),(151,8),(152,9),(153,10)],11,48,.agg #[.int .u64 0,.int .u64 0,.int .u32 0,.int .u8 0,.int .u8 0,.int .u8 0,.int .u8 0,.nilFunc,.pointer none,.int .i32 0,.int .i32 0],false⟩:=⟨by kernel_rfl,by kernel_rfl,fun h=>by cases h⟩
theorem tok155:TOk Tryz.prog 155 ⟨.struct [(12,0),(12,1),(147,2),(148,3),(5,4),(5,5),(149,6),(150,7),(151,8),(152,9),(153,10)],11,48,.agg #[.int .u64 0,.int .u64 0,.int .u32 0,.int .u8 0,.int .u8 0,.int .u8 0,.int .u8 0,.nilFunc,.pointer none,.int .i32 0,.int .i32 0],false⟩:=⟨by kernel_rfl,by kernel_rfl,fun h=>by cases h⟩
theorem envOk:GOk Tryz.prog env:=by
  intro ty x h
  unfold env at h
  split at h<;>first|(cases h;done)|skip
  · cases h;exact tok2
  · cases h;exact tok3
  · cases h;exact tok4
  · cases h;exact tok5
  · cases h;exact tok6
  · cases h;exact tok7
  · cases h;exact tok8
  · cases h;exact tok9
  · cases h;exact tok10
  · cases h;exact tok11
  · cases h;exact tok12
  · cases h;exact tok13
  · cases h;exact tok14
  · cases h;exact tok15
  · cases h;exact tok16
  · cases h;exact tok17
  · cases h;exact tok18
  · cases h;exact tok19
  · cases h;exact tok21
  · cases h;exact tok22
  · cases h;exact tok23
  · cases h;exact tok24
  · cases h;exact tok25
  · cases h;exact tok26
  · cases h;exact tok27
  · cases h;exact tok28
  · cases h;exact tok33
  · cases h;exact tok35
  · cases h;exact tok55
  · cases h;exact tok79
  · cases h;exact tok95
  · cases h;exact tok108
  · cases h;exact tok109
  · cases h;exact tok114
  · cases h;exact tok115
  · cases h;exact tok141
  · cases h;exact tok142
  · cases h;exact tok147
  · cases h;exact tok148
  · cases h;exact tok149
  · cases h;exact tok151
  · cases h;exact tok152
  · cases h;exact tok153
  · cases h;exact tok154
  · cases h;exact tok155
end Go.Proofs.YtnlfbimjcabgiaaGreat
attribute [go_sem_proc] Nat.reduceAdd Nat.reduceSub Nat.reduceGT Nat.reduceEqDiff Nat.reduceMul
