import Derived.Test.YtghmeeifjeafmaaGreatProg
import Derived.KernelRfl
import Derived.Test.YtghmeeifjeafmaaGreatZ07
set_option linter.unusedVariables false
set_option linter.unusedSimpArgs false
namespace Go.Proofs.YtghmeeifjeafmaaGreat
def env:TEnv:=fun t=>match t with
  |2=>some ⟨.int .i64,1,8,.int .i64 0,false⟩
  |3=>some ⟨.int .i64,1,8,.int .i64 0,false⟩
  |4=>some ⟨.bool,1,1,.bool false,false⟩
  |5=>some ⟨.int .u8,1,1,.int .u8 0,false⟩
  |6=>some ⟨.int .u8,1,1,.int .u8 0,false⟩
  |7=>some ⟨.struct [(2,0),(3,1),(4,2),(6,3)],4,24,.agg #[.int .i64 0,.int .i64 0,.bool false,.int .u8 0],false⟩
  |8=>some ⟨.struct [(2,0),(3,1),(4,2),(6,3)],4,24,.agg #[.int .i64 0,.int .i64 0,.bool false,.int .u8 0],false⟩
  |9=>some ⟨.str,1,16,.string ⟨#[]⟩,false⟩
  |10=>some ⟨.str,1,16,.string ⟨#[]⟩,false⟩
  |11=>some ⟨.str,1,16,.string ⟨#[]⟩,false⟩
  |12=>some ⟨.int .u64,1,8,.int .u64 0,false⟩
  |13=>some ⟨.struct [(9,0),(12,1)],2,24,.agg #[.string ⟨#[]⟩,.int .u64 0],false⟩
  |14=>some ⟨.struct [(9,0),(12,1)],2,24,.agg #[.string ⟨#[]⟩,.int .u64 0],false⟩
  |15=>some ⟨.other,1,8,.pointer none,false⟩
  |16=>some ⟨.other,1,8,.pointer none,false⟩
  |17=>some ⟨.other,1,8,.pointer none,false⟩
  |18=>some ⟨.struct [(17,0)],1,8,.agg #[.pointer none],false⟩
  |19=>some ⟨.struct [(17,0)],1,8,.agg #[.pointer none],false⟩
  |21=>some ⟨.int .i32,1,4,.int .i32 0,false⟩
  |22=>some ⟨.slice 5,1,24,.slice none 0 0,false⟩
  |24=>some ⟨.slice 2,1,24,.slice none 0 0,false⟩
  |25=>some ⟨.slice 24,1,24,.slice none 0 0,false⟩
  |26=>some ⟨.slice 25,1,24,.slice none 0 0,false⟩
  |27=>some ⟨.struct [(24,0),(25,1),(26,2)],3,72,.agg #[.slice none 0 0,.slice none 0 0,.slice none 0 0],false⟩
  |28=>some ⟨.struct [(24,0),(25,1),(26,2)],3,72,.agg #[.slice none 0 0,.slice none 0 0,.slice none 0 0],false⟩
  |31=>some ⟨.slice 38,1,24,.slice none 0 0,false⟩
  |37=>some ⟨.struct [(28,0),(28,3),(25,6)],7,168,.agg #[.slice none 0 0,.slice none 0 0,.slice none 0 0,.slice none 0 0,.slice none 0 0,.slice none 0 0,.slice none 0 0],false⟩
  |38=>some ⟨.struct [(28,0),(28,3),(25,6)],7,168,.agg #[.slice none 0 0,.slice none 0 0,.slice none 0 0,.slice none 0 0,.slice none 0 0,.slice none 0 0,.slice none 0 0],false⟩
  |40=>some ⟨.struct [(2,0),(25,1)],2,32,.agg #[.int .i64 0,.slice none 0 0],false⟩
  |41=>some ⟨.struct [(2,0),(25,1)],2,32,.agg #[.int .i64 0,.slice none 0 0],false⟩
  |54=>some ⟨.other,1,8,.pointer none,false⟩
  |58=>some ⟨.other,1,8,.pointer none,false⟩
  |66=>some ⟨.other,1,8,.pointer none,false⟩
  |83=>some ⟨.struct [(22,0),(3,1),(2,2)],3,40,.agg #[.slice none 0 0,.int .i64 0,.int .i64 0],false⟩
  |84=>some ⟨.struct [(22,0),(3,1),(2,2)],3,40,.agg #[.slice none 0 0,.int .i64 0,.int .i64 0],false⟩
  |102=>some ⟨.slice 3,1,24,.slice none 0 0,false⟩
  |104=>some ⟨.other,1,8,.pointer none,false⟩
  |108=>some ⟨.map 2 2,1,8,.map none,false⟩
  |124=>some ⟨.int .u64,1,8,.int .u64 0,false⟩
  |129=>some ⟨.struct [(2,0),(2,1),(2,2),(2,3)],4,32,.agg #[.int .i64 0,.int .i64 0,.int .i64 0,.int .i64 0],true⟩
  |130=>some ⟨.struct [(2,0),(2,1),(2,2),(2,3)],4,32,.agg #[.int .i64 0,.int .i64 0,.int .i64 0,.int .i64 0],true⟩
  |140=>some ⟨.struct [(58,0),(25,1)],2,32,.agg #[.pointer none,.slice none 0 0],false⟩
  |141=>some ⟨.struct [(58,0),(25,1)],2,32,.agg #[.pointer none,.slice none 0 0],false⟩
  |150=>some ⟨.slice 4,1,24,.slice none 0 0,false⟩
  |152=>some ⟨.int .u32,1,4,.int .u32 0,false⟩
  |155=>some ⟨.int .u64,1,8,.int .u64 0,false⟩
  |173=>some ⟨.slice 9,1,24,.slice none 0 0,false⟩
  |188=>some ⟨.struct [(17,0),(17,1),(17,2),(9,3)],4,40,.agg #[.pointer none,.pointer none,.pointer none,.string ⟨#[]⟩],false⟩
  |189=>some ⟨.struct [(17,0),(17,1),(17,2),(9,3)],4,40,.agg #[.pointer none,.pointer none,.pointer none,.string ⟨#[]⟩],false⟩
  |194=>some ⟨.int .u8,1,1,.int .u8 0,false⟩
  |195=>some ⟨.int .u8,1,1,.int .u8 0,false⟩
  |197=>some ⟨.other,1,8,.pointer none,false⟩
  |198=>some ⟨.int .i32,1,4,.int .i32 0,false⟩
  |199=>some ⟨.int .i32,1,4,.int .i32 0,false⟩
  |200=>some ⟨.struct [(12,0),(12,1),(152,2),(194,3),(5,4),(5,5),(195,6),(196,7),(197,8),(198,9),(199,10)],11,48,.agg #[.int .u64 0,.int .u64 0,.int .u32 0,.int .u8 0,.int .u8 0,.int .u8 0,.int .u8 0,.nilFunc,.pointer none,.int .i32 0,.int .i32 0],false⟩
  |201=>some ⟨.struct [(12,0),(12,1),(152,2),(194,3),(5,4),(5,5),(195,6),(196,7),(197,8),(198,9),(199,10)],11,48,.agg #[.int .u64 0,.int .u64 0,.int .u32 0,.int .u8 0,.int .u8 0,.int .u8 0,.int .u8 0,.nilFunc,.pointer none,.int .i32 0,.int .i32 0],false⟩
  |_=>none
theorem env2:env 2=some ⟨.int .i64,1,8,.int .i64 0,false⟩:=Eq.trans rfl rfl
theorem env3:env 3=some ⟨.int .i64,1,8,.int .i64 0,false⟩:=Eq.trans rfl rfl
theorem env4:env 4=some ⟨.bool,1,1,.bool false,false⟩:=Eq.trans rfl rfl
theorem env5:env 5=some ⟨.int .u8,1,1,.int .u8 0,false⟩:=Eq.trans rfl rfl
theorem env6:env 6=some ⟨.int .u8,1,1,.int .u8 0,false⟩:=Eq.trans rfl rfl
theorem env7:env 7=some ⟨.struct [(2,0),(3,1),(4,2),(6,3)],4,24,.agg #[.int .i64 0,.int .i64 0,.bool false,.int .u8 0],false⟩:=Eq.trans rfl rfl
theorem env8:env 8=some ⟨.struct [(2,0),(3,1),(4,2),(6,3)],4,24,.agg #[.int .i64 0,.int .i64 0,.bool false,.int .u8 0],false⟩:=Eq.trans rfl rfl
theorem env9:env 9=some ⟨.str,1,16,.string ⟨#[]⟩,false⟩:=Eq.trans rfl rfl
theorem env10:env 10=some ⟨.str,1,16,.string ⟨#[]⟩,false⟩:=Eq.trans rfl rfl
theorem env11:env 11=some ⟨.str,1,16,.string ⟨#[]⟩,false⟩:=Eq.trans rfl rfl
theorem env12:env 12=some ⟨.int .u64,1,8,.int .u64 0,false⟩:=Eq.trans rfl rfl
theorem env13:env 13=some ⟨.struct [(9,0),(12,1)],2,24,.agg #[.string ⟨#[]⟩,.int .u64 0],false⟩:=Eq.trans rfl rfl
theorem env14:env 14=some ⟨.struct [(9,0),(12,1)],2,24,.agg #[.string ⟨#[]⟩,.int .u64 0],false⟩:=Eq.trans rfl rfl
theorem env15:env 15=some ⟨.other,1,8,.pointer none,false⟩:=Eq.trans rfl rfl
theorem env16:env 16=some ⟨.other,1,8,.pointer none,false⟩:=Eq.trans rfl rfl
theorem env17:env 17=some ⟨.other,1,8,.pointer none,false⟩:=Eq.trans rfl rfl
theorem env18:env 18=some ⟨.struct [(17,0)],1,8,.agg #[.pointer none],false⟩:=Eq.trans rfl rfl
theorem env19:env 19=some ⟨.struct [(17,0)],1,8,.agg #[.pointer none],false⟩:=Eq.trans rfl rfl
theorem env21:env 21=some ⟨.int .i32,1,4,.int .i32 0,false⟩:=Eq.trans rfl rfl
theorem env22:env 22=some ⟨.slice 5,1,24,.slice none 0 0,false⟩:=Eq.trans rfl rfl
theorem env24:env 24=some ⟨.slice 2,1,24,.slice none 0 0,false⟩:=Eq.trans rfl rfl
theorem env25:env 25=some ⟨.slice 24,1,24,.slice none 0 0,false⟩:=Eq.trans rfl rfl
theorem env26:env 26=some ⟨.slice 25,1,24,.slice none 0 0,false⟩:=Eq.trans rfl rfl
theorem env27:env 27=some ⟨.struct [(24,0),(25,1),(26,2)],3,72,.agg #[.slice none 0 0,.slice none 0 0,.slice none 0 0],false⟩:=Eq.trans rfl rfl
theorem env28:env 28=some ⟨.struct [(24,0),(25,1),(26,2)],3,72,.agg #[.slice none 0 0,.slice none 0 0,.slice none 0 0],false⟩:=Eq.trans rfl rfl
theorem env31:env 31=some ⟨.slice 38,1,24,.slice none 0 0,false⟩:=Eq.trans rfl rfl
theorem env37:env 37=some ⟨.struct [(28,0),(28,3),(25,6)],7,168,.agg #[.slice none 0 0,.slice none 0 0,.slice none 0 0,.slice none 0 0,.slice none 0 0,.slice none 0 0,.slice none 0 0],false⟩:=Eq.trans rfl rfl
theorem env38:env 38=some ⟨.struct [(28,0),(28,3),(25,6)],7,168,.agg #[.slice none 0 0,.slice none 0 0,.slice none 0 0,.slice none 0 0,.slice none 0 0,.slice none 0 0,.slice none 0 0],false⟩:=Eq.trans rfl rfl
theorem env40:env 40=some ⟨.struct [(2,0),(25,1)],2,32,.agg #[.int .i64 0,.slice none 0 0],false⟩:=Eq.trans rfl rfl
theorem env41:env 41=some ⟨.struct [(2,0),(25,1)],2,32,.agg #[.int .i64 0,.slice none 0 0],false⟩:=Eq.trans rfl rfl
theorem env54:env 54=some ⟨.other,1,8,.pointer none,false⟩:=Eq.trans rfl rfl
theorem env58:env 58=some ⟨.other,1,8,.pointer none,false⟩:=Eq.trans rfl rfl
theorem env66:env 66=some ⟨.other,1,8,.pointer none,false⟩:=Eq.trans rfl rfl
theorem env83:env 83=some ⟨.struct [(22,0),(3,1),(2,2)],3,40,.agg #[.slice none 0 0,.int .i64 0,.int .i64 0],false⟩:=Eq.trans rfl rfl
theorem env84:env 84=some ⟨.struct [(22,0),(3,1),(2,2)],3,40,.agg #[.slice none 0 0,.int .i64 0,.int .i64 0],false⟩:=Eq.trans rfl rfl
theorem env102:env 102=some ⟨.slice 3,1,24,.slice none 0 0,false⟩:=Eq.trans rfl rfl
theorem env104:env 104=some ⟨.other,1,8,.pointer none,false⟩:=Eq.trans rfl rfl
theorem env108:env 108=some ⟨.map 2 2,1,8,.map none,false⟩:=Eq.trans rfl rfl
theorem env124:env 124=some ⟨.int .u64,1,8,.int .u64 0,false⟩:=Eq.trans rfl rfl
theorem env129:env 129=some ⟨.struct [(2,0),(2,1),(2,2),(2,3)],4,32,.agg #[.int .i64 0,.int .i64 0,.int .i64 0,.int .i64 0],true⟩:=Eq.trans rfl rfl
theorem env130:env 130=some ⟨.struct [(2,0),(2,1),(2,2),(2,3)],4,32,.agg #[.int .i64 0,.int .i64 0,.int .i64 0,.int .i64 0],true⟩:=Eq.trans rfl rfl
theorem env140:env 140=some ⟨.struct [(58,0),(25,1)],2,32,.agg #[.pointer none,.slice none 0 0],false⟩:=Eq.trans rfl rfl
theorem env141:env 141=some ⟨.struct [(58,0),(25,1)],2,32,.agg #[.pointer none,.slice none 0 0],false⟩:=Eq.trans rfl rfl
theorem env150:env 150=some ⟨.slice 4,1,24,.slice none 0 0,false⟩:=Eq.trans rfl rfl
theorem env152:env 152=some ⟨.int .u32,1,4,.int .u32 0,false⟩:=Eq.trans rfl rfl
theorem env155:env 155=some ⟨.int .u64,1,8,.int .u64 0,false⟩:=Eq.trans rfl rfl
theorem env173:env 173=some ⟨.slice 9,1,24,.slice none 0 0,false⟩:=Eq.trans rfl rfl
theorem env188:env 188=some ⟨.struct [(17,0),(17,1),(17,2),(9,3)],4,40,.agg #[.pointer none,.pointer none,.pointer none,.string ⟨#[]⟩],false⟩:=Eq.trans rfl rfl
theorem env189:env 189=some ⟨.struct [(17,0),(17,1),(17,2),(9,3)],4,40,.agg #[.pointer none,.pointer none,.pointer none,.string ⟨#[]⟩],false⟩:=Eq.trans rfl rfl
theorem env194:env 194=some ⟨.int .u8,1,1,.int .u8 0,false⟩:=Eq.trans rfl rfl
theorem env195:env 195=some ⟨.int .u8,1,1,.int .u8 0,false⟩:=Eq.trans rfl rfl
theorem env197:env 197=some ⟨.other,1,8,.pointer none,false⟩:=Eq.trans rfl rfl
theorem env198:env 198=some ⟨.int .i32,1,4,.int .i32 0,false⟩:=Eq.trans rfl rfl
theorem env199:env 199=some ⟨.int .i32,1,4,.int .i32 0,false⟩:=Eq.trans rfl rfl
theorem env200:env 200=some ⟨.struct [(12,0),(12,1),(152,2),(194,3),(5,4),(5,5),(195,6),(196,7),(197,8),(198,9),(199,10)],11,48,.agg #[.int .u64 0,.int .u64 0,.int .u32 0,.int .u8 0,.int .u8 0,.int .u8 0,.int .u8 0,.nilFunc,.pointer none,.int .i32 0,.int .i32 0],false⟩:=Eq.trans rfl rfl
theorem env201:env 201=some ⟨.struct [(12,0),(12,1),(152,2),(194,3),(5,4),(5,5),(195,6),(196,7),(197,8),(198,9),(199,10)],11,48,.agg #[.int .u64 0,.int .u64 0,.int .u32 0,.int .u8 0,.int .u8 0,.int .u8 0,.int .u8 0,.nilFunc,.pointer none,.int .i32 0,.int .i32 0],false⟩:=Eq.trans rfl rfl
attribute [go_sem] env2 env3 env4 env5 env6 env7 env8 env9 env10 env11 env12 env13 env14 env15 env16 env17 env18 env19 env21 env22 env24 env25 env26 env27 env28 env31 env37 env38 env40 env41 env54 env58 env66 env83 env84 env102 env104 env108 env124 env129 env130 env140 env141 env150 env152 env155 env173 env188 env189 env194 env195 env197 env198 env199 env200 env201
theorem tok2:TOk Tryz.prog 2 ⟨.int .i64,1,8,.int .i64 0,false⟩:=⟨by kernel_rfl,by kernel_rfl,fun h=>by cases h⟩
theorem tok3:TOk Tryz.prog 3 ⟨.int .i64,1,8,.int .i64 0,false⟩:=⟨by kernel_rfl,by kernel_rfl,fun h=>by cases h⟩
theorem tok4:TOk Tryz.prog 4 ⟨.bool,1,1,.bool false,false⟩:=⟨by kernel_rfl,by kernel_rfl,fun h=>by cases h⟩
theorem tok5:TOk Tryz.prog 5 ⟨.int .u8,1,1,.int .u8 0,false⟩:=⟨by kernel_rfl,by kernel_rfl,fun h=>by cases h⟩
theorem tok6:TOk Tryz.prog 6 ⟨.int .u8,1,1,.int .u8 0,false⟩:=⟨by kernel_rfl,by kernel_rfl,fun h=>by cases h⟩
theorem tok7:TOk Tryz.prog 7 ⟨.struct [(2,0),(3,1),(4,2),(6,3)],4,24,.agg #[.int .i64 0,.int .i64 0,.bool false,.int .u8 0],false⟩:=⟨by kernel_rfl,by kernel_rfl,fun h=>by cases h⟩
theorem tok8:TOk Tryz.prog 8 ⟨.struct [(2,0),(3,1),(4,2),(6,3)],4,24,.agg #[.int .i64 0,.int .i64 0,.bool false,.int .u8 0],false⟩:=⟨by kernel_rfl,by kernel_rfl,fun h=>by cases h⟩
theorem tok9:TOk Tryz.prog 9 ⟨.str,1,16,.string ⟨#[]⟩,false⟩:=⟨by kernel_rfl,by kernel_rfl,fun h=>by cases h⟩
theorem tok10:TOk Tryz.prog 10 ⟨.str,1,16,.string ⟨#[]⟩,false⟩:=⟨by kernel_rfl,by kernel_rfl,fun h=>by cases h⟩
theorem tok11:TOk Tryz.prog 11 ⟨.str,1,16,.string ⟨#[]⟩,false⟩:=⟨by kernel_rfl,by kernel_rfl,fun h=>by cases h⟩
theorem tok12:TOk Tryz.prog 12 ⟨.int .u64,1,8,.int .u64 0,false⟩:=⟨by kernel_rfl,by kernel_rfl,fun h=>by cases h⟩
theorem tok13:TOk Tryz.prog 13 ⟨.struct [(9,0),(12,1)],2,24,.agg #[.string ⟨#[]⟩,.int .u64 0],false⟩:=⟨by kernel_rfl,by kernel_rfl,fun h=>by cases h⟩
theorem tok14:TOk Tryz.prog 14 ⟨.struct [(9,0),(12,1)],2,24,.agg #[.string ⟨#[]⟩,.int .u64 0],false⟩:=⟨by kernel_rfl,by kernel_rfl,fun h=>by cases h⟩
theorem tok15:TOk Tryz.prog 15 ⟨.other,1,8,.pointer none,false⟩:=⟨by kernel_rfl,by kernel_rfl,fun h=>by cases h⟩
theorem tok16:TOk Tryz.prog 16 ⟨.other,1,8,.pointer none,false⟩:=⟨by kernel_rfl,by kernel_rfl,fun h=>by cases h⟩
theorem tok17:TOk Tryz.prog 17 ⟨.other,1,8,.pointer none,false⟩:=⟨by kernel_rfl,by kernel_rfl,fun h=>by cases h⟩
theorem tok18:TOk Tryz.prog 18 ⟨.struct [(17,0)],1,8,.agg #[.pointer none],false⟩:=⟨by kernel_rfl,by kernel_rfl,fun h=>by cases h⟩
theorem tok19:TOk Tryz.prog 19 ⟨.struct [(17,0)],1,8,.agg #[.pointer none],false⟩:=⟨by kernel_rfl,by kernel_rfl,fun h=>by cases h⟩
theorem tok21:TOk Tryz.prog 21 ⟨.int .i32,1,4,.int .i32 0,false⟩:=⟨by kernel_rfl,by kernel_rfl,fun h=>by cases h⟩
theorem tok22:TOk Tryz.prog 22 ⟨.slice 5,1,24,.slice none 0 0,false⟩:=⟨by kernel_rfl,by kernel_rfl,fun h=>by cases h⟩
theorem tok24:TOk Tryz.prog 24 ⟨.slice 2,1,24,.slice none 0 0,false⟩:=⟨by kernel_rfl,by kernel_rfl,fun h=>by cases h⟩
theorem tok25:TOk Tryz.prog 25 ⟨.slice 24,1,24,.slice none 0 0,false⟩:=⟨by kernel_rfl,by kernel_rfl,fun h=>by cases h⟩
theorem tok26:TOk Tryz.prog 26 ⟨.slice 25,1,24,.slice none 0 0,false⟩:=⟨by kernel_rfl,by kernel_rfl,fun h=>by cases h⟩
theorem tok27:TOk Tryz.prog 27 ⟨.struct [(24,0),(25,1),(26,2)],3,72,.agg #[.slice none 0 0,.slice none 0 0,.slice none 0 0],false⟩:=⟨by kernel_rfl,by kernel_rfl,fun h=>by cases h⟩
theorem tok28:TOk Tryz.prog 28 ⟨.struct [(24,0),(25,1),(26,2)],3,72,.agg #[.slice none 0 0,.slice none 0 0,.slice none 0 0],false⟩:=⟨by kernel_rfl,by kernel_rfl,fun h=>by cases h⟩
theorem tok31:TOk Tryz.prog 31 ⟨.slice 38,1,24,.slice none 0 0,false⟩:=⟨by kernel_rfl,by kernel_rfl,fun h=>by cases h⟩
theorem tok37:TOk Tryz.prog 37 ⟨.struct [(28,0),(28,3),(25,6)],7,168,.agg #[.slice none 0 0,.slice none 0 0,.slice none 0 0,.slice none 0 0,.slice none 0 0,.slice none 0 0,.slice none 0 0],false⟩:=⟨by kernel_rfl,by kernel_rfl,fun h=>by cases h⟩
theorem tok38:TOk Tryz.prog 38 ⟨.struct [(28,0),(28,3),(25,6)],7,168,.agg #[.slice none 0 0,.slice none 0 0,.slice none 0 0,.slice none 0 0,.slice none 0 0,.slice none 0 0,.slice none 0 0],false⟩:=⟨by kernel_rfl,by kernel_rfl,fun h=>by cases h⟩
theorem tok40:TOk Tryz.prog 40 ⟨.struct [(2,0),(25,1)],2,32,.agg #[.int .i64 0,.slice none 0 0],false⟩:=⟨by kernel_rfl,by kernel_rfl,fun h=>by cases h⟩
theorem tok41:TOk Tryz.prog 41 ⟨.struct [(2,0),(25,1)],2,32,.agg #[.int .i64 0,.slice none 0 0],false⟩:=⟨by kernel_rfl,by kernel_rfl,fun h=>by cases h⟩
theorem tok54:TOk Tryz.prog 54 ⟨.other,1,8,.pointer none,false⟩:=⟨by kernel_rfl,by kernel_rfl,fun h=>by cases h⟩
theorem tok58:TOk Tryz.prog 58 ⟨.other,1,8,.pointer none,false⟩:=⟨by kernel_rfl,by kernel_rfl,fun h=>by cases h⟩
theorem tok66:TOk Tryz.prog 66 ⟨.other,1,8,.pointer none,false⟩:=⟨by kernel_rfl,by kernel_rfl,fun h=>by cases h⟩
theorem tok83:TOk Tryz.prog 83 ⟨.struct [(22,0),(3,1),(2,2)],3,40,.agg #[.slice none 0 0,.int .i64 0,.int .i64 0],false⟩:=⟨by kernel_rfl,by kernel_rfl,fun h=>by cases h⟩
theorem tok84:TOk Tryz.prog 84 ⟨.struct [(22,0),(3,1),(2,2)],3,40,.agg #[.slice none 0 0,.int .i64 0,.int .i64 0],false⟩:=⟨by kernel_rfl,by kernel_rfl,fun h=>by cases h⟩
theorem tok102:TOk Tryz.prog 102 ⟨.slice 3,1,24,.slice none 0 0,false⟩:=⟨by kernel_rfl,by kernel_rfl,fun h=>by cases h⟩
theorem tok104:TOk Tryz.prog 104 ⟨.other,1,8,.pointer none,false⟩:=⟨by kernel_rfl,by kernel_rfl,fun h=>by cases h⟩
theorem tok108:TOk Tryz.prog 108 ⟨.map 2 2,1,8,.map none,false⟩:=⟨by kernel_rfl,by kernel_rfl,fun h=>by cases h⟩
theorem tok124:TOk Tryz.prog 124 ⟨.int .u64,1,8,.int .u64 0,false⟩:=⟨by kernel_rfl,by kernel_rfl,fun h=>by cases h⟩
theorem tok129:TOk Tryz.prog 129 ⟨.struct [(2,0),(2,1),(2,2),(2,3)],4,32,.agg #[.int .i64 0,.int .i64 0,.int .i64 0,.int .i64 0],true⟩:=⟨by kernel_rfl,by kernel_rfl,fun _=>by kernel_rfl⟩
theorem tok130:TOk Tryz.prog 130 ⟨.struct [(2,0),(2,1),(2,2),(2,3)],4,32,.agg #[.int .i64 0,.int .i64 0,.int .i64 0,.int .i64 0],true⟩:=⟨by kernel_rfl,by kernel_rfl,fun _=>by kernel_rfl⟩
theorem tok140:TOk Tryz.prog 140 ⟨.struct [(58,0),(25,1)],2,32,.agg #[.pointer none,.slice none 0 0],false⟩:=⟨by kernel_rfl,by kernel_rfl,fun h=>by cases h⟩
theorem tok141:TOk Tryz.prog 141 ⟨.struct [(58,0),(25,1)],2,32,.agg #[.pointer none,.slice none 0 0],false⟩:=⟨by kernel_rfl,by kernel_rfl,fun h=>by cases h⟩
theorem tok150:TOk Tryz.prog 150 ⟨.slice 4,1,24,.slice none 0 0,false⟩:=⟨by kernel_rfl,by kernel_rfl,fun h=>by cases h⟩
theorem tok152:TOk Tryz.prog 152 ⟨.int .u32,1,4,.int .u32 0,false⟩:=⟨by kernel_rfl,by kernel_rfl,fun h=>by cases h⟩
theorem tok155:TOk Tryz.prog 155 ⟨.int .u64,1,8,.int .u64 0,false⟩:=⟨by kernel_rfl,by kernel_rfl,fun h=>by cases h⟩
theorem tok173:TOk Tryz.prog 173 ⟨.slice 9,1,24,.slice none 0 0,false⟩:=⟨by kernel_rfl,by kernel_rfl,fun h=>by cases h⟩
theorem tok188:TOk Tryz.prog 188 ⟨.struct [(17,0),(17,1),(17,2),(9,3)],4,40,.agg #[.pointer none,.pointer none,.pointer none,.string ⟨#[]⟩],false⟩:=⟨by kernel_rfl,by kernel_rfl,fun h=>by cases h⟩
theorem tok189:TOk Tryz.prog 189 ⟨.struct [(17,0),(17,1),(17,2),(9,3)],4,40,.agg #[.pointer none,.pointer none,.pointer none,.string ⟨#[]⟩],false⟩:=⟨by kernel_rfl,by kernel_rfl,fun h=>by cases h⟩
theorem tok194:TOk Tryz.prog 194 ⟨.int .u8,1,1,.int .u8 0,false⟩:=⟨by kernel_rfl,by kernel_rfl,fun h=>by cases h⟩
theorem tok195:TOk Tryz.prog 195 ⟨.int .u8,1,1,.int .u8 0,false⟩:=⟨by kernel_rfl,by kernel_rfl,fun h=>by cases h⟩
theorem tok197:TOk Tryz.prog 197 ⟨.other,1,8,.pointer none,false⟩:=⟨by kernel_rfl,by kernel_rfl,fun h=>by cases h⟩
theorem tok198:TOk Tryz.prog 198 ⟨.int .i32,1,4,.int .i32 0,false⟩:=⟨by kernel_rfl,by kernel_rfl,fun h=>by cases h⟩
theorem tok199:TOk Tryz.prog 199 ⟨.int .i32,1,4,.int .i32 0,false⟩:=⟨by kernel_rfl,by kernel_rfl,fun h=>by cases h⟩
theorem tok200:TOk Tryz.prog 200 ⟨.struct [(12,0),(12,1),(152,2),(194,3),(5,4),(5,5),(195,6),(196,7),(197,8),(198,9),(199,10)],11,48,.agg #[.int .u64 0,.int .u64 0,.int .u32 0,.int .u8 0,.int .u8 0,.int .u8 0,.int .u8 0,.nilFunc,.pointer none,.int .i32 0,.int .i32 0],false⟩:=⟨by kernel_rfl,by kernel_rfl,fun h=>by cases h⟩
theorem tok201:TOk Tryz.prog 201 ⟨.struct [(12,0),(12,1),(152,2),(194,3),(5,4),(5,5),(195,6),(196,7),(197,8),(198,9),(199,10)],11,48,.agg #[.int .u64 0,.int .u64 0,.int .u32 0,.int .u8 0,.int .u8 0,.int .u8 0,.int .u8 0,.nilFunc,.pointer none,.int .i32 0,.int .i32 0],false⟩:=⟨by kernel_rfl,by kernel_rfl,fun h=>by cases h⟩
theorem envOk:GOk Tryz.prog env:=by
  intro ty x h
  unfold env at h
  split at h<;>first|(cases h;done)|skip
  · cases h;exact tok2
  · cases h;exact tok3
  · cases h;exact tok4
  · cases h;exact tok5
  · cases h;exact tok6
  · cases h;exact tok7
  · cases h;exact tok8
  · cases h;exact tok9
  · cases h;exact tok10
  · cases h;exact tok11
  · cases h;exact tok12
  · cases h;exact tok13
  · cases h;exact tok14
  · cases h;exact tok15
  · cases h;exact tok16
  · cases h;exact tok17
  · cases h;exact tok18
  · cases h;exact tok19
  · cases h;exact tok21
  · cases h;exact tok22
  · cases h;exact tok24
  · cases h;exact tok25
  · cases h;exact tok26
  · cases h;exact tok27
  · cases h;exact tok28
  · cases h;exact tok31
  · cases h;exact tok37
  · cases h;exact tok38
  · cases h;exact tok40
  · cases h;exact tok41
  · cases h;exact tok54
  · cases h;exact tok58
  · cases h;exact tok66
  · cases h;exact tok83
  · cases h;exact tok84
  · cases h;exact tok102
  · cases h;exact tok104
  · cases h;exact tok108
  · cases h;exact tok124
  · cases h;exact tok129
  · cases h;exact tok130
  · cases h;exact tok140
  · cases h;exact tok141
  · cases h;exact tok150
  · cases h;exact tok152
  · cases h;exact tok155
  · cases h;exact tok173
  · cases h;exact tok188
  · cases h;exact tok189
  · cases h;exact tok194
  · cases h;exact tok195
  · cases h;exact tok197
  · cases h;exact tok198
  · cases h;exact tok199
  · cases h;exact tok200
  cases h;exact tok201
end Go.Proofs.YtghmeeifjeafmaaGreat
attribute [go_sem_proc] Nat.reduceAdd Nat.reduceSub Nat.reduceGT Nat.reduceEqDiff Nat.reduceMul
attribute [go_sem] Go.undef
