import Derived.Test.YteoeedlcpalgbaaDoorProg
import Derived.KernelRfl
import Derived.Test.YteoeedlcpalgbaaDoorZ07
set_option linter.unusedVariables false
set_option linter.unusedSimpArgs false
namespace Go.Proofs.YteoeedlcpalgbaaDoor
def env:TEnv:=fun t=>match t with
  |2=>some ⟨.int .i64,1,8,.int .i64 0,false⟩
  |3=>some ⟨.int .i64,1,8,.int .i64 0,false⟩
  |4=>some ⟨.bool,1,1,.bool false,false⟩
  |5=>some ⟨.int .u8,1,1,.int .u8 0,false⟩
  |6=>some ⟨.int .u8,1,1,.int .u8 0,false⟩
  |7=>some ⟨.struct [(2,0),(3,1),(4,2),(6,3)],4,24,.agg #[.int .i64 0,.int .i64 0,.bool false,.int .u8 0],false⟩
  |8=>some ⟨.struct [(2,0),(3,1),(4,2),(6,3)],4,24,.agg #[.int .i64 0,.int .i64 0,.bool false,.int .u8 0],false⟩
  |9=>some ⟨.str,1,16,.string ⟨#[]⟩,false⟩
  |10=>some ⟨.str,1,16,.string ⟨#[]⟩,false⟩
  |11=>some ⟨.str,1,16,.string ⟨#[]⟩,false⟩
  |12=>some ⟨.int .u64,1,8,.int .u64 0,false⟩
  |13=>some ⟨.struct [(9,0),(12,1)],2,24,.agg #[.string ⟨#[]⟩,.int .u64 0],false⟩
  |14=>some ⟨.struct [(9,0),(12,1)],2,24,.agg #[.string ⟨#[]⟩,.int .u64 0],false⟩
  |15=>some ⟨.other,1,8,.pointer none,false⟩
  |16=>some ⟨.other,1,8,.pointer none,false⟩
  |17=>some ⟨.other,1,8,.pointer none,false⟩
  |18=>some ⟨.struct [(17,0)],1,8,.agg #[.pointer none],false⟩
  |19=>some ⟨.struct [(17,0)],1,8,.agg #[.pointer none],false⟩
  |21=>some ⟨.int .i32,1,4,.int .i32 0,false⟩
  |22=>some ⟨.slice 38,1,24,.slice none 0 0,false⟩
  |23=>some ⟨.struct [(2,0),(22,1)],2,32,.agg #[.int .i64 0,.slice none 0 0],false⟩
  |24=>some ⟨.struct [(2,0),(22,1)],2,32,.agg #[.int .i64 0,.slice none 0 0],false⟩
  |28=>some ⟨.struct [(2,0),(22,1)],2,32,.agg #[.int .i64 0,.slice none 0 0],false⟩
  |38=>some ⟨.slice 2,1,24,.slice none 0 0,false⟩
  |50=>some ⟨.other,1,8,.pointer none,false⟩
  |52=>some ⟨.slice 55,1,24,.slice none 0 0,false⟩
  |54=>some ⟨.struct [(2,0),(9,1),(9,2)],3,40,.agg #[.int .i64 0,.string ⟨#[]⟩,.string ⟨#[]⟩],false⟩
  |55=>some ⟨.struct [(2,0),(9,1),(9,2)],3,40,.agg #[.int .i64 0,.string ⟨#[]⟩,.string ⟨#[]⟩],false⟩
  |56=>some ⟨.slice 59,1,24,.slice none 0 0,false⟩
  |58=>some ⟨.struct [(2,0),(2,1),(9,2),(9,3)],4,48,.agg #[.int .i64 0,.int .i64 0,.string ⟨#[]⟩,.string ⟨#[]⟩],false⟩
  |59=>some ⟨.struct [(2,0),(2,1),(9,2),(9,3)],4,48,.agg #[.int .i64 0,.int .i64 0,.string ⟨#[]⟩,.string ⟨#[]⟩],false⟩
  |74=>some ⟨.slice 9,1,24,.slice none 0 0,false⟩
  |84=>some ⟨.slice 5,1,24,.slice none 0 0,false⟩
  |85=>some ⟨.other,1,8,.pointer none,false⟩
  |86=>some ⟨.struct [(85,0),(84,1)],2,32,.agg #[.pointer none,.slice none 0 0],false⟩
  |87=>some ⟨.struct [(85,0),(84,1)],2,32,.agg #[.pointer none,.slice none 0 0],false⟩
  |97=>some ⟨.int .u64,1,8,.int .u64 0,false⟩
  |102=>some ⟨.other,1,8,.pointer none,false⟩
  |107=>some ⟨.int .i64,1,8,.int .i64 0,false⟩
  |110=>some ⟨.int .u64,1,8,.int .u64 0,false⟩
  |111=>some ⟨.other,1,8,.pointer none,false⟩
  |117=>some ⟨.int .u32,1,4,.int .u32 0,false⟩
  |128=>some ⟨.struct [(9,0),(9,1),(81,2)],3,48,.agg #[.string ⟨#[]⟩,.string ⟨#[]⟩,.nilIface],false⟩
  |129=>some ⟨.struct [(9,0),(9,1),(81,2)],3,48,.agg #[.string ⟨#[]⟩,.string ⟨#[]⟩,.nilIface],false⟩
  |133=>some ⟨.struct [(5,0),(5,1)],2,2,.agg #[.int .u8 0,.int .u8 0],false⟩
  |134=>some ⟨.struct [(5,0),(5,1)],2,2,.agg #[.int .u8 0,.int .u8 0],false⟩
  |136=>some ⟨.other,1,8,.pointer none,false⟩
  |137=>some ⟨.struct [(9,0)],1,16,.agg #[.string ⟨#[]⟩],false⟩
  |138=>some ⟨.struct [(9,0)],1,16,.agg #[.string ⟨#[]⟩],false⟩
  |143=>some ⟨.struct [(17,0),(17,1),(17,2),(9,3)],4,40,.agg #[.pointer none,.pointer none,.pointer none,.string ⟨#[]⟩],false⟩
  |144=>some ⟨.struct [(17,0),(17,1),(17,2),(9,3)],4,40,.agg #[.pointer none,.pointer none,.pointer none,.string ⟨#[]⟩],false⟩
  |149=>some ⟨.int .u8,1,1,.int .u8 0,false⟩
  |150=>some ⟨.int .u8,1,1,.int .u8 0,false⟩
  |152=>some ⟨.int .i32,1,4,.int .i32 0,false⟩
  |153=>some ⟨.int .i32,1,4,.int .i32 0,false⟩
  |154=>some ⟨.struct [(12,0),(12,1),(117,2),(149,3),(5,4),(5,5),(150,6),(151,7),(102,8),(152,9),(153,10)],11,48,.agg #[.int .u64 0,.int .u64 0,.int .u32 0,.int .u8 0,.int .u8 0,.int .u8 0,.int .u8 0,.nilFunc,.pointer none,.int .i32 0,.int .i32 0],false⟩
  |155=>some ⟨.struct [(12,0),(12,1),(117,2),(149,3),(5,4),(5,5),(150,6),(151,7),(102,8),(152,9),(153,10)],11,48,.agg #[.int .u64 0,.int .u64 0,.int .u32 0,.int .u8 0,.int .u8 0,.int .u8 0,.int .u8 0,.nilFunc,.pointer none,.int .i32 0,.int .i32 0],false⟩
  |157=>some ⟨.slice 22,1,24,.slice none 0 0,false⟩
  |158=>some ⟨.struct [(38,0),(22,1),(157,2)],3,72,.agg #[.slice none 0 0,.slice none 0 0,.slice none 0 0],false⟩
  |159=>some ⟨.struct [(38,0),(22,1),(157,2)],3,72,.agg #[.slice none 0 0,.slice none 0 0,.slice none 0 0],false⟩
  |_=>none
theorem env2:env 2=some ⟨.int .i64,1,8,.int .i64 0,false⟩:=Eq.trans rfl rfl
theorem env3:env 3=some ⟨.int .i64,1,8,.int .i64 0,false⟩:=Eq.trans rfl rfl
theorem env4:env 4=some ⟨.bool,1,1,.bool false,false⟩:=Eq.trans rfl rfl
theorem env5:env 5=some ⟨.int .u8,1,1,.int .u8 0,false⟩:=Eq.trans rfl rfl
theorem env6:env 6=some ⟨.int .u8,1,1,.int .u8 0,false⟩:=Eq.trans rfl rfl
theorem env7:env 7=some ⟨.struct [(2,0),(3,1),(4,2),(6,3)],4,24,.agg #[.int .i64 0,.int .i64 0,.bool false,.int .u8 0],false⟩:=Eq.trans rfl rfl
theorem env8:env 8=some ⟨.struct [(2,0),(3,1),(4,2),(6,3)],4,24,.agg #[.int .i64 0,.int .i64 0,.bool false,.int .u8 0],false⟩:=Eq.trans rfl rfl
theorem env9:env 9=some ⟨.str,1,16,.string ⟨#[]⟩,false⟩:=Eq.trans rfl rfl
theorem env10:env 10=some ⟨.str,1,16,.string ⟨#[]⟩,false⟩:=Eq.trans rfl rfl
theorem env11:env 11=some ⟨.str,1,16,.string ⟨#[]⟩,false⟩:=Eq.trans rfl rfl
theorem env12:env 12=some ⟨.int .u64,1,8,.int .u64 0,false⟩:=Eq.trans rfl rfl
theorem env13:env 13=some ⟨.struct [(9,0),(12,1)],2,24,.agg #[.string ⟨#[]⟩,.int .u64 0],false⟩:=Eq.trans rfl rfl
theorem env14:env 14=some ⟨.struct [(9,0),(12,1)],2,24,.agg #[.string ⟨#[]⟩,.int .u64 0],false⟩:=Eq.trans rfl rfl
theorem env15:env 15=some ⟨.other,1,8,.pointer none,false⟩:=Eq.trans rfl rfl
theorem env16:env 16=some ⟨.other,1,8,.pointer none,false⟩:=Eq.trans rfl rfl
theorem env17:env 17=some ⟨.other,1,8,.pointer none,false⟩:=Eq.trans rfl rfl
theorem env18:env 18=some ⟨.struct [(17,0)],1,8,.agg #[.pointer none],false⟩:=Eq.trans rfl rfl
theorem env19:env 19=some ⟨.struct [(17,0)],1,8,.agg #[.pointer none],false⟩:=Eq.trans rfl rfl
theorem env21:env 21=some ⟨.int .i32,1,4,.int .i32 0,false⟩:=Eq.trans rfl rfl
theorem env22:env 22=some ⟨.slice 38,1,24,.slice none 0 0,false⟩:=Eq.trans rfl rfl
theorem env23:env 23=some ⟨.struct [(2,0),(22,1)],2,32,.agg #[.int .i64 0,.slice none 0 0],false⟩:=Eq.trans rfl rfl
theorem env24:env 24=some ⟨.struct [(2,0),(22,1)],2,32,.agg #[.int .i64 0,.slice none 0 0],false⟩:=Eq.trans rfl rfl
theorem env28:env 28=some ⟨.struct [(2,0),(22,1)],2,32,.agg #[.int .i64 0,.slice none 0 0],false⟩:=Eq.trans rfl rfl
theorem env38:env 38=some ⟨.slice 2,1,24,.slice none 0 0,false⟩:=Eq.trans rfl rfl
theorem env50:env 50=some ⟨.other,1,8,.pointer none,false⟩:=Eq.trans rfl rfl
theorem env52:env 52=some ⟨.slice 55,1,24,.slice none 0 0,false⟩:=Eq.trans rfl rfl
theorem env54:env 54=some ⟨.struct [(2,0),(9,1),(9,2)],3,40,.agg #[.int .i64 0,.string ⟨#[]⟩,.string ⟨#[]⟩],false⟩:=Eq.trans rfl rfl
theorem env55:env 55=some ⟨.struct [(2,0),(9,1),(9,2)],3,40,.agg #[.int .i64 0,.string ⟨#[]⟩,.string ⟨#[]⟩],false⟩:=Eq.trans rfl rfl
theorem env56:env 56=some ⟨.slice 59,1,24,.slice none 0 0,false⟩:=Eq.trans rfl rfl
theorem env58:env 58=some ⟨.struct [(2,0),(2,1),(9,2),(9,3)],4,48,.agg #[.int .i64 0,.int .i64 0,.string ⟨#[]⟩,.string ⟨#[]⟩],false⟩:=Eq.trans rfl rfl
theorem env59:env 59=some ⟨.struct [(2,0),(2,1),(9,2),(9,3)],4,48,.agg #[.int .i64 0,.int .i64 0,.string ⟨#[]⟩,.string ⟨#[]⟩],false⟩:=Eq.trans rfl rfl
theorem env74:env 74=some ⟨.slice 9,1,24,.slice none 0 0,false⟩:=Eq.trans rfl rfl
theorem env84:env 84=some ⟨.slice 5,1,24,.slice none 0 0,false⟩:=Eq.trans rfl rfl
theorem env85:env 85=some ⟨.other,1,8,.pointer none,false⟩:=Eq.trans rfl rfl
theorem env86:env 86=some ⟨.struct [(85,0),(84,1)],2,32,.agg #[.pointer none,.slice none 0 0],false⟩:=Eq.trans rfl rfl
theorem env87:env 87=some ⟨.struct [(85,0),(84,1)],2,32,.agg #[.pointer none,.slice none 0 0],false⟩:=Eq.trans rfl rfl
theorem env97:env 97=some ⟨.int .u64,1,8,.int .u64 0,false⟩:=Eq.trans rfl rfl
theorem env102:env 102=some ⟨.other,1,8,.pointer none,false⟩:=Eq.trans rfl rfl
theorem env107:env 107=some ⟨.int .i64,1,8,.int .i64 0,false⟩:=Eq.trans rfl rfl
theorem env110:env 110=some ⟨.int .u64,1,8,.int .u64 0,false⟩:=Eq.trans rfl rfl
theorem env111:env 111=some ⟨.other,1,8,.pointer none,false⟩:=Eq.trans rfl rfl
theorem env117:env 117=some ⟨.int .u32,1,4,.int .u32 0,false⟩:=Eq.trans rfl rfl
theorem env128:env 128=some ⟨.struct [(9,0),(9,1),(81,2)],3,48,.agg #[.string ⟨#[]⟩,.string ⟨#[]⟩,.nilIface],false⟩:=Eq.trans rfl rfl
theorem env129:env 129=some ⟨.struct [(9,0),(9,1),(81,2)],3,48,.agg #[.string ⟨#[]⟩,.string ⟨#[]⟩,.nilIface],false⟩:=Eq.trans rfl rfl
theorem env133:env 133=some ⟨.struct [(5,0),(5,1)],2,2,.agg #[.int .u8 0,.int .u8 0],false⟩:=Eq.trans rfl rfl
theorem env134:env 134=some ⟨.struct [(5,0),(5,1)],2,2,.agg #[.int .u8 0,.int .u8 0],false⟩:=Eq.trans rfl rfl
theorem env136:env 136=some ⟨.other,1,8,.pointer none,false⟩:=Eq.trans rfl rfl
theorem env137:env 137=some ⟨.struct [(9,0)],1,16,.agg #[.string ⟨#[]⟩],false⟩:=Eq.trans rfl rfl
theorem env138:env 138=some ⟨.struct [(9,0)],1,16,.agg #[.string ⟨#[]⟩],false⟩:=Eq.trans rfl rfl
theorem env143:env 143=some ⟨.struct [(17,0),(17,1),(17,2),(9,3)],4,40,.agg #[.pointer none,.pointer none,.pointer none,.string ⟨#[]⟩],false⟩:=Eq.trans rfl rfl
theorem env144:env 144=some ⟨.struct [(17,0),(17,1),(17,2),(9,3)],4,40,.agg #[.pointer none,.pointer none,.pointer none,.string ⟨#[]⟩],false⟩:=Eq.trans rfl rfl
theorem env149:env 149=some ⟨.int .u8,1,1,.int .u8 0,false⟩:=Eq.trans rfl rfl
theorem env150:env 150=some ⟨.int .u8,1,1,.int .u8 0,false⟩:=Eq.trans rfl rfl
theorem env152:env 152=some ⟨.int .i32,1,4,.int .i32 0,false⟩:=Eq.trans rfl rfl
theorem env153:env 153=some ⟨.int .i32,1,4,.int .i32 0,false⟩:=Eq.trans rfl rfl
theorem env154:env 154=some ⟨.struct [(12,0),(12,1),(117,2),(149,3),(5,4),(5,5),(150,6),(151,7),(102,8),(152,9),(153,10)],11,48,.agg #[.int .u64 0,.int .u64 0,.int .u32 0,.int .u8 0,.int .u8 0,.int .u8 0,.int .u8 0,.nilFunc,.pointer none,.int .i32 0,.int .i32 0],false⟩:=Eq.trans rfl rfl
theorem env155:env 155=some ⟨.struct [(12,0),(12,1),(117,2),(149,3),(5,4),(5,5),(150,6),(151,7),(102,8),(152,9),(153,10)],11,48,.agg #[.int .u64 0,.int .u64 0,.int .u32 0,.int .u8 0,.int .u8 0,.int .u8 0,.int .u8 0,.nilFunc,.pointer none,.int .i32 0,.int .i32 0],false⟩:=Eq.trans rfl rfl
theorem env157:env 157=some ⟨.slice 22,1,24,.slice none 0 0,false⟩:=Eq.trans rfl rfl
theorem env158:env 158=some ⟨.struct [(38,0),(22,1),(157,2)],3,72,.agg #[.slice none 0 0,.slice none 0 0,.slice none 0 0],false⟩:=Eq.trans rfl rfl
theorem env159:env 159=some ⟨.struct [(38,0),(22,1),(157,2)],3,72,.agg #[.slice none 0 0,.slice none 0 0,.slice none 0 0],false⟩:=Eq.trans rfl rfl
attribute [go_sem] env2 env3 env4 env5 env6 env7 env8 env9 env10 env11 env12 env13 env14 env15 env16 env17 env18 env19 env21 env22 env23 env24 env28 env38 env50 env52 env54 env55 env56 env58 env59 env74 env84 env85 env86 env87 env97 env102 env107 env110 env111 env117 env128 env129 env133 env134 env136 env137 env138 env143 env144 env149 env150 env152 env153 env154 env155 env157 env158 env159
theorem tok2:TOk Tryd.prog 2 ⟨.int .i64,1,8,.int .i64 0,false⟩:=⟨by kernel_rfl,by kernel_rfl,fun h=>by cases h⟩
theorem tok3:TOk Tryd.prog 3 ⟨.int .i64,1,8,.int .i64 0,false⟩:=⟨by kernel_rfl,by kernel_rfl,fun h=>by cases h⟩
theorem tok4:TOk Tryd.prog 4 ⟨.bool,1,1,.bool false,false⟩:=⟨by kernel_rfl,by kernel_rfl,fun h=>by cases h⟩
theorem tok5:TOk Tryd.prog 5 ⟨.int .u8,1,1,.int .u8 0,false⟩:=⟨by kernel_rfl,by kernel_rfl,fun h=>by cases h⟩
theorem tok6:TOk Tryd.prog 6 ⟨.int .u8,1,1,.int .u8 0,false⟩:=⟨by kernel_rfl,by kernel_rfl,fun h=>by cases h⟩
theorem tok7:TOk Tryd.prog 7 ⟨.struct [(2,0),(3,1),(4,2),(6,3)],4,24,.agg #[.int .i64 0,.int .i64 0,.bool false,.int .u8 0],false⟩:=⟨by kernel_rfl,by kernel_rfl,fun h=>by cases h⟩
theorem tok8:TOk Tryd.prog 8 ⟨.struct [(2,0),(3,1),(4,2),(6,3)],4,24,.agg #[.int .i64 0,.int .i64 0,.bool false,.int .u8 0],false⟩:=⟨by kernel_rfl,by kernel_rfl,fun h=>by cases h⟩
theorem tok9:TOk Tryd.prog 9 ⟨.str,1,16,.string ⟨#[]⟩,false⟩:=⟨by kernel_rfl,by kernel_rfl,fun h=>by cases h⟩
theorem tok10:TOk Tryd.prog 10 ⟨.str,1,16,.string ⟨#[]⟩,false⟩:=⟨by kernel_rfl,by kernel_rfl,fun h=>by cases h⟩
theorem tok11:TOk Tryd.prog 11 ⟨.str,1,16,.string ⟨#[]⟩,false⟩:=⟨by kernel_rfl,by kernel_rfl,fun h=>by cases h⟩
theorem tok12:TOk Tryd.prog 12 ⟨.int .u64,1,8,.int .u64 0,false⟩:=⟨by kernel_rfl,by kernel_rfl,fun h=>by cases h⟩
theorem tok13:TOk Tryd.prog 13 ⟨.struct [(9,0),(12,1)],2,24,.agg #[.string ⟨#[]⟩,.int .u64 0],false⟩:=⟨by kernel_rfl,by kernel_rfl,fun h=>by cases h⟩
theorem tok14:TOk Tryd.prog 14 ⟨.struct [(9,0),(12,1)],2,24,.agg #[.string ⟨#[]⟩,.int .u64 0],false⟩:=⟨by kernel_rfl,by kernel_rfl,fun h=>by cases h⟩
theorem tok15:TOk Tryd.prog 15 ⟨.other,1,8,.pointer none,false⟩:=⟨by kernel_rfl,by kernel_rfl,fun h=>by cases h⟩
theorem tok16:TOk Tryd.prog 16 ⟨.other,1,8,.pointer none,false⟩:=⟨by kernel_rfl,by kernel_rfl,fun h=>by cases h⟩
theorem tok17:TOk Tryd.prog 17 ⟨.other,1,8,.pointer none,false⟩:=⟨by kernel_rfl,by kernel_rfl,fun h=>by cases h⟩
theorem tok18:TOk Tryd.prog 18 ⟨.struct [(17,0)],1,8,.agg #[.pointer none],false⟩:=⟨by kernel_rfl,by kernel_rfl,fun h=>by cases h⟩
theorem tok19:TOk Tryd.prog 19 ⟨.struct [(17,0)],1,8,.agg #[.pointer none],false⟩:=⟨by kernel_rfl,by kernel_rfl,fun h=>by cases h⟩
theorem tok21:TOk Tryd.prog 21 ⟨.int .i32,1,4,.int .i32 0,false⟩:=⟨by kernel_rfl,by kernel_rfl,fun h=>by cases h⟩
theorem tok22:TOk Tryd.prog 22 ⟨.slice 38,1,24,.slice none 0 0,false⟩:=⟨by kernel_rfl,by kernel_rfl,fun h=>by cases h⟩
theorem tok23:TOk Tryd.prog 23 ⟨.struct [(2,0),(22,1)],2,32,.agg #[.int .i64 0,.slice none 0 0],false⟩:=⟨by kernel_rfl,by kernel_rfl,fun h=>by cases h⟩
theorem tok24:TOk Tryd.prog 24 ⟨.struct [(2,0),(22,1)],2,32,.agg #[.int .i64 0,.slice none 0 0],false⟩:=⟨by kernel_rfl,by kernel_rfl,fun h=>by cases h⟩
theorem tok28:TOk Tryd.prog 28 ⟨.struct [(2,0),(22,1)],2,32,.agg #[.int .i64 0,.slice none 0 0],false⟩:=⟨by kernel_rfl,by kernel_rfl,fun h=>by cases h⟩
theorem tok38:TOk Tryd.prog 38 ⟨.slice 2,1,24,.slice none 0 0,false⟩:=⟨by kernel_rfl,by kernel_rfl,fun h=>by cases h⟩
theorem tok50:TOk Tryd.prog 50 ⟨.other,1,8,.pointer none,false⟩:=⟨by kernel_rfl,by kernel_rfl,fun h=>by cases h⟩
theorem tok52:TOk Tryd.prog 52 ⟨.slice 55,1,24,.slice none 0 0,false⟩:=⟨by kernel_rfl,by kernel_rfl,fun h=>by cases h⟩
theorem tok54:TOk Tryd.prog 54 ⟨.struct [(2,0),(9,1),(9,2)],3,40,.agg #[.int .i64 0,.string ⟨#[]⟩,.string ⟨#[]⟩],false⟩:=⟨by kernel_rfl,by kernel_rfl,fun h=>by cases h⟩
theorem tok55:TOk Tryd.prog 55 ⟨.struct [(2,0),(9,1),(9,2)],3,40,.agg #[.int .i64 0,.string ⟨#[]⟩,.string ⟨#[]⟩],false⟩:=⟨by kernel_rfl,by kernel_rfl,fun h=>by cases h⟩
theorem tok56:TOk Tryd.prog 56 ⟨.slice 59,1,24,.slice none 0 0,false⟩:=⟨by kernel_rfl,by kernel_rfl,fun h=>by cases h⟩
theorem tok58:TOk Tryd.prog 58 ⟨.struct [(2,0),(2,1),(9,2),(9,3)],4,48,.agg #[.int .i64 0,.int .i64 0,.string ⟨#[]⟩,.string ⟨#[]⟩],false⟩:=⟨by kernel_rfl,by kernel_rfl,fun h=>by cases h⟩
theorem tok59:TOk Tryd.prog 59 ⟨.struct [(2,0),(2,1),(9,2),(9,3)],4,48,.agg #[.int .i64 0,.int .i64 0,.string ⟨#[]⟩,.string ⟨#[]⟩],false⟩:=⟨by kernel_rfl,by kernel_rfl,fun h=>by cases h⟩
theorem tok74:TOk Tryd.prog 74 ⟨.slice 9,1,24,.slice none 0 0,false⟩:=⟨by kernel_rfl,by kernel_rfl,fun h=>by cases h⟩
theorem tok84:TOk Tryd.prog 84 ⟨.slice 5,1,24,.slice none 0 0,false⟩:=⟨by kernel_rfl,by kernel_rfl,fun h=>by cases h⟩
theorem tok85:TOk Tryd.prog 85 ⟨.other,1,8,.pointer none,false⟩:=⟨by kernel_rfl,by kernel_rfl,fun h=>by cases h⟩
theorem tok86:TOk Tryd.prog 86 ⟨.struct [(85,0),(84,1)],2,32,.agg #[.pointer none,.slice none 0 0],false⟩:=⟨by kernel_rfl,by kernel_rfl,fun h=>by cases h⟩
theorem tok87:TOk Tryd.prog 87 ⟨.struct [(85,0),(84,1)],2,32,.agg #[.pointer none,.slice none 0 0],false⟩:=⟨by kernel_rfl,by kernel_rfl,fun h=>by cases h⟩
theorem tok97:TOk Tryd.prog 97 ⟨.int .u64,1,8,.int .u64 0,false⟩:=⟨by kernel_rfl,by kernel_rfl,fun h=>by cases h⟩
theorem tok102:TOk Tryd.prog 102 ⟨.other,1,8,.pointer none,false⟩:=⟨by kernel_rfl,by kernel_rfl,fun h=>by cases h⟩
theorem tok107:TOk Tryd.prog 107 ⟨.int .i64,1,8,.int .i64 0,false⟩:=⟨by kernel_rfl,by kernel_rfl,fun h=>by cases h⟩
theorem tok110:TOk Tryd.prog 110 ⟨.int .u64,1,8,.int .u64 0,false⟩:=⟨by kernel_rfl,by kernel_rfl,fun h=>by cases h⟩
theorem tok111:TOk Tryd.prog 111 ⟨.other,1,8,.pointer none,false⟩:=⟨by kernel_rfl,by kernel_rfl,fun h=>by cases h⟩
theorem tok117:TOk Tryd.prog 117 ⟨.int .u32,1,4,.int .u32 0,false⟩:=⟨by kernel_rfl,by kernel_rfl,fun h=>by cases h⟩
theorem tok128:TOk Tryd.prog 128 ⟨.struct [(9,0),(9,1),(81,2)],3,48,.agg #[.string ⟨#[]⟩,.string ⟨#[]⟩,.nilIface],false⟩:=⟨by kernel_rfl,by kernel_rfl,fun h=>by cases h⟩
theorem tok129:TOk Tryd.prog 129 ⟨.struct [(9,0),(9,1),(81,2)],3,48,.agg #[.string ⟨#[]⟩,.string ⟨#[]⟩,.nilIface],false⟩:=⟨by kernel_rfl,by kernel_rfl,fun h=>by cases h⟩
theorem tok133:TOk Tryd.prog 133 ⟨.struct [(5,0),(5,1)],2,2,.agg #[.int .u8 0,.int .u8 0],false⟩:=⟨by kernel_rfl,by kernel_rfl,fun h=>by cases h⟩
theorem tok134:TOk Tryd.prog 134 ⟨.struct [(5,0),(5,1)],2,2,.agg #[.int .u8 0,.int .u8 0],false⟩:=⟨by kernel_rfl,by kernel_rfl,fun h=>by cases h⟩
theorem tok136:TOk Tryd.prog 136 ⟨.other,1,8,.pointer none,false⟩:=⟨by kernel_rfl,by kernel_rfl,fun h=>by cases h⟩
theorem tok137:TOk Tryd.prog 137 ⟨.struct [(9,0)],1,16,.agg #[.string ⟨#[]⟩],false⟩:=⟨by kernel_rfl,by kernel_rfl,fun h=>by cases h⟩
theorem tok138:TOk Tryd.prog 138 ⟨.struct [(9,0)],1,16,.agg #[.string ⟨#[]⟩],false⟩:=⟨by kernel_rfl,by kernel_rfl,fun h=>by cases h⟩
theorem tok143:TOk Tryd.prog 143 ⟨.struct [(17,0),(17,1),(17,2),(9,3)],4,40,.agg #[.pointer none,.pointer none,.pointer none,.string ⟨#[]⟩],false⟩:=⟨by kernel_rfl,by kernel_rfl,fun h=>by cases h⟩
theorem tok144:TOk Tryd.prog 144 ⟨.struct [(17,0),(17,1),(17,2),(9,3)],4,40,.agg #[.pointer none,.pointer none,.pointer none,.string ⟨#[]⟩],false⟩:=⟨by kernel_rfl,by kernel_rfl,fun h=>by cases h⟩
theorem tok149:TOk Tryd.prog 149 ⟨.int .u8,1,1,.int .u8 0,false⟩:=⟨by kernel_rfl,by kernel_rfl,fun h=>by cases h⟩
theorem tok150:TOk Tryd.prog 150 ⟨.int .u8,1,1,.int .u8 0,false⟩:=⟨by kernel_rfl,by kernel_rfl,fun h=>by cases h⟩
theorem tok152:TOk Tryd.prog 152 ⟨.int .i32,1,4,.int .i32 0,false⟩:=⟨by kernel_rfl,by kernel_rfl,fun h=>by cases h⟩
theorem tok153:TOk Tryd.prog 153 ⟨.int .i32,1,4,.int .i32 0,false⟩:=⟨by kernel_rfl,by kernel_rfl,fun h=>by cases h⟩
theorem tok154:TOk Tryd.prog 154 ⟨.struct [(12,0),(12,1),(117,2),(149,3),(5,4),(5,5),(150,6),(151,7),(102,8),(152,9),(153,10)],11,48,.agg #[.int .u64 0,.int .u64 0,.int .u32 0,.int .u8 0,.int .u8 0,.int .u8 0,.int .u8 0,.nilFunc,.pointer none,.int .i32 0,.int .i32 0],false⟩:=⟨by kernel_rfl,by kernel_rfl,fun h=>by cases h⟩
theorem tok155:TOk Tryd.prog 155 ⟨.struct [(12,0),(12,1),(117,2),(149,3),(5,4),(5,5),(150,6),(151,7),(102,8),(152,9),(153,10)],11,48,.agg #[.int .u64 0,.int .u64 0,.int .u32 0,.int .u8 0,.int .u8 0,.int .u8 0,.int .u8 0,.nilFunc,.pointer none,.int .i32 0,.int .i32 0],false⟩:=⟨by kernel_rfl,by kernel_rfl,fun h=>by cases h⟩
theorem tok157:TOk Tryd.prog 157 ⟨.slice 22,1,24,.slice none 0 0,false⟩:=⟨by kernel_rfl,by kernel_rfl,fun h=>by cases h⟩
theorem tok158:TOk Tryd.prog 158 ⟨.struct [(38,0),(22,1),(157,2)],3,72,.agg #[.slice none 0 0,.slice none 0 0,.slice none 0 0],false⟩:=⟨by kernel_rfl,by kernel_rfl,fun h=>by cases h⟩
theorem tok159:TOk Tryd.prog 159 ⟨.struct [(38,0),(22,1),(157,2)],3,72,.agg #[.slice none 0 0,.slice none 0 0,.slice none 0 0],false⟩:=⟨by kernel_rfl,by kernel_rfl,fun h=>by cases h⟩
theorem envOk:GOk Tryd.prog env:=by
  intro ty x h
  unfold env at h
  split at h<;>first|(cases h;done)|skip
  · cases h;exact tok2
  · cases h;exact tok3
  · cases h;exact tok4
  · cases h;exact tok5
  · cases h;exact tok6
  · cases h;exact tok7
  · cases h;exact tok8
  · cases h;exact tok9
  · cases h;exact tok10
  · cases h;exact tok11
  · cases h;exact tok12
  · cases h;exact tok13
  · cases h;exact tok14
  · cases h;exact tok15
  · cases h;exact tok16
  · cases h;exact tok17
  · cases h;exact tok18
  · cases h;exact tok19
  · cases h;exact tok21
  · cases h;exact tok22
  · cases h;exact tok23
  · cases h;exact tok24
  · cases h;exact tok28
  · cases h;exact tok38
  · cases h;exact tok50
  · cases h;exact tok52
  · cases h;exact tok54
  · cases h;exact tok55
  · cases h;exact tok56
  · cases h;exact tok58
  · cases h;exact tok59
  · cases h;exact tok74
  · cases h;exact tok84
  · cases h;exact tok85
  · cases h;exact tok86
  · cases h;exact tok87
  · cases h;exact tok97
  · cases h;exact tok102
  · cases h;exact tok107
  · cases h;exact tok110
  · cases h;exact tok111
  · cases h;exact tok117
  · cases h;exact tok128
  · cases h;exact tok129
  · cases h;exact tok133
  · cases h;exact tok134
  · cases h;exact tok136
  · cases h;exact tok137
  · cases h;exact tok138
  · cases h;exact tok143
  · cases h;exact tok144
  · cases h;exact tok149
  · cases h;exact tok150
  · cases h;exact tok152
  · cases h;exact tok153
  · cases h;exact tok154
  · cases h;exact tok155
  · cases h;exact tok157
  · cases h;exact tok158
  · cases h;exact tok159
end Go.Proofs.YteoeedlcpalgbaaDoor
attribute [go_sem_proc] Nat.reduceAdd Nat.reduceSub Nat.reduceGT Nat.reduceEqDiff Nat.reduceMul
