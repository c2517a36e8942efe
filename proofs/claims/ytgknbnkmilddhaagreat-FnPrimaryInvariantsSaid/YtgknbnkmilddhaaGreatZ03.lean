import Derived.Test.YtgknbnkmilddhaaGreatProg
import Derived.KernelRfl
import Derived.Test.YtgknbnkmilddhaaGreatZ02
set_option linter.all false

open Go.Proofs.Tryz
namespace Go.Proofs.YtgknbnkmilddhaaGreat
def env:KT:=λt=>match t with
 |2=>some ⟨.int .i64,1,8,.int .i64 0,false⟩
 |3=>some ⟨.int .i64,1,8,.int .i64 0,false⟩
 |4=>some ⟨.bool,1,1,.bool false,false⟩
 |5=>some ⟨.int .u8,1,1,.int .u8 0,false⟩
 |6=>some ⟨.int .u8,1,1,.int .u8 0,false⟩
 |7=>some ⟨.struct [(2,0),(3,1),(4,2),(6,3)],4,24,.agg #[.int .i64 0,.int .i64 0,.bool false,.int .u8 0],false⟩
 |8=>some ⟨.struct [(2,0),(3,1),(4,2),(6,3)],4,24,.agg #[.int .i64 0,.int .i64 0,.bool false,.int .u8 0],false⟩
 |9=>some ⟨.str,1,16,.string ⟨#[]⟩,false⟩
 |10=>some ⟨.str,1,16,.string ⟨#[]⟩,false⟩
 |11=>some ⟨.str,1,16,.string ⟨#[]⟩,false⟩
 |12=>some ⟨.int .u64,1,8,.int .u64 0,false⟩
 |13=>some ⟨.struct [(9,0),(12,1)],2,24,.agg #[.string ⟨#[]⟩,.int .u64 0],false⟩
 |14=>some ⟨.struct [(9,0),(12,1)],2,24,.agg #[.string ⟨#[]⟩,.int .u64 0],false⟩
 |15=>some ⟨.other,1,8,.pointer none,false⟩
 |16=>some ⟨.other,1,8,.pointer none,false⟩
 |17=>some ⟨.other,1,8,.pointer none,false⟩
 |18=>some ⟨.struct [(17,0)],1,8,.agg #[.pointer none],false⟩
 |19=>some ⟨.struct [(17,0)],1,8,.agg #[.pointer none],false⟩
 |21=>some ⟨.int .i32,1,4,.int .i32 0,false⟩
 |22=>some ⟨.slice 5,1,24,.slice none 0 0,false⟩
 |24=>some ⟨.slice 2,1,24,.slice none 0 0,false⟩
 |25=>some ⟨.slice 24,1,24,.slice none 0 0,false⟩
 |26=>some ⟨.slice 25,1,24,.slice none 0 0,false⟩
 |27=>some ⟨.struct [(24,0),(25,1),(26,2)],3,72,.agg #[.slice none 0 0,.slice none 0 0,.slice none 0 0],false⟩
 |28=>some ⟨.struct [(24,0),(25,1),(26,2)],3,72,.agg #[.slice none 0 0,.slice none 0 0,.slice none 0 0],false⟩
 |36=>some ⟨.struct [(2,0),(25,1)],2,32,.agg #[.int .i64 0,.slice none 0 0],false⟩
 |37=>some ⟨.struct [(2,0),(25,1)],2,32,.agg #[.int .i64 0,.slice none 0 0],false⟩
 |50=>some ⟨.struct [(2,0),(25,1)],2,32,.agg #[.int .i64 0,.slice none 0 0],false⟩
 |51=>some ⟨.struct [(2,0),(25,1)],2,32,.agg #[.int .i64 0,.slice none 0 0],false⟩
 |54=>some ⟨.struct [(24,0),(2,1)],2,32,.agg #[.slice none 0 0,.int .i64 0],false⟩
 |55=>some ⟨.struct [(24,0),(2,1)],2,32,.agg #[.slice none 0 0,.int .i64 0],false⟩
 |60=>some ⟨.other,1,8,.pointer none,false⟩
 |65=>some ⟨.other,1,8,.pointer none,false⟩
 |68=>some ⟨.other,1,8,.pointer none,false⟩
 |72=>some ⟨.struct [(26,0),(24,1)],2,48,.agg #[.slice none 0 0,.slice none 0 0],false⟩
 |73=>some ⟨.struct [(26,0),(24,1)],2,48,.agg #[.slice none 0 0,.slice none 0 0],false⟩
 |83=>some ⟨.slice 116,1,24,.slice none 0 0,false⟩
 |84=>some ⟨.struct [(68,0),(26,1),(83,2)],3,56,.agg #[.pointer none,.slice none 0 0,.slice none 0 0],false⟩
 |85=>some ⟨.struct [(68,0),(26,1),(83,2)],3,56,.agg #[.pointer none,.slice none 0 0,.slice none 0 0],false⟩
 |111=>some ⟨.struct [(22,0),(3,1),(2,2)],3,40,.agg #[.slice none 0 0,.int .i64 0,.int .i64 0],false⟩
 |112=>some ⟨.struct [(22,0),(3,1),(2,2)],3,40,.agg #[.slice none 0 0,.int .i64 0,.int .i64 0],false⟩
 |114=>some ⟨.slice 161,1,24,.slice none 0 0,false⟩
 |116=>some ⟨.int .u64,1,8,.int .u64 0,false⟩
 |117=>some ⟨.map 116 4,1,8,.map none,false⟩
 |119=>some ⟨.map 9 116,1,8,.map none,false⟩
 |120=>some ⟨.other,1,8,.pointer none,false⟩
 |130=>some ⟨.int .u64,1,8,.int .u64 0,false⟩
 |161=>some ⟨.slice 3,1,24,.slice none 0 0,false⟩
 |170=>some ⟨.struct [(68,0),(25,1)],2,32,.agg #[.pointer none,.slice none 0 0],false⟩
 |171=>some ⟨.struct [(68,0),(25,1)],2,32,.agg #[.pointer none,.slice none 0 0],false⟩
 |183=>some ⟨.slice 4,1,24,.slice none 0 0,false⟩
 |187=>some ⟨.struct [(2,0),(2,1),(2,2),(2,3)],4,32,.agg #[.int .i64 0,.int .i64 0,.int .i64 0,.int .i64 0],true⟩
 |188=>some ⟨.struct [(2,0),(2,1),(2,2),(2,3)],4,32,.agg #[.int .i64 0,.int .i64 0,.int .i64 0,.int .i64 0],true⟩
 |211=>some ⟨.int .i64,1,8,.int .i64 0,false⟩
 |219=>some ⟨.int .u32,1,4,.int .u32 0,false⟩
 |249=>some ⟨.int .u64,1,8,.int .u64 0,false⟩
 |253=>some ⟨.other,1,8,.pointer none,false⟩
 |260=>some ⟨.slice 9,1,24,.slice none 0 0,false⟩
 |266=>some ⟨.other,1,8,.pointer none,false⟩
 |284=>some ⟨.struct [(17,0),(17,1),(17,2),(9,3)],4,40,.agg #[.pointer none,.pointer none,.pointer none,.string ⟨#[]⟩],false⟩
 |285=>some ⟨.struct [(17,0),(17,1),(17,2),(9,3)],4,40,.agg #[.pointer none,.pointer none,.pointer none,.string ⟨#[]⟩],false⟩
 |290=>some ⟨.int .u8,1,1,.int .u8 0,false⟩
 |291=>some ⟨.int .u8,1,1,.int .u8 0,false⟩
 |293=>some ⟨.other,1,8,.pointer none,false⟩
 |294=>some ⟨.int .i32,1,4,.int .i32 0,false⟩
 |295=>some ⟨.int .i32,1,4,.int .i32 0,false⟩
 |296=>some ⟨.struct [(12,0),(12,1),(219,2),(290,3),(5,4),(5,5),(291,6),(292,7),(293,8),(294,9),(295,10)],11,48,.agg #[.int .u64 0,.int .u64 0,.int .u32 0,.int .u8 0,.int .u8 0,.int .u8 0,.int .u8 0,.nilFunc,.pointer none,.int .i32 0,.int .i32 0],false⟩
 |297=>some ⟨.struct [(12,0),(12,1),(219,2),(290,3),(5,4),(5,5),(291,6),(292,7),(293,8),(294,9),(295,10)],11,48,.agg #[.int .u64 0,.int .u64 0,.int .u32 0,.int .u8 0,.int .u8 0,.int .u8 0,.int .u8 0,.nilFunc,.pointer none,.int .i32 0,.int .i32 0],false⟩
 |_=>none
def AO2:env 2=some ⟨.int .i64,1,8,.int .i64 0,false⟩:=EI rfl rfl
def AO3:env 3=some ⟨.int .i64,1,8,.int .i64 0,false⟩:=EI rfl rfl
def AO4:env 5=some ⟨.int .u8,1,1,.int .u8 0,false⟩:=EI rfl rfl
def AO5:env 9=some ⟨.str,1,16,.string ⟨#[]⟩,false⟩:=EI rfl rfl
def AHQ:env 22=some ⟨.slice 5,1,24,.slice none 0 0,false⟩:=EI rfl rfl
def AHR:env 24=some ⟨.slice 2,1,24,.slice none 0 0,false⟩:=EI rfl rfl
def AHS:env 25=some ⟨.slice 24,1,24,.slice none 0 0,false⟩:=EI rfl rfl
def AHT:env 26=some ⟨.slice 25,1,24,.slice none 0 0,false⟩:=EI rfl rfl
def AHU:env 28=some ⟨.struct [(24,0),(25,1),(26,2)],3,72,.agg #[.slice none 0 0,.slice none 0 0,.slice none 0 0],false⟩:=EI rfl rfl
def AHV:env 37=some ⟨.struct [(2,0),(25,1)],2,32,.agg #[.int .i64 0,.slice none 0 0],false⟩:=EI rfl rfl
def AHW:env 51=some ⟨.struct [(2,0),(25,1)],2,32,.agg #[.int .i64 0,.slice none 0 0],false⟩:=EI rfl rfl
def AHX:env 55=some ⟨.struct [(24,0),(2,1)],2,32,.agg #[.slice none 0 0,.int .i64 0],false⟩:=EI rfl rfl
def AHY:env 68=some ⟨.other,1,8,.pointer none,false⟩:=EI rfl rfl
def ABN:env 112=some ⟨.struct [(22,0),(3,1),(2,2)],3,40,.agg #[.slice none 0 0,.int .i64 0,.int .i64 0],false⟩:=EI rfl rfl
def ABO:env 114=some ⟨.slice 161,1,24,.slice none 0 0,false⟩:=EI rfl rfl
def ABP:env 116=some ⟨.int .u64,1,8,.int .u64 0,false⟩:=EI rfl rfl
def ABQ:env 130=some ⟨.int .u64,1,8,.int .u64 0,false⟩:=EI rfl rfl
def ABR:env 161=some ⟨.slice 3,1,24,.slice none 0 0,false⟩:=EI rfl rfl
def ABS:env 171=some ⟨.struct [(68,0),(25,1)],2,32,.agg #[.pointer none,.slice none 0 0],false⟩:=EI rfl rfl
def ABT:env 188=some ⟨.struct [(2,0),(2,1),(2,2),(2,3)],4,32,.agg #[.int .i64 0,.int .i64 0,.int .i64 0,.int .i64 0],true⟩:=EI rfl rfl
def ABU:env 260=some ⟨.slice 9,1,24,.slice none 0 0,false⟩:=EI rfl rfl
attribute [go_sem] AO2 AO3 AO4 AO5 AHQ AHR AHS AHT AHU AHV AHW AHX AHY ABN ABO ABP ABQ ABR ABS ABT ABU
def AO6:LJ prog 2 ⟨.int .i64,1,8,.int .i64 0,false⟩:=⟨AP,AP,λh=>by cases h⟩
def AO7:LJ prog 3 ⟨.int .i64,1,8,.int .i64 0,false⟩:=⟨AP,AP,λh=>by cases h⟩
def AO8:LJ prog 4 ⟨.bool,1,1,.bool false,false⟩:=⟨AP,AP,λh=>by cases h⟩
def AO9:LJ prog 5 ⟨.int .u8,1,1,.int .u8 0,false⟩:=⟨AP,AP,λh=>by cases h⟩
def AOA:LJ prog 6 ⟨.int .u8,1,1,.int .u8 0,false⟩:=⟨AP,AP,λh=>by cases h⟩
def AOB:LJ prog 7 ⟨.struct [(2,0),(3,1),(4,2),(6,3)],4,24,.agg #[.int .i64 0,.int .i64 0,.bool false,.int .u8 0],false⟩:=⟨AP,AP,λh=>by cases h⟩
def AOC:LJ prog 8 ⟨.struct [(2,0),(3,1),(4,2),(6,3)],4,24,.agg #[.int .i64 0,.int .i64 0,.bool false,.int .u8 0],false⟩:=⟨AP,AP,λh=>by cases h⟩
def AOD:LJ prog 9 ⟨.str,1,16,.string ⟨#[]⟩,false⟩:=⟨AP,AP,λh=>by cases h⟩
def AHZ:LJ prog 10 ⟨.str,1,16,.string ⟨#[]⟩,false⟩:=⟨AP,AP,λh=>by cases h⟩
def AI0:LJ prog 11 ⟨.str,1,16,.string ⟨#[]⟩,false⟩:=⟨AP,AP,λh=>by cases h⟩
def AI1:LJ prog 12 ⟨.int .u64,1,8,.int .u64 0,false⟩:=⟨AP,AP,λh=>by cases h⟩
def AI2:LJ prog 13 ⟨.struct [(9,0),(12,1)],2,24,.agg #[.string ⟨#[]⟩,.int .u64 0],false⟩:=⟨AP,AP,λh=>by cases h⟩
def AI3:LJ prog 14 ⟨.struct [(9,0),(12,1)],2,24,.agg #[.string ⟨#[]⟩,.int .u64 0],false⟩:=⟨AP,AP,λh=>by cases h⟩
def AI4:LJ prog 15 ⟨.other,1,8,.pointer none,false⟩:=⟨AP,AP,λh=>by cases h⟩
def AI5:LJ prog 16 ⟨.other,1,8,.pointer none,false⟩:=⟨AP,AP,λh=>by cases h⟩
def AI6:LJ prog 17 ⟨.other,1,8,.pointer none,false⟩:=⟨AP,AP,λh=>by cases h⟩
def AI7:LJ prog 18 ⟨.struct [(17,0)],1,8,.agg #[.pointer none],false⟩:=⟨AP,AP,λh=>by cases h⟩
def AI8:LJ prog 19 ⟨.struct [(17,0)],1,8,.agg #[.pointer none],false⟩:=⟨AP,AP,λh=>by cases h⟩
def AI9:LJ prog 21 ⟨.int .i32,1,4,.int .i32 0,false⟩:=⟨AP,AP,λh=>by cases h⟩
def AIA:LJ prog 22 ⟨.slice 5,1,24,.slice none 0 0,false⟩:=⟨AP,AP,λh=>by cases h⟩
def AIB:LJ prog 24 ⟨.slice 2,1,24,.slice none 0 0,false⟩:=⟨AP,AP,λh=>by cases h⟩
def AIC:LJ prog 25 ⟨.slice 24,1,24,.slice none 0 0,false⟩:=⟨AP,AP,λh=>by cases h⟩
def AID:LJ prog 26 ⟨.slice 25,1,24,.slice none 0 0,false⟩:=⟨AP,AP,λh=>by cases h⟩
def AIE:LJ prog 27 ⟨.struct [(24,0),(25,1),(26,2)],3,72,.agg #[.slice none 0 0,.slice none 0 0,.slice none 0 0],false⟩:=⟨AP,AP,λh=>by cases h⟩
def AIF:LJ prog 28 ⟨.struct [(24,0),(25,1),(26,2)],3,72,.agg #[.slice none 0 0,.slice none 0 0,.slice none 0 0],false⟩:=⟨AP,AP,λh=>by cases h⟩
def AIH:LJ prog 36 ⟨.struct [(2,0),(25,1)],2,32,.agg #[.int .i64 0,.slice none 0 0],false⟩:=⟨AP,AP,λh=>by cases h⟩
def AII:LJ prog 37 ⟨.struct [(2,0),(25,1)],2,32,.agg #[.int .i64 0,.slice none 0 0],false⟩:=⟨AP,AP,λh=>by cases h⟩
def AIJ:LJ prog 50 ⟨.struct [(2,0),(25,1)],2,32,.agg #[.int .i64 0,.slice none 0 0],false⟩:=⟨AP,AP,λh=>by cases h⟩
def AIK:LJ prog 51 ⟨.struct [(2,0),(25,1)],2,32,.agg #[.int .i64 0,.slice none 0 0],false⟩:=⟨AP,AP,λh=>by cases h⟩
def AIL:LJ prog 54 ⟨.struct [(24,0),(2,1)],2,32,.agg #[.slice none 0 0,.int .i64 0],false⟩:=⟨AP,AP,λh=>by cases h⟩
def AIM:LJ prog 55 ⟨.struct [(24,0),(2,1)],2,32,.agg #[.slice none 0 0,.int .i64 0],false⟩:=⟨AP,AP,λh=>by cases h⟩
def AIN:LJ prog 60 ⟨.other,1,8,.pointer none,false⟩:=⟨AP,AP,λh=>by cases h⟩
def AIO:LJ prog 65 ⟨.other,1,8,.pointer none,false⟩:=⟨AP,AP,λh=>by cases h⟩
def AIP:LJ prog 68 ⟨.other,1,8,.pointer none,false⟩:=⟨AP,AP,λh=>by cases h⟩
def AIQ:LJ prog 72 ⟨.struct [(26,0),(24,1)],2,48,.agg #[.slice none 0 0,.slice none 0 0],false⟩:=⟨AP,AP,λh=>by cases h⟩
def AIR:LJ prog 73 ⟨.struct [(26,0),(24,1)],2,48,.agg #[.slice none 0 0,.slice none 0 0],false⟩:=⟨AP,AP,λh=>by cases h⟩
def AIS:LJ prog 83 ⟨.slice 116,1,24,.slice none 0 0,false⟩:=⟨AP,AP,λh=>by cases h⟩
def AIT:LJ prog 84 ⟨.struct [(68,0),(26,1),(83,2)],3,56,.agg #[.pointer none,.slice none 0 0,.slice none 0 0],false⟩:=⟨AP,AP,λh=>by cases h⟩
def AIU:LJ prog 85 ⟨.struct [(68,0),(26,1),(83,2)],3,56,.agg #[.pointer none,.slice none 0 0,.slice none 0 0],false⟩:=⟨AP,AP,λh=>by cases h⟩
def ABV:LJ prog 111 ⟨.struct [(22,0),(3,1),(2,2)],3,40,.agg #[.slice none 0 0,.int .i64 0,.int .i64 0],false⟩:=⟨AP,AP,λh=>by cases h⟩
def ABW:LJ prog 112 ⟨.struct [(22,0),(3,1),(2,2)],3,40,.agg #[.slice none 0 0,.int .i64 0,.int .i64 0],false⟩:=⟨AP,AP,λh=>by cases h⟩
def ABX:LJ prog 114 ⟨.slice 161,1,24,.slice none 0 0,false⟩:=⟨AP,AP,λh=>by cases h⟩
def ABY:LJ prog 116 ⟨.int .u64,1,8,.int .u64 0,false⟩:=⟨AP,AP,λh=>by cases h⟩
def ABZ:LJ prog 117 ⟨.map 116 4,1,8,.map none,false⟩:=⟨AP,AP,λh=>by cases h⟩
def AC0:LJ prog 119 ⟨.map 9 116,1,8,.map none,false⟩:=⟨AP,AP,λh=>by cases h⟩
def AC1:LJ prog 120 ⟨.other,1,8,.pointer none,false⟩:=⟨AP,AP,λh=>by cases h⟩
def AC2:LJ prog 130 ⟨.int .u64,1,8,.int .u64 0,false⟩:=⟨AP,AP,λh=>by cases h⟩
def AC3:LJ prog 161 ⟨.slice 3,1,24,.slice none 0 0,false⟩:=⟨AP,AP,λh=>by cases h⟩
def AC4:LJ prog 170 ⟨.struct [(68,0),(25,1)],2,32,.agg #[.pointer none,.slice none 0 0],false⟩:=⟨AP,AP,λh=>by cases h⟩
def AC5:LJ prog 171 ⟨.struct [(68,0),(25,1)],2,32,.agg #[.pointer none,.slice none 0 0],false⟩:=⟨AP,AP,λh=>by cases h⟩
def AC6:LJ prog 183 ⟨.slice 4,1,24,.slice none 0 0,false⟩:=⟨AP,AP,λh=>by cases h⟩
def AC7:LJ prog 187 ⟨.struct [(2,0),(2,1),(2,2),(2,3)],4,32,.agg #[.int .i64 0,.int .i64 0,.int .i64 0,.int .i64 0],true⟩:=⟨AP,AP,λ_=>AP⟩
def AC8:LJ prog 188 ⟨.struct [(2,0),(2,1),(2,2),(2,3)],4,32,.agg #[.int .i64 0,.int .i64 0,.int .i64 0,.int .i64 0],true⟩:=⟨AP,AP,λ_=>AP⟩
def AC9:LJ prog 211 ⟨.int .i64,1,8,.int .i64 0,false⟩:=⟨AP,AP,λh=>by cases h⟩
def ACA:LJ prog 219 ⟨.int .u32,1,4,.int .u32 0,false⟩:=⟨AP,AP,λh=>by cases h⟩
def ACB:LJ prog 249 ⟨.int .u64,1,8,.int .u64 0,false⟩:=⟨AP,AP,λh=>by cases h⟩
def ACC:LJ prog 253 ⟨.other,1,8,.pointer none,false⟩:=⟨AP,AP,λh=>by cases h⟩
def ACD:LJ prog 260 ⟨.slice 9,1,24,.slice none 0 0,false⟩:=⟨AP,AP,λh=>by cases h⟩
def ACE:LJ prog 266 ⟨.other,1,8,.pointer none,false⟩:=⟨AP,AP,λh=>by cases h⟩
def ACF:LJ prog 284 ⟨.struct [(17,0),(17,1),(17,2),(9,3)],4,40,.agg #[.pointer none,.pointer none,.pointer none,.string ⟨#[]⟩],false⟩:=⟨AP,AP,λh=>by cases h⟩
def ACG:LJ prog 285 ⟨.struct [(17,0),(17,1),(17,2),(9,3)],4,40,.agg #[.pointer none,.pointer none,.pointer none,.string ⟨#[]⟩],false⟩:=⟨AP,AP,λh=>by cases h⟩
def ACH:LJ prog 290 ⟨.int .u8,1,1,.int .u8 0,false⟩:=⟨AP,AP,λh=>by cases h⟩
def ACI:LJ prog 291 ⟨.int .u8,1,1,.int .u8 0,false⟩:=⟨AP,AP,λh=>by cases h⟩
def ACJ:LJ prog 293 ⟨.other,1,8,.pointer none,false⟩:=⟨AP,AP,λh=>by cases h⟩
def ACK:LJ prog 294 ⟨.int .i32,1,4,.int .i32 0,false⟩:=⟨AP,AP,λh=>by cases h⟩
def ACL:LJ prog 295 ⟨.int .i32,1,4,.int .i32 0,false⟩:=⟨AP,AP,λh=>by cases h⟩
def ACN:LJ prog 296 ⟨.struct [(12,0),(12,1),(219,2),(290,3),(5,4),(5,5),(291,6),(292,7),(293,8),(294,9),(295,10)],11,48,.agg #[.int .u64 0,.int .u64 0,.int .u32 0,.int .u8 0,.int .u8 0,.int .u8 0,.int .u8 0,.nilFunc,.pointer none,.int .i32 0,.int .i32 0],false⟩:=⟨AP,AP,λh=>by cases h⟩
def ACO:LJ prog 297 ⟨.struct [(12,0),(12,1),(219,2),(290,3),(5,4),(5,5),(291,6),(292,7),(293,8),(294,9),(295,10)],11,48,.agg #[.int .u64 0,.int .u64 0,.int .u32 0,.int .u8 0,.int .u8 0,.int .u8 0,.int .u8 0,.nilFunc,.pointer none,.int .i32 0,.int .i32 0],false⟩:=⟨AP,AP,λh=>by cases h⟩
def AY:U2 prog env:=by
 intro ty x h;unfold env at h;split at h<;>first|(cases h;done)|skip
 ·cases h;exact AO6
 ·cases h;exact AO7
 ·cases h;exact AO8
 ·cases h;exact AO9
 ·cases h;exact AOA
 ·cases h;exact AOB
 ·cases h;exact AOC
 ·cases h;exact AOD
 ·cases h;exact AHZ
 ·cases h;exact AI0
 ·cases h;exact AI1
 ·cases h;exact AI2
 ·cases h;exact AI3
 ·cases h;exact AI4
 ·cases h;exact AI5
 ·cases h;exact AI6
 ·cases h;exact AI7
 ·cases h;exact AI8
 ·cases h;exact AI9
 ·cases h;exact AIA
 ·cases h;exact AIB
 ·cases h;exact AIC
 ·cases h;exact AID
 ·cases h;exact AIE
 ·cases h;exact AIF
 ·cases h;exact AIH
 ·cases h;exact AII
 ·cases h;exact AIJ
 ·cases h;exact AIK
 ·cases h;exact AIL
 ·cases h;exact AIM
 ·cases h;exact AIN
 ·cases h;exact AIO
 ·cases h;exact AIP
 ·cases h;exact AIQ
 ·cases h;exact AIR
 ·cases h;exact AIS
 ·cases h;exact AIT
 ·cases h;exact AIU
 ·cases h;exact ABV
 ·cases h;exact ABW
 ·cases h;exact ABX
 ·cases h;exact ABY
 ·cases h;exact ABZ
 ·cases h;exact AC0
 ·cases h;exact AC1
 ·cases h;exact AC2
 ·cases h;exact AC3
 ·cases h;exact AC4
 ·cases h;exact AC5
 ·cases h;exact AC6
 ·cases h;exact AC7
 ·cases h;exact AC8
 ·cases h;exact AC9
 ·cases h;exact ACA
 ·cases h;exact ACB
 ·cases h;exact ACC
 ·cases h;exact ACD
 ·cases h;exact ACE
 ·cases h;exact ACF
 ·cases h;exact ACG
 ·cases h;exact ACH
 ·cases h;exact ACI
 ·cases h;exact ACJ
 ·cases h;exact ACK
 ·cases h;exact ACL
 ·cases h;exact ACN
 cases h;exact ACO
def sQ{cX n ops y s K}(h:∀N:St->Prop,(∀v,AW cX prog y v K->N v)->KO env prog ops s.nx ops 0 ⟨s.t,s.H,s.nx+ops.length⟩ N):AW cX prog (.seq (.region n ops.toArray false) y) s K:=AW.sr AY h
def rQ{cX n ops s K}(h:KO env prog ops s.nx ops 0 ⟨s.t,s.H,s.nx+ops.length⟩ (K .normal)):AW cX prog (.region n ops.toArray false) s K:=Jz AY h
abbrev GZ(cX:Ctx)(n:Nat)(ops:List Oper)(y:Code)(s:St)(K:Exit->St->Prop):Prop:=AW cX prog (.seq (.region n ops.toArray false) y) s K
abbrev HA(ops:List Oper)(s s1:St):Prop:=∀N:St->Prop,N s1->KO env prog ops s.nx ops 0 ⟨s.t,s.H,s.nx+ops.length⟩ N
def HF{cX:Ctx}{n:Nat}{ops:List Oper}{y:Code}{s s1:St}{K:Exit->St->Prop}(q:AW cX prog y s1 K)(e:HA ops s s1):GZ cX n ops y s K:=sQ λN hN=>e N (hN _ q)
def BH{P Q:Prop}(q:Q)(e:Q->P:=by intro q;(try simp-dsimp-implicitDefEqProofs(maxSteps:=800000) (disch:=omega)only[go_sem]);exact q):P:=e q
def BQ{cX P s}{K:Exit->St->Prop}{Q:Prop}(q:Q)(e:Q->K .ret s:=by intro q;(try simp-dsimp-implicitDefEqProofs(maxSteps:=800000) (disch:=omega)only[go_sem]);exact q):AW cX P .ret s K:=DQ (e q)
def CT{cX n ops y s s1 K}(q:AW cX prog y s1 K)(e:HA ops s s1:=by intro N hN;(try simp-dsimp-implicitDefEqProofs(maxSteps:=800000) (disch:=omega)only[go_sem]);exact hN):GZ cX n ops y s K:=HF q e
def EU{cX n ops y s s1 K}(q:AW cX prog y s1 K)(e:HA ops s s1:=by intro N hN;(try simp-dsimp-implicitDefEqProofs(maxSteps:=800000) (disch:=omega)only[go_sem,CB,ints]);exact hN):GZ cX n ops y s K:=HF q e
def IZ{cX n ops y s s1 K}{R0:Prop}(r0:R0)(q:AW cX prog y s1 K)(e:R0->HA ops s s1:=by intro h0 N hN;(try simp-dsimp-implicitDefEqProofs(maxSteps:=800000) (disch:=omega)only[go_sem,h0]);exact hN):GZ cX n ops y s K:=HF q (e r0)
def UN{cX n ops y s s1 K f Zz r}(x:DZ prog f Zz r)(q:AW cX prog y s1 K)(e:DZ prog f Zz r->HA ops s s1:=by intro x N hN;(try simp-dsimp-implicitDefEqProofs(maxSteps:=800000) (disch:=omega)only[go_sem]);refine AC.pure (.of x) ?_;(try simp-dsimp-implicitDefEqProofs(maxSteps:=800000) (disch:=omega)only[go_sem]);exact hN):GZ cX n ops y s K:=HF q (e x)
def FY{cX n ops y s s1 K}(q:AW cX prog y s1 K)(e:HA ops s s1:=by intro N hN;(try simp-dsimp-implicitDefEqProofs(disch:=omega)only[go_sem,EY,rows]);exact hN):GZ cX n ops y s K:=HF q e
def K4{cX n ops s}{K:Exit->St->Prop}{Q:Prop}(q:Q)(e:Q->KO env prog ops s.nx ops 0 ⟨s.t,s.H,s.nx+ops.length⟩ (K .normal):=by intro q;(try simp-dsimp-implicitDefEqProofs(maxSteps:=800000) (disch:=omega)only[go_sem]);exact q):AW cX prog (.region n ops.toArray false) s K:=rQ (e q)
def LG{cX n ops s}{K:Exit->St->Prop}{Q:Prop}(q:Q)(e:Q->KO env prog ops s.nx ops 0 ⟨s.t,s.H,s.nx+ops.length⟩ (K .normal):=by intro q;(try simp-dsimp-implicitDefEqProofs(maxSteps:=800000) (disch:=omega)only[go_sem,CB,ints]);exact q):AW cX prog (.region n ops.toArray false) s K:=rQ (e q)
def UO{P Q:Prop}{R0 R1:Prop}(r0:R0)(r1:R1)(q:Q)(e:R0->R1->Q->P:=by intro h0 h1 q;(try simp-dsimp-implicitDefEqProofs(disch:=omega)only[go_sem,A4,h0,h1]);exact q):P:=e r0 r1 q
def OX{P Q:Prop}(q:Q)(e:Q->P:=by intro q;(try simp-dsimp-implicitDefEqProofs(maxSteps:=800000) (disch:=omega)only[go_sem,CB,ints]);exact q):P:=e q
def eH{P Q:Prop}{R0 R1 R2 R3 R4 R5 R6:Prop}(r0:R0)(r1:R1)(r2:R2)(r3:R3)(r4:R4)(r5:R5)(r6:R6)(q:Q)(e:R0->R1->R2->R3->R4->R5->R6->Q->P:=by intro h0 h1 h2 h3 h4 h5 h6 q;(try simp-dsimp-implicitDefEqProofs(maxSteps:=800000) (disch:=omega)only[go_sem,CB,ints,h0,h1,h2,h3,h4,h5,h6]);exact q):P:=e r0 r1 r2 r3 r4 r5 r6 q
def eI{cX n ops s}{K:Exit->St->Prop}{Q:Prop}(q:Q)(e:Q->KO env prog ops s.nx ops 0 ⟨s.t,s.H,s.nx+ops.length⟩ (K .normal):=by intro q;(try simp-dsimp-implicitDefEqProofs(disch:=omega)only[go_sem,rows]);exact q):AW cX prog (.region n ops.toArray false) s K:=rQ (e q)
def sF{P f nx H Zz r}{K:Nat->HP->AV->Prop}{Q:Prop}(x:DZ P f Zz r)(q:Q)(e:Q->K nx H r:=by intro q;(try simp-dsimp-implicitDefEqProofs(maxSteps:=800000) (disch:=omega)only[go_sem]);exact q):AC P f nx H Zz K:=AC.pure (.of x) (e q)
def eJ{cX n ops s}{K:Exit->St->Prop}{Q:Prop}{R0:Prop}(r0:R0)(q:Q)(e:R0->Q->KO env prog ops s.nx ops 0 ⟨s.t,s.H,s.nx+ops.length⟩ (K .normal):=by intro h0 q;(try simp-dsimp-implicitDefEqProofs(maxSteps:=800000) (disch:=omega)only[go_sem,h0]);exact q):AW cX prog (.region n ops.toArray false) s K:=rQ (e r0 q)
def yE{cX n ops y s s1 K}{R0:Prop}(r0:R0)(q:AW cX prog y s1 K)(e:R0->HA ops s s1:=by intro h0 N hN;(try simp-dsimp-implicitDefEqProofs(disch:=omega)only[go_sem,CB,EY,ints,rows,h0]);exact hN):GZ cX n ops y s K:=HF q (e r0)
def eK{P Q:Prop}{R0:Prop}(r0:R0)(q:Q)(e:R0->Q->P:=by intro h0 q;(try simp-dsimp-implicitDefEqProofs(maxSteps:=800000) (disch:=omega)only[go_sem,h0]);exact q):P:=e r0 q
def Zp{cX n ops y s s1 K f Zz r}(x:DZ prog f Zz r)(q:AW cX prog y s1 K)(e:DZ prog f Zz r->HA ops s s1:=by intro x N hN;(try simp-dsimp-implicitDefEqProofs(disch:=omega)only[go_sem,EY,rows]);refine AC.pure (.of x) ?_;(try simp-dsimp-implicitDefEqProofs(disch:=omega)only[go_sem,EY,rows]);exact hN):GZ cX n ops y s K:=HF q (e x)
def Ka{P Q:Prop}(q:Q)(e:Q->P:=by intro q;(try simp-dsimp-implicitDefEqProofs(disch:=omega)only[go_sem,BD,AR,B4,BE,AT,AS,CB,GJ,ES,ET,ints,DV]);exact q):P:=e q
def sG{cX n ops y s s1 K}(q:AW cX prog y s1 K)(e:HA ops s s1:=by intro N hN;(try simp-dsimp-implicitDefEqProofs(disch:=omega)only[go_sem,bne_self_eq_false,CB,ints]);exact hN):GZ cX n ops y s K:=HF q e
def lN{P Q:Prop}{R0 R1 R2 R3 R4 R5 R6 R7:Prop}(r0:R0)(r1:R1)(r2:R2)(r3:R3)(r4:R4)(r5:R5)(r6:R6)(r7:R7)(q:Q)(e:R0->R1->R2->R3->R4->R5->R6->R7->Q->P:=by intro h0 h1 h2 h3 h4 h5 h6 h7 q;(try simp-dsimp-implicitDefEqProofs(maxSteps:=800000) (disch:=omega)only[go_sem,A4,h0,h1,h2,h3,h4,h5,h6,h7]);exact q):P:=e r0 r1 r2 r3 r4 r5 r6 r7 q
def lO{P Q:Prop}{R0:Prop}(r0:R0)(q:Q)(e:R0->Q->P:=by intro h0 q;(try simp-dsimp-implicitDefEqProofs(disch:=omega)only[go_sem,CB,EY,ints,rows,h0]);exact q):P:=e r0 q
def sH{cX n ops y s s1 K}{R0:Prop}(r0:R0)(q:AW cX prog y s1 K)(e:R0->HA ops s s1:=by intro h0 N hN;(try simp-dsimp-implicitDefEqProofs(disch:=omega)only[go_sem,rows,h0]);exact hN):GZ cX n ops y s K:=HF q (e r0)
def lP{cX n ops s}{K:Exit->St->Prop}{Q:Prop}(q:Q)(e:Q->KO env prog ops s.nx ops 0 ⟨s.t,s.H,s.nx+ops.length⟩ (K .normal):=by intro q;(try simp-dsimp-implicitDefEqProofs(disch:=omega)only[go_sem,EY,rows]);exact q):AW cX prog (.region n ops.toArray false) s K:=rQ (e q)
def Zr{P Q:Prop}(q:Q)(e:Q->P:=by intro q;(try simp-dsimp-implicitDefEqProofs(maxSteps:=800000) (disch:=omega)only[go_sem,BD,AR,B4,BE,AT,AS,GJ,ES,ET,DV]);exact q):P:=e q
def fY{P Q:Prop}{R0 R1 R2 R3:Prop}(r0:R0)(r1:R1)(r2:R2)(r3:R3)(q:Q)(e:R0->R1->R2->R3->Q->P:=by intro h0 h1 h2 h3 q;(try simp-dsimp-implicitDefEqProofs(maxSteps:=800000) (disch:=omega)only[go_sem,A4,h0,h1,h2,h3]);exact q):P:=e r0 r1 r2 r3 q
def zR{P Q:Prop}{R0 R1:Prop}(r0:R0)(r1:R1)(q:Q)(e:R0->R1->Q->P:=by intro h0 h1 q;(try simp-dsimp-implicitDefEqProofs(disch:=omega)only[go_sem,EZ,ints,h0,h1]);exact q):P:=e r0 r1 q
def Kb{P Q:Prop}(q:Q)(e:Q->P:=by intro q;(try simp-dsimp-implicitDefEqProofs(disch:=omega)only[go_sem,A4,ints]);exact q):P:=e q
end Go.Proofs.YtgknbnkmilddhaaGreat
attribute [go_sem_proc] Nat.reduceAdd Nat.reduceSub Nat.reduceGT Nat.reduceEqDiff Nat.reduceMul
attribute [go_sem] Go.undef
namespace Go.Proofs.YtgknbnkmilddhaaGreat
open Nat (reduceAdd reduceSub reduceGT reduceEqDiff reduceMul)
def sI{α:Type}(d:α){a b:List α}(hl:a.length=b.length){k:Nat}(hk:k<a.length)(h:a.take k=b.take k)(he:a.getD k d=b.getD k d):a.take (k+1)=b.take (k+1):=by
 rw[E5,E5,h];congr 1
 simp[hk,show k<b.length by omega]at he;simp[hk,show k<b.length by omega,he]
open Nat (reduceAdd reduceSub reduceGT reduceEqDiff reduceMul)
def O8(p:Int):Prop:=p=2\/p=3\/p=5\/p=7
def SI(p):DZ prog 164 [.i .i64 p] (.b (tf (O8 p))):=by
 refine BI AY func164 rfl AP ntmps164 results164 (.b _) (λnx cX=>?_)
 refine sQ λN hN=>?_;simp-dsimp-implicitDefEqProofs(disch:=omega)only[go_sem,];apply hN;refine sQ λN hN=>?_;simp-dsimp-implicitDefEqProofs(disch:=omega)only[go_sem,];refine J5.mk' (λh1=>?_) (λh1=>?_)
 ·try simp only[cn]at h1
  try simp-dsimp-implicitDefEqProofs(disch:=omega)only[go_sem,]
  refine J5.mk' (λh2=>?_) (λh2=>?_)
  ·try simp only[cn]at h2
   try simp-dsimp-implicitDefEqProofs(disch:=omega)only[go_sem,]
   refine J5.mk' (λh3=>?_) (λh3=>?_)
   ·(try simp only[cn]at h3);try simp-dsimp-implicitDefEqProofs(disch:=omega)only[go_sem,]
    apply hN;apply DQ;simp-dsimp-implicitDefEqProofs(disch:=omega)only[go_sem];exact bt (by simp_all[O8,tf];try rfl)
   try simp only[cn]at h3
   try simp-dsimp-implicitDefEqProofs(disch:=omega)only[go_sem,]
   apply hN;apply DQ;simp-dsimp-implicitDefEqProofs(disch:=omega)only[go_sem];exact bt (by simp_all[O8,tf];try rfl)
  try simp only[cn]at h2
  try simp-dsimp-implicitDefEqProofs(disch:=omega)only[go_sem,]
  apply hN;apply DQ;simp-dsimp-implicitDefEqProofs(disch:=omega)only[go_sem];exact bt (by simp_all[O8,tf];try rfl)
 try simp only[cn]at h1
 try simp-dsimp-implicitDefEqProofs(disch:=omega)only[go_sem,]
 apply hN;apply DQ;simp-dsimp-implicitDefEqProofs(disch:=omega)only[go_sem];exact bt (by simp_all[O8,tf];try rfl)
def aC(p):DZ prog 167 [.i .i64 p] (.b (tf (O8 p))):=by
 refine BI AY func167 rfl AP ntmps167 results167 (.b _) (λnx cX=>?_)
 refine sQ λN hN=>?_;simp-dsimp-implicitDefEqProofs(disch:=omega)only[go_sem,];apply hN;refine sQ λN hN=>?_;simp-dsimp-implicitDefEqProofs(disch:=omega)only[go_sem,];refine J5.mk' (λh1=>?_) (λh1=>?_)
 ·try simp only[cn]at h1
  try simp-dsimp-implicitDefEqProofs(disch:=omega)only[go_sem,]
  refine J5.mk' (λh2=>?_) (λh2=>?_)
  ·try simp only[cn]at h2
   try simp-dsimp-implicitDefEqProofs(disch:=omega)only[go_sem,]
   refine J5.mk' (λh3=>?_) (λh3=>?_)
   ·(try simp only[cn]at h3);try simp-dsimp-implicitDefEqProofs(disch:=omega)only[go_sem,]
    apply hN;apply DQ;simp-dsimp-implicitDefEqProofs(disch:=omega)only[go_sem];exact bt (by simp_all[O8,tf];try rfl)
   try simp only[cn]at h3
   try simp-dsimp-implicitDefEqProofs(disch:=omega)only[go_sem,]
   apply hN;apply DQ;simp-dsimp-implicitDefEqProofs(disch:=omega)only[go_sem];exact bt (by simp_all[O8,tf];try rfl)
  try simp only[cn]at h2
  try simp-dsimp-implicitDefEqProofs(disch:=omega)only[go_sem,]
  apply hN;apply DQ;simp-dsimp-implicitDefEqProofs(disch:=omega)only[go_sem];exact bt (by simp_all[O8,tf];try rfl)
 try simp only[cn]at h1
 try simp-dsimp-implicitDefEqProofs(disch:=omega)only[go_sem,]
 apply hN;apply DQ;simp-dsimp-implicitDefEqProofs(disch:=omega)only[go_sem];exact bt (by simp_all[O8,tf];try rfl)
def Q7(n lo hi):DZ prog 34 [.i .i64 n,.i .i64 lo,.i .i64 hi] (.b (tf (lo<=n/\n<=hi))):=by
 refine BI AY func34 rfl AP ntmps34 results34 (.b _) (λnx cX=>?_)
 refine sQ λN hN=>?_;simp-dsimp-implicitDefEqProofs(disch:=omega)only[go_sem,];apply hN;refine sQ λN hN=>?_;simp-dsimp-implicitDefEqProofs(disch:=omega)only[go_sem,];refine J5.mk' (λh1=>?_) (λh1=>?_)
 ·try simp only[cn]at h1
  try simp-dsimp-implicitDefEqProofs(disch:=omega)only[go_sem,]
  apply hN;apply DQ;simp-dsimp-implicitDefEqProofs(disch:=omega)only[go_sem];exact bt (by simp_all[tf];try omega)
 try simp only[cn]at h1
 try simp-dsimp-implicitDefEqProofs(disch:=omega)only[go_sem,]
 apply hN;apply DQ;simp-dsimp-implicitDefEqProofs(disch:=omega)only[go_sem];exact bt (by simp_all[tf];try omega)
def KV(n lo hi):DZ prog 82 [.i .i64 n,.i .i64 lo,.i .i64 hi] (.b (tf (lo<=n/\n<=hi))):=by
 refine BI AY func82 rfl AP ntmps82 results82 (.b _) (λnx cX=>?_)
 refine sQ λN hN=>?_;simp-dsimp-implicitDefEqProofs(disch:=omega)only[go_sem,];apply hN;refine sQ λN hN=>?_;simp-dsimp-implicitDefEqProofs(disch:=omega)only[go_sem,];refine J5.mk' (λh1=>?_) (λh1=>?_)
 ·try simp only[cn]at h1
  try simp-dsimp-implicitDefEqProofs(disch:=omega)only[go_sem,]
  apply hN;apply DQ;simp-dsimp-implicitDefEqProofs(disch:=omega)only[go_sem];exact bt (by simp_all[tf];try omega)
 try simp only[cn]at h1
 try simp-dsimp-implicitDefEqProofs(disch:=omega)only[go_sem,]
 apply hN;apply DQ;simp-dsimp-implicitDefEqProofs(disch:=omega)only[go_sem];exact bt (by simp_all[tf];try omega)
def Er(a:C2):Prop:=∀j,j<a.length->a.getD j 0=0
def aD(a)(dY:a.length<=1099511627776):DZ prog 99 [ints a] (.b (tf (Er a))):=by
 refine BI AY func99 rfl AP ntmps99 results99 (.b _) (λnx cX=>?_)
 refine sQ λN hN=>?_;simp-dsimp-implicitDefEqProofs(disch:=omega)only[go_sem,ints,CB];apply hN;refine A6 λN1 CW=>sQ λN hN=>?_;simp-dsimp-implicitDefEqProofs(disch:=omega)only[go_sem,ints,CB];apply hN;refine AA<|AM (α:=Nat) (λx=>sl 14 [(5,ints a),(6,.i .i64 a.length),(7,.i .i64 x)]) (λ_=>DD) (λx m=>x<=a.length/\∀j,j<x->a.getD j 0=0) (λx=>a.length-x) (0) ?_ ?_ (λ_ _ h=>h) ?_
 ·exact⟨A0,by intro j hj;omega⟩
 ·simp(disch:=omega) [EJ,EN,sl,DV,ints,rows,B6,ints,CB,DV]<;>omega
 rintro k m ⟨hk,hI⟩
 simp-dsimp-implicitDefEqProofs(disch:=omega)only[go_sem];refine sQ λN hN=>?_;simp-dsimp-implicitDefEqProofs(disch:=omega)only[go_sem,ints,CB];apply hN;refine A6 λN2 DN=>MG rfl ?_ ?_<;>intro h1<;>try simp only[cn]at h1
 ·apply AF;apply DN;refine A6 λN3 DO=>AA<|sQ λN hN=>?_;simp-dsimp-implicitDefEqProofs(disch:=omega)only[go_sem,ints,CB];apply hN;refine sQ λN hN=>?_;simp-dsimp-implicitDefEqProofs(disch:=omega)only[go_sem,ints,CB];apply hN;refine MG rfl ?_ ?_<;>intro h2<;>try simp only[cn]at h2
  ·refine sQ λN hN=>?_;simp-dsimp-implicitDefEqProofs(disch:=omega)only[go_sem,ints,CB];apply hN;apply DQ;simp-dsimp-implicitDefEqProofs(disch:=omega)only[go_sem];exact bt (JQ (λh=>h2 (h k A0))).symm
  apply AF;apply DO;apply rQ;simp-dsimp-implicitDefEqProofs(disch:=omega)only[go_sem,ints,CB];refine⟨k+1,?_,λ_ _ h=>h,?_,?_⟩
  ·simp(disch:=omega) [EJ,EN,sl,DV,ints,rows,B6,ints,CB,DV]<;>omega
  ·refine⟨A0,λj hj=>?_⟩;by_cases e:j=k
   ·subst e;exact h2
   exact hI j A0
  exact AI
 apply AO;apply CW;refine sQ λN hN=>?_;simp-dsimp-implicitDefEqProofs(disch:=omega)only[go_sem,ints,CB];apply hN;apply DQ;simp-dsimp-implicitDefEqProofs(disch:=omega)only[go_sem];exact bt (KU (λj hj=>hI j A0)).symm
def A5K{p:Int}(h1:1<=p)(h7:p<=7):∀k:Nat,1<=p^k/\p^k<=7^k:=by
 intro k;induction k with
 |zero=>simp
 | succ k ih=>
   rw[KL,KL];refine⟨?_,?_⟩
   ·have:=GB ih.1 h1 A0 A0;simpa using this
   exact GB ih.2 h7 A0 (by have:=ih.1;omega)
def Zs:∀k:Nat,k<=20->(7:Int)^k<=79792266297612001:=by
 intro k hk;have h:(7:Nat)^k<=7^20:=DE HT hk;have h2:((7^k:Nat):Int)=(7:Int)^k:=B5;omega
def FQ{p}(h:O8 p):2<=p/\p<=7:=by unfold O8 at h;omega
def A96{p}(h:O8 p){k}(hk:k<=20):1<=p^k/\p^k<=79792266297612001:=by
 have h1:=FQ h;have h2:=A5K (by omega:1<=p) h1.2 k;have h3:=Zs k hk;omega
def T0(p:Int)(n:Nat)(hp:O8 p)(hn:n<=20):DZ prog 83 [.i .i64 p,.i .i64 n] (.i .i64 (p^n)):=by
 refine BI AY func83 rfl AP ntmps83 results83 (.i _ _) (λnx cX=>?_)
 refine sQ λN hN=>?_;simp-dsimp-implicitDefEqProofs(disch:=omega)only[go_sem];apply hN;refine sQ λN hN=>?_;simp-dsimp-implicitDefEqProofs(disch:=omega)only[go_sem];apply hN;refine A6 λN1 CW=>sQ λN hN=>?_;simp-dsimp-implicitDefEqProofs(disch:=omega)only[go_sem];apply hN;refine AA<|AM (α:=Nat) (λx=>sl 14 [(0,.i .i64 p),(5,.i .i64 (p^x)),(6,.i .i64 n),(7,.i .i64 x)]) (λ_=>DD) (λx m=>x<=n) (λx=>n-x) (0) ?_ ?_ (λ_ _ h=>h) ?_
 ·omega
 ·simp[EJ,EN,sl]
 rintro k m hk
 simp-dsimp-implicitDefEqProofs(disch:=omega)only[go_sem];have hb:=A96 hp (show k<=20 by omega)
 have Ij:=A96 hp (show k<=20 by omega)
 refine sQ λN hN=>?_;simp-dsimp-implicitDefEqProofs(disch:=omega)only[go_sem];apply hN;refine A6 λN2 DN=>MG rfl ?_ ?_<;>intro h1<;>try simp only[cn]at h1
 ·apply AF;apply DN;refine A6 λN3 DO=>?_;apply AA;apply rQ;simp-dsimp-implicitDefEqProofs(disch:=omega)only[go_sem];apply DO;apply rQ;simp-dsimp-implicitDefEqProofs(disch:=omega)only[go_sem];have hc:IntKind.wrap .i64 (p^k*p)=p^k*p:=by
   have h1:=FQ hp;have h2:p^k*p<=79792266297612001*7:=GB hb.2 h1.2 A0 A0;have h3:0<=p^k*p:=FH A0 A0;exact DV A0 A0
  rw[hc];refine⟨k+1,?_,λ_ _ h=>h,?_,?_⟩
  ·rw[show p^(k+1)=p^k*p from KL _ _];simp(disch:=omega) [EJ,EN,sl,DV]
  ·omega
  exact AI
 apply AO;apply CW;refine sQ λN hN=>?_;simp-dsimp-implicitDefEqProofs(disch:=omega)only[go_sem];apply hN;apply DQ;simp-dsimp-implicitDefEqProofs(disch:=omega)only[go_sem];refine it ?_
 rw[show n=k by omega]
open Nat (reduceAdd reduceSub reduceGT reduceEqDiff reduceMul)
structure cD(pw:D4)(br:E6):Prop where
 n:pw.length<=1048576
 v:∀i,(pw.getD i []).length<=1048576
 b:br.length<=1048576
 r:∀i,(br.getD i []).length<=1048576
 e:∀i j,((br.getD i []).getD j []).length<=1048576
open Nat (reduceAdd reduceSub reduceGT reduceEqDiff reduceMul)
structure FC(a:D4):Prop where
 n:a.length<=1048576
 v:∀x∈a,x.length<=1048576
structure NU(a:E6):Prop where
 n:a.length<=1048576
 v:∀x∈a,FC x
def XB{α:Type}{P:α->Prop}{xs:List α}{d:α}(h:∀x∈xs,P x)(hd:P d)(i:Nat):P (xs.getD i d):=by
 by_cases hi:i<xs.length
 ·exact h _ (by simp[hi])
 simp[A5,B8 (JC hi),hd]
def FC.nil:FC []:=⟨B5,B5⟩
def FC.getD{a}(h:FC a)(i):(a.getD i []).length<=1048576:=XB (P:=λx:C2=>x.length<=1048576) h.v B5 i
def cD.of{pw br}(h1:FC pw)(h2:NU br):cD pw br:=
 ⟨h1.n,h1.getD,h2.n,λi=>(XB h2.v .nil i).n,λi j=>(XB h2.v .nil i).getD j⟩
open Nat (reduceAdd reduceSub reduceGT reduceEqDiff reduceMul)
def Le(H H':HP):Prop:=∀i c,H i=some c->H' i=some c
def Le.refl(H):Le H H:=λ_ _ h=>h
def Zt{P f nx H xs Q}(h:AC P f nx H xs (λDI H' r=>∃H2,Le H2 H'/\Q DI H2 r)):AC P f nx H xs Q:=by
 refine⟨h.1,λL Av w us a b c=>(h.2 L Av w us a b c).mono ?_⟩;rintro e w' ⟨u,r,L',DI,H',h1,⟨H2,h2,J7⟩,h3,h4,h5,h6,h7,h8⟩;have hm:∀b,MM L' H2 Av b->MM L' H' Av b:=λb hb=>Or.elim hb .inl (λhl=> .inr (lK h2 hl))
 exact⟨u,r,L',DI,H2,h1,J7,h3,h4,h5,h6.sub h2,⟨h7.le,h7.os,h7.tape,h7.output,h7.size,h7.BV,λb hb hl=>h7.old b hb (lK h2 hl)⟩,
  h8.mono (λ_ _ h=>h) (λ_ _ _=>rfl) (λb _ hb=>hm b hb)⟩
def AC.CD{P f nx H xs Q Q'}(h:AC P f nx H xs Q)(hq:∀n H r,nx<=n->Q n H r->Q' n H r):AC P f nx H xs Q':=
 ⟨h.1,λL Av w us a b c=>(h.2 L Av w us a b c).mono λe w' ⟨u,r,L',DI,H',h1,h2,h3,h4⟩=>⟨u,r,L',DI,H',h1,hq _ _ _ h3 h2,h3,h4⟩⟩
def CF{P Γ}(hG:U2 P Γ){f fn c n rs}(hf:P.funcs[f]? =some fn)(hb:fn.body=some c)(hn:(fn.name== "runtime.NumGoroutine")=false)(Jw:fn.ntmps=n)(oV:fn.results=rs){xs nx H Q}(h:(∀i,nx<=i->H i=none)->∀cX:Ctx,AW cX P c ⟨xs++List.replicate (n-xs.length) .j,H,nx⟩ (zQ Γ rs.toList (λDI H' r=>∃H2,Le H2 H'/\Q DI H2 r))):AC P f nx H xs Q:=by
 refine Zt ⟨⟨fn,hf,by rw[hb];rfl,hn⟩,λL Av w us a b c=>?_⟩;have GM:∀i,nx<=i->H i=none:=by
  intro i hi;cases hh:H i with
  |none=>rfl
  |some cs=>obtain⟨l,h1,_⟩:=a.node i cs hh;rw[b i hi]at h1;cases h1
 exact(ED hG hf hb hn Jw oV (h GM)).2 L Av w us a b c
def JP(n:Nat)(f:Nat->Int):List AV:=(List.range n).map λk=> .i .i64 (f k)
def vec(n:Nat)(f:Nat->Int):C2:=(List.range n).map f
def D0(f:Nat->Int)(j:Nat)(x:Int):Nat->Int:=λk=>if k=j then x else f k
def HM{n f}:(JP n f).length=n:=by simp[JP]
def A5L{n f j}(h:j<n):(JP n f).getD j .j= .i .i64 (f j):=by simp[JP,h]
def L5{n f g}(h:∀k,k<n->f k=g k):JP n f=JP n g:=by
 apply FN;intro k hk;rw[h k (B3.1 hk)]
def cE{n f j x}(h:j<n):DH (JP n f) j [.i .i64 x]=JP n (D0 f j x):=by
 rw[OW _ _ _ (by rw[HM];exact h)];apply C7;intro i;rw[CL];by_cases hi:j=i
 ·subst hi;simp[JP,D0,h]
 simp only[hi,if_false,JP,BF];by_cases hn:i<n
 ·simp[hn,D0,I8 hi]
 simp[hn]
def HB{n f}:(vec n f).length=n:=by simp[vec]
def VY{n f j}(h:j<n):(vec n f).getD j 0=f j:=by simp[vec,h]
def VZ{n f}:(vec n f).map (.i .i64)=JP n f:=by simp[vec,JP]
def A5M{n f g}(h:∀k,k<n->f k=g k):vec n f=vec n g:=by
 apply FN;intro k hk;rw[h k (B3.1 hk)]
def sJ(a):a=vec a.length (λk=>a.getD k 0):=by
 apply C7;intro i;by_cases h:i<a.length<;>simp[vec,h]
def RK(a:C2):a.map (.i .i64)=JP a.length (λk=>a.getD k 0):=by
 rw[<-VZ,<-sJ]
def IL{n}:List.replicate n (.i .i64 0)=JP n (λ_=>0):=by
 apply C7;intro i;by_cases h:i<n<;>simp[JP,h]
def AIV{k:IntKind}{a:C2}:(∀z:AV,z∈List.map (AV.i k) a->one z=true)=True:=by
 simp only[eq_iff_iff,iff_true,AQ];rintro z ⟨x,_,rfl⟩;rfl
attribute [go_sem] cA HM A5L cE AIV
def tn1(k:Nat):((k:Int)+1).toNat=k+1:=A0
def tn2(k q:Nat):((k:Int)+1+(q:Int)).toNat=k+1+q:=A0
def tn4(k q):(((k+1+q:Nat):Int)-(k:Int)-1).toNat=q:=A0
attribute [go_sem] tn1 tn2 tn4
def Vh(nx DI:Nat)(H H':HP)(r:AV)(n:Nat)(f:Nat->Int):Prop:=∃id,r= .h id 0 n/\nx<=id/\id<DI/\H'=CJ H id (some (JP n f))
def Vh.own{nx DI H H' r n f}(h:Vh nx DI H H' r n f):∃ids,Own nx DI H' r (ints (vec n f)) ids:=by
 obtain⟨id,rfl,h1,h2,rfl⟩:=h;exact⟨_,Own.ints (by rw[AD,VZ]) HB.symm h1 h2⟩
def Vh.aco{P f xs n g}(h:∀nx,AC P f nx DD xs (λDI H' r=>Vh nx DI DD H' r n g)):cC P f xs (ints (vec n g)):=
 λnx=>(h nx).mono λ_ _ _ h=>h.own
def Kc{H H' id c}(h:∀i c,i≠id->H i=some c->H' i=some c)(h2:∀d,c=some d->H' id=some d):Le (CJ H id c) H':=by
 intro i d hi;by_cases e:i=id
 ·subst e;rw[AD]at hi;exact h2 d hi
 rw[AB _ _ e]at hi;exact h i d e hi
def IM(a)(ha:a.length<=1099511627776)(nx H):AC prog 87 nx H [ints a] (λDI H' r=>Vh nx DI H H' r a.length (λk=>a.getD k 0)):=by
 refine CF AY func87 rfl AP ntmps87 results87 (λGM cX=>?_)
 refine sQ λN hN=>?_;simp-dsimp-implicitDefEqProofs(disch:=omega)only[go_sem,ints];apply hN;refine sQ λN hN=>?_;simp-dsimp-implicitDefEqProofs(disch:=omega)only[go_sem,ints];apply hN;apply DQ;simp-dsimp-implicitDefEqProofs(disch:=omega)only[go_sem];refine⟨_,?_,nx+1+2,rfl,A0,A0,rfl⟩
 rw[RK]
 intro i c hi
 have HX:H i=some c->i<nx:=λh=>by apply AN;intro hn;rw[GM i A0]at h;cases h
 simp only[CJ]at hi ⊢
 split at hi
 ·rename_i e;subst e;cases hi;repeat (first|rw[if_pos rfl]|rw[if_neg A0])
 have:=HX hi;repeat rw[if_neg A0]
 exact hi
def CpI(nx DI:Nat)(H H':HP)(r:AV)(n:Nat)(f:Nat->Int):Prop:=Vh nx DI H H' r n f\/(n=0/\r= .v 0 []/\H'=H)
def R.AIW{L w M u}(h:R L w M .nl u):R L w M (.v 0 []) u:=by rw[h.Q1];exact .v0 _ _
def Of{P f nx H xs Q}(h:AC P f nx H xs (λDI H' r=>Q DI H' r\/(r= .nl/\Q DI H' (.v 0 [])))):AC P f nx H xs Q:=by
 refine⟨h.1,λL Av w us a b c=>(h.2 L Av w us a b c).mono ?_⟩;rintro e w' ⟨u,r,L',DI,H',h1,h2,h3,h4,h5,h6,h7,h8⟩;rcases h2 with h2|⟨rfl,h2⟩
 ·exact⟨u,r,L',DI,H',h1,h2,h3,h4,h5,h6,h7,h8⟩
 exact⟨u,_,L',DI,H',h1,h2,h3,h4,h5,h6,h7,h8.AIW⟩
def OH(a)(ha:a.length<=1099511627776)(nx H):AC prog 197 nx H [ints a] (λDI H' r=>CpI nx DI H H' r a.length (λk=>a.getD k 0)):=by
 refine Of ?_;refine CF AY func197 rfl AP ntmps197 results197 (λGM cX=>?_);refine sQ λN hN=>?_;simp-dsimp-implicitDefEqProofs(disch:=omega)only[go_sem,ints];apply hN;refine A6 λN1 CW=>sQ λN hN=>?_;simp-dsimp-implicitDefEqProofs(disch:=omega)only[go_sem,ints];refine⟨⟨_,_,rfl,rfl⟩,⟨λh0=>?_,?_⟩⟩
 ·apply hN;refine HU rfl ?_;refine sQ λN hN=>?_;simp-dsimp-implicitDefEqProofs(disch:=omega)only[go_sem,];apply hN;apply DQ;simp-dsimp-implicitDefEqProofs(disch:=omega)only[go_sem];exact⟨H,Le.refl _,.inr (.inr ⟨h0,rfl,rfl⟩)⟩
 apply hN;refine DJ rfl ?_;apply AF;apply CW;refine sQ λN hN=>?_;simp-dsimp-implicitDefEqProofs(disch:=omega)only[go_sem,ints];apply hN;apply DQ;simp-dsimp-implicitDefEqProofs(disch:=omega)only[go_sem];refine⟨_,?_,.inl (.inl ⟨_,rfl,?_,?_,rfl⟩)⟩
 ·rw[RK];intro i c hi;have HX:H i=some c->i<nx:=λh=>by apply AN;intro hn;rw[GM i A0]at h;cases h
  simp only[CJ]at hi ⊢;split at hi
  ·rename_i e;subst e;cases hi;repeat (first|rw[if_pos rfl]|rw[if_neg A0])
  have:=HX hi;repeat rw[if_neg A0]
  exact hi
 ·omega
 omega
open Nat (reduceAdd reduceSub reduceGT reduceEqDiff reduceMul)
def Es{cX P c s K}(h:AW cX P c s (wW K λ_=>False)):AW cX P (.loop c) s K:=
 AM (α:=Unit) (λ_=>s.t) (λ_=>s.H) (λ_ m=>m=s.nx) (λ_=>0) () rfl (by
  have:∀t:List AV,EJ t t:=by
   intro t;induction t with
   |nil=>exact trivial
   |cons x xs ih=>exact⟨.inr (.inl rfl),ih⟩
  exact this _) (λ_ _ h=>h) (λ_ m hm=>by
   subst hm;exact h.mono (λe s' h=>by cases e<;>simp only[wW]at h ⊢<;>first|exact h.elim|exact h))
open Nat (reduceAdd reduceSub reduceGT reduceEqDiff reduceMul)
def Et(n k:Nat):C2:=vec n (λj=>if j=k then 1 else 0)
def Zu{n k}(h:k<n):DH (JP n (λ_=>0)) k [.i .i64 1]=JP n (λj=>if j=k then 1 else 0):=by
 rw[cE h];rfl
def fZ(n k:Nat)(hn:n<=1048576)(hk:k<n):cC prog 130 [.i .i64 n,.i .i64 k] (ints (Et n k)):=by
 refine Vh.aco (λnx=>?_)
 refine CF AY func130 rfl AP ntmps130 results130 (λGM cX=>?_)
 refine sQ λN hN=>?_;simp-dsimp-implicitDefEqProofs(disch:=omega)only[go_sem,];apply hN;refine sQ λN hN=>?_;simp-dsimp-implicitDefEqProofs(disch:=omega)only[go_sem,];apply hN;refine sQ λN hN=>?_;simp-dsimp-implicitDefEqProofs(disch:=omega)only[go_sem,];apply hN;refine sQ λN hN=>?_;simp-dsimp-implicitDefEqProofs(disch:=omega)only[go_sem,];apply hN;apply DQ;simp-dsimp-implicitDefEqProofs(disch:=omega)only[go_sem];refine⟨_,?_,_,rfl,?_,?_,rfl⟩
 ·rw[IL,Zu hk];refine Kc (λi c h1 h2=>?_) (λd hd=>by rw[AD];exact hd);cases h2
 ·omega
 omega
open Nat (reduceAdd reduceSub reduceGT reduceEqDiff reduceMul)
def Z3(a)(dY:a.length<=1099511627776):DZ prog 178 [ints a] (.b (tf (Er a))):=by
 refine BI AY func178 rfl AP ntmps178 results178 (.b _) (λnx cX=>?_)
 refine sQ λN hN=>?_;simp-dsimp-implicitDefEqProofs(disch:=omega)only[go_sem,ints,CB];apply hN;refine A6 λN1 CW=>sQ λN hN=>?_;simp-dsimp-implicitDefEqProofs(disch:=omega)only[go_sem,ints,CB];apply hN;refine AA<|AM (α:=Nat) (λx=>sl 15 [(0,ints a),(3,.i .i64 x)]) (λ_=>DD) (λx m=>x<=a.length/\∀j,j<x->a.getD j 0=0) (λx=>a.length-x) (0) ?_ ?_ (λ_ _ h=>h) ?_
 ·exact⟨A0,by intro j hj;omega⟩
 ·simp(disch:=omega) [EJ,EN,sl,DV,ints,rows,B6,ints,CB,DV]<;>omega
 rintro k m ⟨hk,hI⟩
 simp-dsimp-implicitDefEqProofs(disch:=omega)only[go_sem];refine A6 λN2 DN=>sQ λN hN=>?_;simp-dsimp-implicitDefEqProofs(disch:=omega)only[go_sem,ints,CB];apply hN;refine MG rfl ?_ ?_<;>intro h1<;>try simp only[cn]at h1
 ·apply AF;apply DN;refine A6 λN3 DO=>AA<|sQ λN hN=>?_;simp-dsimp-implicitDefEqProofs(disch:=omega)only[go_sem,ints,CB];apply hN;refine MG rfl ?_ ?_<;>intro h2<;>try simp only[cn]at h2
  ·refine sQ λN hN=>?_;simp-dsimp-implicitDefEqProofs(disch:=omega)only[go_sem,ints,CB];apply hN;apply DQ;simp-dsimp-implicitDefEqProofs(disch:=omega)only[go_sem];exact bt (JQ (λh=>h2 (h k A0))).symm
  apply AF;apply DO;apply rQ;simp-dsimp-implicitDefEqProofs(disch:=omega)only[go_sem,ints,CB];refine⟨k+1,?_,λ_ _ h=>h,?_,?_⟩
  ·simp(disch:=omega) [EJ,EN,sl,DV,ints,rows,B6,ints,CB,DV]<;>omega
  ·refine⟨A0,λj hj=>?_⟩;by_cases e:j=k
   ·subst e;exact h2
   exact hI j A0
  exact AI
 apply AO;apply CW;refine sQ λN hN=>?_;simp-dsimp-implicitDefEqProofs(disch:=omega)only[go_sem,ints,CB];apply hN;apply DQ;simp-dsimp-implicitDefEqProofs(disch:=omega)only[go_sem];exact bt (KU (λj hj=>hI j A0)).symm
def Z4(a b)(ha:a.length<=1099511627776)(hb:b.length<=1099511627776):DZ prog 214 [ints a,ints b] (.b (tf (a=b))):=by
 refine BI AY func214 rfl AP ntmps214 results214 (.b _) (λnx cX=>?_)
 refine sQ λN hN=>?_;simp-dsimp-implicitDefEqProofs(disch:=omega)only[go_sem,ints,CB];apply hN;refine A6 λN1 CW=>sQ λN hN=>?_;simp-dsimp-implicitDefEqProofs(disch:=omega)only[go_sem,ints,CB];apply hN;refine MG rfl ?_ ?_<;>intro h1<;>try simp only[cn]at h1
 ·refine sQ λN hN=>?_;simp-dsimp-implicitDefEqProofs(disch:=omega)only[go_sem,ints,CB];apply hN;apply DQ;simp-dsimp-implicitDefEqProofs(disch:=omega)only[go_sem];exact bt (JQ (λe=>h1 (by rw[e]))).symm
 have hl:a.length=b.length:=A0
 apply AF;apply CW;refine A6 λN2 DN=>sQ λN hN=>?_;simp-dsimp-implicitDefEqProofs(disch:=omega)only[go_sem,ints,CB];apply hN;refine AA<|AM (α:=Nat) (λx=>sl 26 [(0,ints a),(1,ints b),(5,.i .i64 x)]) (λ_=>DD) (λx m=>x<=a.length/\a.take x=b.take x) (λx=>a.length-x) (0) ?_ ?_ (λ_ _ h=>h) ?_
 ·exact⟨A0,rfl⟩
 ·simp(disch:=omega) [EJ,EN,sl,DV,ints,rows,B6,ints,CB,DV]<;>omega
 rintro k m ⟨hk,he⟩
 simp-dsimp-implicitDefEqProofs(disch:=omega)only[go_sem];refine A6 λN3 DO=>sQ λN hN=>?_;simp-dsimp-implicitDefEqProofs(disch:=omega)only[go_sem,ints,CB];apply hN;refine MG rfl ?_ ?_<;>intro h2<;>try simp only[cn]at h2
 ·apply AF;apply DO;refine A6 λN4 FD=>AA<|A6 λN hN=>?_;refine C9 AY AP 9 AP ?_
  simp-dsimp-implicitDefEqProofs(disch:=omega)only[ES,ET,GJ,AT,AS,AR,B4,BE,BD,go_sem,undef,ints,CB,DV];apply hN;refine MG rfl ?_ ?_<;>intro h3<;>try simp only[cn]at h3
  ·refine sQ λN hN=>?_;simp-dsimp-implicitDefEqProofs(disch:=omega)only[go_sem,ints,CB];apply hN;apply DQ;simp-dsimp-implicitDefEqProofs(disch:=omega)only[go_sem];exact bt (JQ (λe=>h3 (by rw[e]))).symm
  apply AF;apply FD;apply rQ;simp-dsimp-implicitDefEqProofs(disch:=omega)only[go_sem,ints,CB];refine⟨k+1,?_,λ_ _ h=>h,?_,?_⟩
  ·simp(disch:=omega) [EJ,EN,sl,DV,ints,rows,B6,ints,CB,DV]<;>omega
  ·exact⟨A0,sI 0 hl A0 he h3⟩
  exact AI
 apply AO;apply DN;refine sQ λN hN=>?_;simp-dsimp-implicitDefEqProofs(disch:=omega)only[go_sem,ints,CB];apply hN;apply DQ;simp-dsimp-implicitDefEqProofs(disch:=omega)only[go_sem];rw[show k=a.length by omega,B2,hl,B2]at he
 exact bt (KU he).symm
def OI(a b)(ha:a.length<=1099511627776)(hb:b.length<=1099511627776):DZ prog 103 [ints a,ints b] (.b (tf (a=b))):=by
 refine BI AY func103 rfl AP ntmps103 results103 (.b _) (λnx cX=>?_)
 refine sQ λN hN=>?_;simp-dsimp-implicitDefEqProofs(disch:=omega)only[go_sem,ints,CB];apply hN;refine A6 λN1 CW=>sQ λN hN=>?_;simp-dsimp-implicitDefEqProofs(disch:=omega)only[go_sem,ints,CB];apply hN;refine MG rfl ?_ ?_<;>intro h1<;>try simp only[cn]at h1
 ·refine sQ λN hN=>?_;simp-dsimp-implicitDefEqProofs(disch:=omega)only[go_sem,ints,CB];apply hN;apply DQ;simp-dsimp-implicitDefEqProofs(disch:=omega)only[go_sem];exact bt (JQ (λe=>h1 (by rw[e]))).symm
 have hl:a.length=b.length:=A0
 apply AF;apply CW;refine A6 λN2 DN=>sQ λN hN=>?_;simp-dsimp-implicitDefEqProofs(disch:=omega)only[go_sem,ints,CB];apply hN;refine AA<|AM (α:=Nat) (λx=>sl 26 [(0,ints a),(1,ints b),(12,.i .i64 a.length),(13,.i .i64 x)]) (λ_=>DD) (λx m=>x<=a.length/\a.take x=b.take x) (λx=>a.length-x) (0) ?_ ?_ (λ_ _ h=>h) ?_
 ·exact⟨A0,rfl⟩
 ·simp(disch:=omega) [EJ,EN,sl,DV,ints,rows,B6,ints,CB,DV]<;>omega
 rintro k m ⟨hk,he⟩
 simp-dsimp-implicitDefEqProofs(disch:=omega)only[go_sem];refine sQ λN hN=>?_;simp-dsimp-implicitDefEqProofs(disch:=omega)only[go_sem,ints,CB];apply hN;refine A6 λN3 DO=>MG rfl ?_ ?_<;>intro h2<;>try simp only[cn]at h2
 ·apply AF;apply DO;refine A6 λN4 FD=>AA<|sQ λN hN=>?_;simp-dsimp-implicitDefEqProofs(disch:=omega)only[go_sem,ints,CB];apply hN;refine A6 λN hN=>C9 AY AP 9 AP ?_
  simp-dsimp-implicitDefEqProofs(disch:=omega)only[ES,ET,GJ,AT,AS,AR,B4,BE,BD,go_sem,undef,ints,CB,DV];apply hN;refine MG rfl ?_ ?_<;>intro h3<;>try simp only[cn]at h3
  ·refine sQ λN hN=>?_;simp-dsimp-implicitDefEqProofs(disch:=omega)only[go_sem,ints,CB];apply hN;apply DQ;simp-dsimp-implicitDefEqProofs(disch:=omega)only[go_sem];exact bt (JQ (λe=>h3 (by rw[e]))).symm
  apply AF;apply FD;apply rQ;simp-dsimp-implicitDefEqProofs(disch:=omega)only[go_sem,ints,CB];refine⟨k+1,?_,λ_ _ h=>h,?_,?_⟩
  ·simp(disch:=omega) [EJ,EN,sl,DV,ints,rows,B6,ints,CB,DV]<;>omega
  ·exact⟨A0,sI 0 hl A0 he h3⟩
  exact AI
 apply AO;apply DN;refine sQ λN hN=>?_;simp-dsimp-implicitDefEqProofs(disch:=omega)only[go_sem,ints,CB];apply hN;apply DQ;simp-dsimp-implicitDefEqProofs(disch:=omega)only[go_sem];rw[show k=a.length by omega,B2,hl,B2]at he
 exact bt (KU he).symm
open Nat (reduceAdd reduceSub reduceGT reduceEqDiff reduceMul)
def NR.ts{xs}(h:∀x∈xs,NR x):NR (.t xs):= .t _ (λk x hk=>h x (D3 hk))
open Nat (reduceAdd reduceSub reduceGT reduceEqDiff reduceMul)
def ACQ(a):one (ints a)=true:=rfl
def ACR(a):one (rows a)=true:=rfl
def A5N(a):one (B6 a)=true:=rfl
def ACS(a):wS (ints a)=true:=rfl
def ACT(a):I0 (ints a)=[ints a]:=rfl
attribute [go_sem] ACQ ACR A5N ACS ACT Bool.true_and ne_eq not_true_eq_false not_false_eq_true or_false false_or or_self
def IC(a):NR (ints a):=by
 unfold Go.Proofs.YtgknbnkmilddhaaGreat.ints;exact .v _ _ (by intro k x hk;obtain⟨y,_,rfl⟩:=AQ.1 (D3 hk);exact .i _ _)
def Own.pair{a b H r X ids k e}(h:Own a b H r X ids):∃ids,Own a b H (.t [r,.i k e]) (.t [X,.i k e]) ids:=by
 refine⟨ids++([]++[]),.t _ _ _ (.cons _ _ _ _ _ _ h.1 (.cons _ _ _ _ _ _ (.leaf _ (.i _ _) (.i _ _)) .nil)),?_,?_⟩
 ·simpa using h.2.1
 simpa using h.2.2
def Vw.rws{H id xs n}(hn:n=xs.length)(h:H id=some (xs.map Go.Proofs.YtgknbnkmilddhaaGreat.ints)):Vw H (.h id 0 n) (rows xs):=by
 subst hn;unfold rows;exact .h id 0 xs.length _ _ h B5 B5 (λk x y hx hy=>by rw[BS,hy]at hx;cases hx;exact .refl _)
open Nat (reduceAdd reduceSub reduceGT reduceEqDiff reduceMul)
def Ow.Eu{H r a ids}(h:Ow H r (Go.Proofs.YtgknbnkmilddhaaGreat.ints a) ids):(a=[]/\(r= .nl\/r= .v 0 []))\/∃id,r= .h id 0 a.length/\id∈ids/\H id=some (JP a.length (λj=>a.getD j 0)):=by
 unfold Go.Proofs.YtgknbnkmilddhaaGreat.ints at h;generalize hX:AV.v a.length (a.map (AV.i .i64))=X at h
 cases h with
 | leaf _ hf hn=>
   subst hX;cases a with
   |nil=>exact .inl ⟨rfl,.inr rfl⟩
   |cons x xs=>cases hf
 | nl=>
   injection hX with h1 h2
   cases a with
   |nil=>exact .inl ⟨rfl,.inl rfl⟩
   |cons x xs=>simp at h1
 | h id cs ts I1 h1 h2=>
   injection hX with e1 e2
   subst e2;have h3:cs=a.map (AV.i .i64):=by
     apply C7;intro k;by_cases hk:k<cs.length
     ·obtain⟨y,is,g1,g2,_⟩:=h2.get k cs[k] (A9 hk);rw[A9 hk,g1];simp only[BF,CG]at g1;obtain⟨z,_,rfl⟩:=g1;generalize cs[k]=x at g2
      cases g2;rfl
     rw[B8 (JC hk),B8 (by rw[h2.len];omega)]
   refine .inr ⟨id,by rw[e1],B5,?_⟩;rw[h1,h3,RK]
 |q id cs ts I1 h1 h2=>cases hX
 |g cs ts I1 h2=>cases hX
 |t cs ts I1 h2=>cases hX
def Ow.sL{H r X k e ids}(h:Ow H r (.t [X,.i k e]) ids):∃r1,r= .t [r1,.i k e]/\Ow H r1 X ids:=by
 generalize hX:AV.t [X,AV.i k e]=Y at h
 cases h with
 | leaf _ hf hn=>
   subst hX;cases hf with|t _ hf=>cases hn with|t _ hn=>exact⟨X,rfl,.leaf _ (hf 0 _ rfl) (hn 0 _ rfl)⟩
 |nl=>cases hX
 |h id cs ts I1 h1 h2=>cases hX
 |q id cs ts I1 h1 h2=>cases hX
 |g cs ts I1 h2=>cases hX
 | t cs ts I1 h2=>
   cases hX;cases h2 with|cons x0 _ xs _ i0 j0 g1 g2=>cases g2 with|cons x1 _ xs _ i1 j1 g3 g4=>
    cases g4;cases g3 with|leaf _ _ _=>exact⟨x0,rfl,by simpa using g1⟩
def zS{H r n ts ids}(h:Ow H r (.v n ts) ids):one r=true:=h.slice.2.1
open Nat (reduceAdd reduceSub reduceGT reduceEqDiff reduceMul)
def UP{α:Type}{xs:List α}{d:α}{i:Nat}(h:i<xs.length):xs.take (i+1)=xs.take i++[xs.getD i d]:=by
 rw[E5];simp[h]
def AK{cX:Ctx}{P:Program}{c:Operand}{x y:Code}{s:St}{z:Bool}{K:Exit->St->Prop}{p q:Prop}(ht:p->AW cX P x s K)(hf:q->AW cX P y s K)(hc:FK s.t c=.b z:=by exact rfl)(e1:z=true->p:=by intro h;(try simp only[cn]at h);exact h)(e2:z=false->q:=by intro h;(try simp only[cn]at h);exact h):AW cX P (.cond c x y) s K:=MG hc (λh=>ht (e1 h)) λh=>hf (e2 h)
universe zqv
def BB{α:Sort zqv}{W I M:α->Prop}{G:α->HP}{H:HP}(x:α)(a:W x)(b:I x)(c:M x)(e:∀id cs,G x id=some cs->H id=some cs:=by exact λ_ _ h=>h):∃y,W y/\(∀id cs,G y id=some cs->H id=some cs)/\I y/\M y:=⟨x,a,e,b,c⟩
end Go.Proofs.YtgknbnkmilddhaaGreat