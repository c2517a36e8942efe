import Derived.Test.YtgknbnkmilddhaaGreatProg
import Derived.KernelRfl
import Derived.Test.YtgknbnkmilddhaaGreatZ06
set_option linter.unusedVariables false
set_option linter.unusedSimpArgs false

namespace Go.Proofs.YtgknbnkmilddhaaGreat
def env:CA:=λt=>match t with
  |2=>some ⟨.int .i64,1,8,.int .i64 0,false⟩
  |3=>some ⟨.int .i64,1,8,.int .i64 0,false⟩
  |4=>some ⟨.bool,1,1,.bool false,false⟩
  |5=>some ⟨.int .u8,1,1,.int .u8 0,false⟩
  |6=>some ⟨.int .u8,1,1,.int .u8 0,false⟩
  |7=>some ⟨.struct [(2,0),(3,1),(4,2),(6,3)],4,24,.agg #[.int .i64 0,.int .i64 0,.bool false,.int .u8 0],false⟩
  |8=>some ⟨.struct [(2,0),(3,1),(4,2),(6,3)],4,24,.agg #[.int .i64 0,.int .i64 0,.bool false,.int .u8 0],false⟩
  |9=>some ⟨.str,1,16,.string ⟨#[]⟩,false⟩
  |10=>some ⟨.str,1,16,.string ⟨#[]⟩,false⟩
  |11=>some ⟨.str,1,16,.string ⟨#[]⟩,false⟩
  |12=>some ⟨.int .u64,1,8,.int .u64 0,false⟩
  |13=>some ⟨.struct [(9,0),(12,1)],2,24,.agg #[.string ⟨#[]⟩,.int .u64 0],false⟩
  |14=>some ⟨.struct [(9,0),(12,1)],2,24,.agg #[.string ⟨#[]⟩,.int .u64 0],false⟩
  |15=>some ⟨.other,1,8,.pointer none,false⟩
  |16=>some ⟨.other,1,8,.pointer none,false⟩
  |17=>some ⟨.other,1,8,.pointer none,false⟩
  |18=>some ⟨.struct [(17,0)],1,8,.agg #[.pointer none],false⟩
  |19=>some ⟨.struct [(17,0)],1,8,.agg #[.pointer none],false⟩
  |21=>some ⟨.int .i32,1,4,.int .i32 0,false⟩
  |22=>some ⟨.slice 5,1,24,.slice none 0 0,false⟩
  |24=>some ⟨.slice 2,1,24,.slice none 0 0,false⟩
  |25=>some ⟨.slice 24,1,24,.slice none 0 0,false⟩
  |26=>some ⟨.slice 25,1,24,.slice none 0 0,false⟩
  |27=>some ⟨.struct [(24,0),(25,1),(26,2)],3,72,.agg #[.slice none 0 0,.slice none 0 0,.slice none 0 0],false⟩
  |28=>some ⟨.struct [(24,0),(25,1),(26,2)],3,72,.agg #[.slice none 0 0,.slice none 0 0,.slice none 0 0],false⟩
  |36=>some ⟨.struct [(2,0),(25,1)],2,32,.agg #[.int .i64 0,.slice none 0 0],false⟩
  |37=>some ⟨.struct [(2,0),(25,1)],2,32,.agg #[.int .i64 0,.slice none 0 0],false⟩
  |50=>some ⟨.struct [(2,0),(25,1)],2,32,.agg #[.int .i64 0,.slice none 0 0],false⟩
  |51=>some ⟨.struct [(2,0),(25,1)],2,32,.agg #[.int .i64 0,.slice none 0 0],false⟩
  |54=>some ⟨.struct [(24,0),(2,1)],2,32,.agg #[.slice none 0 0,.int .i64 0],false⟩
  |55=>some ⟨.struct [(24,0),(2,1)],2,32,.agg #[.slice none 0 0,.int .i64 0],false⟩
  |60=>some ⟨.other,1,8,.pointer none,false⟩
  |65=>some ⟨.other,1,8,.pointer none,false⟩
  |68=>some ⟨.other,1,8,.pointer none,false⟩
  |72=>some ⟨.struct [(26,0),(24,1)],2,48,.agg #[.slice none 0 0,.slice none 0 0],false⟩
  |73=>some ⟨.struct [(26,0),(24,1)],2,48,.agg #[.slice none 0 0,.slice none 0 0],false⟩
  |83=>some ⟨.slice 116,1,24,.slice none 0 0,false⟩
  |84=>some ⟨.struct [(68,0),(26,1),(83,2)],3,56,.agg #[.pointer none,.slice none 0 0,.slice none 0 0],false⟩
  |85=>some ⟨.struct [(68,0),(26,1),(83,2)],3,56,.agg #[.pointer none,.slice none 0 0,.slice none 0 0],false⟩
  |111=>some ⟨.struct [(22,0),(3,1),(2,2)],3,40,.agg #[.slice none 0 0,.int .i64 0,.int .i64 0],false⟩
  |112=>some ⟨.struct [(22,0),(3,1),(2,2)],3,40,.agg #[.slice none 0 0,.int .i64 0,.int .i64 0],false⟩
  |114=>some ⟨.slice 161,1,24,.slice none 0 0,false⟩
  |116=>some ⟨.int .u64,1,8,.int .u64 0,false⟩
  |117=>some ⟨.map 116 4,1,8,.map none,false⟩
  |119=>some ⟨.map 9 116,1,8,.map none,false⟩
  |120=>some ⟨.other,1,8,.pointer none,false⟩
  |130=>some ⟨.int .u64,1,8,.int .u64 0,false⟩
  |161=>some ⟨.slice 3,1,24,.slice none 0 0,false⟩
  |170=>some ⟨.struct [(68,0),(25,1)],2,32,.agg #[.pointer none,.slice none 0 0],false⟩
  |171=>some ⟨.struct [(68,0),(25,1)],2,32,.agg #[.pointer none,.slice none 0 0],false⟩
  |183=>some ⟨.slice 4,1,24,.slice none 0 0,false⟩
  |187=>some ⟨.struct [(2,0),(2,1),(2,2),(2,3)],4,32,.agg #[.int .i64 0,.int .i64 0,.int .i64 0,.int .i64 0],true⟩
  |188=>some ⟨.struct [(2,0),(2,1),(2,2),(2,3)],4,32,.agg #[.int .i64 0,.int .i64 0,.int .i64 0,.int .i64 0],true⟩
  |211=>some ⟨.int .i64,1,8,.int .i64 0,false⟩
  |219=>some ⟨.int .u32,1,4,.int .u32 0,false⟩
  |249=>some ⟨.int .u64,1,8,.int .u64 0,false⟩
  |253=>some ⟨.other,1,8,.pointer none,false⟩
  |260=>some ⟨.slice 9,1,24,.slice none 0 0,false⟩
  |266=>some ⟨.other,1,8,.pointer none,false⟩
  |284=>some ⟨.struct [(17,0),(17,1),(17,2),(9,3)],4,40,.agg #[.pointer none,.pointer none,.pointer none,.string ⟨#[]⟩],false⟩
  |285=>some ⟨.struct [(17,0),(17,1),(17,2),(9,3)],4,40,.agg #[.pointer none,.pointer none,.pointer none,.string ⟨#[]⟩],false⟩
  |290=>some ⟨.int .u8,1,1,.int .u8 0,false⟩
  |291=>some ⟨.int .u8,1,1,.int .u8 0,false⟩
  |293=>some ⟨.other,1,8,.pointer none,false⟩
  |294=>some ⟨.int .i32,1,4,.int .i32 0,false⟩
  |295=>some ⟨.int .i32,1,4,.int .i32 0,false⟩
  |296=>some ⟨.struct [(12,0),(12,1),(219,2),(290,3),(5,4),(5,5),(291,6),(292,7),(293,8),(294,9),(295,10)],11,48,.agg #[.int .u64 0,.int .u64 0,.int .u32 0,.int .u8 0,.int .u8 0,.int .u8 0,.int .u8 0,.nilFunc,.pointer none,.int .i32 0,.int .i32 0],false⟩
  |297=>some ⟨.struct [(12,0),(12,1),(219,2),(290,3),(5,4),(5,5),(291,6),(292,7),(293,8),(294,9),(295,10)],11,48,.agg #[.int .u64 0,.int .u64 0,.int .u32 0,.int .u8 0,.int .u8 0,.int .u8 0,.int .u8 0,.nilFunc,.pointer none,.int .i32 0,.int .i32 0],false⟩
  |_=>none
theorem AAT:env 2=some ⟨.int .i64,1,8,.int .i64 0,false⟩:=Eq.trans rfl rfl
theorem AAU:env 3=some ⟨.int .i64,1,8,.int .i64 0,false⟩:=Eq.trans rfl rfl
theorem AAV:env 4=some ⟨.bool,1,1,.bool false,false⟩:=Eq.trans rfl rfl
theorem AAW:env 5=some ⟨.int .u8,1,1,.int .u8 0,false⟩:=Eq.trans rfl rfl
theorem AAX:env 9=some ⟨.str,1,16,.string ⟨#[]⟩,false⟩:=Eq.trans rfl rfl
theorem A4Z:env 22=some ⟨.slice 5,1,24,.slice none 0 0,false⟩:=Eq.trans rfl rfl
theorem A50:env 24=some ⟨.slice 2,1,24,.slice none 0 0,false⟩:=Eq.trans rfl rfl
theorem A51:env 25=some ⟨.slice 24,1,24,.slice none 0 0,false⟩:=Eq.trans rfl rfl
theorem A52:env 26=some ⟨.slice 25,1,24,.slice none 0 0,false⟩:=Eq.trans rfl rfl
theorem A53:env 28=some ⟨.struct [(24,0),(25,1),(26,2)],3,72,.agg #[.slice none 0 0,.slice none 0 0,.slice none 0 0],false⟩:=Eq.trans rfl rfl
theorem A54:env 37=some ⟨.struct [(2,0),(25,1)],2,32,.agg #[.int .i64 0,.slice none 0 0],false⟩:=Eq.trans rfl rfl
theorem A55:env 68=some ⟨.other,1,8,.pointer none,false⟩:=Eq.trans rfl rfl
theorem A56:env 73=some ⟨.struct [(26,0),(24,1)],2,48,.agg #[.slice none 0 0,.slice none 0 0],false⟩:=Eq.trans rfl rfl
theorem A57:env 83=some ⟨.slice 116,1,24,.slice none 0 0,false⟩:=Eq.trans rfl rfl
theorem A58:env 85=some ⟨.struct [(68,0),(26,1),(83,2)],3,56,.agg #[.pointer none,.slice none 0 0,.slice none 0 0],false⟩:=Eq.trans rfl rfl
theorem Yz:env 112=some ⟨.struct [(22,0),(3,1),(2,2)],3,40,.agg #[.slice none 0 0,.int .i64 0,.int .i64 0],false⟩:=Eq.trans rfl rfl
theorem Za:env 114=some ⟨.slice 161,1,24,.slice none 0 0,false⟩:=Eq.trans rfl rfl
theorem Zb:env 116=some ⟨.int .u64,1,8,.int .u64 0,false⟩:=Eq.trans rfl rfl
theorem Zc:env 117=some ⟨.map 116 4,1,8,.map none,false⟩:=Eq.trans rfl rfl
theorem Zd:env 119=some ⟨.map 9 116,1,8,.map none,false⟩:=Eq.trans rfl rfl
theorem Ze:env 130=some ⟨.int .u64,1,8,.int .u64 0,false⟩:=Eq.trans rfl rfl
theorem Zf:env 161=some ⟨.slice 3,1,24,.slice none 0 0,false⟩:=Eq.trans rfl rfl
theorem Zg:env 171=some ⟨.struct [(68,0),(25,1)],2,32,.agg #[.pointer none,.slice none 0 0],false⟩:=Eq.trans rfl rfl
theorem Zh:env 183=some ⟨.slice 4,1,24,.slice none 0 0,false⟩:=Eq.trans rfl rfl
theorem Zi:env 188=some ⟨.struct [(2,0),(2,1),(2,2),(2,3)],4,32,.agg #[.int .i64 0,.int .i64 0,.int .i64 0,.int .i64 0],true⟩:=Eq.trans rfl rfl
theorem Zj:env 260=some ⟨.slice 9,1,24,.slice none 0 0,false⟩:=Eq.trans rfl rfl
attribute [go_sem] AAT AAU AAV AAW AAX A4Z A50 A51 A52 A53 A54 A55 A56 A57 A58 Yz Za Zb Zc Zd Ze Zf Zg Zh Zi Zj
theorem AAY:E6 Tryz.prog 2 ⟨.int .i64,1,8,.int .i64 0,false⟩:=⟨A7,A7,λh=>by cases h⟩
theorem AAZ:E6 Tryz.prog 3 ⟨.int .i64,1,8,.int .i64 0,false⟩:=⟨A7,A7,λh=>by cases h⟩
theorem AB0:E6 Tryz.prog 4 ⟨.bool,1,1,.bool false,false⟩:=⟨A7,A7,λh=>by cases h⟩
theorem AB1:E6 Tryz.prog 5 ⟨.int .u8,1,1,.int .u8 0,false⟩:=⟨A7,A7,λh=>by cases h⟩
theorem AB2:E6 Tryz.prog 6 ⟨.int .u8,1,1,.int .u8 0,false⟩:=⟨A7,A7,λh=>by cases h⟩
theorem AB3:E6 Tryz.prog 7 ⟨.struct [(2,0),(3,1),(4,2),(6,3)],4,24,.agg #[.int .i64 0,.int .i64 0,.bool false,.int .u8 0],false⟩:=⟨A7,A7,λh=>by cases h⟩
theorem AB4:E6 Tryz.prog 8 ⟨.struct [(2,0),(3,1),(4,2),(6,3)],4,24,.agg #[.int .i64 0,.int .i64 0,.bool false,.int .u8 0],false⟩:=⟨A7,A7,λh=>by cases h⟩
theorem AB5:E6 Tryz.prog 9 ⟨.str,1,16,.string ⟨#[]⟩,false⟩:=⟨A7,A7,λh=>by cases h⟩
theorem A59:E6 Tryz.prog 10 ⟨.str,1,16,.string ⟨#[]⟩,false⟩:=⟨A7,A7,λh=>by cases h⟩
theorem A5A:E6 Tryz.prog 11 ⟨.str,1,16,.string ⟨#[]⟩,false⟩:=⟨A7,A7,λh=>by cases h⟩
theorem A5B:E6 Tryz.prog 12 ⟨.int .u64,1,8,.int .u64 0,false⟩:=⟨A7,A7,λh=>by cases h⟩
theorem A5C:E6 Tryz.prog 13 ⟨.struct [(9,0),(12,1)],2,24,.agg #[.string ⟨#[]⟩,.int .u64 0],false⟩:=⟨A7,A7,λh=>by cases h⟩
theorem A5D:E6 Tryz.prog 14 ⟨.struct [(9,0),(12,1)],2,24,.agg #[.string ⟨#[]⟩,.int .u64 0],false⟩:=⟨A7,A7,λh=>by cases h⟩
theorem A5E:E6 Tryz.prog 15 ⟨.other,1,8,.pointer none,false⟩:=⟨A7,A7,λh=>by cases h⟩
theorem A5F:E6 Tryz.prog 16 ⟨.other,1,8,.pointer none,false⟩:=⟨A7,A7,λh=>by cases h⟩
theorem A5G:E6 Tryz.prog 17 ⟨.other,1,8,.pointer none,false⟩:=⟨A7,A7,λh=>by cases h⟩
theorem A5H:E6 Tryz.prog 18 ⟨.struct [(17,0)],1,8,.agg #[.pointer none],false⟩:=⟨A7,A7,λh=>by cases h⟩
theorem A5I:E6 Tryz.prog 19 ⟨.struct [(17,0)],1,8,.agg #[.pointer none],false⟩:=⟨A7,A7,λh=>by cases h⟩
theorem A5J:E6 Tryz.prog 21 ⟨.int .i32,1,4,.int .i32 0,false⟩:=⟨A7,A7,λh=>by cases h⟩
theorem A5K:E6 Tryz.prog 22 ⟨.slice 5,1,24,.slice none 0 0,false⟩:=⟨A7,A7,λh=>by cases h⟩
theorem A5L:E6 Tryz.prog 24 ⟨.slice 2,1,24,.slice none 0 0,false⟩:=⟨A7,A7,λh=>by cases h⟩
theorem A5M:E6 Tryz.prog 25 ⟨.slice 24,1,24,.slice none 0 0,false⟩:=⟨A7,A7,λh=>by cases h⟩
theorem A5N:E6 Tryz.prog 26 ⟨.slice 25,1,24,.slice none 0 0,false⟩:=⟨A7,A7,λh=>by cases h⟩
theorem A5O:E6 Tryz.prog 27 ⟨.struct [(24,0),(25,1),(26,2)],3,72,.agg #[.slice none 0 0,.slice none 0 0,.slice none 0 0],false⟩:=⟨A7,A7,λh=>by cases h⟩
theorem A5P:E6 Tryz.prog 28 ⟨.struct [(24,0),(25,1),(26,2)],3,72,.agg #[.slice none 0 0,.slice none 0 0,.slice none 0 0],false⟩:=⟨A7,A7,λh=>by cases h⟩
theorem A5Q:E6 Tryz.prog 36 ⟨.struct [(2,0),(25,1)],2,32,.agg #[.int .i64 0,.slice none 0 0],false⟩:=⟨A7,A7,λh=>by cases h⟩
theorem A5R:E6 Tryz.prog 37 ⟨.struct [(2,0),(25,1)],2,32,.agg #[.int .i64 0,.slice none 0 0],false⟩:=⟨A7,A7,λh=>by cases h⟩
theorem A5S:E6 Tryz.prog 50 ⟨.struct [(2,0),(25,1)],2,32,.agg #[.int .i64 0,.slice none 0 0],false⟩:=⟨A7,A7,λh=>by cases h⟩
theorem A5T:E6 Tryz.prog 51 ⟨.struct [(2,0),(25,1)],2,32,.agg #[.int .i64 0,.slice none 0 0],false⟩:=⟨A7,A7,λh=>by cases h⟩
theorem A5U:E6 Tryz.prog 54 ⟨.struct [(24,0),(2,1)],2,32,.agg #[.slice none 0 0,.int .i64 0],false⟩:=⟨A7,A7,λh=>by cases h⟩
theorem A5V:E6 Tryz.prog 55 ⟨.struct [(24,0),(2,1)],2,32,.agg #[.slice none 0 0,.int .i64 0],false⟩:=⟨A7,A7,λh=>by cases h⟩
theorem A5W:E6 Tryz.prog 60 ⟨.other,1,8,.pointer none,false⟩:=⟨A7,A7,λh=>by cases h⟩
theorem A5X:E6 Tryz.prog 65 ⟨.other,1,8,.pointer none,false⟩:=⟨A7,A7,λh=>by cases h⟩
theorem A5Y:E6 Tryz.prog 68 ⟨.other,1,8,.pointer none,false⟩:=⟨A7,A7,λh=>by cases h⟩
theorem A5Z:E6 Tryz.prog 72 ⟨.struct [(26,0),(24,1)],2,48,.agg #[.slice none 0 0,.slice none 0 0],false⟩:=⟨A7,A7,λh=>by cases h⟩
theorem A60:E6 Tryz.prog 73 ⟨.struct [(26,0),(24,1)],2,48,.agg #[.slice none 0 0,.slice none 0 0],false⟩:=⟨A7,A7,λh=>by cases h⟩
theorem A61:E6 Tryz.prog 83 ⟨.slice 116,1,24,.slice none 0 0,false⟩:=⟨A7,A7,λh=>by cases h⟩
theorem A62:E6 Tryz.prog 84 ⟨.struct [(68,0),(26,1),(83,2)],3,56,.agg #[.pointer none,.slice none 0 0,.slice none 0 0],false⟩:=⟨A7,A7,λh=>by cases h⟩
theorem A63:E6 Tryz.prog 85 ⟨.struct [(68,0),(26,1),(83,2)],3,56,.agg #[.pointer none,.slice none 0 0,.slice none 0 0],false⟩:=⟨A7,A7,λh=>by cases h⟩
theorem Zk:E6 Tryz.prog 111 ⟨.struct [(22,0),(3,1),(2,2)],3,40,.agg #[.slice none 0 0,.int .i64 0,.int .i64 0],false⟩:=⟨A7,A7,λh=>by cases h⟩
theorem Zl:E6 Tryz.prog 112 ⟨.struct [(22,0),(3,1),(2,2)],3,40,.agg #[.slice none 0 0,.int .i64 0,.int .i64 0],false⟩:=⟨A7,A7,λh=>by cases h⟩
theorem Zm:E6 Tryz.prog 114 ⟨.slice 161,1,24,.slice none 0 0,false⟩:=⟨A7,A7,λh=>by cases h⟩
theorem Zn:E6 Tryz.prog 116 ⟨.int .u64,1,8,.int .u64 0,false⟩:=⟨A7,A7,λh=>by cases h⟩
theorem Zo:E6 Tryz.prog 117 ⟨.map 116 4,1,8,.map none,false⟩:=⟨A7,A7,λh=>by cases h⟩
theorem Zp:E6 Tryz.prog 119 ⟨.map 9 116,1,8,.map none,false⟩:=⟨A7,A7,λh=>by cases h⟩
theorem Zq:E6 Tryz.prog 120 ⟨.other,1,8,.pointer none,false⟩:=⟨A7,A7,λh=>by cases h⟩
theorem Zr:E6 Tryz.prog 130 ⟨.int .u64,1,8,.int .u64 0,false⟩:=⟨A7,A7,λh=>by cases h⟩
theorem Zs:E6 Tryz.prog 161 ⟨.slice 3,1,24,.slice none 0 0,false⟩:=⟨A7,A7,λh=>by cases h⟩
theorem Zt:E6 Tryz.prog 170 ⟨.struct [(68,0),(25,1)],2,32,.agg #[.pointer none,.slice none 0 0],false⟩:=⟨A7,A7,λh=>by cases h⟩
theorem Zu:E6 Tryz.prog 171 ⟨.struct [(68,0),(25,1)],2,32,.agg #[.pointer none,.slice none 0 0],false⟩:=⟨A7,A7,λh=>by cases h⟩
theorem Zv:E6 Tryz.prog 183 ⟨.slice 4,1,24,.slice none 0 0,false⟩:=⟨A7,A7,λh=>by cases h⟩
theorem Zw:E6 Tryz.prog 187 ⟨.struct [(2,0),(2,1),(2,2),(2,3)],4,32,.agg #[.int .i64 0,.int .i64 0,.int .i64 0,.int .i64 0],true⟩:=⟨A7,A7,λ_=>A7⟩
theorem Zx:E6 Tryz.prog 188 ⟨.struct [(2,0),(2,1),(2,2),(2,3)],4,32,.agg #[.int .i64 0,.int .i64 0,.int .i64 0,.int .i64 0],true⟩:=⟨A7,A7,λ_=>A7⟩
theorem Zy:E6 Tryz.prog 211 ⟨.int .i64,1,8,.int .i64 0,false⟩:=⟨A7,A7,λh=>by cases h⟩
theorem A00:E6 Tryz.prog 219 ⟨.int .u32,1,4,.int .u32 0,false⟩:=⟨A7,A7,λh=>by cases h⟩
theorem A01:E6 Tryz.prog 249 ⟨.int .u64,1,8,.int .u64 0,false⟩:=⟨A7,A7,λh=>by cases h⟩
theorem A02:E6 Tryz.prog 253 ⟨.other,1,8,.pointer none,false⟩:=⟨A7,A7,λh=>by cases h⟩
theorem A03:E6 Tryz.prog 260 ⟨.slice 9,1,24,.slice none 0 0,false⟩:=⟨A7,A7,λh=>by cases h⟩
theorem A04:E6 Tryz.prog 266 ⟨.other,1,8,.pointer none,false⟩:=⟨A7,A7,λh=>by cases h⟩
theorem A05:E6 Tryz.prog 284 ⟨.struct [(17,0),(17,1),(17,2),(9,3)],4,40,.agg #[.pointer none,.pointer none,.pointer none,.string ⟨#[]⟩],false⟩:=⟨A7,A7,λh=>by cases h⟩
theorem A06:E6 Tryz.prog 285 ⟨.struct [(17,0),(17,1),(17,2),(9,3)],4,40,.agg #[.pointer none,.pointer none,.pointer none,.string ⟨#[]⟩],false⟩:=⟨A7,A7,λh=>by cases h⟩
theorem A07:E6 Tryz.prog 290 ⟨.int .u8,1,1,.int .u8 0,false⟩:=⟨A7,A7,λh=>by cases h⟩
theorem A08:E6 Tryz.prog 291 ⟨.int .u8,1,1,.int .u8 0,false⟩:=⟨A7,A7,λh=>by cases h⟩
theorem A09:E6 Tryz.prog 293 ⟨.other,1,8,.pointer none,false⟩:=⟨A7,A7,λh=>by cases h⟩
theorem A0A:E6 Tryz.prog 294 ⟨.int .i32,1,4,.int .i32 0,false⟩:=⟨A7,A7,λh=>by cases h⟩
theorem A0B:E6 Tryz.prog 295 ⟨.int .i32,1,4,.int .i32 0,false⟩:=⟨A7,A7,λh=>by cases h⟩
theorem A0C:E6 Tryz.prog 296 ⟨.struct [(12,0),(12,1),(219,2),(290,3),(5,4),(5,5),(291,6),(292,7),(293,8),(294,9),(295,10)],11,48,.agg #[.int .u64 0,.int .u64 0,.int .u32 0,.int .u8 0,.int .u8 0,.int .u8 0,.int .u8 0,.nilFunc,.pointer none,.int .i32 0,.int .i32 0],false⟩:=⟨A7,A7,λh=>by cases h⟩
theorem A0D:E6 Tryz.prog 297 ⟨.struct [(12,0),(12,1),(219,2),(290,3),(5,4),(5,5),(291,6),(292,7),(293,8),(294,9),(295,10)],11,48,.agg #[.int .u64 0,.int .u64 0,.int .u32 0,.int .u8 0,.int .u8 0,.int .u8 0,.int .u8 0,.nilFunc,.pointer none,.int .i32 0,.int .i32 0],false⟩:=⟨A7,A7,λh=>by cases h⟩
theorem AA:IB Tryz.prog env:=by
  intro ty x h;unfold env at h;split at h<;>first|(cases h;done)|skip
  · cases h;exact AAY
  · cases h;exact AAZ
  · cases h;exact AB0
  · cases h;exact AB1
  · cases h;exact AB2
  · cases h;exact AB3
  · cases h;exact AB4
  · cases h;exact AB5
  · cases h;exact A59
  · cases h;exact A5A
  · cases h;exact A5B
  · cases h;exact A5C
  · cases h;exact A5D
  · cases h;exact A5E
  · cases h;exact A5F
  · cases h;exact A5G
  · cases h;exact A5H
  · cases h;exact A5I
  · cases h;exact A5J
  · cases h;exact A5K
  · cases h;exact A5L
  · cases h;exact A5M
  · cases h;exact A5N
  · cases h;exact A5O
  · cases h;exact A5P
  · cases h;exact A5Q
  · cases h;exact A5R
  · cases h;exact A5S
  · cases h;exact A5T
  · cases h;exact A5U
  · cases h;exact A5V
  · cases h;exact A5W
  · cases h;exact A5X
  · cases h;exact A5Y
  · cases h;exact A5Z
  · cases h;exact A60
  · cases h;exact A61
  · cases h;exact A62
  · cases h;exact A63
  · cases h;exact Zk
  · cases h;exact Zl
  · cases h;exact Zm
  · cases h;exact Zn
  · cases h;exact Zo
  · cases h;exact Zp
  · cases h;exact Zq
  · cases h;exact Zr
  · cases h;exact Zs
  · cases h;exact Zt
  · cases h;exact Zu
  · cases h;exact Zv
  · cases h;exact Zw
  · cases h;exact Zx
  · cases h;exact Zy
  · cases h;exact A00
  · cases h;exact A01
  · cases h;exact A02
  · cases h;exact A03
  · cases h;exact A04
  · cases h;exact A05
  · cases h;exact A06
  · cases h;exact A07
  · cases h;exact A08
  · cases h;exact A09
  · cases h;exact A0A
  · cases h;exact A0B
  · cases h;exact A0C
  cases h;exact A0D
theorem sQ{cX:Ctx}{n:Nat}{ops:List Oper}{y:Code}{s:St}{K:Exit->St->Prop}(h:∀N:St->Prop,(∀v,AW cX Tryz.prog y v K->N v)->DW env Tryz.prog ops s.nx ops 0 ⟨s.t,s.H,s.nx+ops.length⟩ N):AW cX Tryz.prog (.seq (.region n ops.toArray false) y) s K:=AW.sr AA h
theorem rQ{cX:Ctx}{n:Nat}{ops:List Oper}{s:St}{K:Exit->St->Prop}(h:DW env Tryz.prog ops s.nx ops 0 ⟨s.t,s.H,s.nx+ops.length⟩ (K .normal)):AW cX Tryz.prog (.region n ops.toArray false) s K:=rA AA h
abbrev BU(cX:Ctx)(n:Nat)(ops:List Oper)(y:Code)(s:St)(K:Exit->St->Prop):Prop:=AW cX Tryz.prog (.seq (.region n ops.toArray false) y) s K
abbrev BV(ops:List Oper)(s s1:St):Prop:=∀N:St->Prop,N s1->DW env Tryz.prog ops s.nx ops 0 ⟨s.t,s.H,s.nx+ops.length⟩ N
theorem BY{cX:Ctx}{n:Nat}{ops:List Oper}{y:Code}{s s1:St}{K:Exit->St->Prop}(q:AW cX Tryz.prog y s1 K)(e:BV ops s s1):BU cX n ops y s K:=sQ λN hN=>e N (hN _ q)
theorem AH{cX P s}{K:Exit->St->Prop}{Q:Prop}(q:Q)(e:Q->K .ret s:=by intro q;(try simp-dsimp-implicitDefEqProofs(maxSteps:=800000) (disch:=omega)only[go_sem]);exact q):AW cX P .ret s K:=AW.ret (e q)
theorem AG{P Q:Prop}(q:Q)(e:Q->P:=by intro q;(try simp-dsimp-implicitDefEqProofs(maxSteps:=800000) (disch:=omega)only[go_sem]);exact q):P:=e q
theorem B8{cX n ops y s s1 K}(q:AW cX Tryz.prog y s1 K)(e:BV ops s s1:=by intro N hN;(try simp-dsimp-implicitDefEqProofs(maxSteps:=800000) (disch:=omega)only[go_sem]);exact hN):BU cX n ops y s K:=BY q e
theorem C1{cX n ops y s s1 K}(q:AW cX Tryz.prog y s1 K)(e:BV ops s s1:=by intro N hN;(try simp-dsimp-implicitDefEqProofs(maxSteps:=800000) (disch:=omega)only[go_sem,AL,ints]);exact hN):BU cX n ops y s K:=BY q e
theorem DK{cX n ops y s s1 K}(q:AW cX Tryz.prog y s1 K)(e:BV ops s s1:=by intro N hN;(try simp-dsimp-implicitDefEqProofs(maxSteps:=800000) (disch:=omega)only[go_sem,BN,rows]);exact hN):BU cX n ops y s K:=BY q e
theorem N0{cX n ops y s s1 K f Zz r}(x:BI Tryz.prog f Zz r)(q:AW cX Tryz.prog y s1 K)(e:BI Tryz.prog f Zz r->BV ops s s1:=by intro x N hN;(try simp-dsimp-implicitDefEqProofs(maxSteps:=800000) (disch:=omega)only[go_sem]);refine AC.pure (.of x) ?_;(try simp-dsimp-implicitDefEqProofs(maxSteps:=800000) (disch:=omega)only[go_sem]);exact hN):BU cX n ops y s K:=BY q (e x)
theorem J5{cX n ops y s s1 K}{R0:Prop}(r0:R0)(q:AW cX Tryz.prog y s1 K)(e:R0->BV ops s s1:=by intro h0 N hN;(try simp-dsimp-implicitDefEqProofs(maxSteps:=800000) (disch:=omega)only[go_sem,h0]);exact hN):BU cX n ops y s K:=BY q (e r0)
theorem GN{cX n ops s}{K:Exit->St->Prop}{Q:Prop}(q:Q)(e:Q->DW env Tryz.prog ops s.nx ops 0 ⟨s.t,s.H,s.nx+ops.length⟩ (K .normal):=by intro q;(try simp-dsimp-implicitDefEqProofs(maxSteps:=800000) (disch:=omega)only[go_sem]);exact q):AW cX Tryz.prog (.region n ops.toArray false) s K:=rQ (e q)
theorem II{cX n ops s}{K:Exit->St->Prop}{Q:Prop}(q:Q)(e:Q->DW env Tryz.prog ops s.nx ops 0 ⟨s.t,s.H,s.nx+ops.length⟩ (K .normal):=by intro q;(try simp-dsimp-implicitDefEqProofs(maxSteps:=800000) (disch:=omega)only[go_sem,AL,ints]);exact q):AW cX Tryz.prog (.region n ops.toArray false) s K:=rQ (e q)
theorem KP{P f nx H Zz r}{K:Nat->HP->AV->Prop}{Q:Prop}(x:BI P f Zz r)(q:Q)(e:Q->K nx H r:=by intro q;(try simp-dsimp-implicitDefEqProofs(maxSteps:=800000) (disch:=omega)only[go_sem]);exact q):AC P f nx H Zz K:=AC.pure (.of x) (e q)
theorem KQ{P Q:Prop}{R0 R1:Prop}(r0:R0)(r1:R1)(q:Q)(e:R0->R1->Q->P:=by intro h0 h1 q;(try simp-dsimp-implicitDefEqProofs(maxSteps:=800000) (disch:=omega)only[go_sem,List.length_map,h0,h1]);exact q):P:=e r0 r1 q
theorem NA{P Q:Prop}(q:Q)(e:Q->P:=by intro q;(try simp-dsimp-implicitDefEqProofs(maxSteps:=800000) (disch:=omega)only[go_sem,AL,ints]);exact q):P:=e q
theorem SB{P Q:Prop}{R0 R1 R2 R3 R4 R5 R6:Prop}(r0:R0)(r1:R1)(r2:R2)(r3:R3)(r4:R4)(r5:R5)(r6:R6)(q:Q)(e:R0->R1->R2->R3->R4->R5->R6->Q->P:=by intro h0 h1 h2 h3 h4 h5 h6 q;(try simp-dsimp-implicitDefEqProofs(maxSteps:=800000) (disch:=omega)only[go_sem,AL,ints,h0,h1,h2,h3,h4,h5,h6]);exact q):P:=e r0 r1 r2 r3 r4 r5 r6 q
theorem iD{cX n ops y s s1 K}{R0:Prop}(r0:R0)(q:AW cX Tryz.prog y s1 K)(e:R0->BV ops s s1:=by intro h0 N hN;(try simp-dsimp-implicitDefEqProofs(maxSteps:=800000) (disch:=omega)only[go_sem,AL,BN,ints,rows,h0]);exact hN):BU cX n ops y s K:=BY q (e r0)
theorem Dd{cX n ops y s s1 K f Zz r}(x:BI Tryz.prog f Zz r)(q:AW cX Tryz.prog y s1 K)(e:BI Tryz.prog f Zz r->BV ops s s1:=by intro x N hN;(try simp-dsimp-implicitDefEqProofs(maxSteps:=800000) (disch:=omega)only[go_sem,BN,rows]);refine AC.pure (.of x) ?_;(try simp-dsimp-implicitDefEqProofs(maxSteps:=800000) (disch:=omega)only[go_sem,BN,rows]);exact hN):BU cX n ops y s K:=BY q (e x)
theorem TA{cX n ops s}{K:Exit->St->Prop}{Q:Prop}(q:Q)(e:Q->DW env Tryz.prog ops s.nx ops 0 ⟨s.t,s.H,s.nx+ops.length⟩ (K .normal):=by intro q;(try simp-dsimp-implicitDefEqProofs(maxSteps:=800000) (disch:=omega)only[go_sem,BN,rows]);exact q):AW cX Tryz.prog (.region n ops.toArray false) s K:=rQ (e q)
theorem WM{P Q:Prop}{R0:Prop}(r0:R0)(q:Q)(e:R0->Q->P:=by intro h0 q;(try simp-dsimp-implicitDefEqProofs(maxSteps:=800000) (disch:=omega)only[go_sem,AL,BN,ints,rows,h0]);exact q):P:=e r0 q
theorem TB{P Q:Prop}(q:Q)(e:Q->P:=by intro q;(try simp-dsimp-implicitDefEqProofs(maxSteps:=800000) (disch:=omega)only[go_sem,ints]);exact q):P:=e q
theorem WN{P Q:Prop}{R0 R1 R2 R3 R4 R5 R6 R7:Prop}(r0:R0)(r1:R1)(r2:R2)(r3:R3)(r4:R4)(r5:R5)(r6:R6)(r7:R7)(q:Q)(e:R0->R1->R2->R3->R4->R5->R6->R7->Q->P:=by intro h0 h1 h2 h3 h4 h5 h6 h7 q;(try simp-dsimp-implicitDefEqProofs(maxSteps:=800000) (disch:=omega)only[go_sem,List.length_map,h0,h1,h2,h3,h4,h5,h6,h7]);exact q):P:=e r0 r1 r2 r3 r4 r5 r6 r7 q
theorem jR{cX n ops y s s1 K}{R0:Prop}(r0:R0)(q:AW cX Tryz.prog y s1 K)(e:R0->BV ops s s1:=by intro h0 N hN;(try simp-dsimp-implicitDefEqProofs(maxSteps:=800000) (disch:=omega)only[go_sem,List.length_map,AL,ints,h0]);exact hN):BU cX n ops y s K:=BY q (e r0)
theorem bR{P Q:Prop}{R0 R1 R2 R3:Prop}(r0:R0)(r1:R1)(r2:R2)(r3:R3)(q:Q)(e:R0->R1->R2->R3->Q->P:=by intro h0 h1 h2 h3 q;(try simp-dsimp-implicitDefEqProofs(maxSteps:=800000) (disch:=omega)only[go_sem,List.length_map,h0,h1,h2,h3]);exact q):P:=e r0 r1 r2 r3 q
theorem jS{cX n ops y s s1 K}(q:AW cX Tryz.prog y s1 K)(e:BV ops s s1:=by intro N hN;(try simp-dsimp-implicitDefEqProofs(maxSteps:=800000) (disch:=omega)only[go_sem,ints]);exact hN):BU cX n ops y s K:=BY q e
theorem De{P Q:Prop}(q:Q)(e:Q->P:=by intro q;(try simp-dsimp-implicitDefEqProofs(maxSteps:=800000) (disch:=omega)only[go_sem,List.drop_nil,List.drop_succ_cons,List.drop_zero,List.take_nil,List.take_succ_cons,List.take_zero,AL,BW,BE,BF,ints,AR]);exact q):P:=e q
theorem jT{P Q:Prop}{R0 R1:Prop}(r0:R0)(r1:R1)(q:Q)(e:R0->R1->Q->P:=by intro h0 h1 q;(try simp-dsimp-implicitDefEqProofs(maxSteps:=800000) (disch:=omega)only[go_sem,Bool.and_true,ints,h0,h1]);exact q):P:=e r0 r1 q
theorem bU{P Q:Prop}{R0:Prop}(r0:R0)(q:Q)(e:R0->Q->P:=by intro h0 q;(try simp-dsimp-implicitDefEqProofs(maxSteps:=800000) (disch:=omega)only[go_sem,h0]);exact q):P:=e r0 q
end Go.Proofs.YtgknbnkmilddhaaGreat
attribute [go_sem_proc] Nat.reduceAdd Nat.reduceSub Nat.reduceGT Nat.reduceEqDiff Nat.reduceMul
attribute [go_sem] Go.undef
namespace Go.Proofs.YtgknbnkmilddhaaGreat
open Nat (reduceAdd reduceSub reduceGT reduceEqDiff reduceMul)
theorem UG{α:Type}(d:α){a b:List α}(hl:a.length=b.length){k:Nat}(hk:k<a.length)(h:a.take k=b.take k)(he:a.getD k d=b.getD k d):a.take (k+1)=b.take (k+1):=by
  rw[List.take_add_one,List.take_add_one,h];congr 1
  simp[hk,show k<b.length by omega]at he;simp[hk,show k<b.length by omega,he]
open Nat (reduceAdd reduceSub reduceGT reduceEqDiff reduceMul)
def JG(p:Int):Prop:=p=2\/p=3\/p=5\/p=7
theorem IN(p:Int):BI Tryz.prog 164 [.i .i64 p] (.b (tf (JG p))):=by
 refine AD AA Tryz.func164 rfl A7 Tryz.ntmps164 Tryz.results164 (.b _) (λnx cX=>?_)
 refine sQ λN hN=>?_;simp-dsimp-implicitDefEqProofs(disch:=omega)only[go_sem,];apply hN;refine sQ λN hN=>?_;simp-dsimp-implicitDefEqProofs(disch:=omega)only[go_sem,];refine CH.mk' (λh1=>?_) (λh1=>?_)
 ·try simp only[cn]at h1
  try simp-dsimp-implicitDefEqProofs(disch:=omega)only[go_sem,]
  refine CH.mk' (λh2=>?_) (λh2=>?_)
  ·try simp only[cn]at h2
   try simp-dsimp-implicitDefEqProofs(disch:=omega)only[go_sem,]
   refine CH.mk' (λh3=>?_) (λh3=>?_)
   ·(try simp only[cn]at h3);try simp-dsimp-implicitDefEqProofs(disch:=omega)only[go_sem,]
    apply hN;apply AW.ret;simp-dsimp-implicitDefEqProofs(disch:=omega)only[go_sem];exact bt (by simp_all[JG,tf];try rfl)
   try simp only[cn]at h3
   try simp-dsimp-implicitDefEqProofs(disch:=omega)only[go_sem,]
   apply hN;apply AW.ret;simp-dsimp-implicitDefEqProofs(disch:=omega)only[go_sem];exact bt (by simp_all[JG,tf];try rfl)
  try simp only[cn]at h2
  try simp-dsimp-implicitDefEqProofs(disch:=omega)only[go_sem,]
  apply hN;apply AW.ret;simp-dsimp-implicitDefEqProofs(disch:=omega)only[go_sem];exact bt (by simp_all[JG,tf];try rfl)
 try simp only[cn]at h1
 try simp-dsimp-implicitDefEqProofs(disch:=omega)only[go_sem,]
 apply hN;apply AW.ret;simp-dsimp-implicitDefEqProofs(disch:=omega)only[go_sem];exact bt (by simp_all[JG,tf];try rfl)
theorem PV(p:Int):BI Tryz.prog 167 [.i .i64 p] (.b (tf (JG p))):=by
 refine AD AA Tryz.func167 rfl A7 Tryz.ntmps167 Tryz.results167 (.b _) (λnx cX=>?_)
 refine sQ λN hN=>?_;simp-dsimp-implicitDefEqProofs(disch:=omega)only[go_sem,];apply hN;refine sQ λN hN=>?_;simp-dsimp-implicitDefEqProofs(disch:=omega)only[go_sem,];refine CH.mk' (λh1=>?_) (λh1=>?_)
 ·try simp only[cn]at h1
  try simp-dsimp-implicitDefEqProofs(disch:=omega)only[go_sem,]
  refine CH.mk' (λh2=>?_) (λh2=>?_)
  ·try simp only[cn]at h2
   try simp-dsimp-implicitDefEqProofs(disch:=omega)only[go_sem,]
   refine CH.mk' (λh3=>?_) (λh3=>?_)
   ·(try simp only[cn]at h3);try simp-dsimp-implicitDefEqProofs(disch:=omega)only[go_sem,]
    apply hN;apply AW.ret;simp-dsimp-implicitDefEqProofs(disch:=omega)only[go_sem];exact bt (by simp_all[JG,tf];try rfl)
   try simp only[cn]at h3
   try simp-dsimp-implicitDefEqProofs(disch:=omega)only[go_sem,]
   apply hN;apply AW.ret;simp-dsimp-implicitDefEqProofs(disch:=omega)only[go_sem];exact bt (by simp_all[JG,tf];try rfl)
  try simp only[cn]at h2
  try simp-dsimp-implicitDefEqProofs(disch:=omega)only[go_sem,]
  apply hN;apply AW.ret;simp-dsimp-implicitDefEqProofs(disch:=omega)only[go_sem];exact bt (by simp_all[JG,tf];try rfl)
 try simp only[cn]at h1
 try simp-dsimp-implicitDefEqProofs(disch:=omega)only[go_sem,]
 apply hN;apply AW.ret;simp-dsimp-implicitDefEqProofs(disch:=omega)only[go_sem];exact bt (by simp_all[JG,tf];try rfl)
theorem GO(n lo hi:Int):BI Tryz.prog 34 [.i .i64 n,.i .i64 lo,.i .i64 hi] (.b (tf (lo<=n/\n<=hi))):=by
 refine AD AA Tryz.func34 rfl A7 Tryz.ntmps34 Tryz.results34 (.b _) (λnx cX=>?_)
 refine sQ λN hN=>?_;simp-dsimp-implicitDefEqProofs(disch:=omega)only[go_sem,];apply hN;refine sQ λN hN=>?_;simp-dsimp-implicitDefEqProofs(disch:=omega)only[go_sem,];refine CH.mk' (λh1=>?_) (λh1=>?_)
 ·try simp only[cn]at h1
  try simp-dsimp-implicitDefEqProofs(disch:=omega)only[go_sem,]
  apply hN;apply AW.ret;simp-dsimp-implicitDefEqProofs(disch:=omega)only[go_sem];exact bt (by simp_all[tf];try omega)
 try simp only[cn]at h1
 try simp-dsimp-implicitDefEqProofs(disch:=omega)only[go_sem,]
 apply hN;apply AW.ret;simp-dsimp-implicitDefEqProofs(disch:=omega)only[go_sem];exact bt (by simp_all[tf];try omega)
theorem HQ(n lo hi:Int):BI Tryz.prog 82 [.i .i64 n,.i .i64 lo,.i .i64 hi] (.b (tf (lo<=n/\n<=hi))):=by
 refine AD AA Tryz.func82 rfl A7 Tryz.ntmps82 Tryz.results82 (.b _) (λnx cX=>?_)
 refine sQ λN hN=>?_;simp-dsimp-implicitDefEqProofs(disch:=omega)only[go_sem,];apply hN;refine sQ λN hN=>?_;simp-dsimp-implicitDefEqProofs(disch:=omega)only[go_sem,];refine CH.mk' (λh1=>?_) (λh1=>?_)
 ·try simp only[cn]at h1
  try simp-dsimp-implicitDefEqProofs(disch:=omega)only[go_sem,]
  apply hN;apply AW.ret;simp-dsimp-implicitDefEqProofs(disch:=omega)only[go_sem];exact bt (by simp_all[tf];try omega)
 try simp only[cn]at h1
 try simp-dsimp-implicitDefEqProofs(disch:=omega)only[go_sem,]
 apply hN;apply AW.ret;simp-dsimp-implicitDefEqProofs(disch:=omega)only[go_sem];exact bt (by simp_all[tf];try omega)
def nK(a:List Int):Prop:=∀j,j<a.length->a.getD j 0=0
theorem PX(a:List Int)(WB:a.length<=1099511627776):BI Tryz.prog 99 [ints a] (.b (tf (nK a))):=by
 refine AD AA Tryz.func99 rfl A7 Tryz.ntmps99 Tryz.results99 (.b _) (λnx cX=>?_)
 refine sQ λN hN=>?_;simp-dsimp-implicitDefEqProofs(disch:=omega)only[go_sem,ints,AL];apply hN;refine AW.seq λN1 B2=>?_;refine sQ λN hN=>?_;simp-dsimp-implicitDefEqProofs(disch:=omega)only[go_sem,ints,AL];apply hN;apply AW.block;refine A8 (α:=Nat) (λx=>sl 14 [(5,ints a),(6,.i .i64 a.length),(7,.i .i64 x)]) (λ_=>BM) (λx m=>x<=a.length/\∀j,j<x->a.getD j 0=0) (λx=>a.length-x) (0) ?_ ?_ (λ_ _ h=>h) ?_
 ·exact⟨A0,by intro j hj;omega⟩
 ·simp(disch:=omega) [AN,AO,sl,AR,ints,rows,A6,ints,AL,AR]<;>omega
 skip
 rintro k m ⟨hk,hI⟩
 simp-dsimp-implicitDefEqProofs(disch:=omega)only[go_sem];refine sQ λN hN=>?_;simp-dsimp-implicitDefEqProofs(disch:=omega)only[go_sem,ints,AL];apply hN;refine AW.seq λN2 B7=>?_;refine AW.cond rfl ?_ ?_<;>intro h1<;>try simp only[cn]at h1
 ·apply AW.skip;apply B7;refine AW.seq λN3 BC=>?_;apply AW.block;refine sQ λN hN=>?_;simp-dsimp-implicitDefEqProofs(disch:=omega)only[go_sem,ints,AL];apply hN;refine sQ λN hN=>?_;simp-dsimp-implicitDefEqProofs(disch:=omega)only[go_sem,ints,AL];apply hN;refine AW.cond rfl ?_ ?_<;>intro h2<;>try simp only[cn]at h2
  ·refine sQ λN hN=>?_;simp-dsimp-implicitDefEqProofs(disch:=omega)only[go_sem,ints,AL];apply hN;apply AW.ret;simp-dsimp-implicitDefEqProofs(disch:=omega)only[go_sem];exact bt (C8 (λh=>h2 (h k A0))).symm
  apply AW.skip;apply BC;apply rQ;simp-dsimp-implicitDefEqProofs(disch:=omega)only[go_sem,ints,AL];refine⟨k+1,?_,λ_ _ h=>h,?_,?_⟩
  ·simp(disch:=omega) [AN,AO,sl,AR,ints,rows,A6,ints,AL,AR]<;>omega
  ·refine⟨A0,λj hj=>?_⟩;by_cases e:j=k
   ·subst e;exact h2
   exact hI j A0
  first|omega|(simp only;omega)
 apply AW.exit;apply B2;refine sQ λN hN=>?_;simp-dsimp-implicitDefEqProofs(disch:=omega)only[go_sem,ints,AL];apply hN;apply AW.ret;simp-dsimp-implicitDefEqProofs(disch:=omega)only[go_sem];exact bt (D2 (λj hj=>hI j A0)).symm
theorem CE{p:Int}(h:JG p):2<=p/\p<=7:=by unfold JG at h;omega
open Nat (reduceAdd reduceSub reduceGT reduceEqDiff reduceMul)
structure QT(pw:List (List Int))(br:List (List (List Int))):Prop where
  n:pw.length<=1048576
  v:∀i,(pw.getD i []).length<=1048576
  b:br.length<=1048576
  r:∀i,(br.getD i []).length<=1048576
  e:∀i j,((br.getD i []).getD j []).length<=1048576
open Nat (reduceAdd reduceSub reduceGT reduceEqDiff reduceMul)
structure BO(a:List (List Int)):Prop where
  n:a.length<=1048576
  v:∀x∈a,x.length<=1048576
structure F1(a:List (List (List Int))):Prop where
  n:a.length<=1048576
  v:∀x∈a,BO x
theorem NB{α:Type}{P:α->Prop}{xs:List α}{d:α}(h:∀x∈xs,P x)(hd:P d)(i:Nat):P (xs.getD i d):=by
  by_cases hi:i<xs.length
  · exact h _ (by simp[hi])
  simp[List.getD_eq_getElem?_getD,List.getElem?_eq_none (Nat.le_of_not_lt hi),hd]
theorem BO.nil:BO []:=⟨AB,AB⟩
theorem BO.getD{a:List (List Int)}(h:BO a)(i:Nat):(a.getD i []).length<=1048576:=NB (P:=λx:List Int=>x.length<=1048576) h.v AB i
theorem QT.of{pw:List (List Int)}{br:List (List (List Int))}(h1:BO pw)(h2:F1 br):QT pw br:=
  ⟨h1.n,h1.getD,h2.n,λi=>(NB h2.v .nil i).n,λi j=>(NB h2.v .nil i).getD j⟩
open Nat (reduceAdd reduceSub reduceGT reduceEqDiff reduceMul)
def Le(H H':HP):Prop:=∀i c,H i=some c->H' i=some c
theorem Le.refl(H:HP):Le H H:=λ_ _ h=>h
theorem Df{P:Program}{f:FuncId}{nx:Nat}{H:HP}{xs:List AV}{Q:Nat->HP->AV->Prop}(h:AC P f nx H xs (λBB H' r=>∃H2,Le H2 H'/\Q BB H2 r)):AC P f nx H xs Q:=by
  refine⟨h.1,λL Av w us a b c=>(h.2 L Av w us a b c).mono ?_⟩;rintro e w' ⟨u,r,L',BB,H',h1,⟨H2,h2,D9⟩,h3,h4,h5,h6,h7,h8⟩;have hm:∀b,MM L' H2 Av b->MM L' H' Av b:=λb hb=>Or.elim hb .inl (λhl=> .inr (WL h2 hl))
  exact⟨u,r,L',BB,H2,h1,D9,h3,h4,h5,h6.sub h2,⟨h7.le,h7.os,h7.tape,h7.output,h7.size,h7.AJ,λb hb hl=>h7.old b hb (WL h2 hl)⟩,
    h8.mono (λ_ _ h=>h) (λ_ _ _=>rfl) (λb _ hb=>hm b hb)⟩
theorem AC.AS{P:Program}{f:FuncId}{nx:Nat}{H:HP}{xs:List AV}{Q Q':Nat->HP->AV->Prop}(h:AC P f nx H xs Q)(hq:∀n H r,nx<=n->Q n H r->Q' n H r):AC P f nx H xs Q':=
  ⟨h.1,λL Av w us a b c=>(h.2 L Av w us a b c).mono λe w' ⟨u,r,L',BB,H',h1,h2,h3,h4⟩=>⟨u,r,L',BB,H',h1,hq _ _ _ h3 h2,h3,h4⟩⟩
theorem BA{P:Program}{Γ:CA}(hG:IB P Γ){f:FuncId}{fn:Func}{c:Code}{n:Nat}{rs:Array ResultVar}(hf:P.funcs[f]? =some fn)(hb:fn.body=some c)(hn:(fn.name== "runtime.NumGoroutine")=false)(yK:fn.ntmps=n)(YR:fn.results=rs){xs:List AV}{nx:Nat}{H:HP}{Q:Nat->HP->AV->Prop}
    (h:(∀i,nx<=i->H i=none)->∀cX:Ctx,AW cX P c ⟨xs++List.replicate (n-xs.length) .j,H,nx⟩ (jO Γ rs.toList (λBB H' r=>∃H2,Le H2 H'/\Q BB H2 r))):AC P f nx H xs Q:=by
  refine Df ⟨⟨fn,hf,by rw[hb];rfl,hn⟩,λL Av w us a b c=>?_⟩;have CQ:∀i,nx<=i->H i=none:=by
    intro i hi;cases hh:H i with
    |none=>rfl
    |some cs=>obtain⟨l,h1,_⟩:=a.node i cs hh;rw[b i hi]at h1;cases h1
  exact(BS hG hf hb hn yK YR (h CQ)).2 L Av w us a b c
def D3(n:Nat)(f:Nat->Int):List AV:=(List.range n).map λk=> .i .i64 (f k)
def vec(n:Nat)(f:Nat->Int):List Int:=(List.range n).map f
def AX(f:Nat->Int)(j:Nat)(x:Int):Nat->Int:=λk=>if k=j then x else f k
theorem CR{n:Nat}{f:Nat->Int}:(D3 n f).length=n:=by simp[D3]
theorem a8{n:Nat}{f:Nat->Int}{j:Nat}(h:j<n):(D3 n f).getD j .j= .i .i64 (f j):=by simp[D3,h]
theorem E1{n:Nat}{f g:Nat->Int}(h:∀k,k<n->f k=g k):D3 n f=D3 n g:=by
  apply List.map_congr_left;intro k hk;rw[h k (List.mem_range.1 hk)]
theorem K1{n:Nat}{f:Nat->Int}{j:Nat}{x:Int}(h:j<n):B3 (D3 n f) j [.i .i64 x]=D3 n (AX f j x):=by
  rw[EW _ _ _ (by rw[CR];exact h)];apply List.ext_getElem?;intro i;rw[List.getElem?_set];by_cases hi:j=i
  · subst hi;simp[D3,AX,h]
  simp only[hi,if_false,D3,List.getElem?_map];by_cases hn:i<n
  · simp[hn,AX,Ne.symm hi]
  simp[hn]
theorem BL{n:Nat}{f:Nat->Int}:(vec n f).length=n:=by simp[vec]
theorem K3{n:Nat}{f:Nat->Int}{j:Nat}(h:j<n):(vec n f).getD j 0=f j:=by simp[vec,h]
theorem K4{n:Nat}{f:Nat->Int}:(vec n f).map (.i .i64)=D3 n f:=by simp[vec,D3]
theorem Oi{n:Nat}{f g:Nat->Int}(h:∀k,k<n->f k=g k):vec n f=vec n g:=by
  apply List.map_congr_left;intro k hk;rw[h k (List.mem_range.1 hk)]
theorem jU(a:List Int):a=vec a.length (λk=>a.getD k 0):=by
  apply List.ext_getElem?;intro i;by_cases h:i<a.length<;>simp[vec,h]
theorem O9(a:List Int):a.map (.i .i64)=D3 a.length (λk=>a.getD k 0):=by
  rw[<-K4,<-jU]
theorem CO{n:Nat}:List.replicate n (.i .i64 0)=D3 n (λ_=>0):=by
  apply List.ext_getElem?;intro i;by_cases h:i<n<;>simp[D3,h]
theorem A64{k:IntKind}{a:List Int}:(∀z:AV,z∈List.map (AV.i k) a->one z=true)=True:=by
  simp only[eq_iff_iff,iff_true,List.mem_map];rintro z ⟨x,_,rfl⟩;rfl
theorem uX{n:Nat}{f:Nat->Int}:(∀z:AV,z∈D3 n f->one z=true)=True:=by
  simp only[eq_iff_iff,iff_true,D3,List.mem_map];rintro z ⟨x,_,rfl⟩;rfl
attribute [go_sem] LY CR a8 K1 A64 uX
theorem tn1(k:Nat):((k:Int)+1).toNat=k+1:=A0
theorem tn2(k q:Nat):((k:Int)+1+(q:Int)).toNat=k+1+q:=A0
theorem tn4(k q:Nat):(((k+1+q:Nat):Int)-(k:Int)-1).toNat=q:=A0
attribute [go_sem] tn1 tn2 tn4
def Al(nx BB:Nat)(H H':HP)(r:AV)(n:Nat)(f:Nat->Int):Prop:=∃id,r= .h id 0 n/\nx<=id/\id<BB/\H'=AT H id (some (D3 n f))
theorem Al.own{nx BB:Nat}{H H':HP}{r:AV}{n:Nat}{f:Nat->Int}(h:Al nx BB H H' r n f):∃ids,Own nx BB H' r (ints (vec n f)) ids:=by
  obtain⟨id,rfl,h1,h2,rfl⟩:=h;exact⟨_,Own.ints (by rw[A4,K4]) BL.symm h1 h2⟩
theorem Al.aco{P:Program}{f:FuncId}{xs:List AV}{n:Nat}{g:Nat->Int}(h:∀nx,AC P f nx BM xs (λBB H' r=>Al nx BB BM H' r n g)):gE P f xs (ints (vec n g)):=
  λnx=>(h nx).mono λ_ _ _ h=>h.own
theorem rB{H H':HP}{id:Nat}{c:Option (List AV)}(h:∀i c,i≠id->H i=some c->H' i=some c)(h2:∀d,c=some d->H' id=some d):Le (AT H id c) H':=by
  intro i d hi;by_cases e:i=id
  · subst e;rw[A4]at hi;exact h2 d hi
  rw[A1 _ _ e]at hi;exact h i d e hi
theorem CJ(a:List Int)(ha:a.length<=1099511627776)(nx:Nat)(H:HP):AC Tryz.prog 87 nx H [ints a] (λBB H' r=>Al nx BB H H' r a.length (λk=>a.getD k 0)):=by
 refine BA AA Tryz.func87 rfl A7 Tryz.ntmps87 Tryz.results87 (λCQ cX=>?_)
 refine sQ λN hN=>?_;simp-dsimp-implicitDefEqProofs(disch:=omega)only[go_sem,ints];apply hN;refine sQ λN hN=>?_;simp-dsimp-implicitDefEqProofs(disch:=omega)only[go_sem,ints];apply hN;apply AW.ret;simp-dsimp-implicitDefEqProofs(disch:=omega)only[go_sem];refine⟨_,?_,nx+1+2,rfl,A0,A0,rfl⟩
 rw[O9]
 intro i c hi
 have C4:H i=some c->i<nx:=λh=>by apply Classical.byContradiction;intro hn;rw[CQ i A0]at h;cases h
 simp only[AT]at hi ⊢
 split at hi
 ·rename_i e;subst e;cases hi;repeat (first|rw[if_pos rfl]|rw[if_neg A0])
 have:=C4 hi;repeat rw[if_neg A0]
 exact hi
def CpI(nx BB:Nat)(H H':HP)(r:AV)(n:Nat)(f:Nat->Int):Prop:=Al nx BB H H' r n f\/(n=0/\r= .v 0 []/\H'=H)
theorem R.A65{L:LM}{w:World}{M:Nat->Prop}{u:Value}(h:R L w M .nl u):R L w M (.v 0 []) u:=by rw[h.EV];exact .v0 _ _
theorem uY{P:Program}{f:FuncId}{nx:Nat}{H:HP}{xs:List AV}{Q:Nat->HP->AV->Prop}(h:AC P f nx H xs (λBB H' r=>Q BB H' r\/(r= .nl/\Q BB H' (.v 0 [])))):AC P f nx H xs Q:=by
  refine⟨h.1,λL Av w us a b c=>(h.2 L Av w us a b c).mono ?_⟩;rintro e w' ⟨u,r,L',BB,H',h1,h2,h3,h4,h5,h6,h7,h8⟩;rcases h2 with h2|⟨rfl,h2⟩
  · exact⟨u,r,L',BB,H',h1,h2,h3,h4,h5,h6,h7,h8⟩
  exact⟨u,_,L',BB,H',h1,h2,h3,h4,h5,h6,h7,h8.A65⟩
theorem F8(a:List Int)(ha:a.length<=1099511627776)(nx:Nat)(H:HP):AC Tryz.prog 197 nx H [ints a] (λBB H' r=>CpI nx BB H H' r a.length (λk=>a.getD k 0)):=by
  refine uY ?_;refine BA AA Tryz.func197 rfl A7 Tryz.ntmps197 Tryz.results197 (λCQ cX=>?_);refine sQ λN hN=>?_;simp-dsimp-implicitDefEqProofs(disch:=omega)only[go_sem,ints];apply hN;refine AW.seq λN1 B2=>?_;refine sQ λN hN=>?_;simp-dsimp-implicitDefEqProofs(disch:=omega)only[go_sem,ints];refine⟨⟨_,_,rfl,rfl⟩,⟨λh0=>?_,?_⟩⟩
  · apply hN;refine CI rfl ?_;refine sQ λN hN=>?_;simp-dsimp-implicitDefEqProofs(disch:=omega)only[go_sem,];apply hN;apply AW.ret;simp-dsimp-implicitDefEqProofs(disch:=omega)only[go_sem];exact⟨H,Le.refl _,.inr (.inr ⟨h0,rfl,rfl⟩)⟩
  apply hN;refine B4 rfl ?_;apply AW.skip;apply B2;refine sQ λN hN=>?_;simp-dsimp-implicitDefEqProofs(disch:=omega)only[go_sem,ints];apply hN;apply AW.ret;simp-dsimp-implicitDefEqProofs(disch:=omega)only[go_sem];refine⟨_,?_,.inl (.inl ⟨_,rfl,?_,?_,rfl⟩)⟩
  · rw[O9];intro i c hi;have C4:H i=some c->i<nx:=λh=>by apply Classical.byContradiction;intro hn;rw[CQ i A0]at h;cases h
    simp only[AT]at hi ⊢;split at hi
    · rename_i e;subst e;cases hi;repeat (first|rw[if_pos rfl]|rw[if_neg A0])
    have:=C4 hi;repeat rw[if_neg A0]
    exact hi
  · omega
  omega
open Nat (reduceAdd reduceSub reduceGT reduceEqDiff reduceMul)
theorem Dg{cX:Ctx}{P:Program}{c:Code}{s:St}{K:Exit->St->Prop}(h:AW cX P c s (qW K λ_=>False)):AW cX P (.loop c) s K:=
  A8 (α:=Unit) (λ_=>s.t) (λ_=>s.H) (λ_ m=>m=s.nx) (λ_=>0) () rfl (by
    have:∀t:List AV,AN t t:=by
      intro t;induction t with
      |nil=>exact trivial
      |cons x xs ih=>exact⟨.inr (.inl rfl),ih⟩
    exact this _) (λ_ _ h=>h) (λ_ m hm=>by
      subst hm;exact h.mono (λe s' h=>by cases e<;>simp only[qW]at h ⊢<;>first|exact h.elim|exact h))
open Nat (reduceAdd reduceSub reduceGT reduceEqDiff reduceMul)
def Uq(n k:Nat):List Int:=vec n (λj=>if j=k then 1 else 0)
theorem Dh{n k:Nat}(h:k<n):B3 (D3 n (λ_=>0)) k [.i .i64 1]=D3 n (λj=>if j=k then 1 else 0):=by
  rw[K1 h];rfl
theorem TC(n k:Nat)(hn:n<=1048576)(hk:k<n):gE Tryz.prog 130 [.i .i64 n,.i .i64 k] (ints (Uq n k)):=by
 refine Al.aco (λnx=>?_)
 refine BA AA Tryz.func130 rfl A7 Tryz.ntmps130 Tryz.results130 (λCQ cX=>?_)
 refine sQ λN hN=>?_;simp-dsimp-implicitDefEqProofs(disch:=omega)only[go_sem,];apply hN;refine sQ λN hN=>?_;simp-dsimp-implicitDefEqProofs(disch:=omega)only[go_sem,];apply hN;refine sQ λN hN=>?_;simp-dsimp-implicitDefEqProofs(disch:=omega)only[go_sem,];apply hN;refine sQ λN hN=>?_;simp-dsimp-implicitDefEqProofs(disch:=omega)only[go_sem,];apply hN;apply AW.ret;simp-dsimp-implicitDefEqProofs(disch:=omega)only[go_sem];refine⟨_,?_,_,rfl,?_,?_,rfl⟩
 ·rw[CO,Dh hk];refine rB (λi c h1 h2=>?_) (λd hd=>by rw[A4];exact hd);cases h2
 ·omega
 omega
open Nat (reduceAdd reduceSub reduceGT reduceEqDiff reduceMul)
theorem YU(a:List Int)(WB:a.length<=1099511627776):BI Tryz.prog 178 [ints a] (.b (tf (nK a))):=by
 refine AD AA Tryz.func178 rfl A7 Tryz.ntmps178 Tryz.results178 (.b _) (λnx cX=>?_)
 refine sQ λN hN=>?_;simp-dsimp-implicitDefEqProofs(disch:=omega)only[go_sem,ints,AL];apply hN;refine AW.seq λN1 B2=>?_;refine sQ λN hN=>?_;simp-dsimp-implicitDefEqProofs(disch:=omega)only[go_sem,ints,AL];apply hN;apply AW.block;refine A8 (α:=Nat) (λx=>sl 15 [(0,ints a),(3,.i .i64 x)]) (λ_=>BM) (λx m=>x<=a.length/\∀j,j<x->a.getD j 0=0) (λx=>a.length-x) (0) ?_ ?_ (λ_ _ h=>h) ?_
 ·exact⟨A0,by intro j hj;omega⟩
 ·simp(disch:=omega) [AN,AO,sl,AR,ints,rows,A6,ints,AL,AR]<;>omega
 skip
 rintro k m ⟨hk,hI⟩
 simp-dsimp-implicitDefEqProofs(disch:=omega)only[go_sem];refine AW.seq λN2 B7=>?_;refine sQ λN hN=>?_;simp-dsimp-implicitDefEqProofs(disch:=omega)only[go_sem,ints,AL];apply hN;refine AW.cond rfl ?_ ?_<;>intro h1<;>try simp only[cn]at h1
 ·apply AW.skip;apply B7;refine AW.seq λN3 BC=>?_;apply AW.block;refine sQ λN hN=>?_;simp-dsimp-implicitDefEqProofs(disch:=omega)only[go_sem,ints,AL];apply hN;refine AW.cond rfl ?_ ?_<;>intro h2<;>try simp only[cn]at h2
  ·refine sQ λN hN=>?_;simp-dsimp-implicitDefEqProofs(disch:=omega)only[go_sem,ints,AL];apply hN;apply AW.ret;simp-dsimp-implicitDefEqProofs(disch:=omega)only[go_sem];exact bt (C8 (λh=>h2 (h k A0))).symm
  apply AW.skip;apply BC;apply rQ;simp-dsimp-implicitDefEqProofs(disch:=omega)only[go_sem,ints,AL];refine⟨k+1,?_,λ_ _ h=>h,?_,?_⟩
  ·simp(disch:=omega) [AN,AO,sl,AR,ints,rows,A6,ints,AL,AR]<;>omega
  ·refine⟨A0,λj hj=>?_⟩;by_cases e:j=k
   ·subst e;exact h2
   exact hI j A0
  first|omega|(simp only;omega)
 apply AW.exit;apply B2;refine sQ λN hN=>?_;simp-dsimp-implicitDefEqProofs(disch:=omega)only[go_sem,ints,AL];apply hN;apply AW.ret;simp-dsimp-implicitDefEqProofs(disch:=omega)only[go_sem];exact bt (D2 (λj hj=>hI j A0)).symm
theorem JM(a b:List Int)(ha:a.length<=1099511627776)(hb:b.length<=1099511627776):BI Tryz.prog 214 [ints a,ints b] (.b (tf (a=b))):=by
 refine AD AA Tryz.func214 rfl A7 Tryz.ntmps214 Tryz.results214 (.b _) (λnx cX=>?_)
 refine sQ λN hN=>?_;simp-dsimp-implicitDefEqProofs(disch:=omega)only[go_sem,ints,AL];apply hN;refine AW.seq λN1 B2=>?_;refine sQ λN hN=>?_;simp-dsimp-implicitDefEqProofs(disch:=omega)only[go_sem,ints,AL];apply hN;refine AW.cond rfl ?_ ?_<;>intro h1<;>try simp only[cn]at h1
 ·refine sQ λN hN=>?_;simp-dsimp-implicitDefEqProofs(disch:=omega)only[go_sem,ints,AL];apply hN;apply AW.ret;simp-dsimp-implicitDefEqProofs(disch:=omega)only[go_sem];exact bt (C8 (λe=>h1 (by rw[e]))).symm
 have hl:a.length=b.length:=A0
 apply AW.skip;apply B2;refine AW.seq λN2 B7=>?_;refine sQ λN hN=>?_;simp-dsimp-implicitDefEqProofs(disch:=omega)only[go_sem,ints,AL];apply hN;apply AW.block;refine A8 (α:=Nat) (λx=>sl 26 [(0,ints a),(1,ints b),(5,.i .i64 x)]) (λ_=>BM) (λx m=>x<=a.length/\a.take x=b.take x) (λx=>a.length-x) (0) ?_ ?_ (λ_ _ h=>h) ?_
 ·exact⟨A0,rfl⟩
 ·simp(disch:=omega) [AN,AO,sl,AR,ints,rows,A6,ints,AL,AR]<;>omega
 skip
 rintro k m ⟨hk,he⟩
 simp-dsimp-implicitDefEqProofs(disch:=omega)only[go_sem];refine AW.seq λN3 BC=>?_;refine sQ λN hN=>?_;simp-dsimp-implicitDefEqProofs(disch:=omega)only[go_sem,ints,AL];apply hN;refine AW.cond rfl ?_ ?_<;>intro h2<;>try simp only[cn]at h2
 ·apply AW.skip;apply BC;refine AW.seq λN4 CF=>?_;apply AW.block;refine AW.seq λN hN=>?_;refine AM AA A7 9 A7 ?_
  simp-dsimp-implicitDefEqProofs(disch:=omega)only[BE,BF,BW,List.take_succ_cons,List.take_zero,List.drop_succ_cons,List.drop_zero,List.take_nil,List.drop_nil,go_sem,undef,ints,AL,AR];apply hN;refine AW.cond rfl ?_ ?_<;>intro h3<;>try simp only[cn]at h3
  ·refine sQ λN hN=>?_;simp-dsimp-implicitDefEqProofs(disch:=omega)only[go_sem,ints,AL];apply hN;apply AW.ret;simp-dsimp-implicitDefEqProofs(disch:=omega)only[go_sem];exact bt (C8 (λe=>h3 (by rw[e]))).symm
  apply AW.skip;apply CF;apply rQ;simp-dsimp-implicitDefEqProofs(disch:=omega)only[go_sem,ints,AL];refine⟨k+1,?_,λ_ _ h=>h,?_,?_⟩
  ·simp(disch:=omega) [AN,AO,sl,AR,ints,rows,A6,ints,AL,AR]<;>omega
  ·exact⟨A0,UG 0 hl A0 he h3⟩
  first|omega|(simp only;omega)
 apply AW.exit;apply B7;refine sQ λN hN=>?_;simp-dsimp-implicitDefEqProofs(disch:=omega)only[go_sem,ints,AL];apply hN;apply AW.ret;simp-dsimp-implicitDefEqProofs(disch:=omega)only[go_sem];rw[show k=a.length by omega,List.take_length,hl,List.take_length]at he
 exact bt (D2 he).symm
theorem F9(a b:List Int)(ha:a.length<=1099511627776)(hb:b.length<=1099511627776):BI Tryz.prog 103 [ints a,ints b] (.b (tf (a=b))):=by
 refine AD AA Tryz.func103 rfl A7 Tryz.ntmps103 Tryz.results103 (.b _) (λnx cX=>?_)
 refine sQ λN hN=>?_;simp-dsimp-implicitDefEqProofs(disch:=omega)only[go_sem,ints,AL];apply hN;refine AW.seq λN1 B2=>?_;refine sQ λN hN=>?_;simp-dsimp-implicitDefEqProofs(disch:=omega)only[go_sem,ints,AL];apply hN;refine AW.cond rfl ?_ ?_<;>intro h1<;>try simp only[cn]at h1
 ·refine sQ λN hN=>?_;simp-dsimp-implicitDefEqProofs(disch:=omega)only[go_sem,ints,AL];apply hN;apply AW.ret;simp-dsimp-implicitDefEqProofs(disch:=omega)only[go_sem];exact bt (C8 (λe=>h1 (by rw[e]))).symm
 have hl:a.length=b.length:=A0
 apply AW.skip;apply B2;refine AW.seq λN2 B7=>?_;refine sQ λN hN=>?_;simp-dsimp-implicitDefEqProofs(disch:=omega)only[go_sem,ints,AL];apply hN;apply AW.block;refine A8 (α:=Nat) (λx=>sl 26 [(0,ints a),(1,ints b),(12,.i .i64 a.length),(13,.i .i64 x)]) (λ_=>BM) (λx m=>x<=a.length/\a.take x=b.take x) (λx=>a.length-x) (0) ?_ ?_ (λ_ _ h=>h) ?_
 ·exact⟨A0,rfl⟩
 ·simp(disch:=omega) [AN,AO,sl,AR,ints,rows,A6,ints,AL,AR]<;>omega
 skip
 rintro k m ⟨hk,he⟩
 simp-dsimp-implicitDefEqProofs(disch:=omega)only[go_sem];refine sQ λN hN=>?_;simp-dsimp-implicitDefEqProofs(disch:=omega)only[go_sem,ints,AL];apply hN;refine AW.seq λN3 BC=>?_;refine AW.cond rfl ?_ ?_<;>intro h2<;>try simp only[cn]at h2
 ·apply AW.skip;apply BC;refine AW.seq λN4 CF=>?_;apply AW.block;refine sQ λN hN=>?_;simp-dsimp-implicitDefEqProofs(disch:=omega)only[go_sem,ints,AL];apply hN;refine AW.seq λN hN=>?_;refine AM AA A7 9 A7 ?_
  simp-dsimp-implicitDefEqProofs(disch:=omega)only[BE,BF,BW,List.take_succ_cons,List.take_zero,List.drop_succ_cons,List.drop_zero,List.take_nil,List.drop_nil,go_sem,undef,ints,AL,AR];apply hN;refine AW.cond rfl ?_ ?_<;>intro h3<;>try simp only[cn]at h3
  ·refine sQ λN hN=>?_;simp-dsimp-implicitDefEqProofs(disch:=omega)only[go_sem,ints,AL];apply hN;apply AW.ret;simp-dsimp-implicitDefEqProofs(disch:=omega)only[go_sem];exact bt (C8 (λe=>h3 (by rw[e]))).symm
  apply AW.skip;apply CF;apply rQ;simp-dsimp-implicitDefEqProofs(disch:=omega)only[go_sem,ints,AL];refine⟨k+1,?_,λ_ _ h=>h,?_,?_⟩
  ·simp(disch:=omega) [AN,AO,sl,AR,ints,rows,A6,ints,AL,AR]<;>omega
  ·exact⟨A0,UG 0 hl A0 he h3⟩
  first|omega|(simp only;omega)
 apply AW.exit;apply B7;refine sQ λN hN=>?_;simp-dsimp-implicitDefEqProofs(disch:=omega)only[go_sem,ints,AL];apply hN;apply AW.ret;simp-dsimp-implicitDefEqProofs(disch:=omega)only[go_sem];rw[show k=a.length by omega,List.take_length,hl,List.take_length]at he
 exact bt (D2 he).symm
def i4(t:Int×Int×Int×Int):AV:= .t [.i .i64 t.1,.i .i64 t.2.1,.i .i64 t.2.2.1,.i .i64 t.2.2.2]
open Nat (reduceAdd reduceSub reduceGT reduceEqDiff reduceMul)
theorem NR.ts{xs:List AV}(h:∀x∈xs,NR x):NR (.t xs):= .t _ (λk x hk=>h x (List.mem_of_getElem? hk))
open Nat (reduceAdd reduceSub reduceGT reduceEqDiff reduceMul)
theorem A0E(a:List Int):one (ints a)=true:=rfl
theorem A0F(a:List (List Int)):one (rows a)=true:=rfl
theorem Oj(a:List (List (List Int))):one (A6 a)=true:=rfl
theorem A0G(a:List Int):fU (ints a)=true:=rfl
theorem A0H(a:List Int):CN (ints a)=[ints a]:=rfl
attribute [go_sem] A0E A0F Oj A0G A0H Bool.true_and ne_eq not_true_eq_false not_false_eq_true or_false false_or or_self
theorem GV(a:List Int):NR (ints a):=by
  unfold Go.Proofs.YtgknbnkmilddhaaGreat.ints;exact .v _ _ (by intro k x hk;obtain⟨y,_,rfl⟩:=List.mem_map.1 (List.mem_of_getElem? hk);exact .i _ _)
theorem Vw.rws{H:HP}{id:Nat}{xs:List (List Int)}{n:Nat}(hn:n=xs.length)(h:H id=some (xs.map Go.Proofs.YtgknbnkmilddhaaGreat.ints)):Vw H (.h id 0 n) (rows xs):=by
  subst hn;unfold rows;exact .h id 0 xs.length _ _ h AB AB (λk x y hx hy=>by rw[Nat.zero_add,hy]at hx;cases hx;exact .refl _)
open Nat (reduceAdd reduceSub reduceGT reduceEqDiff reduceMul)
theorem Ow.Di{H:HP}{r:AV}{a:List Int}{ids:List Nat}(h:Ow H r (Go.Proofs.YtgknbnkmilddhaaGreat.ints a) ids):(a=[]/\(r= .nl\/r= .v 0 []))\/∃id,r= .h id 0 a.length/\id∈ids/\H id=some (D3 a.length (λj=>a.getD j 0)):=by
  unfold Go.Proofs.YtgknbnkmilddhaaGreat.ints at h;generalize hX:AV.v a.length (a.map (AV.i .i64))=X at h
  cases h with
  | leaf _ hf hn=>
    subst hX;cases a with
    |nil=>exact .inl ⟨rfl,.inr rfl⟩
    |cons x xs=>cases hf
  | nl=>
    injection hX with h1 h2
    cases a with
    |nil=>exact .inl ⟨rfl,.inl rfl⟩
    |cons x xs=>simp at h1
  | h id cs ts CU h1 h2=>
    injection hX with e1 e2
    subst e2;have h3:cs=a.map (AV.i .i64):=by
      apply List.ext_getElem?;intro k;by_cases hk:k<cs.length
      · obtain⟨y,is,g1,g2,_⟩:=h2.get k cs[k] (List.getElem?_eq_getElem hk);rw[List.getElem?_eq_getElem hk,g1];simp only[List.getElem?_map,Option.map_eq_some_iff]at g1;obtain⟨z,_,rfl⟩:=g1;generalize cs[k]=x at g2
        cases g2;rfl
      rw[List.getElem?_eq_none (Nat.le_of_not_lt hk),List.getElem?_eq_none (by rw[h2.len];omega)]
    refine .inr ⟨id,by rw[e1],AB,?_⟩;rw[h1,h3,O9]
  |q id cs ts CU h1 h2=>cases hX
  |g cs ts CU h2=>cases hX
  |t cs ts CU h2=>cases hX
theorem A0I{H:HP}{r:AV}{n:Nat}{ts:List AV}{ids:List Nat}(h:Ow H r (.v n ts) ids):one r=true:=h.slice.2.1
end Go.Proofs.YtgknbnkmilddhaaGreat
