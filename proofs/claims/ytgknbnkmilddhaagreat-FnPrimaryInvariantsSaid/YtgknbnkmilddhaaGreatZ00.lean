import Derived.WalkKit
import Derived.WalkSpells
import Derived.Orders
import Derived.TacticsIn
import Derived.OrdersIn
import Derived.RangeFuncCalls
import Derived.RangeFuncRecord
import Derived.Lib.SliceRun
set_option linter.all false
set_option linter.defProp false

namespace Go.Proofs.YtgknbnkmilddhaaGreat
section
def AL:=@List.getElem?_eq_some_iff
def A9:=@List.getElem?_eq_getElem
def D1:=@Array.getElem?_eq_getElem
def MI:=@Array.getElem?_eq_some_iff
def A1:=@Nat.le_refl
def CH:=@Nat.le_trans
def GA:=@Nat.lt_of_lt_of_le
def BL:=@Nat.lt_or_ge
def OS:=@Array.getElem?_eq_none
def C3:=@List.mem_cons_of_mem
def DB:=@Option.map_some
def E4:=@Option.some.injEq
def RD:=@Prod.mk.injEq
def KH:=@Array.getElem?_setIfInBounds_ne
def IF:=@Array.getElem?_setIfInBounds_self_of_lt
def BF:=@List.getElem?_map
def CG:=@Option.map_eq_some_iff
def CE:=@Array.getElem?_toList
def BM:=@List.all_eq_true
def D3:=@List.mem_of_getElem?
def C6:=@List.length_cons
def CR:=@List.length_nil
def KI:=@Array.ext
def CU:=@Bool.and_eq_true
def FL:=@Array.ext'
def EZ:=@Bool.and_true
def F7:=@Go.run_neq_slice_nil_any
def HI:=@Nat.add_zero
def BS:=@Nat.zero_add
def D9:=@List.getElem?_take
def CK:=@List.getElem?_drop
def EG:=@Bool.false_eq_true
def DS:=@Nat.add_assoc
def BC:=@Array.getD_eq_getD_getElem?
def J9:=@Option.getD_none
def FW:=@Option.getD_some
def HV:=@Option.map_none
def AS:=@List.take_zero
def B1:=@List.length_take
def CC:=@List.length_drop
def JZ:=@Nat.mul_one
def F8:=@Int.mul_comm
def NP:=@Nat.mod_one
def EV:=@List.getElem?_replicate
def CL:=@List.getElem?_set
def GU:=@Array.getElem?_setIfInBounds
def K1:=@List.foldl_cons
def BU:=@List.map_nil
def BR:=@List.map_cons
def OT:=@Nat.not_lt
def HW:=@Bool.or_eq_true
def JA:=@List.mem_toArray
def AQ:=@List.mem_map
def QN:=@List.mapM_cons
def NF:=@Array.mapM_eq_mapM_toList
def M9:=@Array.getElem_setIfInBounds
def CO:=@List.getElem?_toArray
def BO:=@List.append_assoc
def EH:=@List.getElem?_append
def GX:=@List.getElem_of_mem
def F5:=@Option.some.inj
def DT:=@List.getElem?_cons_zero
def GV:=@List.getElem?_cons_succ
def F0:=@Bool.not_false
def I7:=@List.replicate_zero
def C5:=@List.append_nil
def LN:=@Nat.le_succ
def AX:=@List.length_eq_zero_iff
def MJ:=@List.length_pos_iff
def C8:=@List.nil_append
def F3:=@List.getElem?_append_left
def EA:=@List.getElem?_append_right
def LY:=@Nat.mul_le_mul_right
def EE:=@Int.natCast_mul
def BG:=@Int.toNat_of_nonneg
def DX:=@List.mem_replicate
def BZ:=@List.length_replicate
def BK:=@List.getElem_mem
def JB:=@Array.mem_append
def KQ:=@Array.mem_of_getElem?
def FZ:=@Array.getElem?_append
def GN:=@List.map_map
def A4:=@List.length_map
def EP:=@Array.length_toList
def RE:=@Nat.lt_irrefl
def C7:=@List.ext_getElem?
def B8:=@List.getElem?_eq_none
def NH:=@List.take_take
def EF:=@Nat.min_eq_left
def GO:=@List.mem_of_mem_take
def JC:=@Nat.le_of_not_lt
def A5:=@List.getD_eq_getElem?_getD
def AH:=@List.length_append
def KR:=@List.drop_drop
def CM:=@Nat.sub_self
def FR:=@Bool.and_self
def C4:=@Bool.not_true
def FA:=@Bool.false_or
def B3:=@List.mem_range
def E0:=@List.mem_filter
def JD:=@List.drop_length
def F1:=@List.eq_nil_iff_forall_not_mem
def DL:=@List.drop_eq_getElem_cons
def CX:=@List.range_succ
def K9:=@List.filter_append
def LQ:=@List.filter_cons
def AN:=@Classical.byContradiction
def IG:=@List.mem_filterMap
def F6:=@List.length_filter_le
def BJ:=@List.mem_cons
def AG:=@List.mem_append
def MD:=@List.cons.injEq
def AE:=@Nat.zero_le
def DG:=@List.length_range
def FM:=@List.getElem?_range
def K8:=@List.getElem_range
def BA:=@List.nodup_append
def EB:=@Nat.sub_zero
def BD:=@List.drop_nil
def CQ:=@Int.toNat_natCast
def GG:=@Int.le_refl
def B4:=@List.drop_zero
def AT:=@List.take_succ_cons
def AR:=@List.drop_succ_cons
def BE:=@List.take_nil
def MK:=@List.replicate_succ
def HC:=@List.cons_append
def JS:=@List.map_take
def EI:=@Eq.trans
def E5:=@List.take_add_one
def KL:=@Int.pow_succ
def GB:=@Int.mul_le_mul
def DE:=@Nat.pow_le_pow_right
def FH:=@Int.mul_nonneg
def FN:=@List.map_congr_left
def I8:=@Ne.symm
def B2:=@List.take_length
def BY:=@List.mem_singleton
def F9:=@Nat.min_self
def AJ:=@List.take_of_length_le
def C1:=@List.nodup_cons
def HD:=@List.drop_eq_nil_of_le
def LZ:=@List.getElem?_set_ne
def FP:=@Nat.add_comm
def LR:=@List.nodup_range
def QE:=@Int.mul_add
def M1:=@List.length_eraseIdx
def ER:=@Int.one_mul
def HY:=@Int.mul_assoc
def GH:=@Int.dvd_mul_of_dvd_right
def LS:=@List.perm_middle
def ML:=@Int.dvd_refl
def S9:=@Int.zero_dvd
def CA:=@List.mem_cons_self
def MN:=@Int.dvd_zero
def HZ:=@List.eraseIdx_eq_take_drop_succ
def AZ:=@List.map_append
def RF:=@List.map_drop
def IU:=@Int.mul_ediv_cancel'
def KM:=@Int.zero_mul
def MO:=@Int.add_zero
def KY:=@Int.dvd_mul_right
def P6:=@Int.emod_def
def DK:=@Int.emod_nonneg
def DR:=@Int.emod_lt_of_pos
def KA:=@Int.dvd_of_emod_eq_zero
def GR:=@Nat.lt_trichotomy
def GP:=@Nat.not_lt_zero
def IH:=@List.map_id'
def PJ:=@Classical.choose_spec
def FJ:=@List.set_eq_take_append_cons_drop
def FB:=@Nat.le_of_dvd
def DY:=@Nat.dvd_of_mod_eq_zero
def I9:=@Nat.div_le_div_left
def HO:=@Nat.le_div_iff_mul_le
def JE:=@Nat.mod_eq_of_lt
def GY:=@List.map_eq_nil_iff
def CY:=@Nat.mul_le_mul
def IP:=@Int.natCast_add
def CZ:=@Int.tmod_eq_emod_of_nonneg
def EC:=@Int.tdiv_eq_ediv_of_nonneg
def PX:=@Int.ediv_nonneg
def MP:=@Int.le_trans
def J1:=@Int.lt_or_le
def KZ:=@Int.mul_left_comm
def HQ:=@Int.emod_add_mul_ediv
def NQ:=@Int.mul_one
def K0:=@Int.mul_sub
def CN:=@Int.mul_le_mul_of_nonneg_left
def CV:=@Int.emod_eq_of_lt
def GI:=@Int.add_mul
def QF:=@Int.sub_mul
def D5:=@Int.mul_le_mul_of_nonneg_right
def SA:=@Int.mul_emod
def RG:=@Int.emod_emod
def PK:=@List.filterMap_append
def IV:=@Int.emod_add_emod
def HE:=@Int.natCast_succ
def E1:=@Int.emod_eq_emod_iff_emod_sub_eq_zero
def MQ:=@Int.mul_zero
def RH:=@Int.zero_emod
def IW:=@Int.add_emod_emod
def B7:=@List.take_succ_eq_append_getElem
def QG:=@Nat.add_mul
def KN:=@Int.zero_add
def P7:=@Nat.mul_succ
def SB:=@Nat.le_total
def LA:=@Nat.sub_mod_eq_zero_of_mod_eq
def PY:=@Nat.div_add_mod
def LU:=@Int.emod_self
def II:=@Nat.eq_zero_or_pos
def D6:=@Nat.add_sub_cancel
def LD:=@List.eq_nil_of_length_eq_zero
def JT:=@Int.toNat_one
def JU:=@List.flatten_append
def HR:=@List.take_append_drop
def M3:=@List.mem_of_mem_drop
def DM:=@List.mem_flatMap
def E3:=@List.length_singleton
def F4:=@List.flatMap_append
def I6:=@Nat.succ_mul
def HJ:=@Nat.pow_succ
def P8:=@Nat.mul_comm
def L1:=@List.foldl_append
def MR:=@List.perm_append_singleton
def D2:=@List.length_set
def KB:=@Int.mul_emod_right
def L3:=@List.pairwise_map
def I3:=@List.Pairwise.imp_of_mem
def NI:=@List.countP_append
def ME:=@List.countP_map
def JF:=@List.countP_cons
def MS:=@Nat.div_eq_of_eq_mul_right
def OC:=@Nat.mul_assoc
def O5:=@List.countP_congr
def O6:=@Array.size_append
def OD:=@Nat.add_sub_cancel_left
def FX:=@List.pairwise_iff_getElem
def HK:=@List.map_set
def JG:=@List.mem_or_eq_of_mem_set
def GS:=@List.flatMap_cons
def IJ:=@Nat.mod_eq_zero_of_dvd
def GQ:=@Nat.pow_dvd_pow
def QO:=@Nat.one_lt_pow
def PZ:=@List.count_cons
def GK:=@List.count_eq_zero_of_not_mem
def IX:=@List.count_append
def PL:=@Nat.pos_of_dvd_of_pos
def MT:=@Nat.pow_le_pow_left
def NS:=@Nat.pow_lt_pow_iff_right
def Q0:=@Nat.mul_dvd_mul
def OE:=@Int.ofNat_dvd
def KS:=@List.length_pos_iff_exists_mem
def SC:=@Nat.le_of_lt
def OU:=@List.not_mem_nil
def SD:=@Nat.le_of_eq
def HS:=@List.replicate_succ'
def MF:=@Nat.div_le_self
def PM:=@List.count_cons_of_ne
def FI:=@List.mem_iff_getElem
def SE:=@Int.zero_sub
def E8:=@Option.bind_eq_some_iff
def OF:=@Int.eq_ofNat_of_zero_le
abbrev C2:=List Int
abbrev D4:=List (List Int)
abbrev E6:=List (List (List Int))
universe zqu
def EK{α:Sort zqu}(a:α):∃b,a=b:=⟨a,rfl⟩
def A0{P:Prop}(h:P:=by omega):P:=h
def B5{P:Prop}(h:P:=by simp):P:=h
def AP{P:Prop}(h:P:=by kernel_rfl):P:=h
def AI{P:Prop}(h:P:=by first|omega|(dsimp only;omega)):P:=h
def HT{P:Prop}(h:P:=by decide):P:=h
inductive AV where
 |j
 |i (k:IntKind) (n:Int)
 |b (x:Bool)
 |s (x:ByteArray)
 |c (x:Value)
 |nl
 |v (n:Nat) (cs:List AV)
 |p (o:Nat) (cs:List AV)
 |h (id o n:Nat)
 |hs (s id o n:Nat)
 |q (id o:Nat)
 |g (cs:List AV)
 |t (vs:List AV)
 |f (fn:Nat) (cs:List AV)
 |m (id:Nat)
 |it (id:Nat)
structure Loc where
 IY:Nat
 off:Nat
 cap:Nat
 kd:Nat
abbrev LM:=Nat->Option Loc
abbrev HP:=Nat->Option (List AV)
def LB(L:LM)(H:HP)(b:Nat):Prop:=∃id cs l,H id=some cs/\L id=some l/\l.IY=b
def MM(L:LM)(H:HP)(Av:Nat->Prop)(b:Nat):Prop:=Av b\/LB L H b
inductive R (L:LM) (w:World) (M:Nat->Prop):AV->Value->Prop
  |j (u:Value):R L w M .j u
  |i (k:IntKind) (n:Int):R L w M (.i k n) (.int k n)
  |b (x:Bool):R L w M (.b x) (.bool x)
  |s (x:ByteArray):R L w M (.s x) (.string x)
  |c (x:Value):R L w M (.c x) x
  |nl:R L w M .nl (.slice none 0 0)
  |v0 (a:Option Addr) (cp:Nat):R L w M (.v 0 []) (.slice a 0 cp)
  | v (n:Nat) (cs:List AV) (b off cp:Nat) (arr:Array Value) (e:TypeId) (f:Nat×Nat) (us:Nat->Value) (hM:¬M b) (hb:w.heap[b]? =some (.cells arr e f))
      (hn:n<=cp) (hu:∀k,k<cs.length->arr[off+k]? =some (us k)) (hr:∀k x,cs[k]? =some x->R L w M x (us k)):R L w M (.v n cs) (.slice (some ⟨b,off,none⟩) n cp)
  | p (o:Nat) (cs:List AV) (b off:Nat) (arr:Array Value) (e:TypeId) (f:Nat×Nat) (us:Nat->Value) (hM:¬M b) (hb:w.heap[b]? =some (.cells arr e f))
      (hu:∀k,k<cs.length->arr[off+k]? =some (us k)) (hr:∀k x,cs[k]? =some x->R L w M x (us k)):R L w M (.p o cs) (.pointer (some ⟨b,off+o,none⟩))
  |h (id o n:Nat) (l:Loc) (a:Addr) (cp:Nat) (hl:L id=some l) (hn:n<=cp) (hc:o+cp<=l.cap) (ha:cp=0\/a=⟨l.IY,l.off+o,none⟩) (h0:l.kd=0):R L w M (.h id o n) (.slice (some a) n cp)
  |hs (s id o n:Nat) (l:Loc) (a:Addr) (cp:Nat) (hl:L id=some l) (hn:n<=cp) (hc:o+cp*s<=l.cap) (ha:cp=0\/a=⟨l.IY,l.off+o,none⟩) (h0:l.kd=0):R L w M (.hs s id o n) (.slice (some a) n cp)
  |q (id o:Nat) (l:Loc) (hl:L id=some l) (h0:l.kd=0):R L w M (.q id o) (.pointer (some ⟨l.IY,l.off+o,none⟩))
  |g (cs:List AV) (us:Array Value) (hs:us.size=cs.length) (hr:∀k x,cs[k]? =some x->R L w M x (us.getD k undef)):R L w M (.g cs) (.agg us)
  |t (vs:List AV) (us:Array Value) (hs:us.size=vs.length) (hr:∀k x,vs[k]? =some x->R L w M x (us.getD k undef)):R L w M (.t vs) (.tuple us)
  |f (fn:Nat) (cs:List AV) (us:Array Value) (hs:us.size=cs.length) (hr:∀k x,cs[k]? =some x->R L w M x (us.getD k undef)):R L w M (.f fn cs) (.func (.func fn) #[] us)
  |m (id:Nat) (l:Loc) (hl:L id=some l) (h0:l.kd=1):R L w M (.m id) (.map (some l.IY))
  |it (id:Nat) (l:Loc) (hl:L id=some l) (h0:l.kd=2):R L w M (.it id) (.pointer (some ⟨l.IY,0,none⟩))
def itV(mb since:Nat)(seen:Array Nat):Nat->Value
 |0=> .map (some mb)
 |1=> .int .i64 since
 |k+2=> .int .i64 (seen.getD k 0)
structure Node(L:LM)(w:World)(M:Nat->Prop)(l:Loc)(cs:List AV):Prop where
 lt:l.IY<w.heap.size
 ex:l.kd=0->∃(arr:Array Value) (e:TypeId),w.heap[l.IY]? =some (.cells arr e (0,0))/\l.off+l.cap<=arr.size/\cs.length<=l.cap/\
  ∀k x,cs[k]? =some x->∃u,arr[l.off+k]? =some u/\R L w M x u
 mp:l.kd=1->∃es:Array MapEntry,w.heap[l.IY]? =some (.map es es.size)/\cs.length=es.size/\
  ∀k x,cs[k]? =some x->∃e:MapEntry,es[k]? =some e/\e.born=k/\R L w M x (.agg #[e.key,e.val])
 it:l.kd=2->∃(mb since:Nat) (seen:Array Nat),w.heap[l.IY]? =some (.mapIter (some mb) since seen since)/\cs.length=seen.size+2/\∀k x,cs[k]? =some x->R L w M x (itV mb since seen k)
 kl:l.kd<=2
def Node.trans{L L' w w' M M' l cs LI}(n:Node L w M l cs)(hw:w'.heap[l.IY]? =w.heap[l.IY]?)(hl:LI.length=cs.length)(hR:∀(k:Nat) (x y:AV),cs[k]? =some x->LI[k]? =some y->∀u,R L w M x u->R L' w' M' y u):Node L' w' M' l LI:=by
 have Ye:∀(k:Nat) (y:AV),LI[k]? =some y->∃x,cs[k]? =some x:=λk y hk=>by
  have:=(AL.1 hk).1;exact⟨_,A9 A0⟩
 refine⟨?_,λh=>?_,λh=>?_,λh=>?_,n.kl⟩
 ·have:=n.lt;rw[D1 this]at hw;exact(MI.1 hw).1
 ·obtain⟨arr,e,h1,h2,h3,h4⟩:=n.ex h;exact⟨arr,e,hw.trans h1,h2,A0,λk y hk=>by
   obtain⟨x,hx⟩:=Ye k y hk;obtain⟨u,h5,h6⟩:=h4 k x hx;exact⟨u,h5,hR k x y hx hk u h6⟩⟩
 ·obtain⟨es,h1,h2,h3⟩:=n.mp h;exact⟨es,hw.trans h1,A0,λk y hk=>by
   obtain⟨x,hx⟩:=Ye k y hk;obtain⟨e,h4,h5,h6⟩:=h3 k x hx;exact⟨e,h4,h5,hR k x y hx hk _ h6⟩⟩
 obtain⟨mb,since,seen,h1,h2,h3⟩:=n.it h;exact⟨mb,since,seen,hw.trans h1,A0,λk y hk=>by
  obtain⟨x,hx⟩:=Ye k y hk;exact hR k x y hx hk _ (h3 k x hx)⟩
def Node.mono{L L' w w' M M' l cs}(n:Node L w M l cs)(hw:w'.heap[l.IY]? =w.heap[l.IY]?)(hR:∀(k:Nat) (x:AV),cs[k]? =some x->∀u,R L w M x u->R L' w' M' x u):Node L' w' M' l cs:=
 n.trans hw rfl λk x y hx hy u h=>by rw[hx]at hy;cases hy;exact hR k x hx u h
def Node.cells{L w M l cs}(h0:l.kd=0)(h:∃(arr:Array Value) (e:TypeId),w.heap[l.IY]? =some (.cells arr e (0,0))/\l.off+l.cap<=arr.size/\cs.length<=l.cap/\
    ∀k x,cs[k]? =some x->∃u,arr[l.off+k]? =some u/\R L w M x u):Node L w M l cs:=by
  refine⟨?_,λ_=>h,λh1=>A0,λh1=>A0,A0⟩;obtain⟨arr,e,h1,_⟩:=h;exact(MI.1 h1).1
structure SR(L:LM)(H:HP)(Av:Nat->Prop)(w:World):Prop where
 node:∀id cs,H id=some cs->∃l,L id=some l/\Node L w (MM L H Av) l cs
 inj:∀id id' cs LI l l',H id=some cs->H id'=some LI->L id=some l->L id'=some l'->l.IY=l'.IY->id=id'
 av:∀id cs l,H id=some cs->L id=some l->¬Av l.IY
 cW:∀b,Av b->b<w.heap.size
def Nj:Obj->Prop
 | .loop _| .deferred _=>True
 |_=>False
def SR.book{L H Av w}(s:SR L H Av w){b o}(h:w.heap[b]? =some o)(ho:Nj o):¬LB L H b:=by
 rintro⟨id,cs,l,h1,h2,rfl⟩;obtain⟨l',h3,hn⟩:=s.node id cs h1;rw[h2]at h3;cases h3;have:=hn.kl;have hk:l.kd=0\/l.kd=1\/l.kd=2:=A0;rcases hk with hk|hk|hk
 ·obtain⟨arr,e,h4,_⟩:=hn.ex hk;rw[h]at h4;cases h4;exact ho
 ·obtain⟨es,h4,_⟩:=hn.mp hk;rw[h]at h4;cases h4;exact ho
 obtain⟨mb,since,seen,h4,_⟩:=hn.it hk;rw[h]at h4;cases h4;exact ho
structure Step(L:LM)(H:HP)(w:World)(L':LM)(H':HP)(w':World):Prop where
 le:∀id l,L id=some l->L' id=some l
 os:w'.os=w.os
 tape:w'.tape=w.tape
 output:w'.output=w.output/\w.drawn<=w'.drawn
 size:w.heap.size<=w'.heap.size
 BV:∀b,b<w.heap.size->¬LB L H b->w'.heap[b]? =w.heap[b]?
 old:∀b,b<w.heap.size->LB L' H' b->LB L H b
def Step.refl(L H w):Step L H w L H w:=
 ⟨λ_ _ h=>h,rfl,rfl,⟨rfl,A1 _⟩,A1 _,λ_ _ _=>rfl,λ_ _ h=>h⟩
def Step.trans{L L' L'' H H' H'' w w' w''}(a:Step L H w L' H' w')(b:Step L' H' w' L'' H'' w''):Step L H w L'' H'' w'':=
 ⟨λid l h=>b.le _ _ (a.le _ _ h),b.os.trans a.os,b.tape.trans a.tape,⟨b.output.1.trans a.output.1,CH a.output.2 b.output.2⟩,CH a.size b.size,
  λk hk hn=>(b.BV k (GA hk a.size) (λh=>hn (a.old k hk h))).trans (a.BV k hk hn),
  λk hk h=>a.old k hk (b.old k (GA hk a.size) h)⟩
def QS{α:Type}{arr:Array α}{k:Nat}{x:α}(h:arr[k]? =some x):k<arr.size:=by
 rcases BL k arr.size with h'|h'
 ·exact h'
 rw[OS h']at h;cases h
def R.mono{L L' w w' M M'}(hL:∀id l,L id=some l->L' id=some l)(hw:∀b,b<w.heap.size->¬M b->w'.heap[b]? =w.heap[b]?)(hM:∀b,b<w.heap.size->M' b->M b){x u}(h:R L w M x u):R L' w' M' x u:=by
 induction h with
 |j u=>exact .j u
 |i k n=>exact .i k n
 |b x=>exact .b x
 |s x=>exact .s x
 |c x=>exact .c x
 |nl=>exact .nl
 |v0 a cp=>exact .v0 a cp
 | v n cs b off cp arr e f us Jk hb hn hu hr ih=>
   have HX:=QS hb;exact .v n cs b off cp arr e f us (λh=>Jk (hM b HX h)) ((hw b HX Jk).trans hb) hn hu ih
 | p o cs b off arr e f us Jk hb hu hr ih=>
   have HX:=QS hb;exact .p o cs b off arr e f us (λh=>Jk (hM b HX h)) ((hw b HX Jk).trans hb) hu ih
 |h id o n l a cp hl hn hc ha h0=>exact .h id o n l a cp (hL _ _ hl) hn hc ha h0
 |hs s id o n l a cp hl hn hc ha h0=>exact .hs s id o n l a cp (hL _ _ hl) hn hc ha h0
 |q id o l hl h0=>exact .q id o l (hL _ _ hl) h0
 |m id l hl h0=>exact .m id l (hL _ _ hl) h0
 |it id l hl h0=>exact .it id l (hL _ _ hl) h0
 |g cs us hs hr ih=>exact .g cs us hs ih
 |t vs us hs hr ih=>exact .t vs us hs ih
 |f fn cs us hs hr ih=>exact .f fn cs us hs ih
def R.step{L L' H H' w w' Av}(s:Step L H w L' H' w'){x u}(h:R L w (MM L H Av) x u):R L' w' (MM L' H' Av) x u:=
 h.mono s.le (λb hb hn=>s.BV b hb (λhl=>hn (.inr hl))) (λb hb hm=>hm.imp id (s.old b hb))
def Up{α:Type}(o:Option α)(f:α->Prop):Prop:=∃a,o=some a/\f a
def ex2{α:Type}(p f:α->Prop):Prop:=∃a,p a/\f a
inductive Fl:AV->Prop
 |j:Fl .j
 |i (k:IntKind) (n:Int):Fl (.i k n)
 |b (x:Bool):Fl (.b x)
 |s (x:ByteArray):Fl (.s x)
 |c (x:Value):Fl (.c x)
 |nl:Fl .nl
 |v0:Fl (.v 0 [])
 |h (id o n:Nat):Fl (.h id o n)
 |hs (s id o n:Nat):Fl (.hs s id o n)
 |q (id o:Nat):Fl (.q id o)
 |m (id:Nat):Fl (.m id)
 |it (id:Nat):Fl (.it id)
 |g (cs:List AV) (hr:∀(k:Nat) (x:AV),cs[k]? =some x->Fl x):Fl (.g cs)
 |t (cs:List AV) (hr:∀(k:Nat) (x:AV),cs[k]? =some x->Fl x):Fl (.t cs)
 |f (fn:Nat) (cs:List AV) (hr:∀(k:Nat) (x:AV),cs[k]? =some x->Fl x):Fl (.f fn cs)
def R.fl{L L' w w' M M'}(hL:∀id l,L id=some l->L' id=some l){x}(hf:Fl x){u}(h:R L w M x u):R L' w' M' x u:=by
 induction h with
 |j u=>exact .j u
 |i k n=>exact .i k n
 |b x=>exact .b x
 |s x=>exact .s x
 |c x=>exact .c x
 |nl=>exact .nl
 |v0 a cp=>exact .v0 a cp
 | v n cs b off cp arr e f us Jk hb hn hu hr ih=>
   cases hf;exact .v0 _ _
 |p o cs b off arr e f us Jk hb hu hr ih=>cases hf
 |h id o n l a cp hl hn hc ha h0=>exact .h id o n l a cp (hL _ _ hl) hn hc ha h0
 |hs s id o n l a cp hl hn hc ha h0=>exact .hs s id o n l a cp (hL _ _ hl) hn hc ha h0
 |q id o l hl h0=>exact .q id o l (hL _ _ hl) h0
 |m id l hl h0=>exact .m id l (hL _ _ hl) h0
 |it id l hl h0=>exact .it id l (hL _ _ hl) h0
 |g cs us hs hr ih=>cases hf with|g _ hf=>exact .g cs us hs (λk x hx=>ih k x hx (hf k x hx))
 |t vs us hs hr ih=>cases hf with|t _ hf=>exact .t vs us hs (λk x hx=>ih k x hx (hf k x hx))
 |f fn cs us hs hr ih=>cases hf with|f _ _ hf=>exact .f fn cs us hs (λk x hx=>ih k x hx (hf k x hx))
inductive NR:AV->Prop
 |j:NR .j
 |i (k:IntKind) (n:Int):NR (.i k n)
 |b (x:Bool):NR (.b x)
 |s (x:ByteArray):NR (.s x)
 |c (x:Value):NR (.c x)
 |nl:NR .nl
 |v (n:Nat) (cs:List AV) (hr:∀(k:Nat) (x:AV),cs[k]? =some x->NR x):NR (.v n cs)
 |p (n:Nat) (cs:List AV) (hr:∀(k:Nat) (x:AV),cs[k]? =some x->NR x):NR (.p n cs)
 |g (cs:List AV) (hr:∀(k:Nat) (x:AV),cs[k]? =some x->NR x):NR (.g cs)
 |t (cs:List AV) (hr:∀(k:Nat) (x:AV),cs[k]? =some x->NR x):NR (.t cs)
 |f (fn:Nat) (cs:List AV) (hr:∀(k:Nat) (x:AV),cs[k]? =some x->NR x):NR (.f fn cs)
def R.nr{L L' w M x}(hf:NR x){u}(h:R L w M x u):R L' w M x u:=by
 induction h with
 |j u=>exact .j u
 |i k n=>exact .i k n
 |b x=>exact .b x
 |s x=>exact .s x
 |c x=>exact .c x
 |nl=>exact .nl
 |v0 a cp=>exact .v0 a cp
 | v n cs b off cp arr e f us Jk hb hn hu hr ih=>
   cases hf with|v _ _ hf=>exact .v n cs b off cp arr e f us Jk hb hn hu (λk x hx=>ih k x hx (hf k x hx))
 | p o cs b off arr e f us Jk hb hu hr ih=>
   cases hf with|p _ _ hf=>exact .p o cs b off arr e f us Jk hb hu (λk x hx=>ih k x hx (hf k x hx))
 |h id o n l a cp hl hn hc ha h0=>cases hf
 |hs s id o n l a cp hl hn hc ha h0=>cases hf
 |q id o l hl h0=>cases hf
 |m id l hl h0=>cases hf
 |it id l hl h0=>cases hf
 |g cs us hs hr ih=>cases hf with|g _ hf=>exact .g cs us hs (λk x hx=>ih k x hx (hf k x hx))
 |t vs us hs hr ih=>cases hf with|t _ hf=>exact .t vs us hs (λk x hx=>ih k x hx (hf k x hx))
 |f fn cs us hs hr ih=>cases hf with|f _ _ hf=>exact .f fn cs us hs (λk x hx=>ih k x hx (hf k x hx))
def CJ(H:HP)(id:Nat)(d:Option (List AV)):HP:=λid'=>if id'=id then d else H id'
def SP(L:LM)(id:Nat)(l:Loc):LM:=λid'=>if id'=id then some l else L id'
@[simp] theorem AD (H id d):CJ H id d id=d:=by simp[CJ]
def AB(H){id id'}(d)(h:id'≠id):CJ H id d id'=H id':=by simp[CJ,h]
@[simp] theorem J2 (L id l):SP L id l id=some l:=by simp[SP]
def JV(L){id id'}(l)(h:id'≠id):SP L id l id'=L id':=by simp[SP,h]
def Nk{L id}(h:L id=none)(l):∀id' l',L id'=some l'->SP L id l id'=some l':=by
 intro id' l' h';by_cases e:id'=id
 ·subst e;rw[h]at h';cases h'
 rw[JV _ _ e];exact h'
def oR(B:Nat):List Deferred->World->Prop
 |[],_=>True
 |d::ds,w=>(∃D,d={target:= .collected D,args:=#[]}/\w.heap[D]? =some (.deferred (some []))/\B<=D/\∀E,({target:= .collected E,args:=#[]}:Deferred)∈ds->E≠D)/\oR B ds w
def oR.of{B w w'}:∀{ds:List Deferred},oR B ds w->(∀D,({target:= .collected D,args:=#[]}:Deferred)∈ds->w.heap[D]? =some (.deferred (some []))->w'.heap[D]? =w.heap[D]?)->oR B ds w':=by
 intro ds;induction ds with
 |nil=>intro _ _;exact trivial
 | cons d ds ih=>
   rintro⟨⟨D,rfl,h2,h3,h4⟩,h5⟩ h;exact⟨⟨D,rfl,(h D B5 h2).trans h2,h3,h4⟩,ih h5 λE hE=>h E (C3 _ hE)⟩
def oR.step{B L L' H H' Av w w' ds}(h:oR B ds w)(s:SR L H Av w)(st:Step L H w L' H' w'):oR B ds w':=
 h.of λD _ h2=>st.BV D (QS h2) (s.book h2 trivial)
def oR.same{B w w' ds}(h:oR B ds w)(hw:w'.heap=w.heap):oR B ds w':=h.of λD _ _=>by rw[hw]
def R.VU{L w M b o}(hb:w.heap[b]? =some o)(ho:Nj o)(o'){x u}(h:R L w M x u):R L (w.putObj b o') M x u:=by
 have key:∀{k:Nat} {arr:Array Value} {e:TypeId} {f:Nat×Nat},w.heap[k]? =some (.cells arr e f)->(w.putObj b o').heap[k]? =some (.cells arr e f):=by
   intro k arr e f h;refine(World.putObj_heap_other ?_).trans h;rintro rfl;rw[hb]at h;cases h;exact ho
 induction h with
 |j u=>exact .j u
 |i k n=>exact .i k n
 |b x=>exact .b x
 |s x=>exact .s x
 |c x=>exact .c x
 |nl=>exact .nl
 |v0 a cp=>exact .v0 a cp
 |v n cs b off cp arr e f us Jk hb hn hu hr ih=>exact .v n cs b off cp arr e f us Jk (key hb) hn hu ih
 |p o cs b off arr e f us Jk hb hu hr ih=>exact .p o cs b off arr e f us Jk (key hb) hu ih
 |h id o n l a cp hl hn hc ha h0=>exact .h id o n l a cp hl hn hc ha h0
 |hs s id o n l a cp hl hn hc ha h0=>exact .hs s id o n l a cp hl hn hc ha h0
 |q id o l hl h0=>exact .q id o l hl h0
 |m id l hl h0=>exact .m id l hl h0
 |it id l hl h0=>exact .it id l hl h0
 |g cs us hs hr ih=>exact .g cs us hs ih
 |t vs us hs hr ih=>exact .t vs us hs ih
 |f fn cs us hs hr ih=>exact .f fn cs us hs ih
def SR.VU{L H Av w}(s:SR L H Av w){b o}(hb:w.heap[b]? =some o)(ho:Nj o)(o'):SR L H Av (w.putObj b o'):=by
 refine⟨?_,s.inj,s.av,λk hk=>by rw[World.putObj_size];exact s.cW k hk⟩;intro id cs h;obtain⟨l,h1,hn⟩:=s.node id cs h;refine⟨l,h1,hn.mono (World.putObj_heap_other ?_) λk x _ u hr=>hr.VU hb ho o'⟩;intro e;exact s.book hb ho ⟨id,cs,l,h,h1,e⟩
def Step.VU{L L' H H' w w'}(st:Step L H w L' H' w'){b}(hb:w.heap.size<=b)(o'):Step L H w L' H' (w'.putObj b o'):=
 ⟨st.le,st.os,st.tape,st.output,by rw[World.putObj_size];exact st.size,λk hk hl=>(World.putObj_heap_other A0).trans (st.BV k hk hl),st.old⟩
end
section
inductive TD where
 |bool
 |int (k:IntKind)
 |str
 |slice (el:TypeId)
 |struct (fs:List (TypeId×Nat))
 |array (n:Nat) (el:TypeId)
 |map (k el:TypeId)
 |other
def cY:TypeDesc->TD
 | .bool=> .bool
 | .int k=> .int k
 | .string=> .str
 | .slice el=> .slice el
 | .struct fs=> .struct (fs.toList.map λf=>(f.type,f.offset))
 | .array n el=> .array n el
 | .map k el=> .map k el
 |_=> .other
structure TE where
 d:TD
 size:Nat
 bytes:Nat
 zero:Value
 eq4:Bool
def AN3(P:Program)(ty:TypeId):Bool:=
 !P.stoodInHeld ty && !P.eqGuardType P.depth ty && match P.underlying ty with
 | some (.struct fs)=>match fs.toList with
   |[a,b,c,d]=>[(a,0),(b,1),(c,2),(d,3)].all λ(f,o)=>f.name != "_" && f.offset==o &&(match P.underlying f.type with|some (.int .i64)=>true|_=>false)
   |_=>false
 |_=>false
def TE.agg(x:TE):Bool:=match x.d with| .struct _=>true| .array _ _=>true|_=>false
structure LJ(P:Program)(ty:TypeId)(x:TE):Prop where
 und:(P.underlying ty).map cY=some x.d
 inf:(P.info? ty).map (λi=>(i.size,i.bytes,i.zero))=some (x.size,x.bytes,some x.zero)
 eq4:x.eq4=true->AN3 P ty=true
def LJ.info{P ty x}(h:LJ P ty x):∃i,P.info? ty=some i/\i.size=x.size/\i.bytes=x.bytes/\i.zero=some x.zero:=by
 have:=h.inf;cases hi:P.info? ty with
 |none=>rw[hi]at this;cases this
 | some i=>
   rw[hi]at this;simp only[DB,E4,RD]at this;exact⟨i,rfl,this.1,this.2.1,this.2.2⟩
def LJ.KC{P ty x}(h:LJ P ty x):∃d,cY d=x.d/\P.underlying ty=some d/\∀w,(underlying ty).run P w= .ok d w:=by
 have:=h.und;cases hd:P.underlying ty with
 |none=>rw[hd]at this;cases this
 | some d=>
   rw[hd]at this;exact⟨d,by simpa using this,rfl,λw=>by simp[go_sem,underlying,hd]⟩
def A4P{d}(h:cY d= .bool):d= .bool:=by cases d<;>simp[cY]at h;rfl
def fJ{d}(h:cY d= .str):d= .string:=by cases d<;>simp[cY]at h;rfl
def Jl{d k}(h:cY d= .int k):d= .int k:=by cases d<;>simp[cY]at h;rw[h]
def SQ{d el}(h:cY d= .slice el):d= .slice el:=by cases d<;>simp[cY]at h;rw[h]
def Uq{d l}(h:cY d= .struct l):∃fs,d= .struct fs/\fs.toList.map (λf=>(f.type,f.offset))=l:=by
 cases d<;>simp[cY]at h
 exact⟨_,rfl,h⟩
def AAE{d k el}(h:cY d= .map k el):d= .map k el:=by cases d<;>simp[cY]at h;rw[h.1,h.2]
def LJ.map{P ty k el x}(h:LJ P ty x)(hd:x.d= .map k el):∀w,(underlying ty).run P w= .ok (.map k el) w:=by
 obtain⟨d,h1,h2,h3⟩:=h.KC;have:=AAE (h1.trans hd);subst this;exact h3
def LJ.slice{P ty el x}(h:LJ P ty x)(hd:x.d= .slice el):P.underlying ty=some (.slice el)/\∀w,(underlying ty).run P w= .ok (.slice el) w:=by
 obtain⟨d,h1,h2,h3⟩:=h.KC;have:=SQ (h1.trans hd);subst this;exact⟨h2,h3⟩
def LJ.struct{P ty l x}(h:LJ P ty x)(hd:x.d= .struct l):∃fs:Array Field,fs.toList.map (λf=>(f.type,f.offset))=l/\∀w,(underlying ty).run P w= .ok (.struct fs) w:=by
 obtain⟨d,h1,h2,h3⟩:=h.KC;obtain⟨fs,rfl,h4⟩:=Uq (h1.trans hd);exact⟨fs,h4,h3⟩
def LJ.SS{P ty x}(h:LJ P ty x)(w):∃i,(typeInfo ty).run P w= .ok i w/\i.size=x.size/\i.bytes=x.bytes/\i.zero=some x.zero:=by
 obtain⟨i,h1,h2⟩:=h.info;exact⟨i,by simp[go_sem,typeInfo,h1],h2⟩
def LJ.K3{P ty x}(h:LJ P ty x)(w):(sizeOf ty).run P w= .ok x.size w:=by
 obtain⟨i,h1,h2,h3⟩:=h.SS w;simp[go_sem,sizeOf,h1,h2]
def LJ.SU{P ty x}(h:LJ P ty x)(w):(zeroValue ty).run P w= .ok x.zero w:=by
 obtain⟨i,h1,h2,h3,h4⟩:=h.SS w;simp[go_sem,zeroValue,h1,h4]
def LJ.zF{P ty x}(h:LJ P ty x)(w):(isAgg ty).run P w= .ok x.agg w:=by
 obtain⟨d,h1,h2,h3⟩:=h.KC;unfold isAgg TE.agg;simp only[Sem.run_bind,h3 w,Result.andThen];rw[<-h1];cases d<;>simp[go_sem,cY]
def dX(w:World)(o:Obj){b}(h:b<w.heap.size):(w.alloc o).heap[b]? =w.heap[b]? :=by
 show(w.heap.push o)[b]? =_
 rw[Array.getElem?_push,if_neg A0]
def heap_alloc_new(w:World)(o:Obj):(w.alloc o).heap[w.heap.size]? =some o:=by
 show(w.heap.push o)[w.heap.size]? =_
 simp
def Step.Ea{L L' H H' w}(o)(hL:∀id l,L id=some l->L' id=some l)(hold:∀b,b<w.heap.size->LB L' H' b->LB L H b):Step L H w L' H' (w.alloc o):=
 ⟨hL,rfl,rfl,⟨rfl,A1 _⟩,B5,λb hb _=>dX w o hb,hold⟩
def a7{L H Av w}(s:SR L H Av w){b}(h:LB L H b):b<w.heap.size:=by
 obtain⟨id,cs,l,h1,h2,h3⟩:=h;obtain⟨l',h4,hn⟩:=s.node id cs h1;rw[h2]at h4;cases h4;exact h3▸hn.lt
def Eb{L H Av w}(s:SR L H Av w){id}(hL:L id=none)(hH:H id=none)(o m)(hm:m.IY=w.heap.size)(cs)(hn:(∀{x:AV} {u:Value},R L w (MM L H Av) x u->R (SP L id m) (w.alloc o) (MM (SP L id m) (CJ H id (some cs)) Av) x u)->Node (SP L id m) (w.alloc o) (MM (SP L id m) (CJ H id (some cs)) Av) m cs):
    SR (SP L id m) (CJ H id (some cs)) Av (w.alloc o)/\Step L H w (SP L id m) (CJ H id (some cs)) (w.alloc o):=by
  have M4:Step L H w (SP L id m) (CJ H id (some cs)) (w.alloc o):=by
    refine Step.Ea _ (Nk hL _) ?_;rintro b hb ⟨id',LI,l',h1,h2,h3⟩;by_cases GF:id'=id
    · subst GF;rw[J2]at h2;cases h2;omega
    rw[AB _ _ GF]at h1;rw[JV _ _ GF]at h2;exact⟨id',LI,l',h1,h2,h3⟩
  refine⟨⟨?_,?_,?_,?_⟩,M4⟩
  · intro id' LI h;by_cases GF:id'=id
    · subst GF;rw[AD]at h;cases h;exact⟨_,J2 _ _ _,hn λh=>h.step M4⟩
    rw[AB _ _ GF]at h;obtain⟨l,h1,JO⟩:=s.node id' LI h;exact⟨l,by rw[JV _ _ GF];exact h1,JO.mono (dX _ _ JO.lt) λk x hk u h7=>h7.step M4⟩
  · intro i i' c c' l l' h1 h2 h3 h4 h5;by_cases hi:i=id<;>by_cases OQ:i'=id
    · omega
    · subst hi;rw[J2]at h3;cases h3;rw[AB _ _ OQ]at h2;rw[JV _ _ OQ]at h4;have:=a7 s ⟨i',c',l',h2,h4,rfl⟩;omega
    · subst OQ;rw[J2]at h4;cases h4;rw[AB _ _ hi]at h1;rw[JV _ _ hi]at h3;have:=a7 s ⟨i,c,l,h1,h3,rfl⟩;omega
    rw[AB _ _ hi]at h1;rw[JV _ _ hi]at h3;rw[AB _ _ OQ]at h2;rw[JV _ _ OQ]at h4;exact s.inj i i' c c' l l' h1 h2 h3 h4 h5
  · intro i c l h1 h2;by_cases hi:i=id
    · subst hi;rw[J2]at h2;cases h2;intro h;have:=s.cW _ h;omega
    rw[AB _ _ hi]at h1;rw[JV _ _ hi]at h2;exact s.av i c l h1 h2
  intro b hb;have:=s.cW b hb;simp;omega
def fK{L H Av w}(s:SR L H Av w){id}(hL:L id=none)(hH:H id=none)(arr e cp cs)(rU:cp<=arr.size)(hlen:cs.length<=cp)(c8:∀(k:Nat) (x:AV),cs[k]? =some x->∃u,arr[k]? =some u/\R L w (MM L H Av) x u):
    SR (SP L id ⟨w.heap.size,0,cp,0⟩) (CJ H id (some cs)) Av (w.alloc (.cells arr e (0,0)))/\Step L H w (SP L id ⟨w.heap.size,0,cp,0⟩) (CJ H id (some cs)) (w.alloc (.cells arr e (0,0))):=by
  refine Eb s hL hH _ _ rfl cs λhR=>Node.cells rfl ⟨arr,e,heap_alloc_new _ _,by simpa using rU,hlen,?_⟩
  intro k x hk;obtain⟨u,h1,h2⟩:=c8 k x hk;exact⟨u,by simpa using h1,hR h2⟩
def J3(w:World)(b:Nat)(o:Obj):World:={w with heap:=w.heap.setIfInBounds b o}
def VV(w b o):(J3 w b o).heap.size=w.heap.size:=by simp[J3]
def lD(w){b b'}(o)(h:b'≠b):(J3 w b o).heap[b']? =w.heap[b']? :=by
 simp only[J3];rw[KH A0]
def Ec(w){b}(o)(h:b<w.heap.size):(J3 w b o).heap[b]? =some o:=by
 simp only[J3];rw[IF h]
def Jm{L H Av w}(s:SR L H Av w){id id' cs l l'}(hH:H id=some cs)(hl:L id=some l)(GF:(id'=id/\l'=l)\/(L id'=none/\H id'=none))(Ij:l'.IY=l.IY)(o LI)(hn:(∀{x:AV} {u:Value},R L w (MM L H Av) x u->R (SP L id' l') (J3 w l.IY o) (MM (SP L id' l') (CJ (CJ H id none) id' (some LI)) Av) x u)->Node (SP L id' l') (J3 w l.IY o) (MM (SP L id' l') (CJ (CJ H id none) id' (some LI)) Av) l' LI):
    SR (SP L id' l') (CJ (CJ H id none) id' (some LI)) Av (J3 w l.IY o)/\Step L H w (SP L id' l') (CJ (CJ H id none) id' (some LI)) (J3 w l.IY o):=by
  have hle:∀i m,L i=some m->SP L id' l' i=some m:=by
    rcases GF with ⟨rfl,rfl⟩|⟨h,_⟩
    · intro i m hm;by_cases hi:i=id'
      · subst hi;rw[J2,<-hm,hl]
      rw[JV _ _ hi];exact hm
    exact Nk h _
  have qL:LB L H l.IY:=⟨id,cs,l,hH,hl,rfl⟩;have HX:=a7 s qL;have rV:∀i c,i≠id'->CJ (CJ H id none) id' (some LI) i=some c->i≠id/\H i=some c:=by
    intro i c hi h;rw[AB _ _ hi]at h;by_cases Ur:i=id
    · subst Ur;rw[AD]at h;cases h
    rw[AB _ _ Ur]at h;exact⟨Ur,h⟩
  have M4:Step L H w (SP L id' l') (CJ (CJ H id none) id' (some LI)) (J3 w l.IY o):=by
    refine⟨hle,rfl,rfl,⟨rfl,A1 _⟩,by rw[VV];exact A1 _,?_,?_⟩
    · intro b hb hn;exact lD _ _ (λh=>hn (h▸qL))
    rintro b hb ⟨i,c,m,h1,h2,h3⟩;by_cases hi:i=id'
    · subst hi;rw[J2]at h2;cases h2;rw[<-h3,Ij];exact qL
    rw[JV _ _ hi]at h2;exact⟨i,c,m,(rV i c hi h1).2,h2,h3⟩
  refine⟨⟨?_,?_,?_,?_⟩,M4⟩
  · intro i c h;by_cases hi:i=id'
    · subst hi;rw[AD]at h;cases h;exact⟨_,J2 _ _ _,hn λh=>h.step M4⟩
    obtain⟨Ur,hh⟩:=rV i c hi h;obtain⟨m,h1,JO⟩:=s.node i c hh;have CP:m.IY≠l.IY:=λhe=>Ur (s.inj i id c cs m l hh hH h1 hl he)
    exact⟨m,by rw[JV _ _ hi];exact h1,JO.mono (lD _ _ CP) λk x hk u h7=>h7.step M4⟩
  · intro i i' c c' m m' h1 h2 h3 h4 h5;by_cases hi:i=id'<;>by_cases OQ:i'=id'
    · omega
    · subst hi;rw[J2]at h3;cases h3;obtain⟨Ur,hh⟩:=rV i' c' OQ h2;rw[JV _ _ OQ]at h4;exact absurd (s.inj i' id c' cs m' l hh hH h4 hl (by rw[<-h5,Ij])) Ur
    · subst OQ;rw[J2]at h4;cases h4;obtain⟨Ur,hh⟩:=rV i c hi h1;rw[JV _ _ hi]at h3;exact absurd (s.inj i id c cs m l hh hH h3 hl (by rw[h5,Ij])) Ur
    obtain⟨_,hh⟩:=rV i c hi h1;obtain⟨_,hh'⟩:=rV i' c' OQ h2;rw[JV _ _ hi]at h3;rw[JV _ _ OQ]at h4;exact s.inj i i' c c' m m' hh hh' h3 h4 h5
  · intro i c m h1 h2;by_cases hi:i=id'
    · subst hi;rw[J2]at h2;cases h2;rw[Ij];exact s.av id cs l hH hl
    obtain⟨_,hh⟩:=rV i c hi h1;rw[JV _ _ hi]at h2;exact s.av i c m hh h2
  intro b hb;rw[VV];exact s.cW b hb
def c9{L H Av w}(s:SR L H Av w){id id' cs l l'}(hH:H id=some cs)(hl:L id=some l)(GF:(id'=id/\l'=l)\/(L id'=none/\H id'=none))(Ij:l'.IY=l.IY)(Y8:l'.kd=0)(arr e LI)(AGM:l'.off+l'.cap<=arr.size)(hlen:LI.length<=l'.cap)(c8:∀(k:Nat) (x:AV),LI[k]? =some x->∃u,arr[l'.off+k]? =some u/\R L w (MM L H Av) x u):
    SR (SP L id' l') (CJ (CJ H id none) id' (some LI)) Av (J3 w l.IY (.cells arr e (0,0)))/\Step L H w (SP L id' l') (CJ (CJ H id none) id' (some LI)) (J3 w l.IY (.cells arr e (0,0))):=by
  refine Jm s hH hl GF Ij _ LI λhR=>Node.cells Y8 ⟨arr,e,by rw[Ij];exact Ec _ _ (a7 s ⟨id,cs,l,hH,hl,rfl⟩),AGM,hlen,?_⟩
  intro k x hk;obtain⟨u,h1,h2⟩:=c8 k x hk;exact⟨u,h1,hR h2⟩
end
section
def zG(L){id l}(h:L id=some l):SP L id l=L:=by
 funext i;unfold SP;split
 ·rename_i hi;rw[hi,h]
 rfl
def cA(H id a b):CJ (CJ H id a) id b=CJ H id b:=by
 funext i;unfold CJ;split<;>rfl
def Yf(H){id}(h:H id=none):CJ H id none=H:=by
 funext i;unfold CJ;split
 ·rename_i hi;rw[hi,h]
 rfl
def QV(P:Program)(o:Oper)(ρ:Operand->Value)(w:World)(post:Value->World->Prop):Prop:=
 match (execOp ρ o).run P w with
 | .ok (.value u) w'=>post u w'
 | .ok .skip w'=>post undef w'
 | .ok (.enter f args) w'=>Calls P f args w' λe w''=>∃u,e= .returned u/\post u w''
 |_=>False
def fw(rd:Option Nat):Fence:={Fence.wide with round:=rd}
def Yg{rd n P f args w R}(h:Calls P f args w R):CallsIn (fw rd) n P f args w R:=by
 have h1:=(callsIn_wide (n:=n)).2 h;cases rd with
 |none=>exact h1
 |some l=>exact h1.inRound l
def Yh(rd:Option Nat)(P:Program)(o:Oper)(a:Act)(w:World)(K:Act->World->Prop)(Q:Exit->Act->World->Prop):Prop:=o.wpIn (fw rd) 0 P a w K Q
def wpL(rd:Option Nat)(P:Program)(ops:Array Oper)(Q:Exit->Act->World->Prop):List Oper->Act->World->Prop
 |[],a,w=>Q .normal a w
 |o::rest,a,w=>if Region.wanted o (yielded ops a.tmps)then Yh rd P o a w (wpL rd P ops Q rest) Q\/False else wpL rd P ops Q rest (a.put o.dst undef) w
def wpO(rd:Option Nat)(P:Program)(ops:Array Oper)(Q:Exit->Act->World->Prop)(i:Nat)(K:Act->World->Prop)(a:Act)(w:World):Prop:=
 match ops[i]? with
 |none=>K a w
 |some o=>if Region.wanted o (yielded ops a.tmps)then Yh rd P o a w K Q\/False else K (a.put o.dst undef) w
def wpA(rd:Option Nat)(P:Program)(md:Region.Mode)(ops:Array Oper)(Q:Exit->Act->World->Prop):Nat->Array Bool->Act->World->Prop
 |0,BP,a,w=>Region.ready md ops BP=[]/\Q .normal a w
 | fuel+1,BP,a,w=>
   (Region.ready md ops BP=[]->Q .normal a w)/\
   ∀i∈Region.ready md ops BP,wpO rd P ops Q i (wpA rd P md ops Q fuel (BP.setIfInBounds i true)) a w
def AAF{rd P ops Q}:∀(l:List Oper) (a:Act) (w:World),wpL rd P ops Q l a w->wpListIn (fw rd) 0 P ops Q l a w:=by
 intro l;induction l with
 |nil=>intro a w h;exact h
 | cons o l ih=>
   intro a w h;unfold wpL at h;unfold wpListIn;split at h
   ·rename_i hw;rw[if_pos hw];exact Oper.wpIn_mono ih (h.resolve_right id)
   rename_i hw;rw[if_neg hw];exact⟨λ_ _=>trivial,ih _ _ h⟩
def Jn{rd P id ops Q a w}(h:wpL rd P ops Q ops.toList a w):(Code.region id ops false).wpIn (fw rd) 0 P Q a w:=
 wpIn_region_list (AAF _ _ _ h)
def AAG{rd P md ops Q}:∀(fuel:Nat) (BP:Array Bool) (a:Act) (w:World),wpA rd P md ops Q fuel BP a w->wpAnyIn (fw rd) 0 P md ops Q fuel BP a w:=by
 intro fuel;induction fuel with
 |zero=>intro BP a w h;exact h
 | succ fuel ih=>
   intro BP a w h;refine⟨h.1,λi hi=>?_⟩;have h1:=h.2 i hi;unfold wpO at h1;unfold wpOpIn;cases ho:ops[i]? with
   |none=>rw[ho]at h1;exact ih _ _ _ h1
   | some o=>
     rw[ho]at h1;simp only at h1 ⊢
     split at h1
     ·rename_i hw;rw[if_pos hw];exact Oper.wpIn_mono (ih _) (h1.resolve_right id)
     rename_i hw;rw[if_neg hw];exact⟨λ_ _=>trivial,ih _ _ _ h1⟩
def fL{rd P id ops Q a w}(hm:P.follows .mixedOrders=true)(h:wpA rd P .any ops Q ops.size (Array.replicate ops.size false) a {w with drawn:=w.drawn+1}):(Code.region id ops true).wpIn (fw rd) 0 P Q a w:=
 wpIn_region_any hm (AAG _ _ _ _ h)
def QV.wp{rd P o a w post K Q}(h:QV P o a.eval w post)(hk:∀u w',post u w'->K (a.put o.dst u) w'):Yh rd P o a w K Q:=by
 refine⟨λ_ _=>trivial,?_⟩;have AN4:o.semAt (fw rd).round a.eval=execOp a.eval o:=by
   cases rd with
   |none=>rfl
   | some l=>
     refine Oper.semAt_some l _ _ λc hc=>?_
     unfold QV at h;simp only[execOp,hc,Sem.run_bind]at h;generalize (resolve a.eval c o.type).run P w=r at h
     cases r with
     |halt x w'=>exact h
     |ok d w'=>simp[Result.andThen]at h
 rw[AN4];unfold QV at h;generalize (execOp a.eval o).run P w=r at h
 cases r with
 |halt x w'=>exact h.elim
 | ok n w'=>
   cases n<;>try exact h.elim
   · exact hk _ _ h
   · exact hk _ _ h
   refine⟨λhd=>(by cases hd),Yg (Calls.mono h ?_)⟩;intro e w'' he;obtain⟨u,he,hp⟩:=he;subst he;exact hk _ _ hp
def QV.OV{P o ρ w w' post u}(h:(execOp ρ o).run P w= .ok (.value u) w')(hp:post u w'):QV P o ρ w post:=by
 unfold QV;rw[h];exact hp
def QV.A4Q{P o ρ w w' post}(h:(execOp ρ o).run P w= .ok .skip w')(hp:post undef w'):QV P o ρ w post:=by
 unfold QV;rw[h];exact hp
def Us(P:Program)(o:Oper)(ev:Operand->AV)(H:HP)(id:Nat)(k:AV->HP->Prop):Prop:=
  ∀ (L:LM) (Av:Nat->Prop) (w:World) (ρ:Operand->Value),SR L H Av w->(∃n,∀i,n<=i->L i=none)->L id=none->H id=none->(∀x∈o.op.operands,R L w (MM L H Av) (ev x) (ρ x))->
    QV P o ρ w λu w'=>∃r H' L',k r H'/\(∀i,i≠id->L' i=L i)/\SR L' H' Av w'/\Step L H w L' H' w'/\R L' w' (MM L' H' Av) r u
def RI(H:HP)(id:Nat):Option (List AV)->HP
 |none=>H
 |some cs=>CJ H id (some cs)
def NN(P:Program)(o:Oper)(ev:Operand->AV)(H:HP)(id:Nat)(r:AV)(d:Option (List AV)):Prop:=
 ∀H',(∀i c,H i=some c->H' i=some c)->Us P o ev H' id λr' H''=>r'=r/\H''=RI H' id d
def NN.pure{P o ev H id r}(h:∀(H':HP),(∀i c,H i=some c->H' i=some c)->∀(L:LM) (Av:Nat->Prop) (w:World) (ρ:Operand->Value),SR L H' Av w->(∀x∈o.op.operands,R L w (MM L H' Av) (ev x) (ρ x))->
  ∃u,(execOp ρ o).run P w= .ok (.value u) w/\R L w (MM L H' Av) r u):NN P o ev H id r none:=by
 intro H' hH L Av w ρ hs Ed hL hi hr;obtain⟨u,h1,h2⟩:=h H' hH L Av w ρ hs hr;exact .OV h1 ⟨r,H',L,⟨rfl,rfl⟩,λ_ _=>rfl,hs,Step.refl _ _ _,h2⟩
def NN.new{P o ev H id r cs}(h:∀(H':HP),(∀i c,H i=some c->H' i=some c)->∀(L:LM) (Av:Nat->Prop) (w:World) (ρ:Operand->Value),SR L H' Av w->(∀x∈o.op.operands,R L w (MM L H' Av) (ev x) (ρ x))->
      ∃ u arr e cp,(execOp ρ o).run P w= .ok (.value u) (w.alloc (.cells arr e (0,0)))/\cp<=arr.size/\cs.length<=cp/\(∀(k:Nat) (x:AV),cs[k]? =some x->∃u,arr[k]? =some u/\R L w (MM L H' Av) x u)/\
        ∀L' w' M',L' id=some ⟨w.heap.size,0,cp,0⟩->R L' w' M' r u):NN P o ev H id r (some cs):=by
  intro H' hH L Av w ρ hs Ed hL hi hr;obtain⟨u,arr,e,cp,h1,h2,h3,h4,h5⟩:=h H' hH L Av w ρ hs hr;obtain⟨h6,h7⟩:=fK hs hL hi arr e cp cs h2 h3 h4;exact .OV h1 ⟨r,_,_,⟨rfl,rfl⟩,λi hi=>JV _ _ hi,h6,h7,h5 _ _ _ (J2 _ _ _)⟩
def PA:Value->AV
 | .int k n=> .i k n
 | .bool b=> .b b
 | .string s=> .s s
 | .slice none 0 0=> .nl
 |x=> .c x
def Nl:Value->AV
 | .agg cs=> .g (cs.toList.map PA)
 |x=>PA x
def R.PA(L w M x):R L w M (PA x) x:=by
 unfold Go.Proofs.YtgknbnkmilddhaaGreat.PA;split<;>constructor
def R.Nl(L w M x):R L w M (Nl x) x:=by
 unfold Go.Proofs.YtgknbnkmilddhaaGreat.Nl;split
 ·rename_i cs;refine .g _ _ B5 ?_;intro k x hk;simp only[BF,CG,CE]at hk;obtain⟨u,h1,h2⟩:=hk;rw[<-h2];simp[h1,R.PA]
 exact R.PA _ _ _ _
def ifS(c:Bool)(a b:Prop):Prop:=match c with
 |true=>a
 |false=>b
def A91{n}{a b:Prop}(h:n=1):ifS (n==1) a b=a:=by subst h;rfl
def A92{n}{a b:Prop}(h:¬n=1):ifS (n==1) a b=b:=by
 have:(n==1)=false:=by simp[h]
 rw[this];rfl
structure St where
 t:List AV
 H:HP
 nx:Nat
def FK(t:List AV):Operand->AV
 |.tmp n=>t.getD n .j
 |.const x=>Nl x
 |.global g=> .c (.pointer (some ⟨g,0,none⟩))
 |.func f=> .f f []
abbrev KT:=TypeId->Option TE
def U2(P:Program)(Γ:KT):Prop:=∀ty x,Γ ty=some x->LJ P ty x
def one:AV->Bool
 |.i _ _| .b _| .s _| .nl| .v _ _| .p _ _| .h _ _ _| .hs _ _ _ _| .q _ _| .m _=>true
 |.c (.agg _)| .c (.tuple _)=>false
 |.c _=>true
 |.j| .g _| .t _| .f _ _| .it _=>false
def I0:AV->List AV
 | .g cs=>cs
 |x=>[x]
def wS:AV->Bool
 | .g cs=>cs.all one
 |x=>one x
def UB{L w M x u}(h:R L w M x u)(ho:one x=true):u.cells=#[u]/\u.oneCell'=true:=by
 cases h<;>simp[one]at ho<;>try exact⟨rfl,rfl⟩
 cases u<;>simp at ho<;>exact⟨rfl,rfl⟩
def lE{L w M x u}(h:R L w M x u)(ho:wS x=true):
    u.cells.size=(I0 x).length/\∀(k:Nat) (y:AV),(I0 x)[k]? =some y->∃c,u.cells[k]? =some c/\R L w M y c/\c.oneCell'=true:=by
  by_cases hx:∃cs,x= .g cs
  · obtain⟨cs,rfl⟩:=hx;cases h with
    | g _ us hs hr=>
      refine⟨hs,?_⟩;intro k y hk;have Y8:k<us.size:=by rw[hs];exact(AL.1 hk).1
      have h1:=hr k y hk;refine⟨us[k],by simp[Value.cells,Y8],by simpa[Y8]using h1,?_⟩;simp only[wS,BM]at ho;exact(UB (by simpa[Y8]using h1) (ho y (D3 hk))).2
  have h1:I0 x=[x]:=by cases x<;>first|rfl|exact absurd ⟨_,rfl⟩ hx
  have h2:wS x=one x:=by cases x<;>first|rfl|exact absurd ⟨_,rfl⟩ hx
  rw[h2]at ho;obtain⟨h3,h4⟩:=UB h ho;rw[h1,h3];refine⟨rfl,?_⟩;intro k y hk;match k,hk with
  |0,hk=>simp at hk;subst hk;exact⟨u,rfl,h,h4⟩
  |k+1,hk=>simp at hk
def Uu(Γ:KT)(op:BinOp)(ty:TypeId)(xs ys:List AV)(k:AV->Prop):Prop:=
 match op,xs,ys with
 | .eql,[.i .i64 a,.i .i64 b,.i .i64 c,.i .i64 d],[.i .i64 a',.i .i64 b',.i .i64 c',.i .i64 d']=>(∃e,Γ ty=some e/\e.eq4=true)/\k (.b (decide (a=a'/\b=b'/\c=c'/\d=d')))
 |_,_,_=>False
def bop(Γ:KT)(op:BinOp)(ty:TypeId)(x y:AV)(k:AV->Prop):Prop:=
 match x,y with
 | .i ka a,.i kb b=>match op with
   | .add=>ka=kb/\k (.i ka (ka.wrap (a+b)))
   | .sub=>ka=kb/\k (.i ka (ka.wrap (a-b)))
   | .mul=>ka=kb/\k (.i ka (ka.wrap (a*b)))
   | .quo=>ka=kb/\b≠0/\k (.i ka (ka.wrap (a.tdiv b)))
   | .rem=>ka=kb/\b≠0/\k (.i ka (a.tmod b))
   | .eql=>ka=kb/\k (.b (a==b))
   | .neq=>ka=kb/\k (.b (a !=b))
   | .lss=>ka=kb/\k (.b (decide (a<b)))
   | .leq=>ka=kb/\k (.b (decide (a<=b)))
   | .gtr=>ka=kb/\k (.b (decide (a>b)))
   | .geq=>ka=kb/\k (.b (decide (a>=b)))
   | .shl=>0<=b/\k (.i ka (ka.wrap (a*2^(min b.toNat ka.bits))))
   | .shr=>0<=b/\k (.i ka (a.fdiv (2^(min b.toNat ka.bits))))
   | .and=>ka=kb/\k (.i ka (ka.wrap (BitVec.ofInt ka.bits a &&& BitVec.ofInt ka.bits b).toNat))
   | .or=>ka=kb/\k (.i ka (ka.wrap (BitVec.ofInt ka.bits a|||BitVec.ofInt ka.bits b).toNat))
   | .andNot=>ka=kb/\k (.i ka (ka.wrap (BitVec.ofInt ka.bits a &&& ~~~BitVec.ofInt ka.bits b).toNat))
   |_=>False
 | .s a,.s b=>match op with
   | .eql=>k (.b (a.toList==b.toList))
   | .neq=>k (.b (!(a.toList==b.toList)))
   | .add=>(a.size+b.size:Int)<=9223372036854775807/\k (.s (a++b))
   |_=>False
 | .b a,.b b=>(∃e,Γ ty=some e/\e.d= .bool)/\match op with
   | .eql=>k (.b (a==b))
   | .neq=>k (.b (!(a==b)))
   |_=>False
 | .nl,.nl=>(∃e el,Γ ty=some e/\e.d= .slice el)/\match op with| .eql=>k (.b true)| .neq=>k (.b false)|_=>False
 | .h _ _ _,.nl=>(∃e el,Γ ty=some e/\e.d= .slice el)/\match op with| .eql=>k (.b false)| .neq=>k (.b true)|_=>False
 | .v _ cs,.nl=>cs≠ []/\(∃e el,Γ ty=some e/\e.d= .slice el)/\match op with| .eql=>k (.b false)| .neq=>k (.b true)|_=>False
 | .g xs,.g ys=>Uu Γ op ty xs ys k
 |_,_=>False
def uop(op:UnOp)(x:AV)(k:AV->Prop):Prop:=
 match op,x with
 | .neg,.i ka a=>k (.i ka (ka.wrap (0-a)))
 | .not,.b x=>k (.b (!x))
 |_,_=>False
def cop(Γ:KT)(src dst:TypeId)(x:AV)(k:AV->Prop):Prop:=
 match x,Γ src,Γ dst with
 | .i _ n,some _,some e=>match e.d with| .int kd=>k (.i kd (kd.wrap n))|_=>False
 |_,_,_=>False
def Yi(e:TE)(o:Nat)(cs:List AV)(k:AV->Prop):Prop:=
 if e.agg=true then o+e.size<=cs.length/\k (.g ((cs.drop o).take e.size))else o<cs.length/\k (cs.getD o .j)
def lop(Γ:KT)(H:HP)(ty:TypeId)(x:AV)(k:AV->Prop):Prop:=
 match Γ ty,x with
 |some e,.p o cs=>Yi e o cs k
 |some e,.q id o=>Up (H id) λcs=>Yi e o cs k
 |_,_=>False
def fop(Γ:KT)(ty:TypeId)(f:Nat)(k:Nat->Prop):Prop:=
 match Γ ty with
 | some e=>match e.d with
   | .struct fs=>match fs[f]? with
     | some (ft,off)=>match Γ ft with
       |some fe=>fe.size≠0/\k off
       |none=>False
     |none=>False
   |_=>False
 |none=>False
def iop(Γ:KT)(ty:TypeId)(x i:AV)(k:AV->Prop):Prop:=
 match Γ ty with
 | some e=>match e.d with
   | .slice el=>match Γ el with
     | some ee=>match x,i with
       | .v n cs,.i _ a=>0<=a/\a<n/\k (.p (a.toNat*ee.size) cs)
       | .h id o n,.i _ a=>0<=a/\a<n/\k (.q id (o+a.toNat*ee.size))
       | .hs _ id o n,.i _ a=>0<=a/\a<n/\k (.q id (o+a.toNat*ee.size))
       |_,_=>False
     |none=>False
   |_=>False
 |none=>False
def eop(x:AV)(n:Nat)(k:AV->Prop):Prop:=
 match x with
 | .t vs=>match vs[n]? with|some y=>k y|none=>False
 |_=>False
def Yj(Γ:KT)(ty:TypeId)(x:AV)(f:Nat)(k:AV->Prop):Prop:=
 match Γ ty with
 | some e=>match e.d with
   | .struct fs=>match fs[f]? with
     | some (ft,off)=>match Γ ft with
       | some e2=>e2.agg=false/\match x with
         | .g cs=>match cs[off]? with|some y=>k y|none=>False
         |_=>False
       |none=>False
     |none=>False
   |_=>False
 |none=>False
def nop(x:AV)(k:AV->Prop):Prop:=
 match x with
 | .p _ _| .q _ _=>k x
 |_=>False
def a8(Γ:KT)(ty:TypeId)(x:AV)(k:AV->Prop):Prop:=
 match Γ ty with
 | some e=>match e.d,x with
   | .slice _,.v n _=>k (.i .i64 n)
   | .slice _,.h _ _ n=>k (.i .i64 n)
   | .slice _,.hs _ _ _ n=>k (.i .i64 n)
   | .slice _,.nl=>k (.i .i64 0)
   | .str,.s x=>k (.i .i64 x.size)
   |_,_=>False
 |none=>False
def Ee(Γ:KT)(ty:TypeId)(x:AV)(k:AV->Prop):Prop:=
 match Γ ty with
 | some e=>match e.d,x with
   | .slice _,.nl=>k (.i .i64 0)
   |_,_=>False
 |none=>False
def A4R(x y:AV)(k:AV->Prop):Prop:=
 match x,y with
 | .i k1 a,.i _ b=>k (.i k1 (if b<a then b else a))
 |_,_=>False
def Yk(x y:AV)(k:AV->Prop):Prop:=
 match x,y with
 | .i k1 a,.i _ b=>k (.i k1 (if b>a then b else a))
 |_,_=>False
def TG:List AV->Nat->List AV->List AV
 |cs,_,[]=>cs
 |cs,o,x::xs=>TG (cs.set o x) (o+1) xs
def WY(place:Nat->Option (Nat×Nat)):List AV->List (Nat×AV)->Option (List AV)
 |cs,[]=>some cs
 | cs,(i,x)::rest=>match place i with
   |none=>none
   |some (off,size)=>if (I0 x).length≠size\/wS x=false\/off+(I0 x).length>cs.length then none else WY place (TG cs off (I0 x)) rest
def zH:Option AV->Option (Option Int)
 |none=>some none
 |some (.i _ n)=>some (some n)
 |some _=>none
def sop(Γ:KT)(ty:TypeId)(x:AV)(lo hi:Option AV)(k:AV->Prop):Prop:=
 match Γ ty with
 | some e=>match e.d with
   | .slice el=>match Γ el with
     | some ee=>match x,zH lo,zH hi with
       | .v n cs,some l,some h=>0<=l.getD 0/\l.getD 0<=h.getD n/\h.getD n<=n/\
          k (.v ((h.getD n).toNat-(l.getD 0).toNat) ((cs.drop ((l.getD 0).toNat*ee.size)).take (((h.getD n).toNat-(l.getD 0).toNat)*ee.size)))
       | .h id o n,some l,some h=>ee.size=1/\0<=l.getD 0/\l.getD 0<=h.getD n/\h.getD n<=n/\k (.h id (o+(l.getD 0).toNat) ((h.getD n).toNat-(l.getD 0).toNat))
       | .nl,some l,some h=>l.getD 0=0/\h.getD 0=0/\k .nl
       |_,_,_=>False
     |none=>False
   | .str=>match x,zH lo,zH hi with
     | .s b,some l,some h=>0<=l.getD 0/\l.getD 0<=h.getD b.size/\h.getD b.size<=b.size/\k (.s (b.extract (l.getD 0).toNat (h.getD b.size).toNat))
     |_,_,_=>False
   |_=>False
 |none=>False
end
section
def R.OG{L w M k n u}(h:R L w M (.i k n) u):u= .int k n:=by cases h;rfl
def R.nX{L w M x u}(h:R L w M (.b x) u):u= .bool x:=by cases h;rfl
def R.nY{L w M x u}(h:R L w M (.s x) u):u= .string x:=by cases h;rfl
def R.Q1{L w M u}(h:R L w M .nl u):u= .slice none 0 0:=by cases h;rfl
set_option maxHeartbeats 4000000 in
def AOE{L w M a b c d u}(h:R L w M (.g [.i .i64 a,.i .i64 b,.i .i64 c,.i .i64 d]) u):u= .agg #[.int .i64 a,.int .i64 b,.int .i64 c,.int .i64 d]:=by
 cases h with
 |g _ us hs hr=>
  congr 1
  have h0:=(hr 0 _ rfl).OG;have h1:=(hr 1 _ rfl).OG;have h2:=(hr 2 _ rfl).OG;have h3:=(hr 3 _ rfl).OG;simp only[C6,CR]at hs;apply KI
  · simpa using hs
  intro i hi _;have hg:us.getD i undef=us[i]:=by simp[hi]
  match i,hi with
  |0,hi=>rw[<-hg];exact h0
  |1,hi=>rw[<-hg];exact h1
  |2,hi=>rw[<-hg];exact h2
  |3,hi=>rw[<-hg];exact h3
  |i+4,hi=>omega
def ACP{P ty}(h:AN3 P ty=true):P.stoodInHeld ty=false/\P.eqGuardType P.depth ty=false/\∃f0 f1 f2 f3:Field,P.underlying ty=some (.struct #[f0,f1,f2,f3])/\
    (f0.name≠ "_" /\f1.name≠ "_" /\f2.name≠ "_" /\f3.name≠ "_")/\(f0.offset=0/\f1.offset=1/\f2.offset=2/\f3.offset=3)/\
    (P.underlying f0.type=some (.int .i64)/\P.underlying f1.type=some (.int .i64)/\P.underlying f2.type=some (.int .i64)/\P.underlying f3.type=some (.int .i64)):=by
  unfold AN3 at h;simp only[CU,Bool.not_eq_true']at h;obtain⟨⟨h1,h2⟩,h3⟩:=h;refine⟨h1,h2,?_⟩;split at h3
  · rename_i fs ZJ;split at h3
    · rename_i a b c d hl;have e:fs=#[a,b,c,d]:=by apply FL;simpa using hl
      subst e;have hu:∀f:Field,(match P.underlying f.type with|some (.int .i64)=>true|_=>false)=true->P.underlying f.type=some (.int .i64):=by
        intro f hf;split at hf
        · assumption
        cases hf
      simp only[List.all_cons,List.all_nil,EZ,CU,bne_iff_ne,beq_iff_eq]at h3;obtain⟨⟨⟨a1,a2⟩,a3⟩,⟨⟨b1,b2⟩,b3⟩,⟨⟨c1,c2⟩,c3⟩,⟨d1,d2⟩,d3⟩:=h3;exact⟨a,b,c,d,ZJ,⟨a1,b1,c1,d1⟩,⟨a2,b2,c2,d2⟩,hu _ a3,hu _ b3,hu _ c3,hu _ d3⟩
    cases h3
  cases h3
def AIX{P Γ}(hG:U2 P Γ){op ty xs ys k}(h:Uu Γ op ty xs ys k)(xo yo):
    ∃ r,k r/\∀(L:LM) (w:World) (M:Nat->Prop) (u v:Value),R L w M (.g xs) u->R L w M (.g ys) v->
      ∃z,(do eqGuard op ty xo yo u v;binOp op ty u v:Sem Value).run P w= .ok z w/\R L w M r z:=by
  unfold Uu at h;split at h
  · rename_i a b c d a' b' c' d';obtain⟨⟨e,he,h4⟩,h⟩:=h;refine⟨_,h,λL w M u v hu hv=>⟨_,?_,.b _⟩⟩;obtain⟨q1,q2,f0,f1,f2,f3,q3,⟨n0,n1,n2,n3⟩,⟨o0,o1,o2,o3⟩,u0,u1,u2,u3⟩:=ACP ((hG ty e he).eq4 h4);rw[AOE hu,AOE hv];have r0:(underlying f0.type).run P w= .ok (.int .i64) w:=by simp[go_sem,underlying,u0]
    have r1:(underlying f1.type).run P w= .ok (.int .i64) w:=by simp[go_sem,underlying,u1]
    have r2:(underlying f2.type).run P w= .ok (.int .i64) w:=by simp[go_sem,underlying,u2]
    have r3:(underlying f3.type).run P w= .ok (.int .i64) w:=by simp[go_sem,underlying,u3]
    have rt:(underlying ty).run P w= .ok (.struct #[f0,f1,f2,f3]) w:=by simp[go_sem,underlying,q3]
    have e0:∀(d:Nat) (x y:Int),(Op.equalIn (d+1) f0.type (.int .i64 x) (.int .i64 y)).run P w= .ok (x==y) w:=by intro d x y;simp[Op.equalIn,r0]
    have e1:∀(d:Nat) (x y:Int),(Op.equalIn (d+1) f1.type (.int .i64 x) (.int .i64 y)).run P w= .ok (x==y) w:=by intro d x y;simp[Op.equalIn,r1]
    have e2:∀(d:Nat) (x y:Int),(Op.equalIn (d+1) f2.type (.int .i64 x) (.int .i64 y)).run P w= .ok (x==y) w:=by intro d x y;simp[Op.equalIn,r2]
    have e3:∀(d:Nat) (x y:Int),(Op.equalIn (d+1) f3.type (.int .i64 x) (.int .i64 y)).run P w= .ok (x==y) w:=by intro d x y;simp[Op.equalIn,r3]
    have p0:∀z0 z1 z2 z3:Value,(part f0.type #[z0,z1,z2,z3] f0.offset).run P w= .ok z0 w:=by intro z0 z1 z2 z3;simp[part,isAgg,r0,o0]
    have p1:∀z0 z1 z2 z3:Value,(part f1.type #[z0,z1,z2,z3] f1.offset).run P w= .ok z1 w:=by intro z0 z1 z2 z3;simp[part,isAgg,r1,o1]
    have p2:∀z0 z1 z2 z3:Value,(part f2.type #[z0,z1,z2,z3] f2.offset).run P w= .ok z2 w:=by intro z0 z1 z2 z3;simp[part,isAgg,r2,o2]
    have p3:∀z0 z1 z2 z3:Value,(part f3.type #[z0,z1,z2,z3] f3.offset).run P w= .ok z3 w:=by intro z0 z1 z2 z3;simp[part,isAgg,r3,o3]
    have hq:∀dd:Nat,(Op.equalIn (dd+1+1) ty (.agg #[.int .i64 a,.int .i64 b,.int .i64 c,.int .i64 d]) (.agg #[.int .i64 a',.int .i64 b',.int .i64 c',.int .i64 d'])).run P w= .ok (decide (a=a'/\b=b'/\c=c'/\d=d')) w:=by
      intro dd;rw[Op.equalIn.eq_2];simp[rt,q1,n0,n1,n2,n3,e0,e1,e2,e3,p0,p1,p2,p3];repeat' split
      all_goals simp_all
    have:=hq 9998;simp[eqGuard,q2,binOp,Op.equal,Op.maxDepth,this]
  exact h.elim
def Nn{P Γ}(hG:U2 P Γ){op ty x y k}(h:bop Γ op ty x y k)(xo yo):
    ∃ r,k r/\∀(L:LM) (w:World) (M:Nat->Prop) (u v:Value),R L w M x u->R L w M y v->
      ∃z,(do eqGuard op ty xo yo u v;binOp op ty u v:Sem Value).run P w= .ok z w/\R L w M r z:=by
  unfold bop at h;split at h
  · rename_i ka a kb b;cases op<;>simp only at h<;>first
      |exact h.elim
      | (obtain⟨h1,h2⟩:=h
         have LF:¬b<0:=A0;refine⟨_,h2,λL w M u v hu hv=>?_⟩;rw[hu.OG,hv.OG];refine⟨_,?_,.i _ _⟩
         (simp[eqGuard,binOp,Op.shift,LF];done))
      | (obtain⟨rfl,h1,h2⟩:=h
         refine⟨_,h2,λL w M u v hu hv=>?_⟩;rw[hu.OG,hv.OG];refine⟨_,?_,.i _ _⟩
         (simp[eqGuard,binOp,Op.intDiv,h1];done))
      | (obtain⟨rfl,h⟩:=h
         refine⟨_,h,λL w M u v hu hv=>?_⟩;rw[hu.OG,hv.OG];first
          |(refine⟨_,?_,.i _ _⟩;simp[eqGuard,binOp,Op.intArith,Op.intCmp];done)
          |(refine⟨_,?_,.b _⟩;simp[eqGuard,binOp,Op.intArith,Op.intCmp];done)
          |(refine⟨_,?_,.i _ _⟩;simp[eqGuard,binOp,Op.intBits];done))
  · rename_i a b;cases op<;>simp only at h<;>first
      |exact h.elim
      | (obtain⟨h1,h2⟩:=h
         refine⟨_,h2,λL w M u v hu hv=>?_⟩;rw[hu.nY,hv.nY];have LF:¬((a.size+b.size:Nat):Int)>IntKind.i64.max:=by
           have:IntKind.i64.max=9223372036854775807:=rfl;rw[this];push_cast;omega
         (refine⟨_,?_,.s _⟩;simp[eqGuard,binOp,Op.stringOp];omega))
      | (refine⟨_,h,λL w M u v hu hv=>?_⟩
         rw[hu.nY,hv.nY]
         (refine⟨_,?_,.b _⟩;simp[eqGuard,binOp,Op.stringOp];done))
  · rename_i a b;obtain⟨⟨e,he,hd⟩,h⟩:=h;obtain⟨dd,S3,WZ,hr⟩:=(hG ty e he).KC;have:=A4P (S3.trans hd);subst this;have hq:∀w (d:Nat),(Op.equalIn (d+1) ty (.bool a) (.bool b)).run P w= .ok (a==b) w:=by
      intro w d;simp[Op.equalIn,hr w]
    cases op<;>simp only at h<;>first
      |exact h.elim
      | (refine⟨_,h,λL w M u v hu hv=>?_⟩
         rw[hu.nX,hv.nX]
         (refine⟨_,?_,.b _⟩;simp[eqGuard,binOp,Op.equal,Op.maxDepth,hq w 9999];done))
  · obtain⟨⟨e,el,he,hd⟩,h⟩:=h;have WU:=((hG ty e he).slice hd).1;cases op<;>simp only at h<;>first
      |exact h.elim
      | (refine⟨_,h,λL w M u v hu hv=>?_⟩
         rw[hu.Q1,hv.Q1];first
          |(refine⟨_,?_,.b _⟩;simp[eqGuard,Lib.run_eql_slice_nil w ty el _ _ _ _ _ WU];done)
          |(refine⟨_,?_,.b _⟩;simp[eqGuard,F7 w ty el _ _ _ _ _ WU];done))
  · obtain⟨⟨e,el,he,hd⟩,h⟩:=h;have WU:=((hG ty e he).slice hd).1;cases op<;>simp only at h<;>first
      |exact h.elim
      | (refine⟨_,h,λL w M u v hu hv=>?_⟩
         rw[hv.Q1];cases hu;first
          |(refine⟨_,?_,.b _⟩;simp[eqGuard,Lib.run_eql_slice_nil w ty el _ _ _ _ _ WU];done)
          |(refine⟨_,?_,.b _⟩;simp[eqGuard,F7 w ty el _ _ _ _ _ WU];done))
  · obtain⟨CP,⟨e,el,he,hd⟩,h⟩:=h;have WU:=((hG ty e he).slice hd).1;cases op<;>simp only at h<;>first
      |exact h.elim
      | (refine⟨_,h,λL w M u v hu hv=>?_⟩
         rw[hv.Q1];cases hu with
         |v0=>exact absurd rfl CP
         |v=>
          first
          |(refine⟨_,?_,.b _⟩;simp[eqGuard,Lib.run_eql_slice_nil w ty el _ _ _ _ _ WU];done)
          |(refine⟨_,?_,.b _⟩;simp[eqGuard,F7 w ty el _ _ _ _ _ WU];done))
  · exact AIX hG h xo yo
  exact h.elim
def A4S{P op x k}(h:uop op x k):
    ∃r,k r/\∀(L:LM) (w:World) (M:Nat->Prop) (u:Value),R L w M x u->∃z,(Op.unary op u).run P w= .ok z w/\R L w M r z:=by
  unfold uop at h;split at h
  · refine⟨_,h,λL w M u hu=>?_⟩;rw[hu.OG]
    (refine⟨_,?_,.i _ _⟩;simp[Op.unary,Op.intArith];done)
  · refine⟨_,h,λL w M u hu=>?_⟩;rw[hu.nX]
    (refine⟨_,?_,.b _⟩;simp[Op.unary];done)
  exact h.elim
def No{P Γ}(hG:U2 P Γ){src dst x k}(h:cop Γ src dst x k):
    ∃r,k r/\∀(L:LM) (w:World) (M:Nat->Prop) (u:Value),R L w M x u->∃z,(convert src dst u).run P w= .ok z w/\R L w M r z:=by
  unfold cop at h;split at h
  · rename_i ka n es ed hs hd;split at h
    · rename_i kd he;refine⟨_,h,λL w M u hu=>?_⟩;rw[hu.OG];obtain⟨d1,_,_,h1⟩:=(hG src es hs).KC;obtain⟨d2,h21,_,h2⟩:=(hG dst ed hd).KC;have:=Jl (h21.trans he);subst this;refine⟨_,?_,.i _ _⟩;unfold convert;simp only[Sem.run_bind,h1 w,h2 w,Result.andThen_ok];simp[Conv.intToInt]
    exact h.elim
  exact h.elim
def run_loadCells{P w b off us}:∀(n i:Nat) (acc:Array Value),(∀k,k<n->w.cell? ⟨b,off+(i+k),none⟩=some (us (i+k)))->
    (loadCellsFrom ⟨b,off,none⟩ i n acc).run P w= .ok (acc++((List.range' i n).map us).toArray) w:=by
  intro n;induction n with
  |zero=>intro i acc _;simp[loadCellsFrom]
  | succ n ih=>
    intro i acc h;have h0:=h 0 A0;have ha:(Addr.add ⟨b,off,none⟩ i)=⟨b,off+i,none⟩:=by unfold Addr.add;split<;>simp_all
    simp only[HI]at h0;have ih':=ih (i+1) (acc.push (us i)) (λk hk=>by have:=h (k+1) A0;rwa [show i+1+k=i+(k+1) by omega]);simp only[loadCellsFrom,Sem.run_bind,run_load,ha,h0,Result.andThen_ok];rw[ih'];simp[List.range'_succ]
def cell_of{w:World}{b o:Nat}{arr:Array Value}{e:TypeId}{f:Nat×Nat}{u:Value}(h:w.heap[b]? =some (.cells arr e f))(hu:arr[o]? =some u):w.cell? ⟨b,o,none⟩=some u:=by
 simp[World.cell?,h,hu]
def qM{P e ty}(hT:LJ P ty e){o cs k}(h:Yi e o cs k):
    ∃ r,k r/\∀(L:LM) (w:World) (M:Nat->Prop) (b off:Nat) (arr:Array Value) (et:TypeId) (f:Nat×Nat),w.heap[b]? =some (.cells arr et f)->
      (∀(j:Nat) (x:AV),cs[j]? =some x->∃u,arr[off+j]? =some u/\R L w M x u)->∃z,(Instr.loadAt ty (.pointer (some ⟨b,off+o,none⟩))).run P w= .ok z w/\R L w M r z:=by
  unfold Yi at h;split at h
  · rename_i ha;obtain⟨h1,h2⟩:=h;refine⟨_,h2,λL w M b off arr et f hb hc=>?_⟩;let us:Nat->Value:=λj=>arr.getD (off+o+j) undef
    have Q6:∀j,j<e.size->w.cell? ⟨b,off+o+(0+j),none⟩=some (us (0+j)):=by
      intro j hj;have HX:o+j<cs.length:=A0;obtain⟨u,h3,h4⟩:=hc (o+j) cs[o+j] (A9 HX);have h5:arr[off+o+j]? =some u:=by rw[show off+o+j=off+(o+j) by omega];exact h3
      rw[BS];exact cell_of hb (by rw[h5];simp[us,h5])
    refine⟨.agg ((List.range' 0 e.size).map us).toArray,?_,?_⟩
    · have h3:=hT.zF w;have h4:=hT.K3 w;rw[ha]at h3;have h5:=run_loadCells (P:=P) (w:=w) (b:=b) (off:=off+o) (us:=us) e.size 0 #[] Q6;simp only[Instr.loadAt,Instr.sureAddr,Sem.run_bind,Sem.run_pure,Result.andThen_ok,loadVar,h3,if_true,h4,loadCells,h5];simp
    refine .g _ _ (by simp;omega) ?_;intro j x hj;simp only[D9,CK]at hj;split at hj
    · rename_i HX;obtain⟨u,h6,h7⟩:=hc (o+j) x hj;have h8:arr[off+o+j]? =some u:=by rw[show off+o+j=off+(o+j) by omega];exact h6
      have:(((List.range' 0 e.size).map us).toArray).getD j undef=u:=by
        simp[HX,us,h8]
      rw[this];exact h7
    cases hj
  rename_i ha;obtain⟨h1,h2⟩:=h;refine⟨_,h2,λL w M b off arr et f hb hc=>?_⟩;have hg:cs[o]? =some (cs.getD o .j):=by simp[A9 h1]
  obtain⟨u,h3,h4⟩:=hc o _ hg;refine⟨u,?_,h4⟩;have h5:=hT.zF w;have h6:e.agg=false:=by simpa using ha
  rw[h6]at h5;simp only[Instr.loadAt,Instr.sureAddr,Sem.run_bind,Sem.run_pure,Result.andThen_ok,loadVar,h5,EG,if_false,run_load,cell_of hb h3]
def R.Yl{L w M o cs u}(h:R L w M (.p o cs) u):
    ∃b off arr e f,u= .pointer (some ⟨b,off+o,none⟩)/\¬M b/\w.heap[b]? =some (.cells arr e f)/\(∀(j:Nat) (x:AV),cs[j]? =some x->∃u,arr[off+j]? =some u/\R L w M x u):=by
  cases h with
  | p _ _ b off arr e f us hM hb hu hr=>
    exact⟨b,off,arr,e,f,rfl,hM,hb,λj x hj=>⟨us j,hu j (AL.1 hj).1,hr j x hj⟩⟩
def R.y8{L w M id o u}(h:R L w M (.q id o) u):∃l,(L id=some l/\l.kd=0)/\u= .pointer (some ⟨l.IY,l.off+o,none⟩):=by
 cases h with|q _ _ l hl h0=>exact⟨l,⟨hl,h0⟩,rfl⟩
def AAH{P Γ}(hG:U2 P Γ){o ev H id ty x}(ho:o.op= .load ty x){k}(h:lop Γ H ty (ev x) k):
    ∃r,k r/\NN P o ev H id r none:=by
  unfold lop at h;split at h
  · rename_i e oo cs he hx;obtain⟨r,hk,hr⟩:=qM (hG ty e he) h;refine⟨r,hk,NN.pure λH' hH L Av w ρ hs DU=>?_⟩;have hu:=DU x (by simp[ho,Op.operands]);rw[hx]at hu;obtain⟨b,off,arr,et,f,h1,_,h2,h3⟩:=hu.Yl;obtain⟨z,h4,h5⟩:=hr L w (MM L H' Av) b off arr et f h2 h3;exact⟨z,by simp[execOp,ho,h1,h4],h5⟩
  · rename_i e id' oo he hx;obtain⟨cs,c8,h⟩:=h;obtain⟨r,hk,hr⟩:=qM (hG ty e he) h;refine⟨r,hk,NN.pure λH' hH L Av w ρ hs DU=>?_⟩;have hu:=DU x (by simp[ho,Op.operands]);rw[hx]at hu;obtain⟨l,⟨hl,h0⟩,h1⟩:=hu.y8;obtain⟨l',TT,JO⟩:=hs.node id' cs (hH _ _ c8);rw[hl]at TT;cases TT;obtain⟨arr,et,h2,_,_,h3⟩:=JO.ex h0;obtain⟨z,h4,h5⟩:=hr L w (MM L H' Av) l.IY l.off arr et _ h2 h3;exact⟨z,by simp[execOp,ho,h1,h4],h5⟩
  exact h.elim
def SV(b off n):Addr.add ⟨b,off,none⟩ n=⟨b,off+n,none⟩:=by unfold Addr.add;split<;>simp_all
def Jo(x:AV)(n:Nat)(k:AV->Prop):Prop:=
 match x with
 | .p o cs=>k (.p (o+n) cs)
 | .q id o=>k (.q id (o+n))
 |_=>False
def Ym{x n k}(h:Jo x n k):∃r,k r/\∀(L:LM) (w:World) (M:Nat->Prop) (u:Value),R L w M x u->
    ∃b off,u= .pointer (some ⟨b,off,none⟩)/\R L w M r (.pointer (some ⟨b,off+n,none⟩)):=by
  unfold Jo at h;split at h
  · refine⟨_,h,λL w M u hu=>?_⟩;cases hu with
    | p o cs b off arr e f us hM hb hu hr=>
      exact⟨_,_,rfl,by rw[DS];exact .p _ _ b off arr e f us hM hb hu hr⟩
  · refine⟨_,h,λL w M u hu=>?_⟩;cases hu with
    |q id o l hl h0=>exact⟨_,_,rfl,by rw[DS];exact .q _ _ l hl h0⟩
  exact h.elim
def AAI{P Γ}(hG:U2 P Γ){o ev H id ty x f}(ho:o.op= .fieldAddr ty x f){k}(h:fop Γ ty f λoff=>Jo (ev x) off k):∃r,k r/\NN P o ev H id r none:=by
 unfold fop at h;split at h
 ·rename_i e he;split at h
  ·rename_i fs hd;split at h
   ·rename_i ft AN5 hf;split at h
    ·rename_i fe zI;obtain⟨h0,h⟩:=h;obtain⟨r,hk,hr⟩:=Ym h;refine⟨r,hk,NN.pure λH' hH L Av w ρ hs DU=>?_⟩;have hu:=DU x (by simp[ho,Op.operands]);obtain⟨b,off,h1,h2⟩:=hr _ _ _ _ hu;obtain⟨fs',ZJ,h3⟩:=(hG ty e he).struct hd;have h4:=(hG ft fe zI).K3 w;rw[<-ZJ,BF,CG]at hf;obtain⟨fd,hfd,AGN⟩:=hf;have AN6:fs'[f]? =some fd:=by simpa using hfd
     have e1:fd.type=ft:=congrArg Prod.fst AGN;have e2:fd.offset=AN5:=congrArg Prod.snd AGN;refine⟨_,?_,h2⟩;simp only[execOp,ho,Instr.fieldAt,Instr.sureAddr,h1,Sem.run_bind,h3 w,Result.andThen_ok,AN6,Sem.run_pure,fieldPlace,e1,h4];simp[h0,SV,e2]
    exact h.elim
   exact h.elim
  exact h.elim
 exact h.elim
def AAJ{P Γ}(hG:U2 P Γ){o ev H id ty x ix}(ho:o.op= .indexAddr ty x ix){k}(h:iop Γ ty (ev x) (ev ix) k):∃r,k r/\NN P o ev H id r none:=by
 unfold iop at h;split at h
 ·rename_i e he;split at h
  ·rename_i el hd;split at h
   ·rename_i ee wT;split at h
    ·rename_i n cs ki a hx hi;obtain⟨h0,h1,h⟩:=h;refine⟨_,h,NN.pure λH' hH L Av w ρ hs DU=>?_⟩;have hu:=DU x (by simp[ho,Op.operands]);have hv:=DU ix (by simp[ho,Op.operands]);rw[hx]at hu;rw[hi]at hv;have h3:=((hG ty e he).slice hd).2 w;have h4:=(hG el ee wT).K3 w;generalize hρ:ρ x=ux at hu
     cases hu with
     |v0=>omega
     | v _ _ b off cp arr et f us hM hb hn hu hr=>
       refine⟨_,?_,.p _ _ b off arr et f us hM hb hu hr⟩;simp only[execOp,ho,hv.OG,hρ];simp[Instr.indexAt,asIntOf,h3,h4,h0,h1,SV]
    ·rename_i id' oo n ki a hx hi;obtain⟨h0,h1,h⟩:=h;refine⟨_,h,NN.pure λH' hH L Av w ρ hs DU=>?_⟩;have hu:=DU x (by simp[ho,Op.operands]);have hv:=DU ix (by simp[ho,Op.operands]);rw[hx]at hu;rw[hi]at hv;have h3:=((hG ty e he).slice hd).2 w;have h4:=(hG el ee wT).K3 w;generalize hρ:ρ x=ux at hu
     cases hu with
     | h _ _ _ l ad cp hl hn hc ha VW=>
       have rU:cp≠0:=A0;have dY:=ha.resolve_left rU;refine⟨_,?_,.q _ _ l hl VW⟩;simp only[execOp,ho,hv.OG,hρ];simp[Instr.indexAt,asIntOf,h3,h4,h0,h1,dY,SV,DS]
    ·rename_i sz id' oo n ki a hx hi;obtain⟨h0,h1,h⟩:=h;refine⟨_,h,NN.pure λH' hH L Av w ρ hs DU=>?_⟩;have hu:=DU x (by simp[ho,Op.operands]);have hv:=DU ix (by simp[ho,Op.operands]);rw[hx]at hu;rw[hi]at hv;have h3:=((hG ty e he).slice hd).2 w;have h4:=(hG el ee wT).K3 w;generalize hρ:ρ x=ux at hu
     cases hu with
     | hs _ _ _ _ l ad cp hl hn hc ha VW=>
       have rU:cp≠0:=A0;have dY:=ha.resolve_left rU;refine⟨_,?_,.q _ _ l hl VW⟩;simp only[execOp,ho,hv.OG,hρ];simp[Instr.indexAt,asIntOf,h3,h4,h0,h1,dY,SV,DS]
    exact h.elim
   exact h.elim
  exact h.elim
 exact h.elim
end
section
section
variable{P:Program}{Γ:KT}{o:Oper}{ev:Operand->AV}{H:HP}{id:Nat}
def AAK{x n}(ho:o.op= .extract x n){k}(h:eop (ev x) n k):∃r,k r/\NN P o ev H id r none:=by
 unfold eop at h;split at h
 ·rename_i vs hx;split at h
  ·rename_i y hy;refine⟨_,h,NN.pure λH' hH L Av w ρ hs DU=>?_⟩;have hu:=DU x (by simp[ho,Op.operands]);rw[hx]at hu;generalize hρ:ρ x=ux at hu
   cases hu with
   |t _ us hs hr=>
    have HX:n<us.size:=by rw[hs];exact(AL.1 hy).1
    have:=hr n y hy;refine⟨_,?_,this⟩;simp[execOp,ho,hρ,Instr.extract,HX]
  exact h.elim
 exact h.elim
def zL(Γ:KT)(ty:TypeId)(x i:AV)(k:AV->Prop):Prop:=
 match Γ ty,x,i with
 |some e,.s s,.i _ n=>e.d= .str/\0<=n/\n<(s.size:Int)/\k (.i .u8 ((s.data.getD n.toNat 0).toNat:Int))
 |_,_,_=>False
def AAL(hG:U2 P Γ){ty x i}(ho:o.op= .index ty x i){k}(h:zL Γ ty (ev x) (ev i) k):∃r,k r/\NN P o ev H id r none:=by
 unfold zL at h;split at h
 ·rename_i e s kk n he hx hn;obtain⟨h0,h1,h2,h⟩:=h;refine⟨_,h,NN.pure λH' hH L Av w ρ hs DU=>?_⟩;have hu:=DU x (by rw[ho];simp[Op.operands]);have hv:=DU i (by rw[ho];simp[Op.operands]);rw[hx]at hu;rw[hn]at hv;obtain⟨d,g1,_,g2⟩:=(hG ty e he).KC;have g3:=fJ (g1.trans h0);subst g3;have h4:n.toNat<s.size:=A0;have h5:s[n.toNat]? =some (s.data.getD n.toNat 0):=by
   rw[getElem?_pos s n.toNat h4];congr 1
   have h6:n.toNat<s.data.size:=h4;rw[BC,D1 h6];rfl
  refine⟨.int .u8 ((s.data.getD n.toNat 0).toNat:Int),?_,.i _ _⟩;simp only[execOp,ho,Instr.index,asIntOf,hu.nY,hv.OG,Sem.run_bind,Sem.run_pure,Result.andThen_ok,g2,h1,if_true,h5]
 exact h.elim
def A4T(hG:U2 P Γ){ty x f}(ho:o.op= .field ty x f){k}(h:Yj Γ ty (ev x) f k):∃r,k r/\NN P o ev H id r none:=by
 unfold Yj at h;split at h
 ·rename_i e he;split at h
  ·rename_i fs hd;split at h
   ·rename_i ft off hf;split at h
    ·rename_i e2 dZ;obtain⟨ha,h⟩:=h;split at h
     ·rename_i cs hx;split at h
      ·rename_i y hy;refine⟨_,h,NN.pure λH' hH L Av w ρ hs DU=>?_⟩;have hu:=DU x (by simp[ho,Op.operands]);rw[hx]at hu;generalize hρ:ρ x=ux at hu
       cases hu with
       |g _ us hs hr=>
        obtain⟨fs',ZJ,h7⟩:=(hG ty e he).struct hd;have h8:=(hG ft e2 dZ).zF w;have HX:off<us.size:=by rw[hs];exact(AL.1 hy).1
        obtain⟨z,Yn,hz⟩:∃z,us[off]? =some z/\us.getD off undef=z:=⟨us[off],by simp[HX],by simp[HX]⟩;have hff:∃g:Field,fs'[f]? =some g/\g.type=ft/\g.offset=off:=by
         rw[<-ZJ,BF,CG]at hf;obtain⟨g,h1,h2⟩:=hf;cases h2;exact⟨g,by simpa using h1,rfl,rfl⟩
        obtain⟨g,g1,g2,g3⟩:=hff;refine⟨z,?_,hz▸hr off y hy⟩;simp[execOp,ho,hρ,Instr.field,h7 w,g1,g2,g3,asAgg,part,h8,ha,Yn]
      exact h.elim
     exact h.elim
    exact h.elim
   exact h.elim
  exact h.elim
 exact h.elim
def AAM{x}(ho:o.op= .nilCheck x){k}(h:nop (ev x) k):∃r,k r/\NN P o ev H id r none:=by
 unfold nop at h;split at h
 ·rename_i oo cs hx;refine⟨_,h,NN.pure λH' hH L Av w ρ hs DU=>?_⟩;have hu:=DU x (by simp[ho,Op.operands]);refine⟨_,?_,hu⟩;rw[hx]at hu;obtain⟨b,off,arr,e,f,h1,_⟩:=hu.Yl;simp[execOp,ho,h1]
 ·rename_i i oo hx;refine⟨_,h,NN.pure λH' hH L Av w ρ hs DU=>?_⟩;have hu:=DU x (by simp[ho,Op.operands]);refine⟨_,?_,hu⟩;rw[hx]at hu;obtain⟨l,_,h1⟩:=hu.y8;simp[execOp,ho,h1]
 exact h.elim
def Yo(hG:U2 P Γ){x ty NJ}(ho:o.op= .call ⟨.builtin .len,#[x],NJ⟩)(Jp:NJ[0]? =some ty){k}(h:a8 Γ ty (ev x) k):
    ∃r,k r/\NN P o ev H id r none:=by
  unfold a8 at h;split at h
  · rename_i e he;obtain⟨dd,S3,_,WU⟩:=(hG ty e he).KC;split at h
    · rename_i el n cs hd hx;refine⟨_,h,NN.pure λH' hH L Av w ρ hs DU=>?_⟩;have hu:=DU x (by simp[ho,Op.operands,Call.operands]);rw[hx]at hu;have h3:=WU w;rw[SQ (S3.trans hd)]at h3;generalize hρ:ρ x=ux at hu
      refine⟨_,?_,.i _ _⟩;cases hu<;>simp[execOp,ho,resolve,invoke,builtin,hρ,Builtin.len_,Jp,h3,goInt]
    · rename_i el i oo n hd hx;refine⟨_,h,NN.pure λH' hH L Av w ρ hs DU=>?_⟩;have hu:=DU x (by simp[ho,Op.operands,Call.operands]);rw[hx]at hu;have h3:=WU w;rw[SQ (S3.trans hd)]at h3;generalize hρ:ρ x=ux at hu
      refine⟨_,?_,.i _ _⟩;cases hu<;>simp[execOp,ho,resolve,invoke,builtin,hρ,Builtin.len_,Jp,h3,goInt]
    · rename_i el sz i oo n hd hx;refine⟨_,h,NN.pure λH' hH L Av w ρ hs DU=>?_⟩;have hu:=DU x (by simp[ho,Op.operands,Call.operands]);rw[hx]at hu;have h3:=WU w;rw[SQ (S3.trans hd)]at h3;generalize hρ:ρ x=ux at hu
      refine⟨_,?_,.i _ _⟩;cases hu<;>simp[execOp,ho,resolve,invoke,builtin,hρ,Builtin.len_,Jp,h3,goInt]
    · rename_i el hd hx;refine⟨_,h,NN.pure λH' hH L Av w ρ hs DU=>?_⟩;have hu:=DU x (by simp[ho,Op.operands,Call.operands]);rw[hx]at hu;have h3:=WU w;rw[SQ (S3.trans hd)]at h3;generalize hρ:ρ x=ux at hu
      refine⟨_,?_,.i _ _⟩;cases hu<;>simp[execOp,ho,resolve,invoke,builtin,hρ,Builtin.len_,Jp,h3,goInt]
    · rename_i sx hd hx;refine⟨_,h,NN.pure λH' hH L Av w ρ hs DU=>?_⟩;have hu:=DU x (by simp[ho,Op.operands,Call.operands]);rw[hx]at hu;have h3:=WU w;rw[fJ (S3.trans hd)]at h3;generalize hρ:ρ x=ux at hu
      refine⟨_,?_,.i _ _⟩;cases hu<;>simp[execOp,ho,resolve,invoke,builtin,hρ,Builtin.len_,Jp,h3,goInt]
    exact h.elim
  exact h.elim
def A4U{x y NJ}(ho:o.op= .call ⟨.builtin .max,#[x,y],NJ⟩){k}(h:Yk (ev x) (ev y) k):
    ∃r,k r/\NN P o ev H id r none:=by
  unfold Yk at h;split at h
  · rename_i k1 a k2 b hx hy;refine⟨_,h,NN.pure λH' hH L Av w ρ hs DU=>?_⟩;have hu:=DU x (by simp[ho,Op.operands,Call.operands]);have hv:=DU y (by simp[ho,Op.operands,Call.operands]);rw[hx]at hu;rw[hy]at hv;refine⟨_,?_,.i _ _⟩;simp[execOp,ho,resolve,invoke,builtin,hu.OG,hv.OG,Builtin.max_,Builtin.max2]
  exact h.elim
def A4V{x y NJ}(ho:o.op= .call ⟨.builtin .min,#[x,y],NJ⟩){k}(h:A4R (ev x) (ev y) k):
    ∃r,k r/\NN P o ev H id r none:=by
  unfold A4R at h;split at h
  · rename_i k1 a k2 b hx hy;refine⟨_,h,NN.pure λH' hH L Av w ρ hs DU=>?_⟩;have hu:=DU x (by simp[ho,Op.operands,Call.operands]);have hv:=DU y (by simp[ho,Op.operands,Call.operands]);rw[hx]at hu;rw[hy]at hv;refine⟨_,?_,.i _ _⟩;simp[execOp,ho,resolve,invoke,builtin,hu.OG,hv.OG,Builtin.min_,Builtin.min2]
  exact h.elim
def Yp(hG:U2 P Γ){x ty NJ}(ho:o.op= .call ⟨.builtin .cap,#[x],NJ⟩)(Jp:NJ[0]? =some ty){k}(h:Ee Γ ty (ev x) k):
    ∃r,k r/\NN P o ev H id r none:=by
  unfold Ee at h;split at h
  · rename_i e he;obtain⟨dd,S3,_,WU⟩:=(hG ty e he).KC;split at h
    · rename_i el hd hx;refine⟨_,h,NN.pure λH' hH L Av w ρ hs DU=>?_⟩;have hu:=DU x (by simp[ho,Op.operands,Call.operands]);rw[hx]at hu;have h3:=WU w;rw[SQ (S3.trans hd)]at h3;generalize hρ:ρ x=ux at hu
      refine⟨_,?_,.i _ _⟩;cases hu<;>simp[execOp,ho,resolve,invoke,builtin,hρ,Builtin.cap_,Jp,h3,goInt]
    exact h.elim
  exact h.elim
def Yq{w l x ρv}(hx:zH l=some x)(L M)(hr:∀a,l=some a->∃u,ρv=some u/\R L w M a u)(hn:l=none->ρv=none):ρv=x.map (λn=>Value.int (match l with|some (.i k _)=>k|_=> .i64) n):=by
 unfold zH at hx;split at hx
 ·cases hx;rw[hn rfl];rfl
 ·cases hx;obtain⟨u,h1,h2⟩:=hr _ rfl;rw[h1,h2.OG];rfl
 cases hx
def fM{w:World}{len cap:Nat}{l h:Option Int}{kl kh:IntKind}(h0:0<=l.getD 0)(h1:l.getD 0<=h.getD len)(h2:h.getD len<=len)(h3:len<=cap):
    (Instr.sliceBounds true len cap (l.map (λn=> .int kl n)) (h.map (λn=> .int kh n)) none).run P w= .ok ((l.getD 0).toNat,(h.getD len).toNat,cap) w:=by
  cases l<;>cases h<;>simp only[J9,FW]at h0 h1 h2<;>
    simp only[HV,DB,Instr.sliceBounds,Instr.sliceBound,asIntOf,Sem.run_bind,Sem.run_pure,Result.andThen_ok,J9,FW]
  · simp
  · rename_i h;rw[if_pos ⟨A0,A0⟩];simp
  · rename_i l;have:(0<=l/\l<=(len:Int)):=⟨h0,h1⟩;simp[this]
  rename_i l h;have a1:(0<=h/\h<=(cap:Int)):=⟨A0,A0⟩;have a2:(0<=l/\l<=h):=⟨h0,h1⟩;have a3:0<=h:=A0;rw[if_pos a1];simp[a1.1,a2,Int.max_eq_left a3]
def Ef{w:World}{len:Nat}{l h:Option Int}{kl kh:IntKind}(h0:0<=l.getD 0)(h1:l.getD 0<=h.getD len)(h2:h.getD len<=len):
    (Instr.sliceBounds false len len (l.map (λn=> .int kl n)) (h.map (λn=> .int kh n)) none).run P w= .ok ((l.getD 0).toNat,(h.getD len).toNat,len) w:=by
  cases l<;>cases h<;>simp only[J9,FW]at h0 h1 h2<;>
    simp only[HV,DB,Instr.sliceBounds,Instr.sliceBound,asIntOf,Sem.run_bind,Sem.run_pure,Result.andThen_ok,J9,FW]
  · simp
  · rename_i h;rw[if_pos ⟨A0,A0⟩];simp
  · rename_i l;have:(0<=l/\l<=(len:Int)):=⟨h0,h1⟩;simp[this]
  rename_i l h;have a1:(0<=h/\h<=(len:Int)):=⟨A0,A0⟩;have a2:(0<=l/\l<=h):=⟨h0,h1⟩;have a3:0<=h:=A0;rw[if_pos a1];simp[a1.1,a2,Int.max_eq_left a3]
def A4W{L w M n cs u}(hu:R L w M (.v n cs) u){l h sz}(hlh:l<=h)(hhn:h<=n):
    ∃a cp,u= .slice a n cp/\n<=cp/\R L w M (.v (h-l) ((cs.drop (l*sz)).take ((h-l)*sz))) (.slice (if cp=l then a else a.map (·.add (l*sz))) (h-l) (cp-l)):=by
  cases hu with
  | v0 a cp=>
    refine⟨a,cp,rfl,A0,?_⟩;have h1:h-l=0:=A0;rw[h1];simp only[Nat.zero_mul,AS];exact .v0 _ _
  | v _ _ b off cp arr e f us hM hb hn hu hr=>
    refine⟨some ⟨b,off,none⟩,cp,rfl,hn,?_⟩;by_cases hc:cp=l
    · have h1:h-l=0:=A0;rw[h1];simp only[Nat.zero_mul,AS];exact .v0 _ _
    rw[if_neg hc];simp only[DB,SV];refine .v _ _ b (off+l*sz) (cp-l) arr e f (λk=>us (l*sz+k)) hM hb A0 ?_ ?_
    · intro k hk;simp only[B1,CC]at hk;rw[DS];exact hu _ A0
    intro k x hk;simp only[D9,CK]at hk;split at hk
    · exact hr _ _ hk
    cases hk
def A4X{L w M i oo n u}(hu:R L w M (.h i oo n) u){l h}(hlh:l<=h)(hhn:h<=n):
    ∃a cp,u= .slice a n cp/\n<=cp/\R L w M (.h i (oo+l) (h-l)) (.slice (if cp=l then a else a.map (·.add (l*1))) (h-l) (cp-l)):=by
  cases hu with
  | h _ _ _ lc a cp hl hn hc ha h0=>
    refine⟨some a,cp,rfl,hn,?_⟩;by_cases rU:cp=l
    · rw[if_pos rU];exact .h _ _ _ lc a _ hl A0 A0 (.inl A0) h0
    rw[if_neg rU,ha.resolve_left A0];simp only[DB,SV,JZ];exact .h _ _ _ lc _ _ hl A0 A0 (.inr (by rw[DS])) h0
def AAN(hG:U2 P Γ){x lo hi ty}(ho:o.op= .slice ty x lo hi none){k}(h:sop Γ ty (ev x) (lo.map ev) (hi.map ev) k):
    ∃r,k r/\NN P o ev H id r none:=by
  unfold sop at h;split at h
  · rename_i e he;split at h
    · rename_i el hd;split at h
      · rename_i ee wT;have WU:=λw=>((hG ty e he).slice hd).2 w
        have TH:=λw=>(hG el ee wT).K3 w
        have opd:∀(q:Option Operand),(∀z,q=some z->z∈o.op.operands)->∀(L:LM) (w:World) (M:Nat->Prop) (ρ:Operand->Value),(∀z∈o.op.operands,R L w M (ev z) (ρ z))->
            ∀y,zH (q.map ev)=some y->∃kk,q.map ρ=y.map (λn=>Value.int kk n):=by
          intro q hq L w M ρ DU y hy;refine⟨_,Yq (w:=w) (ρv:=q.map ρ) hy L M ?_ ?_⟩
          · intro a ha;cases q with
            |none=>cases ha
            |some z=>cases ha;exact⟨ρ z,rfl,DU z (hq z rfl)⟩
          intro hn;cases q with
          |none=>rfl
          |some z=>cases hn
        have cZ:∀z,lo=some z->z∈o.op.operands:=by intro z hz;rw[ho];simp[Op.operands,hz]
        have hhi:∀z,hi=some z->z∈o.op.operands:=by intro z hz;rw[ho];simp[Op.operands,hz]
        split at h
        · rename_i n cs l hh hx UC hh1;obtain⟨h0,h1,h2,h⟩:=h;refine⟨_,h,NN.pure λH' hH L Av w ρ hs DU=>?_⟩;have hu:=DU x (by rw[ho];simp[Op.operands]);rw[hx]at hu;obtain⟨kl,e1⟩:=opd lo cZ L w _ ρ DU _ UC;obtain⟨kh,e2⟩:=opd hi hhi L w _ ρ DU _ hh1;obtain⟨a,cp,e3,e4,e5⟩:=A4W hu (l:=(l.getD 0).toNat) (h:=(hh.getD n).toNat) (sz:=ee.size) A0 A0;refine⟨_,?_,e5⟩;have h3:=WU w;have hb:=fM (P:=P) (w:=w) (len:=n) (cap:=cp) (l:=l) (h:=hh) (kl:=kl) (kh:=kh) h0 h1 h2 e4;simp only[execOp,ho,e1,e2,e3,HV,Instr.sliceAt,Instr.slice,Sem.run_bind,h3,Result.andThen_ok,hb,TH w,Sem.run_pure]
        · rename_i i oo n l hh hx UC hh1;obtain⟨hz,h0,h1,h2,h⟩:=h;refine⟨_,h,NN.pure λH' hH L Av w ρ hs DU=>?_⟩;have hu:=DU x (by rw[ho];simp[Op.operands]);rw[hx]at hu;obtain⟨kl,e1⟩:=opd lo cZ L w _ ρ DU _ UC;obtain⟨kh,e2⟩:=opd hi hhi L w _ ρ DU _ hh1;obtain⟨a,cp,e3,e4,e5⟩:=A4X hu (l:=(l.getD 0).toNat) (h:=(hh.getD n).toNat) A0 A0;refine⟨_,?_,e5⟩;have h3:=WU w;have hb:=fM (P:=P) (w:=w) (len:=n) (cap:=cp) (l:=l) (h:=hh) (kl:=kl) (kh:=kh) h0 h1 h2 e4;simp only[execOp,ho,e1,e2,e3,HV,Instr.sliceAt,Instr.slice,Sem.run_bind,h3,Result.andThen_ok,hb,TH w,hz,Sem.run_pure]
        · rename_i l hh hx UC hh1;obtain⟨h0,h1,h⟩:=h;refine⟨_,h,NN.pure λH' hH L Av w ρ hs DU=>?_⟩;have hu:=DU x (by rw[ho];simp[Op.operands]);rw[hx]at hu;obtain⟨kl,e1⟩:=opd lo cZ L w _ ρ DU _ UC;obtain⟨kh,e2⟩:=opd hi hhi L w _ ρ DU _ hh1;refine⟨_,?_,.nl⟩;have h3:=WU w;have hb:=fM (P:=P) (w:=w) (len:=0) (cap:=0) (l:=l) (h:=hh) (kl:=kl) (kh:=kh) A0 (by simp[h0,h1]) (by simp[h1]) A0;simp only[execOp,ho,e1,e2,hu.Q1,HV,Instr.sliceAt,Instr.slice,Sem.run_bind,h3,Result.andThen_ok,hb,TH w,Sem.run_pure];simp[h0,h1]
        exact h.elim
      exact h.elim
    · rename_i hd;have opd:∀(q:Option Operand),(∀z,q=some z->z∈o.op.operands)->∀(L:LM) (w:World) (M:Nat->Prop) (ρ:Operand->Value),(∀z∈o.op.operands,R L w M (ev z) (ρ z))->
          ∀y,zH (q.map ev)=some y->∃kk,q.map ρ=y.map (λn=>Value.int kk n):=by
        intro q hq L w M ρ DU y hy;refine⟨_,Yq (w:=w) (ρv:=q.map ρ) hy L M ?_ ?_⟩
        · intro a ha;cases q with
          |none=>cases ha
          |some z=>cases ha;exact⟨ρ z,rfl,DU z (hq z rfl)⟩
        intro hn;cases q with
        |none=>rfl
        |some z=>cases hn
      have cZ:∀z,lo=some z->z∈o.op.operands:=by intro z hz;rw[ho];simp[Op.operands,hz]
      have hhi:∀z,hi=some z->z∈o.op.operands:=by intro z hz;rw[ho];simp[Op.operands,hz]
      split at h
      · rename_i b l hh hx UC hh1;obtain⟨h0,h1,h2,h⟩:=h;refine⟨_,h,NN.pure λH' hH L Av w ρ hs DU=>?_⟩;have hu:=DU x (by rw[ho];simp[Op.operands]);rw[hx]at hu;obtain⟨kl,e1⟩:=opd lo cZ L w _ ρ DU _ UC;obtain⟨kh,e2⟩:=opd hi hhi L w _ ρ DU _ hh1;refine⟨_,?_,.s _⟩;obtain⟨dd,g1,_,g2⟩:=(hG ty e he).KC;have g3:=fJ (g1.trans hd);subst g3;have h3:=g2 w;have hb:=Ef (P:=P) (w:=w) (len:=b.size) (l:=l) (h:=hh) (kl:=kl) (kh:=kh) h0 h1 h2;simp only[execOp,ho,e1,e2,hu.nY,HV,Instr.sliceAt,Instr.slice,Sem.run_bind,h3,Result.andThen_ok,hb,Option.isSome_none,EG,if_false,Sem.run_pure]
      exact h.elim
    exact h.elim
  exact h.elim
def UJ(e:TE):List AV:=e.zero.cells.toList.map PA
def Yr(hG:U2 P Γ){ty}(ho:o.op= .alloc ty){e}(he:Γ ty=some e):NN P o ev H id (.q id 0) (some (UJ e)):=by
 refine NN.new λH' hH L Av w ρ hs DU=>?_
 have hz:=(hG ty e he).SU w;refine⟨.pointer (some ⟨w.heap.size,0,none⟩),e.zero.cells,ty,e.zero.cells.size,?_,A1 _,by simp[UJ],?_,?_⟩
 ·simp only[execOp,ho,Instr.alloc,Sem.run_bind,hz,Result.andThen_ok];simp[newVar,newRow]
 ·intro k x hk;simp only[UJ,BF,CG,CE]at hk;obtain⟨u,h1,h2⟩:=hk;exact⟨u,h1,h2▸R.PA _ _ _ _⟩
 intro L' w' M' h;exact .q _ _ _ h rfl
def AAO{ty x}(ho:o.op= .box ty x)(hx:wS (ev x)=true):NN P o ev H id (.q id 0) (some (I0 (ev x))):=by
 refine NN.new λH' hH L Av w ρ hs DU=>?_
 have hu:=DU x (by rw[ho];simp[Op.operands]);obtain⟨h1,h2⟩:=lE hu hx;refine⟨.pointer (some ⟨w.heap.size,0,none⟩),(ρ x).cells,ty,(ρ x).cells.size,?_,A1 _,A0,?_,?_⟩
 ·simp[execOp,ho,Instr.box,newVar,newRow]
 ·intro k y hk;obtain⟨c,h3,h4,_⟩:=h2 k y hk;exact⟨c,h3,h4⟩
 intro L' w' M' h;exact .q _ _ _ h rfl
def Ys(Γ:KT)(ty:TypeId)(x y:AV)(id:Nat)(k:AV->Option (List AV)->Prop):Prop:=
 match Γ ty with
 | some e=>match e.d with
   | .slice el=>match Γ el with
     | some ee=>match x,y with
       | .i _ n,.i _ c=>ee.size=1/\0<=n/\n<=c/\c*ee.bytes<=281474976710656/\c<=9223372036854775807/\ee.zero.cells.size=1/\k (.h id 0 n.toNat) (some (List.replicate n.toNat (PA (ee.zero.cells.getD 0 undef))))
       |_,_=>False
     |none=>False
   |_=>False
 |none=>False
def wrap_i64{n}(h0: -9223372036854775808<=n)(h1:n<=9223372036854775807):IntKind.wrap .i64 n=n:=IntWalk.i64_in n ⟨h0,h1⟩
def A4Y(hG:U2 P Γ){ty x y}(ho:o.op= .makeSlice ty x y){k}(h:Ys Γ ty (ev x) (ev y) id k):∃r d,k r d/\NN P o ev H id r d:=by
 unfold Ys at h;split at h
 ·rename_i e he;split at h
  ·rename_i el hd;split at h
   ·rename_i ee wT;split at h
    ·rename_i kx n ky c hx hy;obtain⟨h1,h2,h3,h4,h5,h6,h⟩:=h;refine⟨_,_,h,NN.new λH' hH L Av w ρ hs DU=>?_⟩;have hu:=DU x (by rw[ho];simp[Op.operands]);have hv:=DU y (by rw[ho];simp[Op.operands]);rw[hx]at hu;rw[hy]at hv;have h7:=((hG ty e he).slice hd).2 w;have h8:=(hG el ee wT).K3 w;obtain⟨ii,h9,Df,iT,h12⟩:=(hG el ee wT).SS w;have h13:=(hG el ee wT).SU w;have w1:=wrap_i64 (n:=n) A0 A0;have w2:=wrap_i64 (n:=c) A0 A0;obtain⟨z,hz⟩:∃z,ee.zero.cells=#[z]:=by
      cases hzc:ee.zero.cells with
      |mk l=>rw[hzc]at h6;match l,h6 with|[z],_=>exact⟨z,rfl⟩
     refine⟨.slice (some ⟨w.heap.size,0,none⟩) n.toNat c.toNat,(Array.range c.toNat).map (λ_=>z),el,c.toNat,?_,B5,by simp;omega,?_,?_⟩
     ·have a1:¬c<0:=A0;have a2:¬n<0:=A0;have a3:¬c<n:=A0;have a4:¬(281474976710656:Int)<ee.bytes*c:=by rw[F8];omega
      simp only[execOp,ho,hu.OG,hv.OG,Instr.makeSlice,Sem.run_bind,h7,Result.andThen_ok,asInt,asIntOf,Sem.run_pure,h9,iT,w1,w2];by_cases hc0:c.toNat=0
      · simp[a1,a2,a3,a4,h8,h1,h13,hz,hc0,newRow];congr 2
        apply KI
        ·simp
        intro i Dg l5;simp at Dg
      simp[a1,a2,a3,a4,h8,h1,h13,hz,hc0,newRow];congr 2
      apply KI
      · simp
      intro i Dg l5;simp[NP]
     ·intro k x hk;simp only[EV]at hk;split at hk
      · rename_i HX;cases hk;refine⟨z,?_,by rw[hz];exact R.PA _ _ _ _⟩;have:k<c.toNat:=A0;simp[this]
      cases hk
     intro L' w' M' hl;exact .h _ _ _ _ _ _ hl A0 B5 (.inr B5) rfl
    exact h.elim
   exact h.elim
  exact h.elim
 exact h.elim
def PW(L:LM)(w:World)(M:Nat->Prop)(cs:List AV)(arr:Array Value):Prop:=
 arr.size=cs.length/\∀(k:Nat) (x:AV),cs[k]? =some x->∃u,arr[k]? =some u/\R L w M x u
def PW.set{L w M cs arr}(h:PW L w M cs arr){x u}(hx:R L w M x u)(i):PW L w M (cs.set i x) (arr.setIfInBounds i u):=by
 obtain⟨h1,h2⟩:=h;refine⟨by simp[h1],?_⟩;intro k y hk;rw[CL]at hk;rw[GU];split at hk
 ·rename_i nZ;subst nZ;split at hk
  ·rename_i HX;cases hk;simp[h1,HX,hx]
  cases hk
 rename_i nZ;simp[nZ,h2 k y hk]
def PW.TG{L w M}(us:List Value):∀(xs:List AV) (cs:List AV) (arr:Array Value) (off j:Nat),PW L w M cs arr->us.length=xs.length->
    (∀(k:Nat) (x:AV),xs[k]? =some x->∃u,us[k]? =some u/\R L w M x u)->PW L w M (TG cs (off+j) xs) ((us.zipIdx j).foldl (λcs (c,j)=>cs.setIfInBounds (off+j) c) arr):=by
  induction us with
  | nil=>
    intro xs cs arr off j h hl hr;cases xs with
    |nil=>exact h
    |cons=>simp at hl
  | cons u us ih=>
    intro xs cs arr off j h hl hr;cases xs with
    |nil=>simp at hl
    | cons x xs=>
      obtain⟨u',WU,hx⟩:=hr 0 x rfl;cases WU
      simp only[Go.Proofs.YtgknbnkmilddhaaGreat.TG,List.zipIdx_cons,K1];have:=ih xs (cs.set (off+j) x) (arr.setIfInBounds (off+j) u) off (j+1) (h.set hx _) (by simpa using hl) (λk y hk=>hr (k+1) y (by simpa using hk));rwa [show off+(j+1)=off+j+1 by omega]at this
def lF{L:LM}{w:World}{M:Nat->Prop}{place:Nat->Option (Nat×Nat)}{ev:Operand->AV}{ρ:Operand->Value}(parts:List (Nat×Operand)):∀(cs:List AV) (arr:Array Value) (LI:List AV),
    PW L w M cs arr->(∀i x,(i,x)∈parts->R L w M (ev x) (ρ x))->WY place cs (parts.map λ(i,x)=>(i,ev x))=some LI->
    ∃rW,Instr.fill place arr (parts.map λ(i,x)=>(i,ρ x))=some rW/\PW L w M LI rW:=by
  induction parts with
  | nil=>
    intro cs arr LI h hr hf;simp only[BU,WY,E4]at hf;subst hf;exact⟨arr,rfl,h⟩
  | cons p parts ih=>
    obtain⟨i,x⟩:=p;intro cs arr LI h hr hf;simp only[BR,WY]at hf;split at hf
    · cases hf
    rename_i off size hp;split at hf
    · cases hf
    rename_i hc;simp only[not_or,Decidable.not_not,OT,Bool.not_eq_false,gt_iff_lt]at hc;obtain⟨c1,c2,c3⟩:=hc;have hx:=hr i x B5;obtain⟨h1,h2⟩:=lE hx c2;have h3:=PW.TG (ρ x).cells.toList (I0 (ev x)) cs arr off 0 h (by simpa using h1) (λk y hk=>by
      obtain⟨c,h4,h5,_⟩:=h2 k y hk;exact⟨c,by simpa using h4,h5⟩)
    obtain⟨rW,h4,h5⟩:=ih _ _ _ (by simpa using h3) (λi' x' hm=>hr i' x' (by simp[hm])) hf;refine⟨rW,?_,h5⟩;simp only[BR,Instr.fill,hp];have lG:¬((ρ x).cells.size≠size||decide (off+(ρ x).cells.size>arr.size))=true:=by
      have:=h.1;simp only[ne_eq,HW,decide_eq_true_eq,not_or,Decidable.not_not,gt_iff_lt,OT];omega
    rw[if_neg lG];rw[<-h4];congr 1
    rw[<-Array.foldl_toList];congr 1
    simp
def xD(Γ:KT)(ty:TypeId)(len:Nat)(parts:List (Nat×AV))(id:Nat)(k:AV->Option (List AV)->Prop):Prop:=
 match Γ ty with
 | some e=>match e.d with
   | .slice el=>match Γ el with
     | some ee=>ifS (ee.size==1) (ee.zero.cells.size=1/\len<=16777216/\match WY (λi=>some (i*1,1)) (List.replicate len (PA (ee.zero.cells.getD 0 undef))) parts with
       |some cs=>cs.length=len/\k (.h id 0 len) (some cs)
       |none=>False)
       False
     |none=>False
   |_=>False
 |none=>False
def A4Z(hG:U2 P Γ){ty len parts}(ho:o.op= .buildSlice ty len parts){k}(h:xD Γ ty len (parts.toList.map λ(i,x)=>(i,ev x)) id k):∃r d,k r d/\NN P o ev H id r d:=by
 unfold xD at h;split at h
 ·rename_i e he;split at h
  ·rename_i el hd;split at h
   ·rename_i ee wT;by_cases h1:ee.size=1
    ·rw[A91 h1]at h;obtain⟨h2,h3,h⟩:=h;split at h
     ·rename_i cs c8;obtain⟨h4,h⟩:=h;refine⟨_,_,h,NN.new λH' hH L Av w ρ hs DU=>?_⟩;obtain⟨z,hz⟩:∃z,ee.zero.cells=#[z]:=by
       cases hzc:ee.zero.cells with
       |mk l=>rw[hzc]at h2;match l,h2 with|[z],_=>exact⟨z,rfl⟩
      have h7:=((hG ty e he).slice hd).2 w;have h8:=(hG el ee wT).K3 w;have h13:=(hG el ee wT).SU w;have o0:PW L w (MM L H' Av) (List.replicate len (PA (ee.zero.cells.getD 0 undef))) ((Array.range len).map (λ_=>z)):=by
       refine⟨B5,?_⟩;intro k x hk;simp only[EV]at hk;split at hk
       · rename_i HX;cases hk;exact⟨z,by simp[HX],by rw[hz];exact R.PA _ _ _ _⟩
       cases hk
      obtain⟨rW,h9,Df,iT⟩:=lF (ρ:=ρ) parts.toList _ _ _ o0 (λi x hm=>DU x (by
       rw[ho];simp only[Op.operands,JA];simp only[JA,AQ];exact⟨(i,x),hm,rfl⟩)) c8
      refine⟨.slice (some ⟨w.heap.size,0,none⟩) len len,rW,el,len,?_,A0,A0,iT,?_⟩
      ·have a1:¬16777216<len:=A0;have Jr:(if len=0 then (#[]:Array Value)else ee.zero.cells)=(if len=0 then #[]else #[z]):=by rw[hz]
       have fN:((Array.range len).map (λx=>(if len=0 then (#[]:Array Value)else #[z])[x%(if len=0 then (#[]:Array Value)else #[z]).size]!))=(Array.range len).map (λ_=>z):=by
         apply KI
         ·simp
         intro i Dg l5;have PN:len≠0:=by simp at Dg;omega
         simp[PN,NP]
       simp only[execOp,ho,Instr.buildSlice,Sem.run_bind,h7,Result.andThen_ok,h8,h1,JZ];by_cases hl0:len=0
       · subst hl0;simp at h9;have Ik:Array.map (λ_=>(default:Value)) (Array.range 0)=Array.map (λ_=>z) (Array.range 0):=by
          apply KI
          ·simp
          intro i Dg l5;simp at Dg
         simp[newRow,Ik,h9]
       simp only[JZ]at h9;simp[hl0,a1,h13,hz,newRow,NP];try simp at h9
       simp[h9]
      intro L' w' M' hl;exact .h _ _ _ _ _ _ hl (A1 _) B5 (.inr B5) rfl
     exact h.elim
    rw[A92 h1]at h;exact h.elim
   exact h.elim
  exact h.elim
 exact h.elim
def Uv(Γ:KT):List (TypeId×Nat)->Option (List (Nat×Nat))
 |[]=>some []
 | (ft,off)::fs=>match Γ ft,Uv Γ fs with
   |some e,some r=>some ((off,e.size)::r)
   |_,_=>none
def Yt(Γ:KT)(ty:TypeId)(parts:List (Nat×AV))(k:AV->Prop):Prop:=
 match Γ ty with
 | some e=>match e.d with
   | .struct fs=>match Uv Γ fs with
     | some pl=>match WY (λi=>pl[i]?) (UJ e) parts with
       |some cs=>k (.g cs)
       |none=>False
     |none=>False
   |_=>False
 |none=>False
def Yu(hG:U2 P Γ)(w):∀(fs:List Field) (pl:List (Nat×Nat)),Uv Γ (fs.map λf=>(f.type,f.offset))=some pl->(fs.mapM λf=>(do pure (f.offset,<-sizeOf f.type):Sem (Nat×Nat))).run P w= .ok pl w:=by
 intro fs;induction fs with
 |nil=>intro pl h;simp only[BU,Uv,E4]at h;subst h;simp
 | cons f fs ih=>
   intro pl h;simp only[BR,Uv]at h;split at h
   ·rename_i e r he hr;cases h;have h1:=(hG f.type e he).K3 w;have h2:=ih r hr;simp only[QN,Sem.run_bind,h1,Result.andThen_ok,Sem.run_pure,h2]
   cases h
def A50(hG:U2 P Γ){ty parts}(ho:o.op= .build ty parts){k}(h:Yt Γ ty (parts.toList.map λ(i,x)=>(i,ev x)) k):∃r,k r/\NN P o ev H id r none:=by
 unfold Yt at h;split at h
 ·rename_i e he;split at h
  ·rename_i fs hd;split at h
   ·rename_i pl fO;split at h
    ·rename_i cs c8;refine⟨_,h,NN.pure λH' hH L Av w ρ hs DU=>?_⟩;obtain⟨fs',ZJ,h7'⟩:=(hG ty e he).struct hd;have h7:=h7' w;have h13:=(hG ty e he).SU w;have o0:PW L w (MM L H' Av) (UJ e) e.zero.cells:=by
      refine⟨by simp[UJ],?_⟩;intro k x hk;simp only[UJ,BF,CG,CE]at hk;obtain⟨u,h1,h2⟩:=hk;exact⟨u,h1,h2▸R.PA _ _ _ _⟩
     obtain⟨rW,h9,Df,iT⟩:=lF (ρ:=ρ) parts.toList _ _ _ o0 (λi x hm=>DU x (by
      rw[ho];simp only[Op.operands];simp only[JA,AQ];exact⟨(i,x),hm,rfl⟩)) c8
     refine⟨.agg rW,?_,.g _ _ Df ?_⟩
     ·have h14:=Yu hG w fs'.toList pl (by rw[ZJ];exact fO);have h15:(fs'.mapM λf=>(do pure (f.offset,<-sizeOf f.type):Sem (Nat×Nat))).run P w= .ok pl.toArray w:=by
       rw[NF];have AN7:Sem.run P (List.mapM (λf:Field=>Prod.mk f.offset<$>sizeOf f.type) fs'.toList) w= .ok pl w:=by simpa using h14
       simp[AN7]
      have h16:(λi:Nat=>pl.toArray[i]?)=(λi:Nat=>pl[i]?):=by funext i;simp
      simp only[execOp,ho,Instr.build,Sem.run_bind,h7,h13,h15,Result.andThen_ok];rw[h16];simp only[Array.toList_map];have h17:List.map (λx:Nat×Operand=>(x.fst,ρ x.snd)) parts.toList=List.map (λ(i,x)=>(i,ρ x)) parts.toList:=rfl;simp[h9]
     intro j x hj;obtain⟨u,h1,h2⟩:=iT j x hj;rw[show rW.getD j undef=u by simp[h1]];exact h2
    exact h.elim
   exact h.elim
  exact h.elim
 exact h.elim
end
def I5{P:Prop}(h:P:=by simp(disch:=omega)only[AD,AB]):P:=h
def J4{P:Prop}(h:P:=by simp(disch:=omega)only[AB,AD]):P:=h
def D8{P:Prop}(h:P:=by simp(disch:=omega)only[AB]):P:=h
end
end Go.Proofs.YtgknbnkmilddhaaGreat