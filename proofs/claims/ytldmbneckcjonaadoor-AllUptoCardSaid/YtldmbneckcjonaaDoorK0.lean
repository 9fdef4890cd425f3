/- A part of the proof. -/
import Derived.Test.YtldmbneckcjonaaDoorChecked
import Derived.WalkKit
import Derived.Lib.Hide
import Derived.ProofKit
import Derived.Deep.Draws
set_option linter.defProp false
set_option linter.unusedVariables false
set_option linter.unusedSimpArgs false
set_option maxRecDepth 100000
set_option maxHeartbeats 8000000
namespace Go.Proofs.YtldmbneckcjonaaDoor
open Go.RowKit
theorem oM {P : Prop} (h : P := by omega) : P := h
theorem sM {P : Prop} (h : P := by simp) : P := h
theorem dC {P : Prop} (h : P := by decide) : P := h
theorem sO {P : Prop} (h : P := by simp; omega) : P := h
theorem asT {P : Prop} (h : P := by assumption) : P := h
theorem eCr {P : Prop} (h : P := by first | cases e; done | rfl | simp [*]) : P := h
theorem bdrewN {B : Nat} {a w : World} (h : Below B a w) (n : Nat) : Below B a (w.drewN n) := ⟨h.os, h.tape, h.output, h.size, h.block⟩
theorem sD {P : Prop} (h : P := by first | omega | (simp; done) | (simp; omega)) : P := h
theorem cB {P : Prop} (h : P := by repeat' (first | with_reducible exact Below.refl _ _ | with_reducible assumption | with_reducible refine Below.drew ?_ | with_reducible refine bdrewN ?_ _ | with_reducible refine Below.alloc ?_ ?_ _ | with_reducible refine Below.setCell ?_ ?_ _ | with_reducible refine Below.trans ?_ (Below.mono (by assumption) ?_) | omega | (simp; done) | (simp; omega))) : P := h
theorem cK {B : Nat} {w v : World} {b o : Nat} {x : Value} (hb : Below B w v) (h1 : b < B := by first | omega | (simp; done) | (simp; omega)) (h2 : w.cell? ⟨b, o, none⟩ = some x := by go_simp; done) : v.cell? ⟨b, o, none⟩ = some x := (hb.cell (p := ⟨b, o, none⟩) h1).trans h2
theorem fK {B : Nat} {w v : World} {b o : Nat} (hb : Below B w v) (h1 : b < B := by first | omega | (simp; done) | (simp; omega)) (h2 : w.frozen? ⟨b, o, none⟩ = false := by go_simp; done) : v.frozen? ⟨b, o, none⟩ = false := (hb.frozen (p := ⟨b, o, none⟩) h1).trans h2
theorem bcB {B : Nat} {W w1 : World} (hb : Below B W w1) : (∀ b o, b < B → w1.cell? ⟨b, o, none⟩ = W.cell? ⟨b, o, none⟩) ∧ (∀ b o, b < B → w1.frozen? ⟨b, o, none⟩ = W.frozen? ⟨b, o, none⟩) := ⟨fun _ _ h => hb.cell (p := ⟨_, _, none⟩) h, fun _ _ h => hb.frozen (p := ⟨_, _, none⟩) h⟩
theorem bcC {B : Nat} {W w1 : World} (n : Nat) (hb : Below B W w1) (h : n ≤ B := by first | omega | (simp; done) | (simp; omega)) : (∀ b o, b < n → w1.cell? ⟨b, o, none⟩ = W.cell? ⟨b, o, none⟩) ∧ (∀ b o, b < n → w1.frozen? ⟨b, o, none⟩ = W.frozen? ⟨b, o, none⟩) := ⟨fun _ _ h' => hb.cell (p := ⟨_, _, none⟩) (Nat.lt_of_lt_of_le h' h), fun _ _ h' => hb.frozen (p := ⟨_, _, none⟩) (Nat.lt_of_lt_of_le h' h)⟩
theorem bR {P : Program} {fn : Func} {R : Ending → World → Prop} {a : Act} {w : World} {v : Value} (hR : R (.returned v) w) (hr : (results fn a.tmps).run P w = .ok v w := by simp [results, go_sem, *]) (hd : a.defers = [] := by rfl) : bodyPost P fn R .ret a w := ⟨hd, v, hr, hR⟩
theorem gW {f : Nat} {a : Array Value} {v : Value} {W : World} {Q : Ending → World → Prop} (h : Calls Tryd.prog f a W fun e w' => e = .returned v ∧ W = w') (k : Q (.returned v) W) : Calls Tryd.prog f a W Q := h.mono fun _ _ ⟨h1, h2⟩ => h1 ▸ h2 ▸ k
theorem gB {f : Nat} {a : Array Value} {v : Value} {W : World} {R : World → Prop} {Q : Ending → World → Prop} (h : Calls Tryd.prog f a W fun e w' => e = .returned v ∧ R w') (k : ∀ w', R w' → Q (.returned v) w') : Calls Tryd.prog f a W Q := h.mono fun _ w' ⟨h1, h2⟩ => h1 ▸ k w' h2
def PC (f : Nat) (a : Array Value) (v : Value) : Prop := ∀ W, Calls Tryd.prog f a W fun e w' => e = .returned v ∧ W = w'
theorem PC.out {f : Nat} {a : Array Value} {v : Value} (h : PC f a v) (W : World) : Calls Tryd.prog f a W fun e w' => e = .returned v ∧ W = w' := h W
theorem PC.go {f : Nat} {a : Array Value} {v : Value} {W : World} {Q : Ending → World → Prop} (h : PC f a v) (k : Q (.returned v) W) : Calls Tryd.prog f a W Q := (h W).mono fun e w' ⟨h1, h2⟩ => h1 ▸ h2 ▸ k
def BC (f : Nat) (a : Array Value) (v : Value) : Prop := ∀ W, Calls Tryd.prog f a W fun e w' => e = .returned v ∧ Below W.heap.size W w'
theorem BC.out {f : Nat} {a : Array Value} {v : Value} (h : BC f a v) (W : World) : Calls Tryd.prog f a W fun e w' => e = .returned v ∧ Below W.heap.size W w' := h W
abbrev aD(b k:Nat):Addr:=⟨b,k,none⟩
abbrev iI(n:Int):Value:=.int .i64 n
abbrev iU(n:Int):Value:=.int .u64 n
abbrev qB(n:Int):Value:=.int .u8 n
abbrev iH(n:Int):Value:=.int .u32 n
abbrev pT(b k:Nat):Value:=.pointer (some (aD b k))
abbrev qL(b k n c:Nat):Value:=.slice (some (aD b k)) n c
abbrev aC(w:World)(c:Array Value)(t:TypeId):World:=w.alloc (.cells c t)
abbrev cF(w:World)(b k:Nat)(v:Value):Prop:=w.cell? (aD b k)=some v
abbrev fZ(w:World)(b k:Nat):Prop:=w.frozen? (aD b k)=false
abbrev sC3(w:World)(b:Nat)(x0 x1 x2:Value):World:=(((w.setCell (aD b 0) x0).setCell (aD b 1) x1).setCell (aD b 2) x2)
abbrev sC4(w:World)(b:Nat)(x0 x1 x2 x3:Value):World:=((((w.setCell (aD b 0) x0).setCell (aD b 1) x1).setCell (aD b 2) x2).setCell (aD b 3) x3)
abbrev sC7(w:World)(b:Nat)(x0 x1 x2 x3 x4 x5 x6:Value):World:=(((((((w.setCell (aD b 0) x0).setCell (aD b 1) x1).setCell (aD b 2) x2).setCell (aD b 3) x3).setCell (aD b 4) x4).setCell (aD b 5) x5).setCell (aD b 6) x6)
attribute [simp,go_sem] aC aD cF fZ iH iI iU pT qB qL sC3 sC4 sC7
def Zo:=@Nat.le_refl
def Zp:=@Lib.hid
def Zq:=@Array.getElem?_eq_some_iff
def Zr:=@if_neg
def Zs:=@beq_eq_false_iff_ne
def Zt:=@Option.some.injEq
def Zu:=@rounds_succ
def Zv:=@decide_eq_false
def Zx:=@RowKit.Below.refl
def Zy:=@Nat.two_pow_pos
def Zz:=@Nat.le_trans
def ZA:=@World.cell?_setCell_other
def ZB:=@Nat.lt_of_lt_of_le
def ZC:=@if_pos
def ZD:=@Nat.pow_add
def ZE:=@List.getElem?_cons_zero
def ZF:=@Array.getElem?_setIfInBounds_ne
def ZG:=@List.not_mem_nil
def ZI:=@List.getElem?_cons_succ
def ZJ:=@List.mem_cons_self
def ZK:=@World.cell?_alloc_at
def ZL:=@List.getElem?_eq_some_iff
def ZM:=@List.mem_cons
def ZN:=@List.getElem?_eq_getElem
def ZO:=@Option.some.inj
def ZP:=@decide_eq_true
def ZR:=@Option.getD_some
def ZS:=@Array.mem_of_getElem?
def ZT:=@List.getElem?_toArray
def ZU:=@decide_eq_true_eq
def ZV:=@IntKind.wrap_u64
def ZW:=@World.cell?_of_block
def ZX:=@Option.map_eq_some_iff
def ZY:=@Array.all_eq_true_iff_forall_mem
def ZZ:=@IntKind.wrap_i64
def Z0:=@Array.getElem?_setIfInBounds_self_of_lt
def Z1:=@Nat.mul_comm
def Z2:=@Nat.div_div_eq_div_mul
def Z3:=@Nat.mul_assoc
def Z4:=@Nat.div_lt_iff_lt_mul
def Z5:=@Array.getElem?_eq_getElem
def Z6:=@List.length_cons
def Z7:=@Nat.zero_le
def Z8:=@Nat.zero_add
def Z9:=@Nat.mul_le_mul_right
def aaa:=@Nat.pow_le_pow_right
def aab:=@Bool.and_eq_true
def aac:=@Nat.mod_eq_of_lt
def aad:=@wpList_append_own
def aae:=@List.mem_of_getElem?
def aaf:=@List.getElem?_map
def aag:=@List.mem_singleton
def aah:=@List.size_toArray
def aai:=@List.mem_cons_of_mem
def aaj:=@List.forall_mem_cons
def aak:=@World.frozen?_of_block
def aal:=@congrArg
def aam:=@Nat.lt_of_le_of_lt
def aan:=@decide_eq_false_iff_not
def aao:=@List.length_map
def aap:=@RowKit.Below.heap_alloc
def aaq:=@Nat.eq_zero_or_pos
def aar:=@Array.getElem?_toList
def aas:=@List.take_succ_eq_append_getElem
def aat:=@wp_loop_rounds
def aau:=@List.getElem?_take
def aav:=@World.cell?_setCell_same
def aax:=@Nat.mul_lt_mul_of_pos_right
def aay:=@Array.getD_eq_getD_getElem?
def aaz:=@World.block_lt_of_cell?
def aaA:=@List.length_nil
def aaB:=@Int.toNat_natCast
def aaC:=@Array.mem_toList_iff
def aaD:=@Array.getElem?_modify
def aaE:=@Nat.le_of_eq
def aaF:=@Array.mem_iff_getElem?
def aaG:=@Nat.div_eq_of_lt
def aaI:=@DataW.trod_int
def aaJ:=@Option.map_some
def aaK:=@Nat.pos_of_ne_zero
def aaL:=@List.take_length
def aaM:=@Nat.div_le_self
def aaO:=@Nat.pow_succ
def aaP:=@Bool.or_eq_false_iff
def aaQ:=@Int.eq_ofNat_of_zero_le
def aaS:=@false_imp_iff
def aaT:=@bodyPost_ret
def aaU:=@World.cell?_alloc_past
def aaV:=@or_false
def aaW:=@Bool.or_false
def aaX:=@List.mem_toArray
def aaY:=@List.length_take
def aaZ:=@Nat.mul_lt_mul_of_lt_of_lt
def aa0:=@Nat.mul_le_mul
def aa1:=@Nat.mod_lt
def aa2:=@Array.mem_push
def aa3:=@implies_true
def aa5:=@Nat.one_mul
def aa6:=@Array.getElem?_push
def aa7:=@Nat.mul_eq_zero
def aa8:=@Nat.lt_or_ge
def aa9:=@Nat.le_div_iff_mul_le
def aba:=@if_true
def abb:=@Nat.or_assoc
def abc:=@Nat.mod_add_div
def abd:=@List.cons.injEq
def abe:=@Array.size_push
def abh:=@Array.getElem?_eq_none
def abi:=@Bool.or_eq_true
def abj:=@Ne.symm
def abk:=@Array.size_setIfInBounds
def abl:=@Nat.mul_add
def abm:=@Nat.add_mul
def abo:=@Nat.mul_left_comm
def abp:=@Nat.le_mul_of_pos_right
def abq:=@info_parts
def abr:=@Nat.mul_pos
def abt:=@Nat.add_sub_cancel
def abu:=@List.getElem?_append_right
def abv:=@Array.getElem?_map
def abw:=@Nat.le_of_lt
def abx:=@Code.wp_mono
def aby:=@Array.mem_append
def abz:=@Nat.mul_le_mul_left
def abA:=@List.take_succ_cons
def abB:=@List.drop_succ_cons
def abC:=@Value.slice.injEq
def abD:=@Nat.mul_div_mul_right
def abE:=@List.getElem?_eq_none
def abF:=@Prod.mk.injEq
def abG:=@Bool.eq_iff_iff
def abH:=@beq_iff_eq
def abI:=@Bool.false_eq_true
def abJ:=@List.cons_append
def abM:=@Nat.zero_mul
def abN:=@Nat.div_add_mod
def abO:=@List.getElem?_append_left
def abP:=@Classical.byContradiction
def abR:=@Nat.mul_right_comm
def abS:=@Nat.mul_mod_left
def abT:=@Nat.mul_div_cancel
def abU:=@List.length_append
def abW:=@World.frozen?_alloc_past
def abX:=@Nat.pow_zero
def abY:=@Nat.add_assoc
def abZ:=@wp_seq_k
def ab0:=@Std.Legacy.Range.forIn_eq_forIn_range'
def ab1:=@Nat.add_mul_div_left
def ab2:=@Nat.or_lt_two_pow
def ab3:=@List.foldl_append
def ab4:=@List.flatMap_cons
def ab5:=@List.ext_getElem?
def ab6:=@DataW.trod_struct
def ab7:=@Nat.le_antisymm
def ab8:=@Array.getElem?_setIfInBounds
def ab9:=@step_leave_returned
def aca:=@Nat.mul_zero
def acb:=@List.all_eq_true
def acd:=@if_false
def ace:=@List.take_zero
def acf:=@List.drop_zero
def acg:=@Nat.add_mul_mod_self_left
def ach:=@Nat.le_mul_self
def aci:=@List.mem_append
def acn:=@Nat.or_self
def aco:=@Nat.add_comm
def acp:=@List.mem_map
def acr:=@Array.size_modify
def acs:=@List.length_filterMap_le
def acu:=@run_callFunc_extern
def acv:=@Nat.testBit_two_pow
def acw:=@Array.mem_replicate
def acx:=@heap_alloc_new
def acy:=@Option.bind_some
def acz:=@Nat.add_sub_cancel_left
def acA:=@Nat.pow_one
def acB:=@u64_or_nat
def acC:=@List.getElem?_drop
def acD:=@Array.ext_getElem?
def acE:=@List.foldl_cons
def acF:=@IntKind.wrap_u8
def acG:=@Frame.finish_at
def acH:=@RowKit.Below.setCell
def acI:=@Nat.mul_mod_mul_right
def acJ:=@Nat.mod_mul_right_mod
def acK:=@Bool.and_eq_false_iff
def acL:=@Nat.two_pow_add_eq_or_of_lt
def acM:=@Nat.lt_trichotomy
def acO:=@Nat.pow_lt_pow_right
def acP:=@Nat.mod_one
def acQ:=@Nat.mod_mul_right_div_self
def acR:=@BitVec.ofInt_natCast
def acS:=@Array.map_congr_left
def acT:=@Array.mapM_eq_foldlM
def acW:=@List.mem_flatMap
def acX:=@List.foldlM_cons
def acY:=@Int.add_zero
def acZ:=@List.flatMap_append
def ac0:=@Array.foldlM_toList
def ac2:=@Bool.or_assoc
def ac3:=@Array.mem_map
def ac4:=@step_lone_ended
def ac5:=@Obj.cells.injEq
def ac6:=@List.append_nil
def ac7:=@Int.natCast_pow
def ac8:=@Int.natCast_mul
def ac9:=@bne_iff_ne
def ada:=@BitVec.toNat_ofNat
def adb:=@Array.foldl_toList
def ade:=@Nat.le_succ
def adf:=@List.getElem?_replicate
def adg:=@RowKit.Below.trans
def adh:=@RowKit.Below.alloc
def adi:=@World.cells?_some
def adj:=@Nat.succ_mul
def adk:=@Nat.sub_self
def adl:=@Nat.mod_eq_zero_of_dvd
def adm:=@Nat.le_mul_of_pos_left
def adn:=@Nat.add_zero
def ado:=@List.mem_range
def adp:=@Array.size_map
def adq:=@Array.isEmpty_iff
def adr:=@Array.getElem?_extract
def ads:=@List.filterMap_append
def adt:=@Array.getElem?_mapIdx
def adv:=@Nat.sub_le
def adw:=@Nat.le_of_not_lt
def adx:=@Nat.and_two_pow_sub_one_eq_mod
def ady:=@Int.natCast_ediv
def adz:=@BitVec.toNat_and
def adD:=@RowKit.Below.mono
def adE:=@RowKit.Below.drew
def adF:=@Array.eq_empty_of_size_eq_zero
def adH:=@List.map_cons
def adI:=@Nat.zero_or
def adJ:=@Nat.sub_mul
def adK:=@Nat.mul_one
def adL:=@Nat.mod_mul
def adN:=@Nat.eq_of_testBit_eq
def adO:=@Nat.div_pos
def adP:=@Nat.div_one
def adQ:=@List.mem_iff_getElem
def adR:=@Value.int.injEq
def adT:=@DataW.agg.injEq
def adU:=@Array.length_toList
def adY:=@List.map_nil
def adZ:=@List.map_map
def ad0:=@Stepped.next.injEq
def ad1:=@Nat.xor_lt_two_pow
def ad3:=@Nat.mul_lt_mul_of_lt_of_le
def ad4:=@List.setIfInBounds_toArray
def ad5:=@List.getElem_range
def ad6:=@Int.cast_ofNat_Int
def ad7:=@BitVec.toNat_ofInt
def ad8:=@Array.getElem?_append_left
def ad9:=@Array.empty_append
def aec:=@of_decide_eq_true
def aed:=@Nat.lt_succ_of_lt
def aee:=@List.length_range
def aef:=@Bool.not_eq_true'
def aeg:=@Option.isSome_iff_exists
def aeh:=@Bool.eq_false_or_eq_true
def aei:=@Array.getElem?_replicate
def aej:=@Array.getElem?_push_size
def aek:=@wpIn_wide
def ael:=@nat_join
def aem:=@imp_self
def aer:=@List.getElem_mem
def aes:=@List.flatMap_map
def aet:=@Int.natCast_zero
def aeu:=@Int.natCast_emod
def aew:=@wpIn_seq_k
def aez:=@decide_not
def aeA:=@Nat.zero_mod
def aeC:=@Nat.sub_zero
def aeI:=@Nat.testBit_xor
def aeJ:=@Nat.pow_dvd_pow
def aeK:=@Nat.mul_add_mod
def aeL:=@Nat.mul_add_div
def aeN:=@List.nil_append
def aeO:=@List.forIn_cons
def aeX:=@Prod.mk.inj
def aeZ:=@Array.mk.injEq
def afa:=@Nat.mod_le
attribute [go_sem] Tryd.results130 Tryd.results131 Tryd.results132 Tryd.results133 Tryd.results134 Tryd.results135 Tryd.results136 Tryd.results137 Tryd.results138 Tryd.results139 Tryd.results140 Tryd.results141 Tryd.results143 Tryd.results144 Tryd.results145 Tryd.results146 Tryd.results148 Tryd.results151 Tryd.results159 Tryd.results160 Tryd.results161 Tryd.results162 Tryd.results29 Tryd.results30 Tryd.results35 Tryd.results36 Tryd.results44 Tryd.results45 Tryd.results46 Tryd.results47 Tryd.results48 Tryd.results49 Tryd.results50 Tryd.results51 Tryd.results61 Tryd.results63
instance:Coe World Nat:=⟨λw=>w.heap.size⟩
instance:CoeFun World λ_=>Addr->Option Value:=⟨World.cell?⟩
instance{α:Type}:CoeOut (List α) Nat:=⟨List.length⟩
end Go.Proofs.YtldmbneckcjonaaDoor
