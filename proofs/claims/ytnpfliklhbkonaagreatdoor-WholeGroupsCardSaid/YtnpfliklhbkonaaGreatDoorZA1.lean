/- Parts. -/
import Derived.Lib.Hide
import Derived.KernelRfl
namespace Go.Proofs.YtnpfliklhbkonaaGreatDoor
open Go.RowKit
abbrev LI:=List Int
abbrev LL:=List (List Int)
theorem zr{n:Nat}:n<=n:=Nat.le_refl n
theorem zh{p:Prop}(h:p):Hid p:=h
abbrev aZ0:=@Option.some.inj
abbrev aZ1:=@List.length_append
abbrev aZ2:=@List.length_singleton
abbrev aZ3:=@List.getElem?_eq_getElem
abbrev aZ4:=@List.getD_eq_getElem?_getD
abbrev aZ5:=@Nat.zero_le
abbrev aZ6:=@Nat.le_trans
abbrev aZ8:=@Int.toNat_natCast
abbrev aZ9:=@List.length_set
abbrev aY0:=@Classical.byContradiction
abbrev aY1:=@Nat.lt_of_lt_of_le
abbrev aY2:=@List.getElem?_append_left
abbrev aY3:=@List.length_take
abbrev aY4:=@List.getElem?_eq_none
abbrev aY5:=@Nat.not_lt_zero
abbrev aY6:=@List.getElem_mem
abbrev aY7:=@List.length_map
abbrev aY8:=@Int.mul_assoc
abbrev aY9:=@Bool.and_eq_true
theorem om{p:Prop}(h:p:=by omega):p:=h
theorem kr{p:Prop}(h:p:=by kernel_rfl):p:=h
theorem oI{p:Prop}(h:p:=by simp only[intOf];omega):p:=h
theorem pC{p:Prop}(h:p:=by push_cast;rfl):p:=h
theorem dC{p:Prop}(h:p:=by decide):p:=h
theorem sM{p:Prop}(h:p:=by simp):p:=h
theorem oA{p q:Prop}(a:q)(h:q->p:=by intro;omega):p:=h a
theorem oB{p q r:Prop}(a:q)(b:r)(h:q->r->p:=by intros;omega):p:=h a b
theorem xE{α:Sort _}(a:α):∃b,b=a:=⟨a,rfl⟩
instance:Coe Int Value:=⟨fun x=>.int .i64 x⟩
instance cN:Coe Nat Value:=⟨fun x=>.int .i64 (x:Int)⟩
instance cA:Coe Nat Addr:=⟨fun x=>⟨x,0,none⟩⟩
instance cP:Coe Addr Value:=⟨fun x=>.pointer (some x)⟩
instance cW:Coe World Nat:=⟨fun w=>w.heap.size⟩
instance cU:Coe Unit Value:=⟨fun _=>.slice none 0 0⟩
instance cL:Coe (List Int) Nat:=⟨fun x=>x.length⟩
instance cM:Coe (List (List Int)) Nat:=⟨fun x=>x.length⟩
instance cB:Coe (List Value) Nat:=⟨fun x=>x.length⟩
instance cC:Coe (List (List Value)) Nat:=⟨fun x=>x.length⟩
instance cD:Coe (List Nat) Nat:=⟨fun x=>x.length⟩
theorem dT{p:Prop}[Decidable p](h:p:=by omega):decide p=true:=decide_eq_true h
theorem dF{p:Prop}[Decidable p](h:¬p:=by omega):decide p=false:=decide_eq_false h
abbrev iN:=@if_neg
abbrev iP:=@if_pos
abbrev dE:=@decide_eq_true
abbrev dG:=@decide_eq_false
abbrev eA:=@beq_eq_false_iff_ne
abbrev eB:=@bne_eq_false_iff_eq
abbrev eC:=@bne_iff_ne
abbrev eD:=@beq_iff_eq
abbrev eE:=@List.getElem?_cons_zero
abbrev eF:=@List.getElem?_cons_succ
abbrev eG:=@List.length_replicate
abbrev eH:=@List.eq_nil_of_length_eq_zero
abbrev eI:=@List.mem_iff_getElem
abbrev eJ:=@Decidable.byContradiction
abbrev eK:=@List.ext_getElem
abbrev eL:=@List.getElem?_append_right
abbrev eM:=@Int.emod_lt_of_pos
abbrev eN:=@Int.emod_nonneg
theorem aB{a b:Prop}(h:a)(k:¬a):b:=absurd h k
abbrev OA:=Option Addr
abbrev By:=ByteArray
abbrev Wo:=World
abbrev Va:=Value
instance gA{α:Type}:CoeFun (List α) (fun _=>Nat->α->α):=⟨List.getD⟩
instance gE{α:Type}:CoeFun (Array α) (fun _=>Nat->α->α):=⟨Array.getD⟩
instance cE:Coe (List Bool) Nat:=⟨fun x=>x.length⟩
instance gC:CoeFun Nat (fun _=>Nat->Option Nat->Addr):=⟨Addr.mk⟩
structure ZT where
abbrev z0:ZT:={}
instance gD:Coe ZT Value:=⟨fun _=>.int .i64 0⟩
abbrev aV:=Value
abbrev aA:=Addr
