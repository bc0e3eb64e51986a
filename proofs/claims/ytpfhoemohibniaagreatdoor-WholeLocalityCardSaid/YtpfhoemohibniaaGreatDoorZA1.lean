/- Texts of a claim, merged: words, plain facts and walks that the last of its texts uses. -/
import Derived.Lib.Hide
namespace Go.Proofs.YtpfhoemohibniaaGreatDoor
open Go.RowKit
abbrev LI:=List Int
abbrev LL:=List (List Int)
theorem zr{n:Nat}:n<=n:=Nat.le_refl n
theorem zh{p:Prop}(h:p):Hid p:=h
abbrev aZ0:=@Option.some.inj
abbrev aZ1:=@List.length_append
abbrev aZ2:=@List.length_singleton
abbrev aZ3:=@List.getElem?_eq_getElem
abbrev aZ4:=@List.getD_eq_getElem?_getD
abbrev aZ5:=@Nat.zero_le
abbrev aZ6:=@Nat.le_trans
abbrev aZ8:=@Int.toNat_natCast
abbrev aZ9:=@List.length_set
abbrev aY0:=@Classical.byContradiction
abbrev aY1:=@Nat.lt_of_lt_of_le
abbrev aY2:=@List.getElem?_append_left
abbrev aY3:=@List.length_take
abbrev aY4:=@List.getElem?_eq_none
abbrev aY5:=@Nat.not_lt_zero
abbrev aY6:=@List.getElem_mem
abbrev aY7:=@List.length_map
abbrev aY8:=@Int.mul_assoc
abbrev aY9:=@Bool.and_eq_true
end Go.Proofs.YtpfhoemohibniaaGreatDoor
