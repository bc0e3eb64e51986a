/- Parts. -/
import Derived.Test.YtnpfliklhbkonaaGreatDoorZA1
import Derived.Test.YtnpfliklhbkonaaGreatDoorProg
import Derived.WalkKit
import Derived.Deep.Draws
import Derived.Deep.OwnRows
import Derived.Lib.Hide
import Derived.Test.YtnpfliklhbkonaaGreatDoorRows
import Derived.ProofKit
import Derived.OpenShut
import Derived.ShutString
import Derived.ChangeOld
import Derived.Below
import Derived.SizedLaws
import Derived.Deep.Slices
import Derived.Lib.SmallJoins
import Derived.Maps.AppendAt
import Derived.Deep.RegionLawGrows
import Derived.WalkSpells
import Derived.Lib.LazyBuf
import Derived.Laws.CopyOwn
import Derived.Deep.QuietTactic
import Derived.BigQuiet
import Derived.StillTailTactics
import Derived.Deep.DeepMust
import Derived.OrdersHeld
import Derived.StillTail
import Derived.Deep.RegionHeld3
import Derived.BigRegion
set_option maxRecDepth 99999
set_option maxHeartbeats 0
set_option linter.unusedSimpArgs false
set_option linter.unusedVariables false
namespace Go.Proofs.YtnpfliklhbkonaaGreatDoor
open Go.Proofs.Tryz
section
open Go.RowKit
theorem aG{p:Prop}(h:p):Hid p:=h
theorem dQ(a:Addr)(n:Nat):(a.add n).block=a.block:=by unfold Addr.add;split<;>rfl
theorem L1(a:Addr)(i j:Nat):(a.add i).add j=a.add (i+j):=by unfold Addr.add;by_cases hi:i=0<;>by_cases A:j=0<;>simp[hi,A,Nat.add_assoc]
def I64(x:Int):Prop:= -9223372036854775808<=x/\x<=9223372036854775807
theorem I64.of_small{x:Int}(A: -1000000000000000<=x)(B:x<=1000000000000000):I64 x:=⟨om,om⟩
theorem I64.zero:I64 0:=I64.of_small om om
theorem I64.of_wf{x:Int}(h:(Lit.int .i64 x).wf=true):I64 x:=by simp[Lit.wf,IntKind.min,IntKind.max,IntKind.signed,IntKind.bits] at h;exact⟨om,om⟩
structure uZ(w:Wo)(A:OA)(c:Nat)(xs:LI):Prop where
 len:xs.length<=17592186044416
 cap:xs<=c
 cell:∀k,k<xs.length->∃ad,A=some ad/\w.cell? (ad.add k)=some (.int .i64 (xs k 0))
 wf:∀k,I64 (xs k 0)
def SI(w:Wo)(v:Va)(xs:LI):Prop:=∃A c,v=.slice A xs c/\uZ w A c xs
theorem uZ.keep{w w':Wo}{A:OA}{c:Nat}{xs:LI}(h:uZ w A c xs)(hk:∀p:Addr,p.block<w.heap.size->w'.cell? p=w.cell? p):uZ w' A c xs:=
 ⟨h.len,h.cap,fun k D=>by obtain⟨C,e,B⟩:=h.cell k D;exact⟨C,e,(hk _ (World.block_lt_of_cell? _ _ B)).trans B⟩,h.wf⟩
theorem uZ.below{w w':Wo}{A:OA}{c B:Nat}{xs:LI}(h:uZ w A c xs)(C:Below B w w')(hB:w<=B):uZ w' A c xs:=
 h.keep fun _ D=>C.cell (aY1 D hB)
theorem SI.below{w w':Wo}{v:Va}{B:Nat}{xs:LI}(h:SI w v xs)(C:Below B w w')(hB:w<=B):SI w' v xs:=by obtain⟨A,c,rfl,h⟩:=h;exact⟨A,c,rfl,h.below C hB⟩
theorem uZ.grown{w w':Wo}{A:OA}{c:Nat}{xs:LI}{row:Option Nat}(h:uZ w A c xs)(E:w.grownBy w' row)(H:∀g,(Value.slice A xs c).ownBlock=some g->row≠some g):uZ w' A c xs:=
 ⟨h.len,h.cap,fun k F=>by obtain⟨B,e,C⟩:=h.cell k F;refine⟨B,e,?_⟩;have G:=World.block_lt_of_cell? _ _ C;rw[World.cell?_of_block (w:=w) (E.block _ G (fun D=>H (B.add k).block (by rw[dQ,e];rfl) D.symm))];exact C,h.wf⟩
theorem uZ.elt{w:Wo}{A:OA}{c:Nat}{xs:LI}(h:uZ w A c xs){k:Nat}(hk:k<xs):∃B x,A=some B/\w.cell? (B.add k)=some (.int .i64 x)/\Hid (I64 x)/\Hid (xs k 0=x):=by obtain⟨B,e,C⟩:=h.cell k hk;exact⟨B,_,e,C,h.wf k,rfl⟩
theorem zB(a:Addr):a.add 0=a:=by simp[Addr.add]
theorem SI.none_(w:Wo):SI w (():aV) []:=⟨none,0,rfl,by simp,by simp,fun k hk=>aB hk sM,fun k=>by simp[I64]⟩
structure BO(w:Wo)(A:OA)(c:Nat)(xss:LL):Prop where
 len:xss.length<=17592186044416
 cap:xss<=c
 cell:∀k,k<xss.length->∃ad u,A=some ad/\w.cell? (ad.add k)=some u/\SI w u (xss k [])
def SS(w:Wo)(v:Va)(xss:LL):Prop:=∃A c,v=.slice A xss c/\BO w A c xss
theorem SI.keep{w w':Wo}{v:Va}{xs:LI}(h:SI w v xs)(hk:∀p:Addr,p.block<w.heap.size->w'.cell? p=w.cell? p):SI w' v xs:=by obtain⟨A,c,rfl,h⟩:=h;exact⟨A,c,rfl,h.keep hk⟩
theorem BO.keep{w w':Wo}{A:OA}{c:Nat}{xss:LL}(h:BO w A c xss)(hk:∀p:Addr,p.block<w.heap.size->w'.cell? p=w.cell? p):BO w' A c xss:=
 ⟨h.len,h.cap,fun k D=>by obtain⟨C,u,e,B,E⟩:=h.cell k D;exact⟨C,u,e,(hk _ (World.block_lt_of_cell? _ _ B)).trans B,E.keep hk⟩⟩
theorem BO.below{w w':Wo}{A:OA}{c B:Nat}{xss:LL}(h:BO w A c xss)(C:Below B w w')(hB:w<=B):BO w' A c xss:=
 h.keep fun _ D=>C.cell (aY1 D hB)
theorem SS.below{w w':Wo}{v:Va}{B:Nat}{xss:LL}(h:SS w v xss)(C:Below B w w')(hB:w<=B):SS w' v xss:=by obtain⟨A,c,rfl,h⟩:=h;exact⟨A,c,rfl,h.below C hB⟩
theorem SS.none_(w:Wo):SS w (():aV) []:=⟨none,0,rfl,by simp,by simp,fun k hk=>aB hk sM⟩
theorem BO.elt{w:Wo}{A:OA}{c:Nat}{xss:LL}(h:BO w A c xss){k:Nat}(hk:k<xss):
 ∃C B D xs,A=some C/\w.cell? (C.add k)=some (.slice B xs.length D)/\Hid (uZ w B D xs)/\Hid (xss k []=xs):=by
 obtain⟨C,u,e,E,B,D,G,F⟩:=h.cell k hk;subst G;exact⟨C,B,D,_,e,E,F,rfl⟩
theorem uZ.si{w:Wo}{A:OA}{c:Nat}{xs:LI}(h:uZ w A c xs):SI w (.slice A xs c) xs:=⟨A,c,rfl,h⟩
def OI(B:Nat)(w:Wo)(v:Va)(xs:LI):Prop:=w.ownsRow B 3 1 v xs (xs.map (Value.int .i64))
theorem OI.nil(B:Nat)(w:Wo):OI B w (():aV) []:=World.ownsRow_nil w B 3 1
theorem OI.si{B:Nat}{w:Wo}{v:Va}{xs:LI}(h:OI B w v xs)(E:xs.length<=17592186044416)(F:∀k,I64 (xs k 0)):SI w v xs:=by
 have D:=h.2;rcases D with⟨rfl,C⟩|⟨g,A,G,rfl,_,_,hn,_,_,_⟩
 .obtain rfl:xs=[]:=eH C;exact SI.none_ w
 .refine⟨some (g:aA),A,rfl,E,hn,fun k hk=>⟨_,rfl,?_⟩,F⟩;refine World.ownsRow.cells h (g:=g) rfl k _ ?_;simp[hk]
theorem OI.form{B:Nat}{w:Wo}{v:Va}{xs:LI}(h:OI B w v xs)(G:0<xs.length):∃g c,v=.slice (some ⟨g,0,none⟩) xs c/\B<=g/\g<w.heap.size:=by
 rcases h.2 with⟨rfl,F⟩|⟨g,A,E,rfl,C,D,_⟩
 .omega
 .exact⟨g,A,rfl,C,(Array.getElem?_eq_some_iff.1 D).1⟩
theorem OI.cell{B:Nat}{w:Wo}{g n c:Nat}{xs:LI}(h:OI B w (.slice g n c) xs)(k:Nat)(hk:k<xs):w.cell? ⟨g,k,none⟩=some (.int .i64 (xs k 0)):=by
 have hn:n=xs:=by
  rcases h.2 with⟨A,_⟩|⟨E,C,D,A,_⟩
  .simp at A
  .simp at A;exact A.2.1
 subst hn;have:=World.ownsRow.cellAt h k om;rw[this];simp[hk]
theorem OI.frozen{B:Nat}{w:Wo}{g n c:Nat}{xs:LI}(h:OI B w (.slice g n c) xs)(k:Nat):w.frozen? ⟨g,k,none⟩=false:=by
 have hn:n=xs:=by
  rcases h.2 with⟨A,_⟩|⟨E,C,D,A,_⟩
  .simp at A
  .simp at A;exact A.2.1
 subst hn;exact World.ownsRow.frozenAt h k
theorem OI.set{B:Nat}{w:Wo}{g n c:Nat}{xs:LI}(h:OI B w (.slice g n c) xs)(k:Nat)(x:Int):OI B (w.setCell ⟨g,k,none⟩ (x:aV)) (.slice g n c) (xs.set k x):=by
 have hn:n=xs:=by
  rcases h.2 with⟨A,_⟩|⟨E,C,D,A,_⟩
  .simp at A
  .simp at A;exact A.2.1
 subst hn;have:=(World.ownsRow.stored h k (x:aV)).1;unfold OI;simpa[List.map_set] using this
theorem OI.keep{B:Nat}{w w':Wo}{v:Va}{xs:LI}(h:OI B w v xs)(hk:∀g,v.ownBlock=some g->w'.heap[g]?=w.heap[g]?):OI B w' v xs:=by
 refine⟨h.1,?_⟩;rcases h.2 with hn|⟨g,A,C,rfl,D,E,rest⟩
 .exact .inl hn
 .exact .inr ⟨g,A,C,rfl,D,(hk g rfl).trans E,rest⟩
theorem OI.lt{B:Nat}{w:Wo}{v:Va}{xs:LI}(h:OI B w v xs){g:Nat}(A:v.ownBlock=some g):B<=g/\g<w.heap.size:=World.ownsRow.lt h g A
theorem OI.below{B B':Nat}{w w':Wo}{v:Va}{xs:LI}(h:OI B w v xs)(A:Below B' w w')(hB:w<=B'):OI B w' v xs:=
 h.keep fun g C=>A.block g (oA (h.lt C))
theorem OI.grown{B:Nat}{w w':Wo}{v:Va}{xs:LI}{row:Option Nat}(h:OI B w v xs)(C:w.grownBy w' row)(D:∀g,v.ownBlock=some g->row≠some g):OI B w' v xs:=
 h.keep fun g A=>C.block g (h.lt A).2 (fun e=>D g A e.symm)
theorem OI.mono{B B':Nat}{w:Wo}{v:Va}{xs:LI}(h:OI B w v xs)(hB:B'<=B):OI B' w v xs:=by
 refine⟨h.1,?_⟩;rcases h.2 with hn|⟨g,A,C,rfl,E,D,rest⟩
 .exact .inl hn
 .exact .inr ⟨g,A,C,rfl,om,D,rest⟩
theorem infoInt:(prog.info? 3).map (fun i=>(i.zero,i.size,i.bytes))=some (some (z0:aV),1,8):=by kernel_rfl
theorem dX(n:Nat)(h:n<=35184372088832)(w:Wo):(Instr.makeSlice 22 (n:aV) (n:aV)).run prog w=
 .ok (.slice w n n) (w.alloc (.cells (madeCells #[z0] n) 3)):=
 run_make_row' (P:=prog) 22 3 (z0:aV) 8 underlying22 infoInt rfl .i64 .i64 n om om w
theorem OI.made{B:Nat}(w:Wo)(n:Nat)(hB:B<=w)(h:n<=35184372088832):OI B (w.alloc (.cells (madeCells #[z0] n) 3)) (.slice w n n) (List.replicate n 0):=by have:=World.ownsRow_lit (base:=B) (e:=3) (size:=1) w (madeCells #[z0] n) n hB (by unfold maxLen;omega) (by simp[size_madeCells]);unfold OI;rw[toList_madeCells_one] at this;simpa using this
theorem OI.empty{B:Nat}(w:Wo)(hB:B<=w):OI B (w.alloc (.cells #[] 3)) (.slice w 0 0) []:=by have:=World.ownsRow_lit (base:=B) (e:=3) (size:=1) w #[] 0 hB (by unfold maxLen;omega) rfl;unfold OI;simpa using this
theorem OI.lit{B:Nat}(w:Wo)(xs:LI)(hB:B<=w)(h:xs.length<=17592186044416):OI B (w.alloc (.cells (xs.map (Value.int .i64)).toArray 3)) (.slice w xs xs) xs:=by have:=World.ownsRow_lit (base:=B) (e:=3) (size:=1) w (xs.map (Value.int .i64)).toArray xs hB (by unfold maxLen;omega) sM;unfold OI;simpa using this
theorem SI.lit(w:Wo)(xs:LI)(h:xs.length<=17592186044416)(A:∀k,I64 (xs k 0)):SI (w.alloc (.cells (xs.map (Value.int .i64)).toArray 3)) (.slice w xs xs) xs:=
 (OI.lit (B:=0) w xs (aZ5 _) h).si h A
theorem OI.alloc{B:Nat}{w:Wo}{v:Va}{xs:LI}(h:OI B w v xs)(o:Obj):OI B (w.alloc o) v xs:=World.ownsRow.alloc h o
theorem sH{ops:Array Oper}{rest:List Oper}{o:Oper}{a:Act}{w:Wo}{Q:Exit->Act->Wo->Prop}(G:o.guard=none)(s x:Operand)
 (H:o.op=.call {callee:=.builtin .append,args:=#[s,x],argTypes:=#[22,22]})
 (B:Nat)(v:Va)(xs:LI)(J:a.eval s=v)(I:OI B w v xs)(g c:Nat)(y:Int)(K:a.eval x=.slice g 1 c)(F:w.cell? g=some (y:aV))
 (P:xs.length+1<=17592186044416)(hB:B<=w)
 (h:∀v' w',OI B w' v' (xs++[y])->w.grownBy w' v.ownBlock->wpList prog ops Q rest (a.put o.dst v') w'):wpList prog ops Q (o::rest) a w:=by
 obtain⟨O,hi,L,M,N⟩:=info_parts infoInt;refine wpList_append_own w G s x 22 H B 3 O (z0:aV) 1 8 underlying22 hi L M N rfl dC v xs (xs.map (Value.int .i64)) J I (g:aA) 1 c [(y:aV)] K rfl ?_ ?_ ?_ ?_ hB ?_
 .intro j u A
  match j,A with
  |0,A=>simp at A;subst A;simpa[Addr.add] using F
 .intro u C;simp at C;subst C;rfl
 .unfold maxLen;omega
 .omega
 .intro v' w' D E _;refine h v' w' ?_ E;unfold OI;simpa using D
theorem OI.bgrown{B:Nat}{w0 w w':Wo}{v:Va}{xs:LI}(h:OI B w v xs)(A:Below B w0 w)(hB:B<=w)(C:w.grownBy w' v.ownBlock):Below B w0 w':=
 A.grown C hB fun k hk=>(h.lt hk).1
theorem bE(w:Wo):Below w w w:=Below.refl _ _
theorem aH(w:Wo)(o:Obj):Below w w (w.alloc o):=(Below.refl _ _).alloc zr o
theorem aI(w:Wo):Below w w w.drew:=(Below.refl _ _).drew
theorem aY(w:Wo)(n:Nat):Below w w (w.drewN n):=⟨rfl,rfl,rfl,zr,fun _ _=>rfl⟩
theorem aC{w w1 w2:Wo}(h:Below w w w1)(A:Below w1 w1 w2):Below w w w2:=h.trans (A.mono h.size)
theorem VJ{W w1:Wo}(A:Below W W w1):(∀b o,b<W.heap.size->w1.cell? ⟨b,o,none⟩=W.cell? ⟨b,o,none⟩)/\(∀b o,b<W.heap.size->w1.frozen? ⟨b,o,none⟩=W.frozen? ⟨b,o,none⟩):=
 ⟨fun b o h=>A.cell (p:=⟨b,o,none⟩) h,fun b o h=>A.frozen (p:=⟨b,o,none⟩) h⟩
def kV(w:Wo)(z:Int)(e:Ending)(w':Wo):Prop:=e=.returned (z:aV)/\Below w w w'
def nX(w:Wo)(z:Bool)(e:Ending)(w':Wo):Prop:=e=.returned (.bool z)/\Below w w w'
def New(w:Wo)(u:Va):Prop:=∀g,u.ownBlock=some g->w.heap.size<=g
theorem New.nil(w:Wo)(n c:Nat):New w (.slice none n c):=fun g h=>by simp[Value.ownBlock] at h
theorem OI.new{B:Nat}{w w':Wo}{v:Va}{xs:LI}(h:OI B w' v xs)(hB:w<=B):New w v:=fun g A=>aZ6 hB (h.lt A).1
section bits
theorem FV(a:Nat)(A:a<9223372036854775808):(BitVec.ofInt 64 (a:Int)).toNat=a:=by rw[BitVec.ofInt_natCast,BitVec.toNat_ofNat];exact Nat.mod_eq_of_lt om
theorem J4(a b:Nat)(A:a<9223372036854775808)(B:b<9223372036854775808):bits .xor .i64 (a:Int) (b:Int)=((a^^^b:Nat):Int):=by have C:a^^^b<2^63:=Nat.xor_lt_two_pow om om;show IntKind.i64.wrap ((BitVec.ofInt 64 (a:Int)^^^BitVec.ofInt 64 (b:Int)).toNat:Int)=_;rw[BitVec.toNat_xor,FV a A,FV b B,IntKind.wrap_i64];omega
end bits
theorem tz:(∀{α:Type} {xs:List α} {i:Nat} (h:i<xs.toArray.size),xs.toArray[i]=xs[i])/\(∀{α:Type} {a:α} {l:List α} (h:0<(a::l).length),(a::l)[0]=a)/\(∀{α:Type} {a:α} {l:List α} {i:Nat} (h:i+1<(a::l).length),(a::l)[i+1]=l[i]'(Nat.lt_of_succ_lt_succ h))/\(∀{α:Type} {l:List α} {i:Nat} {v:α},l.toArray.setIfInBounds i v=(l.set i v).toArray)/\(∀{α:Type} {a:α} {l:List α} {v:α},(a::l).set 0 v=v::l)/\(∀{α:Type} {a:α} {l:List α} {n:Nat} {v:α},(a::l).set (n+1) v=a::l.set n v)/\(∀(a:Act) (k:Nat) (v:Value),a.put (some k) v={a with tmps:=a.tmps.setIfInBounds k v})/\(∀(a:Act) (v:Value),a.put none v=a):=
 ⟨fun _=>rfl,fun _=>rfl,fun _=>rfl,List.setIfInBounds_toArray ..,rfl,rfl,fun _ _ _=>rfl,fun _ _=>rfl⟩
theorem tdg{α:Type}{l:List α}{i:Nat}:l.toArray[i]?=l[i]?:=List.getElem?_toArray ..
theorem tdh{α:Type}{a:α}{l:List α}{i:Nat}:(a::l)[i+1]?=l[i]?:=rfl
theorem tdi{α:Type}{a:α}{l:List α}:(a::l)[0]?=some a:=rfl
end
section
open Go.ChangeShapes Go.WideShapes Go.ChangeAt Go.RowKit
theorem own:ownKnob prog.godebug=none:=by kernel_rfl
theorem O3:laidOutB prog=true:=by kernel_rfl
theorem VS:prog.cellsOf 3=1:=by kernel_rfl
theorem VP:prog.bytesOf 3=8:=by kernel_rfl
section
variable {H:Type} {enc:TypeId×Va->H} {W:Wo} {base:Nat} {held:Bool}
theorem vJ {fuel : Nat} {cs : List Va} {d : DataW H} {p : List MemPlace} (h : DataW.trod enc prog W base (fun _ => true) held fuel 22 cs = some (d, p))
 (G:∀n∈d.weights prog 22,n<=reachBytes):∃v xs,cs=[v]/\SI W v xs:=by
 rcases open_ints underlying22 underlying3 VS h with⟨rfl,_⟩|⟨a,A,C,B,rfl,_,K,L,J,D,E,I⟩
 .exact⟨_,[],rfl,SI.none_ W⟩
 .simp only[if_true] at J;simp only[Prod.mk.injEq] at D;obtain⟨rfl,_⟩:=D;have F:C*8<=reachBytes:=by
   have:=G ((((lits (H:=H) .i64 (B.take A)).length)+((lits (H:=H) .i64 (B.drop A)).length))*prog.bytesOf 3) (by simp[DataW.weights,underlying22]);rw[VP] at this;simp only[lits,aY7,aY3,List.length_drop] at this;omega
  simp only[reachBytes] at F;have e:(B.take A).length=A:=by rw[aY3];omega
  refine⟨.slice (some a) A C,B.take A,rfl,some a,C,by rw[e],om,om,fun k hk=>⟨a,rfl,?_⟩,fun k=>?_⟩
  .rw[e] at hk;rw[E k om];simp[List.getD,List.getElem?_take,hk]
  .by_cases hk:k<(B.take A).length
   .rw[aZ4,aZ3 hk,Option.getD_some];exact I64.of_wf (I _ (List.mem_of_mem_take (aY6 hk)))
   .rw[aZ4,aY4 om];exact I64.zero
theorem QE:prog.bytesOf 22=24:=by kernel_rfl
theorem QJ:prog.cellsOf 22=1:=by kernel_rfl
theorem tU{e:TypeId}{d:DataW H}{n:Nat}:∀{l:List (DataW H)},d∈l->n∈d.weights prog e->n∈DataW.weightsAll prog e l
 |x::r,A,hn=>by
  simp only[DataW.weightsAll,List.mem_append];rcases List.mem_cons.1 A with rfl|A
  .exact .inl hn
  .exact .inr (tU A hn)
theorem EQ {fuel : Nat} {cs : List Va} {d : DataW H} {p : List MemPlace} (h : DataW.trod enc prog W base (fun _ => true) held fuel 25 cs = some (d, p))
 (G:∀n∈d.weights prog 25,n<=reachBytes):∃v xss,cs=[v]/\SS W v xss:=by
 rcases Go.Deep.open_slice1 underlying25 QJ h with⟨rfl,_⟩|⟨a,A,B,m,n,V,D,P,rfl,_,Q,R,C,I,E⟩
 .exact⟨_,[],rfl,SS.none_ W⟩
 .simp only[if_true] at C;have N:=C.symm;subst N;simp only[Prod.mk.injEq] at I;obtain⟨rfl,_⟩:=I;have O:B*24<=reachBytes:=by
   have:=G ((((List.range A).map D).length+((List.range (B-A)).map fun j=>D (A+j)).length)*prog.bytesOf 22) (by simp[DataW.weights,underlying25]);rw[QE] at this;simp only[aY7,List.length_range] at this;rw[show A+(B-A)=B from om] at this;exact this
  simp only[reachBytes] at O;have K:∀k,k<A->∃xs,SI W (V k) xs:=fun k hk=>by
   obtain⟨v',xs,M,F⟩:=vJ (E k om).2 (fun n hn=>G n (by simp only[DataW.weights,underlying25,List.mem_cons,List.mem_append];exact .inr (.inl (tU (List.mem_map.2 ⟨k,List.mem_range.2 hk,rfl⟩) hn))));have e:V k=v':=(List.cons.inj M).1;rw[<-e] at F;exact⟨xs,F⟩
  obtain⟨X,L⟩:=Go.Deep.choose_lt K;have e:((List.range A).map X).length=A:=by simp
  refine⟨_,(List.range A).map X,rfl,some a,B,by rw[e],om,om,fun k hk=>?_⟩;rw[e] at hk;refine⟨a,V k,rfl,(E k om).1,?_⟩;have J:((List.range A).map X).getD k []=X k:=by simp[List.getD,hk]
  rw[J];exact L k hk
theorem ij{A:List TypeId}{ds:List (DataW H)}(h:(DataW.weightsEach prog A ds).all (·<=reachBytes)=true)(j:Nat){t:TypeId}{d:DataW H}(C:A[j]?=some t)(B:ds[j]?=some d):∀n∈d.weights prog t,n<=reachBytes:=fun n hn=>by have:=List.all_eq_true.1 h n (DataW.weights_mem_each C B n hn);simpa using this
theorem C6{t:TypeId}{v:Va}{d:DataW H}{p:List MemPlace}(h:DataW.Trod enc prog W base (fun _=>true) held t v d p):∀x∈p,x.block<W.heap.size:=by obtain⟨m,A⟩:=h;exact DataW.trod_lt m _ _ _ A
end
section
variable {H:Type} {enc:TypeId×Va->H} {W:Wo} {base:Nat} {held:Bool}
theorem lH{fuel:Nat}{v:Va}{x:DataW H×List MemPlace}(h:DataW.trod enc prog W base (fun _=>true) held fuel 3 [v]=some x):∃n,v=.int .i64 n/\I64 n:=by obtain⟨n,A,_,B⟩:=DataW.trod_int underlying3 h;exact⟨n,(List.cons.inj A).1,I64.of_wf B⟩
theorem pX{fuel:Nat}{v:Va}{x:DataW H×List MemPlace}(h:DataW.trod enc prog W base (fun _=>true) held fuel 22 [v]=some x)(C:∀n∈x.1.weights prog 22,n<=reachBytes):∃xs,SI W v xs:=by obtain⟨v',xs,B,A⟩:=vJ (d:=x.1) (p:=x.2) h C;have e:v=v':=(List.cons.inj B).1;rw[<-e] at A;exact⟨xs,A⟩
end
theorem lu{α:Type}{cs:List α}(h:cs.length=5):∃A B C D E,cs=[A,B,C,D,E]:=by
 match cs,h with
 |[A,B,C,D,E],_=>exact⟨A,B,C,D,E,rfl⟩
section
variable {H:Type} {enc:TypeId×Va->H} {W:Wo} {base:Nat} {held:Bool}
theorem N7 {t : TypeId} {A B C : Field} {fuel : Nat} {cs : List Va} {x : DataW H × List MemPlace} (K : prog.underlying t = some (.struct #[A, B, C])) (h : DataW.trod enc prog W base (fun _ => true) held fuel t cs = some x) :
 ∃D E F n,x=(.agg [D.1,E.1,F.1],D.2++(E.2++F.2))/\cs.length=prog.cellsOf t/\DataW.trod enc prog W base (fun _=>true) held n A.type ((cs.drop A.offset).take (prog.cellsOf A.type))=some D/\
  DataW.trod enc prog W base (fun _=>true) held n B.type ((cs.drop B.offset).take (prog.cellsOf B.type))=some E/\DataW.trod enc prog W base (fun _=>true) held n C.type ((cs.drop C.offset).take (prog.cellsOf C.type))=some F:=by
 obtain⟨xs,n,_,rfl,I,J,G⟩:=DataW.trod_struct K h
 match xs,J with
 |[D,E,F],_=>exact⟨D,E,F,n,by simp,I,by simpa using G 0 A rfl,by simpa using G 1 B rfl,by simpa using G 2 C rfl⟩
theorem EP{fuel:Nat}{v:Va}{x:DataW H×List MemPlace}(h:DataW.trod enc prog W base (fun _=>true) held fuel 25 [v]=some x)(C:∀n∈x.1.weights prog 25,n<=reachBytes):∃xss,SS W v xss:=by obtain⟨v',xss,B,A⟩:=EQ (d:=x.1) (p:=x.2) h C;have e:v=v':=(List.cons.inj B).1;rw[<-e] at A;exact⟨xss,A⟩
theorem QI:prog.cellsOf 27=5:=by kernel_rfl
theorem JF:prog.cellsOf 24=3:=by kernel_rfl
theorem zQ {fuel : Nat} {A B C : Va} {x : DataW H × List MemPlace} (h : DataW.trod enc prog W base (fun _ => true) held fuel 24 [A, B, C] = some x)
 (J:∀n∈x.1.weights prog 24,n<=reachBytes):∃P M Mq,A=.int .i64 P/\B=.int .i64 M/\SI W C Mq:=by
 obtain⟨L,N,O,n,K,_,E,F,G⟩:=N7 underlying24 h;subst K;obtain⟨P,rfl,_⟩:=lH (v:=A) E;obtain⟨M,rfl,_⟩:=lH (v:=B) F;have D:∀k,k∈DataW.weightsEach prog [3,3,22] [L.1,N.1,O.1]->k<=reachBytes:=fun k hk=>J k (by rw[DataW.weights,underlying24];exact hk);simp only[DataW.weightsEach,List.mem_append] at D;obtain⟨Mq,I⟩:=pX (v:=C) G fun k hk=>D k (by simp[hk]);exact⟨P,M,Mq,rfl,rfl,I⟩
theorem BA {fuel : Nat} {cs : List Va} {x : DataW H × List MemPlace} (h : DataW.trod enc prog W base (fun _ => true) held fuel 27 cs = some x)
 (T:∀n∈x.1.weights prog 27,n<=reachBytes):∃P M mv Mq n gv gen,cs=[.int .i64 P,.int .i64 M,mv,.int .i64 n,gv]/\I64 n/\SI W mv Mq/\SS W gv gen:=by
 obtain⟨F,V,X,n,U,E,K,O,Q⟩:=N7 underlying27 h;rw[QI] at E;obtain⟨G,I,B,J,C,rfl⟩:=lu E;subst U;have A:∀k,k∈DataW.weightsEach prog [24,3,25] [F.1,V.1,X.1]->k<=reachBytes:=fun k hk=>T k (by rw[DataW.weights,underlying27];exact hk);simp only[DataW.weightsEach,List.mem_append] at A;have L:DataW.trod enc prog W base (fun _=>true) held n 24 [G,I,B]=some F:=by have D:=K;simp only[JF] at D;exact D
 obtain⟨P,M,Mq,rfl,rfl,S⟩:=zQ L fun k hk=>A k (by simp[hk]);obtain⟨N,rfl,hn⟩:=lH (v:=J) O;obtain⟨gen,R⟩:=EP (v:=C) Q fun k hk=>A k (by simp[hk]);exact⟨P,M,B,Mq,N,C,gen,rfl,hn,S,R⟩
theorem SY {v : Va} {d : DataW H} {p : List MemPlace} {bs : Nat} (h : DataW.Trod enc prog W base (fun _ => true) held 27 v d p) (F : Value.okWide prog W .any bs 27 v)
 (G:∀n∈d.weights prog 27,n<=reachBytes):∃P M mv Mq n gv gen,v=.agg #[.int .i64 P,.int .i64 M,mv,.int .i64 n,gv]/\I64 n/\SI W mv Mq/\SS W gv gen:=by
 obtain⟨cs,rfl,I⟩:=okWide_struct underlying27 F;obtain⟨fuel,C⟩:=h;obtain⟨P,M,mv,Mq,n,gv,gen,B,hn,E,D⟩:=BA (x:=(d,p)) C G;refine⟨P,M,mv,Mq,n,gv,gen,?_,hn,E,D⟩;have e:cs=#[(P:aV),(M:aV),mv,(n:aV),gv]:=by have A:cs.toList=[(P:aV),(M:aV),mv,(n:aV),gv]:=B;rw[<-Array.toArray_toList (xs:=cs),A]
 rw[e]
end
theorem lr{α:Type}{cs:List α}(h:cs.length=3):∃A B C,cs=[A,B,C]:=by
 match cs,h with
 |[A,B,C],_=>exact⟨A,B,C,rfl⟩
section
variable {H:Type} {enc:TypeId×Va->H} {W:Wo} {base:Nat} {held:Bool}
theorem QK:prog.cellsOf 29=3:=by kernel_rfl
theorem vC {fuel : Nat} {cs : List Va} {x : DataW H × List MemPlace} (h : DataW.trod enc prog W base (fun _ => true) held fuel 29 cs = some x)
 (M:∀n∈x.1.weights prog 29,n<=reachBytes):∃pv perm sv sc fr,cs=[pv,sv,.int .i64 fr]/\I64 fr/\SI W pv perm/\SI W sv sc:=by
 obtain⟨O,P,Q,n,N,D,F,G,I⟩:=N7 underlying29 h;rw[QK] at D;obtain⟨B,C,E,rfl⟩:=lr D;subst N;have A:∀k,k∈DataW.weightsEach prog [22,22,3] [O.1,P.1,Q.1]->k<=reachBytes:=fun k hk=>M k (by rw[DataW.weights,underlying29];exact hk);simp only[DataW.weightsEach,List.mem_append] at A;obtain⟨perm,K⟩:=pX (v:=B) F fun k hk=>A k (by simp[hk]);obtain⟨sc,L⟩:=pX (v:=C) G fun k hk=>A k (by simp[hk]);obtain⟨fr,rfl,J⟩:=lH (v:=E) I;exact⟨B,perm,C,sc,fr,rfl,J,K,L⟩
theorem EO {v : Va} {d : DataW H} {p : List MemPlace} {bs : Nat} (h : DataW.Trod enc prog W base (fun _ => true) held 29 v d p) (E : Value.okWide prog W .any bs 29 v)
 (I:∀n∈d.weights prog 29,n<=reachBytes):∃pv perm sv sc fr,v=.agg #[pv,sv,.int .i64 fr]/\I64 fr/\SI W pv perm/\SI W sv sc:=by
 obtain⟨cs,rfl,J⟩:=okWide_struct underlying29 E;obtain⟨fuel,C⟩:=h;obtain⟨pv,perm,sv,sc,fr,B,D,F,G⟩:=vC (x:=(d,p)) C I;refine⟨pv,perm,sv,sc,fr,?_,D,F,G⟩;have e:cs=#[pv,sv,(fr:aV)]:=by have A:cs.toList=[pv,sv,(fr:aV)]:=B;rw[<-Array.toArray_toList (xs:=cs),A]
 rw[e]
end
end
section
open Go.RowKit
theorem WL{a w:Wo}{row:Option Nat}(h:a.grownBy w row)(n:Nat):a.grownBy (w.drewN n) row:=⟨h.os,h.tape,h.output,h.size,h.block⟩
theorem af{a w:Wo}{row:Option Nat}(h:a.grownBy w row):a.grownBy w.drew row:=⟨h.os,h.tape,h.output,h.size,h.block⟩
theorem WK{a w:Wo}{row:Option Nat}(h:a.grownBy w row)(o:Obj):a.grownBy (w.alloc o) row:=
 ⟨h.os,h.tape,h.output,aZ6 h.size sM,fun i hi A=>(Below.heap_alloc w o i (aY1 hi h.size)).trans (h.block i hi A)⟩
theorem aS{a w:Wo}{g:Nat}(h:a.grownBy w (some g)){p:Addr}(A:p.block=g\/a.heap.size<=p.block)(u:Va):a.grownBy (w.setCell p u) (some g):=
 ⟨h.os,h.tape,h.output,by simpa[World.setCell] using h.size,fun i hi B=>(Below.heap_setCell w p u i (by
  rintro rfl;rcases A with A|A
  .exact B (by rw[A])
  .omega)).trans (h.block i hi B)⟩
theorem aP{a w:Wo}(h:Below a a w)(row:Option Nat):a.grownBy w row:=⟨h.os,h.tape,h.output,h.size,fun i hi _=>h.block i hi⟩
theorem bB{a b c:Wo}{row:Option Nat}(h:a.grownBy b row)(k:b.grownBy c row):a.grownBy c row:=
 ⟨k.os.trans h.os,k.tape.trans h.tape,k.output.trans h.output,aZ6 h.size k.size,fun i hi A=>(k.block i (aY1 hi h.size) A).trans (h.block i hi A)⟩
theorem aE{w w':Wo}{a:Addr}{v:Va}(A:Below w w w')(h:w.cell? a=some v):w'.cell? a=some v:=(A.cell (World.block_lt_of_cell? _ _ h)).trans h
def sN(w:Wo)(xs:LI)(e:Ending)(w':Wo):Prop:=∃u,e=.returned u/\OI w w' u xs/\Below w w w'
theorem cb{w w':Wo}{p:Addr}{v:Va}(h:Hid (Below w w w'))(A:Hid (w.cell? p=some v)):w'.cell? p=some v:=aE h.out A.out
theorem infoInts:(prog.info? 22).map (fun i=>(i.zero,i.size,i.bytes))=some (some (():aV),1,24):=by kernel_rfl
theorem SI.lt{w:Wo}{v:Va}{xs:LI}(h:SI w v xs)(B:0<xs.length){g:Nat}(D:v.ownBlock=some g):g<w.heap.size:=by obtain⟨A,c,rfl,h⟩:=h;obtain⟨E,e,C⟩:=h.cell 0 B;subst e;have:=World.block_lt_of_cell? _ _ C;rw[dQ] at this;simp[Value.ownBlock] at D;omega
theorem SI.grown{w w':Wo}{v:Va}{xs:LI}{row:Option Nat}(h:SI w v xs)(C:w.grownBy w' row)(D:0<xs.length->∀g,v.ownBlock=some g->row≠some g):SI w' v xs:=by
 obtain⟨A,c,rfl,h⟩:=h;by_cases B:0<xs.length
 .exact⟨A,c,rfl,h.grown C (D B)⟩
 .exact⟨A,c,rfl,h.len,h.cap,fun k hk=>aB hk om,h.wf⟩
def OS(B:Nat)(X:Nat->Prop)(w:Wo)(v:Va)(xss:LL):Prop:=
 ∃us:List Va,w.ownsRow B 22 1 v xss us/\∀i,i<xss.length->∃u,us[i]?=some u/\SI w u (xss i [])/\
  (0<(xss i []).length->∀g,u.ownBlock=some g->v.ownBlock≠some g/\¬X g)
theorem OS.nil(B:Nat)(X:Nat->Prop)(w:Wo):OS B X w (():aV) []:=⟨[],World.ownsRow_nil w B 22 1,fun i hi=>aB hi sM⟩
theorem OS.lt{B:Nat}{X:Nat->Prop}{w:Wo}{v:Va}{xss:LL}(h:OS B X w v xss){g:Nat}(A:v.ownBlock=some g):B<=g/\g<w.heap.size:=by obtain⟨us,h,_⟩:=h;exact World.ownsRow.lt h g A
theorem OS.grown{B:Nat}{X:Nat->Prop}{w w':Wo}{v:Va}{xss:LL}{row:Option Nat}(h:OS B X w v xss)(A:w.grownBy w' row)(C:∀g,row=some g->v.ownBlock≠some g/\X g):OS B X w' v xss:=by
 obtain⟨us,H,hi⟩:=h;refine⟨us,World.ownsRow.kept H A ?_,fun i G=>?_⟩
 .cases row with
  |none=>cases hv:v.ownBlock<;>simp
  |some g=>exact .inr (C g rfl).1
 .obtain⟨u,J,I,D⟩:=hi i G;exact⟨u,J,I.grown A (fun E g F e=>(D E g F).2 (C g e).2),D⟩
theorem OS.below{B:Nat}{X:Nat->Prop}{w w':Wo}{v:Va}{xss:LL}(h:OS B X w v xss)(A:Below w w w'):OS B X w' v xss:=
 h.grown (aP A none) (fun g C=>by cases C)
theorem OS.alloc{B:Nat}{X:Nat->Prop}{w:Wo}{v:Va}{xss:LL}(h:OS B X w v xss)(o:Obj):OS B X (w.alloc o) v xss:=h.below (aH w o)
theorem OS.names{B:Nat}{X Y:Nat->Prop}{w:Wo}{v:Va}{xss:LL}(h:OS B X w v xss)(I:∀g,g<w.heap.size->Y g->X g):OS B Y w v xss:=by obtain⟨us,G,hi⟩:=h;refine⟨us,G,fun i F=>?_⟩;obtain⟨u,H,D,E⟩:=hi i F;exact⟨u,H,D,fun A g C=>⟨(E A g C).1,fun J=>(E A g C).2 (I g (D.lt A C) J)⟩⟩
theorem OS.mono{B B':Nat}{X:Nat->Prop}{w:Wo}{v:Va}{xss:LL}(h:OS B X w v xss)(hB:B'<=B):OS B' X w v xss:=by
 obtain⟨us,A,hi⟩:=h;refine⟨us,⟨A.1,?_⟩,hi⟩;rcases A.2 with hn|⟨g,C,D,rfl,F,E,rest⟩
 .exact .inl hn
 .exact .inr ⟨g,C,D,rfl,om,E,rest⟩
theorem OS.ss{B:Nat}{X:Nat->Prop}{w:Wo}{v:Va}{xss:LL}(h:OS B X w v xss)(F:xss.length<=17592186044416):SS w v xss:=by
 obtain⟨us,A,hi⟩:=h;have E:=A.2;rcases E with⟨rfl,D⟩|⟨g,C,I,rfl,_,_,hn,_,_,_⟩
 .obtain rfl:xss=[]:=eH D;exact SS.none_ w
 .refine⟨some (g:aA),C,rfl,F,hn,fun k hk=>?_⟩;obtain⟨u,H,G,_⟩:=hi k hk;exact⟨_,u,rfl,World.ownsRow.cells A (g:=g) rfl k u H,G⟩
theorem OS.form{B:Nat}{X:Nat->Prop}{w:Wo}{v:Va}{xss:LL}(h:OS B X w v xss):∃A c,v=.slice A xss c:=by
 obtain⟨us,D,_⟩:=h;rcases D.2 with⟨rfl,C⟩|⟨g,E,F,rfl,_⟩
 .exact⟨none,0,by rw[C]⟩
 .exact⟨_,_,rfl⟩
theorem OS.bgrown{B:Nat}{X:Nat->Prop}{w0 w w':Wo}{v:Va}{xss:LL}(h:OS B X w v xss)(A:Below B w0 w)(hB:B<=w)(C:w.grownBy w' v.ownBlock):Below B w0 w':=
 A.grown C hB fun k hk=>(h.lt hk).1
section
variable {ops:Array Oper} {rest:List Oper} {o:Oper} {a:Act} {w:Wo} {K:Act->Wo->Prop} {Q:Exit->Act->Wo->Prop} {E:Prop}
theorem LT(s x:Operand)
 (Z:o.op=.call {callee:=.builtin .append,args:=#[s,x],argTypes:=#[25,25]})
 (B:Nat)(X:Nat->Prop)(v:Va)(xss:LL)(k:a.eval s=v)(d:OS B X w v xss)(g c:Nat)(u:Va)(ys:LI)(m:a.eval x=.slice g 1 c)(V:w.cell? g=some u)
 (M:SI w u ys)(N:0<ys.length->∀g,u.ownBlock=some g->v.ownBlock≠some g/\¬X g)
 (z:xss.length+1<=4398046511104)(hB:B<=w)
 (h:∀v' w',OS B X w' v' (xss++[ys])->w.grownBy w' v.ownBlock->(v'.ownBlock=v.ownBlock\/v'.ownBlock=some w.heap.size)->K (a.put o.dst v') w'):o.wp prog a w K Q:=by
 obtain⟨r,hi,n,p,q⟩:=info_parts infoInts;obtain⟨us,R,Y⟩:=d;have b:u.oneCell'=true:=by obtain⟨A,t,rfl,_⟩:=M;rfl
 obtain⟨v',w',f,U,J,_,D⟩:=run_append_own_at (P:=prog) w B 25 o.type 22 r (():aV) 1 24 underlying25 hi n p q rfl dC v xss us R
  (g:aA) 1 c [u] rfl (by
   intro j y H
   match j,H with
   |0,H=>simp at H;subst H;simpa[Addr.add] using V) (by intro y I;simp at I;subst I;exact b) (by unfold maxLen;omega) om hB
 unfold Oper.wp execOp;simp only[Z,resolve,invoke,builtin,Sem.run_bind,Sem.run_pure,Result.andThen_ok,List.map_toArray,List.map_cons,List.map_nil,k,m,f];refine h v' w' ?_ J D;have l:us.length=xss.length:=by have:=R.1;omega
 refine⟨us++[u],by simpa using U,fun i W=>?_⟩;rw[aZ1,aZ2] at W;by_cases e:i<xss
 .obtain⟨y,I,S,O⟩:=Y i e;have L:(xss++[ys]).getD i []=xss i []:=by simp[List.getD,aY2 e]
  rw[L];refine⟨y,by rw[aY2 om];exact I,S.grown J (fun C F E=>(O C F E).1),fun C F E=>⟨?_,(O C F E).2⟩⟩;rcases D with D|D
  .rw[D];exact(O C F E).1
  .rw[D];intro G;have:=S.lt C E;injection G with G;omega
 .have T:i=xss:=om;subst T;have L:(xss++[ys]).getD xss []=ys:=by simp[List.getD]
  rw[L];refine⟨u,by rw[<-l];simp,M.grown J (fun C F E=>(N C F E).1),fun C F E=>⟨?_,(N C F E).2⟩⟩;rcases D with D|D
  .rw[D];exact(N C F E).1
  .rw[D];intro G;have:=M.lt C E;injection G with G;omega
theorem iB(F:o.guard=none)(s x:Operand)
 (H:o.op=.call {callee:=.builtin .append,args:=#[s,x],argTypes:=#[25,25]})
 (B:Nat)(X:Nat->Prop)(v:Va)(xss:LL)(J:a.eval s=v)(I:OS B X w v xss)(g c:Nat)(u:Va)(ys:LI)(N:a.eval x=.slice g 1 c)(E:w.cell? g=some u)
 (L:SI w u ys)(M:0<ys.length->∀g,u.ownBlock=some g->v.ownBlock≠some g/\¬X g)
 (G:xss.length+1<=4398046511104)(hB:B<=w)
 (h:∀v' w',OS B X w' v' (xss++[ys])->w.grownBy w' v.ownBlock->(v'.ownBlock=v.ownBlock\/v'.ownBlock=some w.heap.size)->wpList prog ops Q rest (a.put o.dst v') w'):wpList prog ops Q (o::rest) a w:=
 wpList_plain F fun K hK=>LT s x H B X v xss J I g c u ys N E L M G hB fun v' w' A C D=>hK _ _ (h v' w' A C D)
theorem sB(C:o.guard=none)(s x:Operand)
 (F:o.op=.call {callee:=.builtin .append,args:=#[s,x],argTypes:=#[25,25]})
 (B:Nat)(X:Nat->Prop)(v:Va)(xss:LL)(H:a.eval s=v)(G:OS B X w v xss)(g c:Nat)(u:Va)(ys:LI)(L:a.eval x=.slice g 1 c)(A:w.cell? g=some u)
 (I:SI w u ys)(J:0<ys.length->∀g,u.ownBlock=some g->v.ownBlock≠some g/\¬X g)
 (D:xss.length+1<=4398046511104)(hB:B<=w)
 (h:∀v' w',OS B X w' v' (xss++[ys])->w.grownBy w' v.ownBlock->(v'.ownBlock=v.ownBlock\/v'.ownBlock=some w.heap.size)->K (a.put o.dst v') w'):
 if Region.wanted o (yielded ops a.tmps)=true then Oper.wp prog o a w K Q else E:=by
 rw[iP (by simp[Region.wanted,C])];exact LT s x F B X v xss H G g c u ys L A I J D hB h
end
section
variable {ops:Array Oper} {rest:List Oper} {o:Oper} {a:Act} {w:Wo} {K:Act->Wo->Prop} {Q:Exit->Act->Wo->Prop} {E:Prop}
end
section
variable {ops:Array Oper} {rest:List Oper} {o:Oper} {a:Act} {w:Wo} {K:Act->Wo->Prop} {Q:Exit->Act->Wo->Prop} {E:Prop}
theorem PR(s x:Operand)
 (I:o.op=.call {callee:=.builtin .append,args:=#[s,x],argTypes:=#[22,22]})
 (B:Nat)(v:Va)(xs:LI)(J:a.eval s=v)(G:OI B w v xs)(u:Va)(ys:LI)(L:a.eval x=u)(D:SI w u ys)
 (d:xs.length+ys.length<=17592186044416)(hB:B<=w)
 (h:∀v' w',OI B w' v' (xs++ys)->w.grownBy w' v.ownBlock->(v'.ownBlock=v.ownBlock\/v'.ownBlock=some w.heap.size)->K (a.put o.dst v') w'):o.wp prog a w K Q:=by
 obtain⟨X,hi,U,V,W⟩:=info_parts infoInt;obtain⟨A,c,rfl,D⟩:=D;rcases A with _|M
 .have C:ys.length=0:=by
   rcases Nat.eq_zero_or_pos ys with C|C
   .exact C
   .obtain⟨_,e,_⟩:=D.cell 0 C;cases e
  obtain rfl:ys=[]:=eH C;have H:(Builtin.append_ #[22,22] o.type #[v,.slice none ([]:LI).length c]).run prog w=.ok v w:=by
   rcases G.2 with⟨rfl,C⟩|⟨g,Z,b,rfl,_,_,T,_⟩
   .simp[Builtin.append_,run_underlying underlying22,sizeOf,typeInfo,hi,Builtin.lenOf,Builtin.firstCells]
   .simp[Builtin.append_,run_underlying underlying22,sizeOf,typeInfo,hi,Builtin.lenOf,Builtin.firstCells,T,storeCells]
  unfold Oper.wp execOp;simp only[I,resolve,invoke,builtin,Sem.run_bind,Sem.run_pure,Result.andThen_ok,List.map_toArray,List.map_cons,List.map_nil,J,L,H];exact h v w (by simpa using G) (World.grownBy.refl _ _) (.inl rfl)
 .obtain ⟨v', w', H, N, O, _, R⟩ := run_append_own_at (P := prog) w B 22 o.type 3 X (z0:aV) 1 8 underlying22 hi U V W rfl dC v xs _ G
   M ys c (ys.map (Value.int .i64)) sM (by
    intro j y E;have F:j<ys:=by simpa using(List.getElem?_eq_some_iff.1 E).1
    obtain⟨Y,e,S⟩:=D.cell j F;injection e with e;subst e;rw[S];simp[F] at E;simp[List.getD,F,E]) (ints_oneCell _ _) (by unfold maxLen;omega) om hB
  unfold Oper.wp execOp;simp only[I,resolve,invoke,builtin,Sem.run_bind,Sem.run_pure,Result.andThen_ok,List.map_toArray,List.map_cons,List.map_nil,J,L,H];refine h v' w' ?_ O R;unfold OI;simpa using N
theorem kT(E:o.guard=none)(s x:Operand)
 (G:o.op=.call {callee:=.builtin .append,args:=#[s,x],argTypes:=#[22,22]})
 (B:Nat)(v:Va)(xs:LI)(I:a.eval s=v)(H:OI B w v xs)(u:Va)(ys:LI)(L:a.eval x=u)(J:SI w u ys)
 (F:xs.length+ys.length<=17592186044416)(hB:B<=w)
 (h:∀v' w',OI B w' v' (xs++ys)->w.grownBy w' v.ownBlock->(v'.ownBlock=v.ownBlock\/v'.ownBlock=some w.heap.size)->wpList prog ops Q rest (a.put o.dst v') w'):wpList prog ops Q (o::rest) a w:=
 wpList_plain E fun K hK=>PR s x G B v xs I H u ys L J F hB fun v' w' A C D=>hK _ _ (h v' w' A C D)
theorem qX(A:o.guard=none)(s x:Operand)
 (D:o.op=.call {callee:=.builtin .append,args:=#[s,x],argTypes:=#[22,22]})
 (B:Nat)(v:Va)(xs:LI)(G:a.eval s=v)(F:OI B w v xs)(u:Va)(ys:LI)(I:a.eval x=u)(H:SI w u ys)
 (C:xs.length+ys.length<=17592186044416)(hB:B<=w)
 (h:∀v' w',OI B w' v' (xs++ys)->w.grownBy w' v.ownBlock->(v'.ownBlock=v.ownBlock\/v'.ownBlock=some w.heap.size)->K (a.put o.dst v') w'):
 if Region.wanted o (yielded ops a.tmps)=true then Oper.wp prog o a w K Q else E:=by
 rw[iP (by simp[Region.wanted,A])];exact PR s x D B v xs G F u ys I H C hB h
end
theorem iH(w:Wo)(v:Va)(xs:LI)(h:SI w v xs):Calls prog 54 #[v] w (sN w xs):=by
 have H:=zh h;obtain⟨A,c,rfl,h⟩:=h;have I:=h.len;cases A with
 |none=>
  have C:xs=[]:=by
   rcases Nat.eq_zero_or_pos xs with C|C
   .exact eH C
   .obtain⟨_,e,_⟩:=h.cell 0 C;cases e
  subst C;clear h;have J:=fun(w:Wo) (l c:Nat)=>run_eql_slice_nil (P:=prog) w 22 3 none l c underlying22;go_enter func54,ntmps54;go_wp2;go_ret;exact⟨_,rfl,OI.nil _ _,bE _⟩
 |some ad=>
  clear h;have J:=fun(w:Wo) (l c:Nat)=>run_eql_slice_nil (P:=prog) w 22 3 (some ad) l c underlying22;go_enter func54,ntmps54;go_wp2_with (first|(at_builtin;refine kT rfl _ _ rfl w _ _ rfl (OI.empty w zr) _ xs rfl (H.below (aH _ _) zr) (by simpa using I) sM ?_;intro K w1 E D _))
  have G:=zh E;have F:=zh ((OI.empty (B:=w.heap.size) w zr).bgrown (aH _ _) sM D);clear E D;go_wp2;go_ret;exact⟨_,rfl,by simpa using G.out,F.out⟩
end
section
theorem J2{l:LI}(k:Nat)(h:k<l):l k 0∈l:=by rw[aZ4,aZ3 h];simp
def bZ(N:Nat)(f g:Nat->Int)(k:Nat):LI:=(List.range N).map fun p=>if p<k then f p else g p
def aT(N:Nat)(f:Nat->Int):LI:=(List.range N).map f
theorem aW(N:Nat)(f:Nat->Int):(aT N f).length=N:=by simp[aT]
theorem aK{N:Nat}{f:Nat->Int}{k:Nat}(h:k<N):(aT N f).getD k 0=f k:=by simp[aT,List.getD,h]
theorem rY{a:LI}{N:Nat}(h:a=N):aT N (fun p=>a p 0)=a:=by subst h;apply List.ext_getElem?;intro i;by_cases hi:i<a<;>simp[aT,hi]
theorem mC(N:Nat):aT N (fun _=>0)=List.replicate N 0:=by simp[aT,List.map_const']
theorem AW{N:Nat}{f g:Nat->Int}(h:∀p,p<N->f p=g p):aT N f=aT N g:=List.map_congr_left fun p A=>h p (by simpa using A)
theorem eT(N:Nat)(f g:Nat->Int):bZ N f g 0=aT N g:=by simp[bZ,aT]
theorem eR(N:Nat)(f g:Nat->Int):bZ N f g N=aT N f:=List.map_congr_left fun p A=>by rw[iP (by simpa using A)]
theorem fA(N:Nat)(f g:Nat->Int)(k:Nat):(bZ N f g k).length=N:=by simp[bZ]
theorem fK{N:Nat}{f g:Nat->Int}{k:Nat}(h:k<N):(bZ N f g k).getD k 0=g k:=by simp[bZ,List.getD,h]
theorem fQ{N:Nat}{f g:Nat->Int}{k:Nat}(h:k<N):(bZ N f g k).set k (f k)=bZ N f g (k+1):=by
 apply List.ext_getElem?;intro i;by_cases hi:i<N
 .by_cases e:k=i
  .subst e;simp[bZ,hi]
  .have A:(i<k+1)=(i<k):=by simp;omega
   simp[bZ,List.getElem?_set,e,hi,A]
 .simp[bZ,List.getElem?_set,hi]
theorem AI{N:Nat}{f g:Nat->Int}{k:Nat}(h:k<N->f k=g k):bZ N f g (k+1)=bZ N f g k:=
 List.map_congr_left fun p B=>by
  by_cases e:p=k
  .subst e;simp[h (by simpa using B)]
  .have A:(p<k+1)=(p<k):=by simp;omega
   simp[A]
theorem bG{a:LI}{k:Nat}(h:a<=k):a k 0=0:=by rw[aZ4,aY4 h];rfl
end
section
open Go.RowKit
def Blk(w:Wo)(g:Nat)(t:TypeId)(cs:List Va):Prop:=w.heap[g]?=some (.cells cs.toArray t (0,0))
section
variable {w w':Wo} {g:Nat} {t:TypeId} {cs:List Va}
theorem Blk.lt(h:Blk w g t cs):g<w.heap.size:=by
 rcases Nat.lt_or_ge g w with B|A
 .exact B
 .unfold Blk at h;rw[Array.getElem?_eq_none A] at h;cases h
theorem Blk.cell(h:Blk w g t cs)(i:Nat):w.cell? ⟨g,i,none⟩=cs[i]?:=by rw[cell_of_row w g i cs.toArray t (0,0) h];simp
theorem Blk.frozen(h:Blk w g t cs)(i:Nat):w.frozen? ⟨g,i,none⟩=false:=by unfold Blk at h;simp[World.frozen?,h]
theorem Blk.new(w:Wo)(t:TypeId)(cs:List Va):Blk (w.alloc (.cells cs.toArray t)) w t cs:=heap_alloc_new w _
theorem Blk.keep(h:Blk w g t cs)(e:w'.heap[g]?=w.heap[g]?):Blk w' g t cs:=e.trans h
theorem Blk.alloc(h:Blk w g t cs)(o:Obj):Blk (w.alloc o) g t cs:=(Below.heap_alloc w o g h.lt).trans h
theorem Blk.set_(h:Blk w g t cs)(i:Nat)(u:Va):Blk (w.setCell ⟨g,i,none⟩ u) g t (cs.set i u):=by unfold Blk at h|-;simp[World.setCell,Array.getElem?_modify,h]
theorem Blk.far(h:Blk w g t cs){p:Addr}(A:g≠p.block)(u:Va):Blk (w.setCell p u) g t cs:=(Below.heap_setCell w p u g A).trans h
theorem Blk.below{B:Nat}(h:Blk w g t cs)(A:Below B w w')(C:g<B):Blk w' g t cs:=(A.block g C).trans h
theorem Blk.belowS(h:Blk w g t cs)(A:Below w w w'):Blk w' g t cs:=h.below A h.lt
theorem Blk.grown{row:Option Nat}(h:Blk w g t cs)(A:w.grownBy w' row)(B:some g≠row):Blk w' g t cs:=(A.block g h.lt B).trans h
end
def RI(w:Wo)(g:Nat)(xs:LI):Prop:=Blk w g 3 (xs.map (Value.int .i64))
section
variable {w w':Wo} {g:Nat} {xs:LI}
theorem RI.made(w:Wo)(n:Nat):RI (w.alloc (.cells (madeCells #[z0] n) 3)) w (List.replicate n 0):=by
 have:=Blk.new w 3 (madeCells #[z0] n).toList;unfold RI;rw[toList_madeCells_one] at this;have e:(madeCells #[z0] n)=(List.replicate n (Value.int .i64 0)).toArray:=by rw[<-toList_madeCells_one]
 rw[e];simpa using this
theorem RI.set(h:RI w g xs)(k:Nat)(x:Int):RI (w.setCell ⟨g,k,none⟩ (x:aV)) g (xs.set k x):=by have:=Blk.set_ h k (x:aV);unfold RI;rwa[List.map_set]
theorem RI.cell(h:RI w g xs)(k:Nat)(hk:k<xs):w.cell? ⟨g,k,none⟩=some (.int .i64 (xs k 0)):=by rw[Blk.cell h k];simp[hk]
theorem RI.frozen(h:RI w g xs)(k:Nat):w.frozen? ⟨g,k,none⟩=false:=Blk.frozen h k
theorem RI.lt(h:RI w g xs):g<w.heap.size:=Blk.lt h
theorem RI.oi(h:RI w g xs){B:Nat}(hB:B<=g)(A:xs.length<=17592186044416):OI B w (.slice g xs xs) xs:=
 ⟨by simp,.inr ⟨g,xs.length,_,rfl,hB,h,zr,by unfold maxLen;omega,by simp,by rw[Nat.mul_one,List.take_of_length_le sM]⟩⟩
theorem RI.si(h:RI w g xs)(A:xs.length<=17592186044416)(C:∀k,I64 (xs k 0)):SI w (.slice g xs xs) xs:=
 (h.oi (B:=0) (aZ5 _) A).si A C
theorem RI.alloc(h:RI w g xs)(o:Obj):RI (w.alloc o) g xs:=Blk.alloc h o
theorem RI.belowS(h:RI w g xs)(A:Below w w w'):RI w' g xs:=Blk.belowS h A
theorem RI.grown{row:Option Nat}(h:RI w g xs)(A:w.grownBy w' row)(B:some g≠row):RI w' g xs:=Blk.grown h A B
theorem RI.drew(h:RI w g xs):RI w.drew g xs:=h
end
def RB(w:Wo)(g:Nat)(bs:List Bool):Prop:=Blk w g 4 (bs.map Value.bool)
theorem infoBool:(prog.info? 4).map (fun i=>(i.zero,i.size,i.bytes))=some (some (.bool false),1,1):=by kernel_rfl
theorem PN(n:Nat)(h:n<=35184372088832)(w:Wo):(Instr.makeSlice 180 (n:aV) (n:aV)).run prog w=
 .ok (.slice w n n) (w.alloc (.cells (madeCells #[.bool false] n) 4)):=
 run_make_row' (P:=prog) 180 4 (.bool false) 1 underlying180 infoBool rfl .i64 .i64 n om om w
section
variable {w w':Wo} {g:Nat} {bs:List Bool}
theorem RB.made(w:Wo)(n:Nat):RB (w.alloc (.cells (madeCells #[.bool false] n) 4)) w (List.replicate n false):=by
 have:=Blk.new w 4 (madeCells #[.bool false] n).toList;unfold RB;rw[toList_madeCells_one] at this;have e:(madeCells #[.bool false] n)=(List.replicate n (Value.bool false)).toArray:=by rw[<-toList_madeCells_one]
 rw[e];simpa using this
theorem RB.set(h:RB w g bs)(k:Nat)(x:Bool):RB (w.setCell ⟨g,k,none⟩ (.bool x)) g (bs.set k x):=by have:=Blk.set_ h k (.bool x);unfold RB;rwa[List.map_set]
theorem RB.cell(h:RB w g bs)(k:Nat)(hk:k<bs):w.cell? ⟨g,k,none⟩=some (.bool (bs k false)):=by rw[Blk.cell h k];simp[hk]
theorem RB.frozen(h:RB w g bs)(k:Nat):w.frozen? ⟨g,k,none⟩=false:=Blk.frozen h k
theorem RB.alloc(h:RB w g bs)(o:Obj):RB (w.alloc o) g bs:=Blk.alloc h o
theorem RB.belowS(h:RB w g bs)(A:Below w w w'):RB w' g bs:=Blk.belowS h A
theorem RB.grown{row:Option Nat}(h:RB w g bs)(A:w.grownBy w' row)(B:some g≠row):RB w' g bs:=Blk.grown h A B
end
theorem ZW{w:Wo}{u:Va}{t:TypeId}:(w.alloc (.cells #[u] t)).cell? w.heap.size=some u:=(Blk.new w t [u]).cell 0
theorem jZ{w:Wo}{B:Nat}(h:B<=w)(o:Obj):B<=(w.alloc o).heap.size:=aZ6 h (aH w o).size
structure EY(B:Nat)(w0 w:Wo)(v:Va)(xs:LI)(y:Int):Prop where
 own:OI B (w.alloc (.cells #[y] 3)) v xs
 box:(w.alloc (.cells #[y] 3)).cell? w.heap.size=some (y:aV)
 up:B<=(w.alloc (.cells #[y] 3)).heap.size
 bel:Below w0 w0 (w.alloc (.cells #[y] 3))
theorem EY.mk'{B:Nat}{w0 w:Wo}{v:Va}{xs:LI}(h:OI B w v xs)(A:Below w0 w0 w)(hB:B<=w)(y:Int):EY B w0 w v xs y:=
 ⟨h.alloc _,ZW,jZ hB _,A.alloc A.size _⟩
theorem EY.below{B:Nat}{w0 w w':Wo}{v:Va}{xs:LI}{y:Int}(h:EY B w0 w v xs y)(hB:w0<=B)(A:(w.alloc (.cells #[y] 3)).grownBy w' v.ownBlock):Below w0 w0 w':=
 h.bel.grown A h.bel.size fun k hk=>aZ6 hB (h.own.lt hk).1
theorem OI.form'{B:Nat}{w:Wo}{v:Va}{xs:LI}(h:OI B w v xs):∃A c,v=.slice A xs c:=by
 rcases h.2 with⟨rfl,C⟩|⟨g,D,E,rfl,_⟩
 .exact⟨none,0,by rw[C]⟩
 .exact⟨_,_,rfl⟩
theorem aU(w:Wo)(R A:Nat)(B:Va):w.grownBy (w.setCell ⟨R,A,none⟩ B) (some R):=
 aS (p:=⟨R,A,none⟩) (World.grownBy.refl _ _) (.inl rfl) _
theorem lF(w:Wo)(R A B:Nat)(C D:Va):w.grownBy ((w.setCell ⟨R,A,none⟩ C).setCell ⟨R,B,none⟩ D) (some R):=
 aS (p:=⟨R,B,none⟩) (aU w R A C) (.inl rfl) _
theorem SI.elt{w:Wo}{A:OA}{n c:Nat}{xs:LI}(h:SI w (.slice A n c) xs){k:Nat}(hk:k<xs):∃B x,A=some B/\w.cell? (B.add k)=some (.int .i64 x)/\Hid (I64 x)/\Hid (xs k 0=x):=by
 obtain⟨C,c',e,h⟩:=h;injection e with e1 e2 e3;subst e1;exact h.elt hk
theorem gJ{w:Wo}{a b:Addr}{v u:Va}(h:w.cell? b=some u)(A:b≠a):(w.setCell a v).cell? b=some u:=by
 rw[<-h]
 first
  |exact World.cell?_setCell_other (fun e=>A e.symm)
  |exact World.cell?_setCell_other _ _ (fun e=>A e.symm)
  |exact World.cell?_setCell_other _ _ _ (fun e=>A e.symm)
  |exact World.cell?_setCell_other _ _ _ _ (fun e=>A e.symm)
theorem SI.at0{w:Wo}{g n c:Nat}{xs:LI}(h:SI w (.slice g n c) xs){k:Nat}(hk:k<xs):w.cell? ⟨g,k,none⟩=some (.int .i64 (xs k 0)):=by
 obtain⟨E,x,e,A,_,D⟩:=h.elt hk;obtain rfl:=aZ0 e;rw[D.out];have B:((g:aA):Addr).add k=⟨g,k,none⟩:=by unfold Addr.add;by_cases C:k=0<;>simp[C]
 rw[B] at A;exact A
theorem RI.siTake{w:Wo}{g n:Nat}{xs:LI}(h:RI w g xs)(hn:n<=xs)(F:xs.length<=17592186044416)(E:∀k,I64 (xs k 0)):SI w (.slice g n xs) (xs.take n):=by
 have B:(xs.take n).length=n:=by rw[aY3];omega
 have A:∀k,k<n->(xs.take n).getD k 0=xs k 0:=fun k hk=>by simp[List.getD,List.getElem?_take,hk]
 refine⟨some (g:aA),xs.length,by rw[B],om,om,fun k hk=>⟨_,rfl,?_⟩,fun k=>?_⟩
 .rw[B] at hk;rw[A k hk];have:=h.cell k om;have C:((g:aA):Addr).add k=⟨g,k,none⟩:=by
   unfold Addr.add;by_cases D:k=0<;>simp[D]
  rw[C];exact this
 .by_cases hk:k<n
  .rw[A k hk];exact E k
  .rw[aZ4,aY4 om];exact I64.zero
theorem SS.eltA{w:Wo}{A:OA}{n c:Nat}{xss:LL}(h:SS w (.slice A n c) xss){k:Nat}(hk:k<xss):∃C B D xs,A=some C/\w.cell? (C.add k)=some (.slice B xs.length D)/\Hid (uZ w B D xs)/\Hid (xss k []=xs):=by
 obtain⟨E,c',e,h⟩:=h;injection e with e1 e2 e3;subst e1;exact h.elt hk
theorem OI.ne_blk{B:Nat}{w:Wo}{v:Va}{xs:LI}(h:OI B w v xs){g:Nat}{t:TypeId}{cs:List Va}(C:Blk w g t cs)(D:t≠3):v.ownBlock≠some g:=by
 rcases h.2 with⟨rfl,_⟩|⟨G,E,F,rfl,_,A,_⟩
 .simp[Value.ownBlock]
 .intro e;simp[Value.ownBlock] at e;subst e;unfold Blk at C;rw[C] at A;simp at A;exact D A.2
theorem MM(l:LL)(i k:Nat)(x:LI):(l.set i x).getD k []=if i=k/\i<l then x else l k []:=by
 by_cases e:i=k
 .subst e;by_cases h:i<l<;>simp[List.getD,h]
 .simp[List.getD,List.getElem?_set_ne e,e]
section
variable {B g n c:Nat} {X:Nat->Prop} {w:Wo} {l:LL}
theorem OS.formP{v:Va}(h:OS B X w v l)(H:0<l.length):∃g c,v=.slice (some ⟨g,0,none⟩) l c/\B<=g/\g<w.heap.size:=by
 obtain⟨us,E,_⟩:=h;rcases E.2 with⟨rfl,G⟩|⟨g,A,F,rfl,C,D,_⟩
 .omega
 .exact⟨g,A,rfl,C,(Array.getElem?_eq_some_iff.1 D).1⟩
theorem OS.lenEq{A:OA}(h:OS B X w (.slice A n c) l):n=l:=by
 obtain⟨us,C,_⟩:=h;rcases C.2 with⟨e,F⟩|⟨g,D,E,e,_⟩
 .injection e with e1 e2 e3;omega
 .injection e with e1 e2 e3
theorem OS.row(h:OS B X w (.slice g n c) l){k:Nat}(hk:k<l):∃u,w.cell? ⟨g,k,none⟩=some u/\SI w u (l k [])/\(0<(l k []).length->∀A,u.ownBlock=some A->A≠g/\¬X A):=by
 have hn:=h.lenEq;subst hn;obtain⟨us,E,hi⟩:=h;obtain⟨u,I,H,F⟩:=hi k hk;have J:us.length=l.length:=by have:=E.1;omega
 refine⟨u,?_,H,fun C A D=>⟨fun e=>(F C A D).1 (by rw[e];rfl),(F C A D).2⟩⟩;have:=World.ownsRow.cells E (g:=g) rfl k u I;have G:((g:aA):Addr).add k=⟨g,k,none⟩:=by unfold Addr.add;by_cases C:k=0<;>simp[C]
 rw[G] at this;exact this
theorem OS.frozen(h:OS B X w (.slice g n c) l)(k:Nat):w.frozen? ⟨g,k,none⟩=false:=by have hn:=h.lenEq;subst hn;obtain⟨us,A,_⟩:=h;exact World.ownsRow.frozenAt A k
theorem OS.elt(h:OS B X w (.slice g n c) l){k j:Nat}(hk:k<l)(G:j<(l k []).length):
 ∃C D x,w.cell? ⟨g,k,none⟩=some (.slice (some C) (l k []).length D)/\w.cell? (C.add j)=some (.int .i64 x)/\Hid ((l k []).getD j 0=x)/\Hid (SI w (.slice (some C) (l k []).length D) (l k [])):=by
 obtain⟨u,H,E,_⟩:=h.row hk;obtain⟨A,D,rfl,E⟩:=E;obtain⟨C,x,rfl,F,_,I⟩:=E.elt G;exact⟨C,D,x,H,F,I,E.si⟩
theorem OS.setRow(h:OS B X w (.slice g n c) l)(k:Nat){u:Va}{r:LI}(M:SI w u r)(G:0<r.length->∀A,u.ownBlock=some A->A≠g/\¬X A):
 OS B X (w.setCell ⟨g,k,none⟩ u) (.slice g n c) (l.set k r):=by
 have hn:=h.lenEq;subst hn;obtain⟨us,I,hi⟩:=h;have O:us.length=l.length:=by have:=I.1;omega
 have L:=(World.ownsRow.stored I k u).1;have H:=aU w g k u;refine⟨us.set k u,by rw[aZ9];exact L,fun i F=>?_⟩;rw[aZ9] at F;rw[MM];by_cases e:k=i
 .subst e;rw[iP ⟨rfl,F⟩];refine⟨u,by rw[List.getElem?_set_self om],M.grown H (fun D A E C=>(G D A E).1 (aZ0 C).symm),fun D A E=>⟨fun C=>(G D A E).1 (by simp[Value.ownBlock] at C;exact C.symm),(G D A E).2⟩⟩
 .rw[iN (fun h=>e h.1)];obtain⟨y,N,K,J⟩:=hi i F;exact⟨y,by rw[List.getElem?_set_ne e];exact N,K.grown H (fun D A E C=>(J D A E).1 (by rw[<-C];rfl)),J⟩
theorem OS.ne_oi{B':Nat}{v u:Va}{xs:LI}(h:OS B X w v l)(F:OI B' w u xs){C:Nat}(A:u.ownBlock=some C):v.ownBlock≠some C:=by
 obtain⟨us,G,_⟩:=h;rcases F.2 with⟨rfl,_⟩|⟨L,H,J,rfl,_,E,_⟩
 .simp[Value.ownBlock] at A
 .simp[Value.ownBlock] at A;subst A;rcases G.2 with⟨rfl,_⟩|⟨M,I,K,rfl,_,D,_⟩
  .simp[Value.ownBlock]
  .intro e;simp[Value.ownBlock] at e;subst e;rw[E] at D;simp at D
end
structure EL(B:Nat)(w0 wr:Wo)(v u:Va)(l:LL)(piv:LI)(X:Nat->Prop):Prop where
 os:OS B X wr v l
 oi:OI B wr u piv
 xu:∀g,u.ownBlock=some g->X g
 xb:∀g,X g->g<wr.heap.size
 low:∀g,g<w0.heap.size->X g
 bel:Below w0 w0 wr
theorem EL.on{B:Nat}{w0 wr w1:Wo}{v u:Va}{l:LL}{piv:LI}{X:Nat->Prop}(h:EL B w0 wr v u l piv X)(A:Below wr wr w1):EL B w0 w1 v u l piv X:=
 ⟨h.os.below A,h.oi.below A zr,h.xu,fun g C=>aY1 (h.xb g C) A.size,h.low,aC h.bel A⟩
theorem EL.drew{B:Nat}{w0 wr:Wo}{v u:Va}{l:LL}{piv:LI}{X:Nat->Prop}(h:EL B w0 wr v u l piv X):EL B w0 wr.drew v u l piv X:=h.on (aI _)
theorem EL.setRow{B g n c:Nat}{w0 wr:Wo}{u:Va}{l:LL}{piv:LI}{X:Nat->Prop}(h:EL B w0 wr (.slice g n c) u l piv X)(hB:w0<=B)(k:Nat){y:Va}{r:LI}(E:SI wr y r)(F:0<r.length->∀A,y.ownBlock=some A->A≠g/\¬X A):
 EL B w0 (wr.setCell ⟨g,k,none⟩ y) (.slice g n c) u (l.set k r) piv X:=by
 have D:=(h.os.lt (g:=g) rfl).1;refine⟨h.os.setRow k E F,h.oi.grown (aU wr g k y) (fun A C e=>?_),h.xu,fun A C=>?_,h.low,h.bel.setCell (p:=⟨g,k,none⟩) (aZ6 hB D) y⟩
 .have:=aZ0 e;subst this;exact h.os.ne_oi h.oi C rfl
 .have:=h.xb A C;simpa[World.setCell] using this
theorem EL.push{B:Nat}{w0 wr w1:Wo}{v u v':Va}{l:LL}{piv:LI}{y:Int}{X:Nat->Prop}{o:Obj}(h:EL B w0 wr v u l piv X)(hB:w0<=B)(G:OI B w1 v' (piv++[y]))(F:(wr.alloc o).grownBy w1 u.ownBlock)
 (E:v'.ownBlock=u.ownBlock\/v'.ownBlock=some (wr.alloc o).heap.size):EL B w0 w1 v v' l (piv++[y]) (fun g=>X g\/v'.ownBlock=some g):=by
 have C:=h.on (aH wr o);refine⟨?_,G,fun g D=>.inr D,fun g D=>?_,fun g I=>.inl (h.low g I),C.bel.grown F C.bel.size (fun k hk=>aZ6 hB (h.oi.lt hk).1)⟩
 .refine(C.os.names (Y:=fun g=>X g\/v'.ownBlock=some g) (fun g J A=>?_)).grown F (fun H D=>⟨C.os.ne_oi C.oi D,.inl (h.xu H D)⟩);rcases A with A|A
  .exact A
  .rcases E with E|E
   .exact h.xu g (by rw[<-E];exact A)
   .rw[E] at A;have:=aZ0 A;omega
 .rcases D with A|A
  .exact aY1 (C.xb g A) F.size
  .exact(G.lt A).2
theorem EL.fresh{B g n c:Nat}{w0 wr w1:Wo}{u y:Va}{l:LL}{piv r:LI}{X:Nat->Prop}(h:EL B w0 wr (.slice g n c) u l piv X)(D:OI wr w1 y r):0<r.length->∀A,y.ownBlock=some A->A≠g/\¬X A:=fun _ A C=>by have F:=(D.lt C).1;have G:=(h.os.lt (g:=g) rfl).2;exact⟨om,fun E=>oA (h.xb A E)⟩
structure oW(w w':Wo)(g:Nat)(t:TypeId)(cs:List Va):Prop where
 blk:Blk w' g t cs
 gr:w.grownBy w' (some g)
theorem oW.c0{w w':Wo}{g:Nat}{t:TypeId}{a:Va}{cs:List Va}(h:oW w w' g t (a::cs)):w'.cell? g=some a:=h.blk.cell 0
theorem oW.c1{w w':Wo}{g:Nat}{t:TypeId}{a b:Va}{cs:List Va}(h:oW w w' g t (a::b::cs)):w'.cell? (g 1 none)=some b:=h.blk.cell 1
theorem oW.c2{w w':Wo}{g:Nat}{t:TypeId}{a b c:Va}{cs:List Va}(h:oW w w' g t (a::b::c::cs)):w'.cell? (g 2 none)=some c:=h.blk.cell 2
theorem oW.c3{w w':Wo}{g:Nat}{t:TypeId}{a b c d:Va}{cs:List Va}(h:oW w w' g t (a::b::c::d::cs)):w'.cell? (g 3 none)=some d:=h.blk.cell 3
theorem oW.c4{w w':Wo}{g:Nat}{t:TypeId}{a b c d e:Va}{cs:List Va}(h:oW w w' g t (a::b::c::d::e::cs)):w'.cell? (g 4 none)=some e:=h.blk.cell 4
theorem oW.below{B:Nat}{w0 w w':Wo}{g:Nat}{t:TypeId}{cs:List Va}(h:oW w w' g t cs)(A:Below B w0 w)(hB:B<=w)(C:B<=g):Below B w0 w':=A.grown h.gr hB fun k e=>by cases e;exact C
theorem lp{w:Wo}{g:Nat}{t:TypeId}{a x:Va}(h:Blk w g t [a]):∃w',w.setCell g x=w'/\oW w w' g t [x]:=
 ⟨_,rfl,h.set_ 0 x,aU w g 0 x⟩
theorem sQ{w:Wo}{g:Nat}{t:TypeId}{a b x y:Va}(h:Blk w g t [a,b]):∃w',(w.setCell g x).setCell (g 1 none) y=w'/\oW w w' g t [x,y]:=
 ⟨_,rfl,(h.set_ 0 x).set_ 1 y,lF w g 0 1 x y⟩
theorem vB{w:Wo}{g:Nat}{t:TypeId}{a b c x y z:Va}(h:Blk w g t [a,b,c]):∃w',((w.setCell g x).setCell (g 1 none) y).setCell (g 2 none) z=w'/\oW w w' g t [x,y,z]:=
 ⟨_,rfl,((h.set_ 0 x).set_ 1 y).set_ 2 z,aS (p:=(g 2 none)) (lF w g 0 1 x y) (.inl rfl) _⟩
theorem zL{w:Wo}{g:Nat}{t:TypeId}{a b c d e x y z u v:Va}(h:Blk w g t [a,b,c,d,e]):∃w',((((w.setCell g x).setCell (g 1 none) y).setCell (g 2 none) z).setCell (g 3 none) u).setCell (g 4 none) v=w'/\oW w w' g t [x,y,z,u,v]:=
 ⟨_,rfl,((((h.set_ 0 x).set_ 1 y).set_ 2 z).set_ 3 u).set_ 4 v,aS (p:=(g 4 none)) (aS (p:=(g 3 none)) (aS (p:=(g 2 none)) (lF w g 0 1 x y) (.inl rfl) _) (.inl rfl) _) (.inl rfl) _⟩
theorem Blk.three{w:Wo}{g:Nat}{t:TypeId}{a b c:Va}(h:Blk w g t [a,b,c]):
 w.cell? g=some a/\w.cell? (g 1 none)=some b/\w.cell? (g 2 none)=some c/\w.frozen? g=false/\w.frozen? (g 1 none)=false/\w.frozen? (g 2 none)=false:=
 ⟨h.cell 0,h.cell 1,h.cell 2,h.frozen 0,h.frozen 1,h.frozen 2⟩
theorem Blk.two{w:Wo}{g:Nat}{t:TypeId}{a b:Va}(h:Blk w g t [a,b]):
 w.cell? g=some a/\w.cell? (g 1 none)=some b/\w.frozen? g=false/\w.frozen? (g 1 none)=false:=
 ⟨h.cell 0,h.cell 1,h.frozen 0,h.frozen 1⟩
theorem Blk.five{w:Wo}{g:Nat}{t:TypeId}{a b c d e:Va}(h:Blk w g t [a,b,c,d,e]):
 w.cell? g=some a/\w.cell? (g 1 none)=some b/\w.cell? (g 2 none)=some c/\w.cell? (g 3 none)=some d/\w.cell? (g 4 none)=some e/\
 w.frozen? g=false/\w.frozen? (g 1 none)=false/\w.frozen? (g 2 none)=false/\w.frozen? (g 3 none)=false/\w.frozen? (g 4 none)=false:=
 ⟨h.cell 0,h.cell 1,h.cell 2,h.cell 3,h.cell 4,h.frozen 0,h.frozen 1,h.frozen 2,h.frozen 3,h.frozen 4⟩
section
variable {P:Program} {ops:Array Oper} {Q:Exit->Act->Wo->Prop} {S:Wo->Prop}
def bY(P:Program)(ops:Array Oper)(Q:Exit->Act->Wo->Prop)(S:Wo->Prop):Nat->Array Bool->Act->Wo->Prop
 |0,L,a,w=>Region.ready .any ops L=[]/\Q .normal a w
 |n+1,L,a,w=>
  (Region.ready .any ops L=[]->Q .normal a w)/\
  ∀i∈Region.ready .any ops L,wpOp P ops Q i (fun b v=>S v/\bY P ops Q S n (L.setIfInBounds i true) b v) a w
theorem bY.any:∀(n:Nat) (L:Array Bool) (a:Act) (w:Wo),bY P ops Q S n L a w->wpAny P .any ops Q n L a w
 |0,_,_,_,h=>h
 |n+1,_,_,_,h=>⟨h.1,fun i hi=>wpOp_mono (fun b v A=>bY.any n _ b v A.2) (h.2 i hi)⟩
theorem KR{L:Array Bool}{i:Nat}{oj:Oper}{j:Nat}(hi:i∈Region.ready .any ops L)(H:ops[j]?=some oj)(D:∀e∈oj.after,Region.binds .any e=true->L e.on false=true):∀e∈oj.after,Region.binds .any e=true->e.on≠i:=fun e F E G=>by
 have A:=D e F E;have C:=(mem_ready.1 hi).1;rw[G] at A;rcases Nat.lt_or_ge i L.size with B|B
 .simp[B] at C A;rw[C] at A;cases A
 .simp[Array.getElem?_eq_none B] at A
theorem bY.first{i:Nat}{oi:Oper}{v:Va}(hi:ops[i]?=some oi)(D:∀(j:Nat) (o:Oper) cs b,ops[j]?=some o->o.op≠.select cs b)
 (E:∀c a w,Q (.panic c) (a.put oi.dst v) w->Q (.panic c) a w):
 ∀(n:Nat) (L:Array Bool) (a:Act) (w:Wo),
  (∀j oj,ops[j]?=some oj->j≠i->L j true=false->(∀e∈oj.after,Region.binds .any e=true->e.on≠i)->oi.apart ops oj=true)->
  i∈Region.ready .any ops L->YieldsIf P ops S oi v a->S w->
  bY P ops Q S n (L.setIfInBounds i true) (a.put oi.dst v) w->bY P ops Q S (n+1) L a w
 |0,L,a,w,_,hr,hy,hS,H=>by
  refine⟨fun h=>(by rw[h] at hr;cases hr),fun j B=>?_⟩;by_cases A:j=i
  .subst A;exact hy.wpOp hi hS ⟨hS,H⟩
  .have:=ready_mono B A;rw[H.1] at this;cases this
 |n+1,L,a,w,hfree,hr,hy,hS,H=>by
  refine⟨fun h=>(by rw[h] at hr;cases hr),fun j B=>?_⟩;by_cases A:j=i
  .subst A;exact hy.wpOp hi hS ⟨hS,H⟩
  .have K:=H.2 j (ready_mono B A);obtain⟨I,oj,C,R⟩:=mem_ready.1 B;have M:=wpOp_putIf C (hfree j oj C A I (KR hr C R)) (fun cs b=>D i oi cs b hi) (fun cs b=>D j oj cs b C) E hy K;have V:=ready_mono hr (Ne.symm A);refine wpOp_mono (fun b u N=>?_) M;rcases N with⟨W,F,O⟩
   refine⟨F,bY.first hi D E n (L.setIfInBounds j true) b u (fun k X hk T J U=>?_) V W F ?_⟩
   .refine hfree k X hk T ?_ U;by_cases G:j=k
    .subst G;exact I
    .rw[getD_set_ne true G] at J;exact J
   .rw[Array.setIfInBounds_comm _ _ A];exact O
theorem bY.take{i n:Nat}{oi:Oper}{v:Va}{L:Array Bool}{a:Act}{w:Wo}(hi:ops[i]?=some oi)(E:Region.noSelect ops=true)(C:Region.free .any ops L i=true)
 (D:(Region.ready .any ops L).contains i=true)(A:∀c a w,Q (.panic c) (a.put oi.dst v) w->Q (.panic c) a w)(F:YieldsIf P ops S oi v a)(B:S w)
 (h:bY P ops Q S n (L.setIfInBounds i true) (a.put oi.dst v) w):bY P ops Q S (n+1) L a w:=
 bY.first hi (Region.noSelect_spec E) A n L a w (Region.free_spec hi C) (by simpa using D) F B h
theorem tq(i:Nat){n:Nat}{oi:Oper}{v:Value}{L:Array Bool}{a:Act}{w:World}(h:bY P ops Q S n (L.setIfInBounds i true) (a.put oi.dst v) w)(B:S w:=by assumption)(hi:ops[i]?=some oi:=by rfl)(G:∀w,S w->(execOp a.eval oi).run P w=.ok (.value v) w:=by intro w' h;(try dsimp only at h);go_simp<;>with_reducible rfl)(F:Region.noSelect ops=true:=by kernel_rfl)(C:Region.free .any ops L i=true:=by kernel_rfl)(E:(Region.ready .any ops L).contains i=true:=by kernel_rfl)(A:∀c a w,Q (.panic c) (a.put oi.dst v) w->Q (.panic c) a w:=by exact fun _ _ _ h=>h)(D:Region.wanted oi (yielded ops a.tmps)=true:=by kernel_rfl):bY P ops Q S (n+1) L a w:=
 bY.take hi F C E A (.inl ⟨D,G⟩) B h
theorem bY.only{i n:Nat}{o:Oper}{L:Array Bool}{a:Act}{w:Wo}(C:Region.ready .any ops L=[i])(G:ops[i]?=some o)
 (h:∀K:Act->Wo->Prop,Hid (∀b v,S v->(S v->bY P ops Q S n (L.setIfInBounds i true) b v)->K b v)->if Region.wanted o (yielded ops a.tmps)=true then Oper.wp P o a w K Q else K (a.put o.dst undef) w):
 bY P ops Q S (n+1) L a w:=by
 refine⟨fun E=>aB (C.symm.trans E) sM,fun j B=>?_⟩;rw[C] at B;obtain rfl:j=i:=by simpa using B
 exact wpOp_step G (fun D hK=>h D (fun b v A F=>hK b v ⟨A,F A⟩))
theorem bY.done{n:Nat}{L:Array Bool}{a:Act}{w:Wo}(A:Region.ready .any ops L=[])(h:Q .normal a w):bY P ops Q S n L a w:=by
 cases n with
 |zero=>exact⟨A,h⟩
 |succ n=>exact⟨fun _=>h,fun i hi=>by rw[A] at hi;cases hi⟩
theorem bY.start{id:Nat}{a:Act}{w:Wo}(B:P.follows .mixedOrders=true)(A:S w.drew)(h:S w.drew->bY P ops Q S ops.size (Array.replicate ops.size false) a w.drew):(Code.region id ops true).wp P Q a w:=
 wp_region_any B (bY.any _ _ _ _ (h A))
theorem tu(i:Nat){n:Nat}{oi:Oper}{L:Array Bool}{a:Act}{w:World}(h:bY P ops Q S n (L.setIfInBounds i true) (a.put oi.dst undef) w)(B:S w:=by assumption)(hi:ops[i]?=some oi:=by rfl)(F:Region.noSelect ops=true:=by kernel_rfl)(C:Region.free .any ops L i=true:=by kernel_rfl)(E:(Region.ready .any ops L).contains i=true:=by kernel_rfl)(A:∀c a w,Q (.panic c) (a.put oi.dst undef) w->Q (.panic c) a w:=by exact fun _ _ _ h=>h)(D:Region.wanted oi (yielded ops a.tmps)=false:=by kernel_rfl):bY P ops Q S (n+1) L a w:=
 bY.take hi F C E A (.inr ⟨D,rfl⟩) B h
theorem tn(i:Nat){n:Nat}{o:Oper}{L:Array Bool}{a:Act}{w:World}(h:∀K:Act->World->Prop,Hid (∀b v,S v->(S v->bY P ops Q S n (L.setIfInBounds i true) b v)->K b v)->if Region.wanted o (yielded ops a.tmps)=true then Oper.wp P o a w K Q else K (a.put o.dst undef) w)(B:Region.ready .any ops L=[i]:=by kernel_rfl)(A:ops[i]?=some o:=by rfl):bY P ops Q S (n+1) L a w:=
 bY.only B A h
theorem tp(i:Nat){n:Nat}{o:Oper}{L:Array Bool}{a:Act}{w:World}(h:∀K:Act->World->Prop,Hid (∀b v,S v->(S v->bY P ops Q S n (L.setIfInBounds i true) b v)->K b v)->if Region.wanted o (yielded ops a.tmps)=true then Oper.wp P o a w K Q else K (a.put o.dst undef) w)(B:Region.ready .any ops L=[i]:=by kernel_rfl)(A:ops[i]?=some o:=by(conv=>lhs;simp only[tdg,tdh,tdi])):bY P ops Q S (n+1) L a w:=
 bY.only B A h
theorem tw{n:Nat}{L:Array Bool}{a:Act}{w:World}(h:Q .normal a w)(A:Region.ready .any ops L=[]:=by kernel_rfl):bY P ops Q S n L a w:=
 bY.done A h
theorem ta(n:Nat){id:Nat}{a:Act}{w:World}{A:Addr}{x0:Value}(B:w.cell? A=some x0)(h:w.drew.cell? A=some x0->bY P ops Q (fun w'=>w'.cell? A=some x0) n (Array.replicate n false) a w.drew)(C:P.follows .mixedOrders=true:=by kernel_rfl)(hn:ops.size=n:=by rfl):(Code.region id ops true).wp P Q a w:=by subst hn;exact bY.start (S:=(fun w'=>w'.cell? A=some x0)) C B h
theorem tb(n:Nat){id:Nat}{a:Act}{w:World}{A B:Addr}{x0 x1:Value}(C:w.cell? A=some x0)(D:w.cell? B=some x1)(h:w.drew.cell? A=some x0/\w.drew.cell? B=some x1->bY P ops Q (fun w'=>w'.cell? A=some x0/\w'.cell? B=some x1) n (Array.replicate n false) a w.drew)(E:P.follows .mixedOrders=true:=by kernel_rfl)(hn:ops.size=n:=by rfl):(Code.region id ops true).wp P Q a w:=by subst hn;exact bY.start (S:=(fun w'=>w'.cell? A=some x0/\w'.cell? B=some x1)) E ⟨C,D⟩ h
theorem tc(n:Nat){id:Nat}{a:Act}{w:World}{A B C:Addr}{x0 x1 x2:Value}(D:w.cell? A=some x0)(E:w.cell? B=some x1)(F:w.cell? C=some x2)(h:w.drew.cell? A=some x0/\w.drew.cell? B=some x1/\w.drew.cell? C=some x2->bY P ops Q (fun w'=>w'.cell? A=some x0/\w'.cell? B=some x1/\w'.cell? C=some x2) n (Array.replicate n false) a w.drew)(G:P.follows .mixedOrders=true:=by kernel_rfl)(hn:ops.size=n:=by rfl):(Code.region id ops true).wp P Q a w:=by subst hn;exact bY.start (S:=(fun w'=>w'.cell? A=some x0/\w'.cell? B=some x1/\w'.cell? C=some x2)) G ⟨D,E,F⟩ h
theorem td(n:Nat){id:Nat}{a:Act}{w:World}{A B C D:Addr}{x0 x1 x2 x3:Value}(E:w.cell? A=some x0)(F:w.cell? B=some x1)(G:w.cell? C=some x2)(H:w.cell? D=some x3)(h:w.drew.cell? A=some x0/\w.drew.cell? B=some x1/\w.drew.cell? C=some x2/\w.drew.cell? D=some x3->bY P ops Q (fun w'=>w'.cell? A=some x0/\w'.cell? B=some x1/\w'.cell? C=some x2/\w'.cell? D=some x3) n (Array.replicate n false) a w.drew)(I:P.follows .mixedOrders=true:=by kernel_rfl)(hn:ops.size=n:=by rfl):(Code.region id ops true).wp P Q a w:=by subst hn;exact bY.start (S:=(fun w'=>w'.cell? A=some x0/\w'.cell? B=some x1/\w'.cell? C=some x2/\w'.cell? D=some x3)) I ⟨E,F,G,H⟩ h
theorem te(n:Nat){id:Nat}{a:Act}{w:World}{A B C D E:Addr}{x0 x1 x2 x3 x4:Value}(F:w.cell? A=some x0)(G:w.cell? B=some x1)(H:w.cell? C=some x2)(I:w.cell? D=some x3)(J:w.cell? E=some x4)(h:w.drew.cell? A=some x0/\w.drew.cell? B=some x1/\w.drew.cell? C=some x2/\w.drew.cell? D=some x3/\w.drew.cell? E=some x4->bY P ops Q (fun w'=>w'.cell? A=some x0/\w'.cell? B=some x1/\w'.cell? C=some x2/\w'.cell? D=some x3/\w'.cell? E=some x4) n (Array.replicate n false) a w.drew)(K:P.follows .mixedOrders=true:=by kernel_rfl)(hn:ops.size=n:=by rfl):(Code.region id ops true).wp P Q a w:=by subst hn;exact bY.start (S:=(fun w'=>w'.cell? A=some x0/\w'.cell? B=some x1/\w'.cell? C=some x2/\w'.cell? D=some x3/\w'.cell? E=some x4)) K ⟨F,G,H,I,J⟩ h
theorem tf(n:Nat){id:Nat}{a:Act}{w:World}{A B C D E F:Addr}{x0 x1 x2 x3 x4 x5:Value}(G:w.cell? A=some x0)(H:w.cell? B=some x1)(I:w.cell? C=some x2)(J:w.cell? D=some x3)(K:w.cell? E=some x4)(L:w.cell? F=some x5)(h:w.drew.cell? A=some x0/\w.drew.cell? B=some x1/\w.drew.cell? C=some x2/\w.drew.cell? D=some x3/\w.drew.cell? E=some x4/\w.drew.cell? F=some x5->bY P ops Q (fun w'=>w'.cell? A=some x0/\w'.cell? B=some x1/\w'.cell? C=some x2/\w'.cell? D=some x3/\w'.cell? E=some x4/\w'.cell? F=some x5) n (Array.replicate n false) a w.drew)(M:P.follows .mixedOrders=true:=by kernel_rfl)(hn:ops.size=n:=by rfl):(Code.region id ops true).wp P Q a w:=by subst hn;exact bY.start (S:=(fun w'=>w'.cell? A=some x0/\w'.cell? B=some x1/\w'.cell? C=some x2/\w'.cell? D=some x3/\w'.cell? E=some x4/\w'.cell? F=some x5)) M ⟨G,H,I,J,K,L⟩ h
theorem tg(n:Nat){id:Nat}{a:Act}{w:World}{A B C D E F G:Addr}{x0 x1 x2 x3 x4 x5 x6:Value}(H:w.cell? A=some x0)(I:w.cell? B=some x1)(J:w.cell? C=some x2)(K:w.cell? D=some x3)(L:w.cell? E=some x4)(M:w.cell? F=some x5)(N:w.cell? G=some x6)(h:w.drew.cell? A=some x0/\w.drew.cell? B=some x1/\w.drew.cell? C=some x2/\w.drew.cell? D=some x3/\w.drew.cell? E=some x4/\w.drew.cell? F=some x5/\w.drew.cell? G=some x6->bY P ops Q (fun w'=>w'.cell? A=some x0/\w'.cell? B=some x1/\w'.cell? C=some x2/\w'.cell? D=some x3/\w'.cell? E=some x4/\w'.cell? F=some x5/\w'.cell? G=some x6) n (Array.replicate n false) a w.drew)(O:P.follows .mixedOrders=true:=by kernel_rfl)(hn:ops.size=n:=by rfl):(Code.region id ops true).wp P Q a w:=by subst hn;exact bY.start (S:=(fun w'=>w'.cell? A=some x0/\w'.cell? B=some x1/\w'.cell? C=some x2/\w'.cell? D=some x3/\w'.cell? E=some x4/\w'.cell? F=some x5/\w'.cell? G=some x6)) O ⟨H,I,J,K,L,M,N⟩ h
theorem th(n:Nat){id:Nat}{a:Act}{w:World}{A B C D E F G H:Addr}{x0 x1 x2 x3 x4 x5 x6 x7:Value}(I:w.cell? A=some x0)(J:w.cell? B=some x1)(K:w.cell? C=some x2)(L:w.cell? D=some x3)(M:w.cell? E=some x4)(N:w.cell? F=some x5)(O:w.cell? G=some x6)(R:w.cell? H=some x7)(h:w.drew.cell? A=some x0/\w.drew.cell? B=some x1/\w.drew.cell? C=some x2/\w.drew.cell? D=some x3/\w.drew.cell? E=some x4/\w.drew.cell? F=some x5/\w.drew.cell? G=some x6/\w.drew.cell? H=some x7->bY P ops Q (fun w'=>w'.cell? A=some x0/\w'.cell? B=some x1/\w'.cell? C=some x2/\w'.cell? D=some x3/\w'.cell? E=some x4/\w'.cell? F=some x5/\w'.cell? G=some x6/\w'.cell? H=some x7) n (Array.replicate n false) a w.drew)(T:P.follows .mixedOrders=true:=by kernel_rfl)(hn:ops.size=n:=by rfl):(Code.region id ops true).wp P Q a w:=by subst hn;exact bY.start (S:=(fun w'=>w'.cell? A=some x0/\w'.cell? B=some x1/\w'.cell? C=some x2/\w'.cell? D=some x3/\w'.cell? E=some x4/\w'.cell? F=some x5/\w'.cell? G=some x6/\w'.cell? H=some x7)) T ⟨I,J,K,L,M,N,O,R⟩ h
end
end
section
structure aQ where
 add:Int->Int->Int
 mul:Int->Int->Int
 neg:Int->Int
 inv:Int->Int
def bN(O:aQ)(a:Int)(v:LI):LI:=aT v fun i=>O.mul a (v i 0)
def cQ(O:aQ)(v:LI)(a:Int)(u:LI):LI:=aT v fun i=>if u i 0≠0 then O.add (v i 0) (O.mul a (u i 0)) else v i 0
theorem gL(O:aQ)(a:Int)(v:LI):(bN O a v).length=v.length:=aW _ _
theorem kF(O:aQ)(v:LI)(a:Int)(u:LI):(cQ O v a u).length=v.length:=aW _ _
def gG(l:LL)(c n:Nat):Nat->Nat->Nat
 |0,k=>k
 |f+1,k=>if(l k []).getD c 0=0 then gG l c n f (k+1) else k
def cY(l:LL)(a b:Nat):LL:=(l.set a (l b [])).set b (l a [])
def dW(O:aQ)(c a:Nat)(l:LL):LL:=if(l a []).getD c 0≠1 then l.set a (bN O (O.inv ((l a []).getD c 0)) (l a [])) else l
def bH(O:aQ)(c a:Nat)(l:LL):Nat->LL
 |0=>l
 |i+1=>if i≠a/\((bH O c a l i).getD i []).getD c 0≠0 then(bH O c a l i).set i (cQ O ((bH O c a l i).getD i []) (O.neg (((bH O c a l i).getD i []).getD c 0)) ((bH O c a l i).getD a [])) else bH O c a l i
def lP(O:aQ)(c:Nat)(l:LL)(a k:Nat):LL:=bH O c a (dW O c a (cY l a k)) l.length
def aJ(O:aQ)(rows:LL):Nat->LL×LI
 |0=>(rows,[])
 |c+1=>
  if(aJ O rows c).2.length<(aJ O rows c).1.length then
   if gG (aJ O rows c).1 c (aJ O rows c).1.length ((aJ O rows c).1.length-(aJ O rows c).2.length) (aJ O rows c).2.length=(aJ O rows c).1.length then aJ O rows c
   else(lP O c (aJ O rows c).1 (aJ O rows c).2.length (gG (aJ O rows c).1 c (aJ O rows c).1.length ((aJ O rows c).1.length-(aJ O rows c).2.length) (aJ O rows c).2.length),(aJ O rows c).2++[(c:Int)])
  else aJ O rows c
def bC(O:aQ)(rows:LL)(A:Nat):LL:=(aJ O rows A).1.take (aJ O rows A).2.length
def oS(O:aQ)(rows:LL)(A:Nat):LI:=(aJ O rows A).2
theorem gQ(l:LL)(a b:Nat):(cY l a b).length=l.length:=by simp[cY]
theorem oM(O:aQ)(c a:Nat)(l:LL):(dW O c a l).length=l.length:=by unfold dW;split<;>simp
theorem kN(O:aQ)(c a:Nat)(l:LL):∀i,(bH O c a l i).length=l.length
 |0=>rfl
 |i+1=>by rw[bH];split<;>simp[kN O c a l i]
theorem GD(O:aQ)(c:Nat)(l:LL)(a k:Nat):(lP O c l a k).length=l.length:=by rw[lP,kN,oM,gQ]
theorem gK(O:aQ)(rows:LL):∀c,(aJ O rows c).1.length=rows.length
 |0=>rfl
 |c+1=>by
  rw[aJ];split
  .split
   .exact gK O rows c
   .show(lP O c _ _ _).length=_;rw[GD,gK O rows c]
  .exact gK O rows c
theorem JV(l:LL)(c n:Nat):∀f k,k+f=n->k<=gG l c n f k/\gG l c n f k<=n
 |0,k,h=>by unfold gG;omega
 |f+1,k,h=>by
  unfold gG;split
  .have:=JV l c n f (k+1) om;omega
  .omega
theorem lW(O:aQ)(rows:LL):∀c,(aJ O rows c).2.length<=rows.length/\(aJ O rows c).2.length<=c
 |0=>by simp[aJ]
 |c+1=>by
  have A:=lW O rows c;have B:=gK O rows c;rw[aJ];split
  .split
   .exact⟨A.1,om⟩
   .show((aJ O rows c).2++[(c:Int)]).length<=_/\((aJ O rows c).2++[(c:Int)]).length<=_;rw[aZ1,aZ2];omega
  .exact⟨A.1,om⟩
def Rows(q:Int)(n:Nat)(l:LL):Prop:=∀k,k<l.length->(l k []).length=n/\∀i,0<=(l k []).getD i 0/\(l k []).getD i 0<q
structure aQ.Lt(O:aQ)(q:Int):Prop where
 pos:2<=q
 add:∀x y,0<=O.add x y/\O.add x y<q
 mul:∀x y,0<=O.mul x y/\O.mul x y<q
theorem fL(l:LL)(i k:Nat)(x:LI):(l.set i x).getD k []=if i=k/\i<l then x else l k []:=by
 by_cases e:i=k
 .subst e;by_cases h:i<l<;>simp[List.getD,h]
 .simp[List.getD,List.getElem?_set_ne e,e]
theorem Rows.set{q:Int}{n:Nat}{l:LL}(h:Rows q n l)(k:Nat){r:LI}(B:r=n/\∀i,0<=r i 0/\r i 0<q):Rows q n (l.set k r):=fun j A=>by
 rw[aZ9] at A;rw[fL];split
 .exact B
 .exact h j A
theorem YO{q:Int}(hq:2<=q){n:Nat}{f:Nat->Int}(h:∀i,i<n->0<=f i/\f i<q):(aT n f).length=n/\∀i,0<=(aT n f).getD i 0/\(aT n f).getD i 0<q:=
 ⟨aW _ _,fun i=>by
  by_cases hi:i<n
  .rw[aK hi];exact h i hi
  .rw[bG (by rw[aW];omega)];omega⟩
theorem Rows.scale{O:aQ}{q:Int}(hO:O.Lt q)(a:Int)(v:LI):(bN O a v).length=v.length/\∀i,0<=(bN O a v).getD i 0/\(bN O a v).getD i 0<q:=
 YO hO.pos fun i _=>hO.mul _ _
theorem Rows.addTo{O:aQ}{q:Int}(hO:O.Lt q){v:LI}(A:∀i,0<=v i 0/\v i 0<q)(a:Int)(u:LI):(cQ O v a u).length=v.length/\∀i,0<=(cQ O v a u).getD i 0/\(cQ O v a u).getD i 0<q:=
 YO hO.pos fun i _=>by
  split
  .exact hO.add _ _
  .exact A i
theorem Rows.swap{q:Int}{n:Nat}{l:LL}(h:Rows q n l){a b:Nat}(A:a<l)(B:b<l):Rows q n (cY l a b):=(h.set a (h b B)).set b (h a A)
theorem Rows.monic{O:aQ}{q:Int}(hO:O.Lt q){n:Nat}{l:LL}(h:Rows q n l)(c:Nat){a:Nat}(A:a<l):Rows q n (dW O c a l):=by
 unfold dW;split
 .have:=Rows.scale hO (O.inv ((l a []).getD c 0)) (l a []);exact h.set a ⟨this.1.trans (h a A).1,this.2⟩
 .exact h
theorem Rows.clear{O:aQ}{q:Int}(hO:O.Lt q){n:Nat}{l:LL}(h:Rows q n l)(c a:Nat):∀i,i<=l.length->Rows q n (bH O c a l i)
 |0,_=>h
 |i+1,hi=>by
  have A:=Rows.clear hO h c a i om;rw[bH];split
  .have hk:=A i (by rw[kN];omega);have:=Rows.addTo hO hk.2 (O.neg (((bH O c a l i).getD i []).getD c 0)) ((bH O c a l i).getD a []);exact A.set i ⟨this.1.trans hk.1,this.2⟩
  .exact A
theorem Rows.elim{O:aQ}{q:Int}(hO:O.Lt q){n:Nat}{rows:LL}(h:Rows q n rows):∀c,Rows q n (aJ O rows c).1
 |0=>h
 |c+1=>by
  have A:=Rows.elim hO h c;have D:=lW O rows c;have C:=gK O rows c;rw[aJ];split
  .rename_i hlt;split
   .exact A
   .rename_i hne;have B:=JV (aJ O rows c).1 c (aJ O rows c).1.length ((aJ O rows c).1.length-(aJ O rows c).2.length) (aJ O rows c).2.length om;show Rows q n (lP O c _ _ _);unfold lP;refine Rows.clear hO (Rows.monic hO (A.swap hlt om) c (by rw[gQ];exact hlt)) c _ _ ?_;rw[oM,gQ];exact zr
  .exact A
end
section
open Go.RowKit
section
variable {P:Program} {ops:Array Oper} {Q:Exit->Act->Wo->Prop} {S:Wo->Prop}
def cJ(P:Program)(ops:Array Oper)(Q:Exit->Act->Wo->Prop)(S:Wo->Prop):Nat->Array Bool->Act->Wo->Prop
 |0,L,a,w=>Region.ready .any ops L=[]/\Q .normal a w
 |n+1,L,a,w=>
  (Region.ready .any ops L=[]->Q .normal a w)/\
  ∀i∈Region.ready .any ops L,wpOp P ops Q i (fun b v=>(i+1≠ops.size->S v)/\cJ P ops Q S n (L.setIfInBounds i true) b v) a w
theorem cJ.any:∀(n:Nat) (L:Array Bool) (a:Act) (w:Wo),cJ P ops Q S n L a w->wpAny P .any ops Q n L a w
 |0,_,_,_,h=>h
 |n+1,_,_,_,h=>⟨h.1,fun i hi=>wpOp_mono (fun b v A=>cJ.any n _ b v A.2) (h.2 i hi)⟩
theorem DI{L:Array Bool}{i:Nat}{oj:Oper}{j:Nat}(hi:i∈Region.ready .any ops L)(H:ops[j]?=some oj)(D:∀e∈oj.after,Region.binds .any e=true->L e.on false=true):∀e∈oj.after,Region.binds .any e=true->e.on≠i:=fun e F E G=>by
 have A:=D e F E;have C:=(mem_ready.1 hi).1;rw[G] at A;rcases Nat.lt_or_ge i L.size with B|B
 .simp[B] at C A;rw[C] at A;cases A
 .simp[Array.getElem?_eq_none B] at A
theorem cJ.first{i:Nat}{oi:Oper}{v:Va}(hi:ops[i]?=some oi)(D:∀(j:Nat) (o:Oper) cs b,ops[j]?=some o->o.op≠.select cs b)
 (E:∀c a w,Q (.panic c) (a.put oi.dst v) w->Q (.panic c) a w)(O:Region.waitsFor .any ops (ops.size-1) i=true):
 ∀(n:Nat) (L:Array Bool) (a:Act) (w:Wo),
  (∀j oj,ops[j]?=some oj->j≠i->L j true=false->(∀e∈oj.after,Region.binds .any e=true->e.on≠i)->oi.apart ops oj=true)->
  i∈Region.ready .any ops L->YieldsIf P ops S oi v a->S w->
  cJ P ops Q S n (L.setIfInBounds i true) (a.put oi.dst v) w->cJ P ops Q S (n+1) L a w
 |0,L,a,w,_,hr,hy,hS,H=>by
  refine⟨fun h=>(by rw[h] at hr;cases hr),fun j C=>?_⟩;by_cases A:j=i
  .subst A;exact hy.wpOp hi hS ⟨fun _=>hS,H⟩
  .have:=ready_mono C A;rw[H.1] at this;cases this
 |n+1,L,a,w,hfree,hr,hy,hS,H=>by
  refine⟨fun h=>(by rw[h] at hr;cases hr),fun j C=>?_⟩;by_cases A:j=i
  .subst A;exact hy.wpOp hi hS ⟨fun _=>hS,H⟩
  .have R:=H.2 j (ready_mono C A);obtain⟨K,oj,B,G⟩:=mem_ready.1 C;have T:=wpOp_putIf B (hfree j oj B A K (DI hr B G)) (fun cs b=>D i oi cs b hi) (fun cs b=>D j oj cs b B) E hy R;have g:=ready_mono hr (Ne.symm A);have J:j+1≠ops.size:=fun J=>by
    obtain⟨p,M,e,Y,X,f⟩:=Region.waitsFor_spec O;rw[show ops.size-1=j from om] at M;obtain rfl:=aZ0 (M.symm.trans B);exact DI hr B G e Y X f
   refine wpOp_mono (fun b u U=>?_) T;rcases U with⟨l,W,V⟩
   have F:=W J;refine⟨fun _=>F,cJ.first hi D E O n (L.setIfInBounds j true) b u (fun k m hk Z N d=>?_) g l F ?_⟩
   .refine hfree k m hk Z ?_ d;by_cases I:j=k
    .subst I;exact K
    .rw[getD_set_ne true I] at N;exact N
   .rw[Array.setIfInBounds_comm _ _ A];exact V
theorem cJ.take{i n:Nat}{oi:Oper}{v:Va}{L:Array Bool}{a:Act}{w:Wo}(hi:ops[i]?=some oi)(E:Region.noSelect ops=true)(C:Region.free .any ops L i=true)
 (D:(Region.ready .any ops L).contains i=true)(F:Region.waitsFor .any ops (ops.size-1) i=true)(A:∀c a w,Q (.panic c) (a.put oi.dst v) w->Q (.panic c) a w)(G:YieldsIf P ops S oi v a)(B:S w)
 (h:cJ P ops Q S n (L.setIfInBounds i true) (a.put oi.dst v) w):cJ P ops Q S (n+1) L a w:=
 cJ.first hi (Region.noSelect_spec E) A F n L a w (Region.free_spec hi C) (by simpa using D) G B h
theorem dq(i:Nat){n:Nat}{oi:Oper}{v:Value}{L:Array Bool}{a:Act}{w:World}(h:cJ P ops Q S n (L.setIfInBounds i true) (a.put oi.dst v) w)(B:S w:=by assumption)(hi:ops[i]?=some oi:=by rfl)(H:∀w,S w->(execOp a.eval oi).run P w=.ok (.value v) w:=by intro w' h;(try dsimp only at h);go_simp<;>with_reducible rfl)(F:Region.noSelect ops=true:=by kernel_rfl)(C:Region.free .any ops L i=true:=by kernel_rfl)(E:(Region.ready .any ops L).contains i=true:=by kernel_rfl)(G:Region.waitsFor .any ops (ops.size-1) i=true:=by kernel_rfl)(A:∀c a w,Q (.panic c) (a.put oi.dst v) w->Q (.panic c) a w:=by exact fun _ _ _ h=>h)(D:Region.wanted oi (yielded ops a.tmps)=true:=by kernel_rfl):cJ P ops Q S (n+1) L a w:=
 cJ.take hi F C E G A (.inl ⟨D,H⟩) B h
theorem cJ.only{i n:Nat}{o:Oper}{L:Array Bool}{a:Act}{w:Wo}(C:Region.ready .any ops L=[i])(G:ops[i]?=some o)
 (h:∀K:Act->Wo->Prop,Hid (∀b v,(i+1≠ops.size->S v)->((i+1≠ops.size->S v)->cJ P ops Q S n (L.setIfInBounds i true) b v)->K b v)->if Region.wanted o (yielded ops a.tmps)=true then Oper.wp P o a w K Q else K (a.put o.dst undef) w):
 cJ P ops Q S (n+1) L a w:=by
 refine⟨fun E=>aB (C.symm.trans E) sM,fun j B=>?_⟩;rw[C] at B;obtain rfl:j=i:=by simpa using B
 exact wpOp_step G (fun D hK=>h D (fun b v A F=>hK b v ⟨A,F A⟩))
theorem cJ.done{n:Nat}{L:Array Bool}{a:Act}{w:Wo}(A:Region.ready .any ops L=[])(h:Q .normal a w):cJ P ops Q S n L a w:=by
 cases n with
 |zero=>exact⟨A,h⟩
 |succ n=>exact⟨fun _=>h,fun i hi=>by rw[A] at hi;cases hi⟩
theorem cJ.start{id:Nat}{a:Act}{w:Wo}(B:P.follows .mixedOrders=true)(A:S w.drew)(h:S w.drew->cJ P ops Q S ops.size (Array.replicate ops.size false) a w.drew):(Code.region id ops true).wp P Q a w:=
 wp_region_any B (cJ.any _ _ _ _ (h A))
theorem dn(i:Nat){n:Nat}{o:Oper}{L:Array Bool}{a:Act}{w:World}(h:∀K:Act->World->Prop,Hid (∀b v,(i+1≠ops.size->S v)->((i+1≠ops.size->S v)->cJ P ops Q S n (L.setIfInBounds i true) b v)->K b v)->if Region.wanted o (yielded ops a.tmps)=true then Oper.wp P o a w K Q else K (a.put o.dst undef) w)(B:Region.ready .any ops L=[i]:=by kernel_rfl)(A:ops[i]?=some o:=by rfl):cJ P ops Q S (n+1) L a w:=
 cJ.only B A h
theorem dp(i:Nat){n:Nat}{o:Oper}{L:Array Bool}{a:Act}{w:World}(h:∀K:Act->World->Prop,Hid (∀b v,(i+1≠ops.size->S v)->((i+1≠ops.size->S v)->cJ P ops Q S n (L.setIfInBounds i true) b v)->K b v)->if Region.wanted o (yielded ops a.tmps)=true then Oper.wp P o a w K Q else K (a.put o.dst undef) w)(B:Region.ready .any ops L=[i]:=by kernel_rfl)(A:ops[i]?=some o:=by(conv=>lhs;simp only[tdg,tdh,tdi])):cJ P ops Q S (n+1) L a w:=
 cJ.only B A h
theorem dw{n:Nat}{L:Array Bool}{a:Act}{w:World}(h:Q .normal a w)(A:Region.ready .any ops L=[]:=by kernel_rfl):cJ P ops Q S n L a w:=
 cJ.done A h
theorem da(n:Nat){id:Nat}{a:Act}{w:World}{A:Addr}{x0:Value}(B:w.cell? A=some x0)(h:w.drew.cell? A=some x0->cJ P ops Q (fun w'=>w'.cell? A=some x0) n (Array.replicate n false) a w.drew)(C:P.follows .mixedOrders=true:=by kernel_rfl)(hn:ops.size=n:=by rfl):(Code.region id ops true).wp P Q a w:=by subst hn;exact cJ.start (S:=(fun w'=>w'.cell? A=some x0)) C B h
theorem db(n:Nat){id:Nat}{a:Act}{w:World}{A B:Addr}{x0 x1:Value}(C:w.cell? A=some x0)(D:w.cell? B=some x1)(h:w.drew.cell? A=some x0/\w.drew.cell? B=some x1->cJ P ops Q (fun w'=>w'.cell? A=some x0/\w'.cell? B=some x1) n (Array.replicate n false) a w.drew)(E:P.follows .mixedOrders=true:=by kernel_rfl)(hn:ops.size=n:=by rfl):(Code.region id ops true).wp P Q a w:=by subst hn;exact cJ.start (S:=(fun w'=>w'.cell? A=some x0/\w'.cell? B=some x1)) E ⟨C,D⟩ h
theorem dc(n:Nat){id:Nat}{a:Act}{w:World}{A B C:Addr}{x0 x1 x2:Value}(D:w.cell? A=some x0)(E:w.cell? B=some x1)(F:w.cell? C=some x2)(h:w.drew.cell? A=some x0/\w.drew.cell? B=some x1/\w.drew.cell? C=some x2->cJ P ops Q (fun w'=>w'.cell? A=some x0/\w'.cell? B=some x1/\w'.cell? C=some x2) n (Array.replicate n false) a w.drew)(G:P.follows .mixedOrders=true:=by kernel_rfl)(hn:ops.size=n:=by rfl):(Code.region id ops true).wp P Q a w:=by subst hn;exact cJ.start (S:=(fun w'=>w'.cell? A=some x0/\w'.cell? B=some x1/\w'.cell? C=some x2)) G ⟨D,E,F⟩ h
theorem dd(n:Nat){id:Nat}{a:Act}{w:World}{A B C D:Addr}{x0 x1 x2 x3:Value}(E:w.cell? A=some x0)(F:w.cell? B=some x1)(G:w.cell? C=some x2)(H:w.cell? D=some x3)(h:w.drew.cell? A=some x0/\w.drew.cell? B=some x1/\w.drew.cell? C=some x2/\w.drew.cell? D=some x3->cJ P ops Q (fun w'=>w'.cell? A=some x0/\w'.cell? B=some x1/\w'.cell? C=some x2/\w'.cell? D=some x3) n (Array.replicate n false) a w.drew)(I:P.follows .mixedOrders=true:=by kernel_rfl)(hn:ops.size=n:=by rfl):(Code.region id ops true).wp P Q a w:=by subst hn;exact cJ.start (S:=(fun w'=>w'.cell? A=some x0/\w'.cell? B=some x1/\w'.cell? C=some x2/\w'.cell? D=some x3)) I ⟨E,F,G,H⟩ h
theorem de(n:Nat){id:Nat}{a:Act}{w:World}{A B C D E:Addr}{x0 x1 x2 x3 x4:Value}(F:w.cell? A=some x0)(G:w.cell? B=some x1)(H:w.cell? C=some x2)(I:w.cell? D=some x3)(J:w.cell? E=some x4)(h:w.drew.cell? A=some x0/\w.drew.cell? B=some x1/\w.drew.cell? C=some x2/\w.drew.cell? D=some x3/\w.drew.cell? E=some x4->cJ P ops Q (fun w'=>w'.cell? A=some x0/\w'.cell? B=some x1/\w'.cell? C=some x2/\w'.cell? D=some x3/\w'.cell? E=some x4) n (Array.replicate n false) a w.drew)(K:P.follows .mixedOrders=true:=by kernel_rfl)(hn:ops.size=n:=by rfl):(Code.region id ops true).wp P Q a w:=by subst hn;exact cJ.start (S:=(fun w'=>w'.cell? A=some x0/\w'.cell? B=some x1/\w'.cell? C=some x2/\w'.cell? D=some x3/\w'.cell? E=some x4)) K ⟨F,G,H,I,J⟩ h
end
def aF(P M:Int):Int:=if P<2\/M<1\/8<M then 0 else if P^M.toNat<=256 then P^M.toNat else 0
theorem kJ{P M:Int}(h:P<2\/M<1\/8<M):aF P M=0:=by unfold aF;rw[iP h]
theorem jA{P:Int}(h:2<=P)(k:Nat):1<=P^k:=by
 induction k with
 |zero=>simp
 |succ k ih=>rw[Int.pow_succ];have:=Int.mul_le_mul ih (show(1:Int)<=P from om) om om;omega
theorem dU{P:Int}(h:2<=P){i j:Nat}(B:i<=j):P^i<=P^j:=by obtain⟨d,rfl⟩:=Nat.le.dest B;rw[Int.pow_add];have C:=jA h i;have A:=jA h d;have:=Int.mul_le_mul_of_nonneg_left A (show 0<=P^i from om);omega
theorem jc{P q:Int}(A:2<=P)(hq:1<=q):(256/P<q)↔256<q*P:=by have:=Int.ediv_lt_iff_lt_mul (a:=256) (b:=q) (c:=P) om;exact this
theorem DL{P M:Int}{k:Nat}(B:2<=P)(C:1<=M)(D:M<=8)(hk:(k:Int)<M)(h:256<P^k*P):aF P M=0:=by unfold aF;rw[iN om,iN];have A:=dU B (show k+1<=M.toNat from om);rw[Int.pow_succ] at A;omega
theorem FZ{P M:Int}{k:Nat}(C:2<=P)(A:1<=M)(B:M<=8)(hk:(k:Int)=M)(h:P^k<=256):aF P M=P^k:=by
 obtain rfl:k=M.toNat:=om;unfold aF;rw[iN om,iP h]
theorem aM(P M:Int):0<=aF P M/\aF P M<=256:=by
 unfold aF;split
 .omega
 .rename_i h;have:=jA (show 2<=P from om) M.toNat
  split<;>omega
theorem jH(w:Wo)(P M:Int)(mv:Va):Calls prog 6 #[.agg #[P,M,mv]] w (kV w (aF P M)):=by
 have K:∀o,Below w w (w.alloc o):=fun o=>(Below.refl _ _).alloc zr o;have B:=zh K;clear K;by_cases J:P<2
 .have A:Hid (aF P M=0):=kJ (.inl J);go_enter func6,ntmps6
  go_wp2
  go_ret;exact⟨by rw[A.out];rfl,B.out _⟩
 by_cases F:M<1
 .have A:Hid (aF P M=0):=kJ (.inr (.inl F));go_enter func6,ntmps6
  go_wp2
  go_ret;exact⟨by rw[A.out];rfl,B.out _⟩
 by_cases H:8<M
 .have A:Hid (aF P M=0):=kJ (.inr (.inr H));go_enter func6,ntmps6
  go_wp2
  go_ret;exact⟨by rw[A.out];rfl,B.out _⟩
 have C:2<=P:=om;have G:1<=M:=om;have I:M<=8:=om;clear J F H;go_enter func6,ntmps6
 go_wp2
 go_loop [3,4] (fun q i=>∃k:Nat,(k:Int)<=M/\i=(k:aV)/\q=.int .i64 (P^k)/\P^k<=256) (fun _ i=>(M-intOf i).toNat)
 .exact⟨0,om,rfl,by rw[Int.pow_zero],by simp⟩
 .
  obtain⟨k,hk,rfl,rfl,hq⟩:=hrel;have S:=jA C k;have D:=zh (jc (q:=P^k) C S);have E:Hid (P^(k+1)=P^k*P):=Int.pow_succ P k;have N:=zh (@DL P M k C G I);have O:=zh (@FZ P M k C G I);generalize hQ:P^k=q at*;have T:=zh hQ;clear hQ;by_cases R:(k:Int)<M
  .by_cases L:256/P<q
   .have A:Hid (aF P M=0):=N.out R (D.1 L)
    go_wp2
    go_ret;exact⟨by rw[A.out];rfl,B.out _⟩
   .have Q:q*P<=256:=by
     rcases Int.lt_or_le 256 (q*P) with h|h
     .exact aB (D.2 h) L
     .exact h
    have U:0<=q*P:=Int.mul_nonneg om om
    go_wp2
    go_round
    .exact⟨k+1,om,by go_num,by rw[E.out],E.out▸Q⟩
    .simp[intOf];omega
  .have A:Hid (aF P M=q):=O.out om hq
   go_wp2
   go_ret;exact⟨by rw[A.out];rfl,B.out _⟩
def isB(P M x:Int):Bool:=decide (0<=x)&&decide (x<aF P M)
theorem MY(w:Wo)(P M x:Int)(mv:Va):Calls prog 261 #[.agg #[P,M,mv],x] w (nX w (isB P M x)):=by
 by_cases B:0<=x
 .have A:Hid (isB P M x=decide (x<aF P M)):=by
   have:isB P M x=decide (x<aF P M):=by simp[isB,B]
   exact this
  generalize hO:aF P M=O at*;have C:=zh hO;clear hO;go_enter func261,ntmps261;go_wp2_with fail;apply(jH _ _ _ _).mono;rintro e w1⟨rfl,D⟩;rw[C.out]
  go_wp2
  go_ret;exact⟨by rw[A.out];rfl,aC (aH _ _) D⟩
 .have A:Hid (isB P M x=false):=by
   have:isB P M x=false:=by simp[isB,B]
   exact this
  go_enter func261,ntmps261
  go_wp2
  go_ret;exact⟨by rw[A.out];rfl,aH _ _⟩
end
section
def nD(n:Int):Prop:=2<=n/\∀d:Int,2<=d->d<n->n%d≠0
theorem ES{n d:Int}(A:2<=n)(I:2<=d)(H:n<d*d)(h:∀e:Int,2<=e->e<d->n%e≠0):nD n:=by
 refine⟨A,fun e C J B=>?_⟩;by_cases F:e<d
 .exact h e C F B
 .obtain⟨f,D⟩:=Int.dvd_of_emod_eq_zero B;have K:0<f:=by
   rcases Int.lt_or_le 0 f with h|h
   .exact h
   .have:=Int.mul_nonneg (show 0<=e from om) (show 0<= -f from om);rw[Int.mul_neg] at this;omega
  have L:f≠1:=by rintro rfl;omega
  have E:f<d:=by
   rcases Int.lt_or_le f d with h|h
   .exact h
   .have G:d*d<=e*d:=Int.mul_le_mul_of_nonneg_right om om;have A:e*d<=e*f:=Int.mul_le_mul_of_nonneg_left h om;omega
  exact h f om E (by rw[D];exact Int.mul_emod_left e f)
def bU(x p:Int)(m:Nat):LI:=(List.range m).map fun i=>x/p^i%p
theorem eP(x p:Int)(m:Nat):(bU x p m).length=m:=by simp[bU]
theorem gF{x p:Int}{m i:Nat}(h:i<m):(bU x p m).getD i 0=x/p^i%p:=by simp[bU,List.getD,h]
theorem iI{x p:Int}{m:Nat}(A:2<=p)(i:Nat):0<=(bU x p m).getD i 0/\(bU x p m).getD i 0<p:=by
 by_cases h:i<m
 .rw[gF h];exact⟨eN _ om,eM _ om⟩
 .rw[aZ4,aY4 (by rw[eP];omega)];simp;omega
def eQ(x p:Int)(m k:Nat):LI:=(List.range m).map fun i=>if i<k then x/p^i%p else 0
theorem vG(x p:Int)(m:Nat):eQ x p m 0=List.replicate m 0:=by simp[eQ,List.map_const']
theorem xJ(x p:Int)(m k:Nat):(eQ x p m k).length=m:=by simp[eQ]
theorem vF(x p:Int)(m:Nat):eQ x p m m=bU x p m:=by unfold eQ bU;exact List.map_congr_left fun i hi=>by rw[iP (by simpa using hi)]
theorem xK(x p:Int){m k:Nat}(hk:k<m):(eQ x p m k).set k (x/p^k%p)=eQ x p m (k+1):=by
 apply List.ext_getElem?;intro i;by_cases hi:i<m
 .by_cases e:k=i
  .subst e;simp[eQ,hi]
  .have A:(i<k+1)=(i<k):=by simp;omega
   simp[eQ,List.getElem?_set,e,hi,A]
 .simp[eQ,List.getElem?_set,hi]
theorem xL{x p:Int}(A:2<=p)(k:Nat):x/p^k/p=x/p^(k+1):=by rw[Int.pow_succ,Int.ediv_ediv_of_nonneg];exact Int.le_of_lt (Int.pow_pos om)
def bL(p:Int):LI->Int
 |[]=>0
 |a::d=>bL p d*p+a
theorem kB{p:Int}(D:2<=p):∀d:LI,(∀i,i<d.length->0<=d i 0/\d i 0<p)->0<=bL p d/\bL p d<p^d.length
 |[],_=>by simp[bL]
 |a::d,h=>by
  have E:=kB D d (fun i hi=>by have:=h (i+1) (by simpa using hi);simpa using this);have A:=h 0 sM;simp only[List.getD_cons_zero] at A;unfold bL;rw[List.length_cons,Int.pow_succ];constructor
  .have:=Int.mul_nonneg E.1 (show 0<=p from om);omega
  .have B:bL p d+1<=p^d.length:=om;have C:=Int.mul_le_mul_of_nonneg_right B (show 0<=p from om);rw[Int.add_mul] at C;omega
theorem tH{d:LI}{i:Nat}(h:i<d):d.drop i=d i 0::d.drop (i+1):=by rw[List.drop_eq_getElem_cons h];simp[List.getD,h]
theorem AZ{p:Int}{d:LI}{i:Nat}(h:i<d):bL p (d.drop i)=bL p (d.drop (i+1))*p+d i 0:=by rw[tH h];rfl
theorem FE(d:LI)(i j:Nat):(d.drop i).getD j 0=d (i+j) 0:=by simp[List.getD,List.getElem?_drop]
end
section
open Go.RowKit
theorem KT{P M:Int}(h:256<P):aF P M=0:=by
 unfold aF;by_cases A:P<2\/M<1\/8<M
 .rw[iP A]
 .rw[iN A,iN];have B:=dU (show 2<=P from om) (show 1<=M.toNat from om);rw[Int.pow_one] at B;omega
theorem gY(w:Wo)(P M:Int):Calls prog 49 #[P,M] w fun e w'=>e=.returned (.int .i64 (aF P M))/\w=w':=by
 by_cases H:P<2
 .have A:Hid (aF P M=0):=kJ (.inl H);go_enter func49,ntmps49
  go_wp2
  go_ret;exact⟨by rw[A.out];rfl,rfl⟩
 by_cases I:256<P
 .have A:Hid (aF P M=0):=KT I;go_enter func49,ntmps49
  go_wp2
  go_ret;exact⟨by rw[A.out];rfl,rfl⟩
 by_cases D:M<1
 .have A:Hid (aF P M=0):=kJ (.inr (.inl D));go_enter func49,ntmps49
  go_wp2
  go_ret;exact⟨by rw[A.out];rfl,rfl⟩
 by_cases F:8<M
 .have A:Hid (aF P M=0):=kJ (.inr (.inr F));go_enter func49,ntmps49
  go_wp2
  go_ret;exact⟨by rw[A.out];rfl,rfl⟩
 have B:2<=P:=om;have R:P<=256:=om;have E:1<=M:=om;have G:M<=8:=om;clear H D F I;go_enter func49,ntmps49
 go_wp2
 go_loop [5,21] (fun q i=>∃k:Nat,(k:Int)<=M/\i=(k:aV)/\q=.int .i64 (P^k)/\P^k<=256) (fun _ i=>(M-intOf i).toNat)
 .exact⟨0,om,rfl,by rw[Int.pow_zero],by simp⟩
 .
  obtain⟨k,hk,rfl,rfl,hq⟩:=hrel;have U:=jA B k;have C:Hid (P^(k+1)=P^k*P):=Int.pow_succ P k;have J:=zh (@DL P M k B E G);have K:=zh (@FZ P M k B E G);generalize hQ:P^k=q at*;have O:=zh hQ;clear hQ;by_cases N:(k:Int)<M
  .have S:0<=q*P:=Int.mul_nonneg om om;have T:q*P<=65536:=by
    have Q:q*P<=256*P:=Int.mul_le_mul_of_nonneg_right hq om;omega
   by_cases L:256<q*P
   .have A:Hid (aF P M=0):=J.out N L
    go_wp2
    go_ret;exact⟨by rw[A.out];rfl,rfl⟩
   .go_wp2
    go_round
    .exact⟨k+1,om,by go_num,by rw[C.out],oA C.out⟩
    .simp[intOf];omega
  .have A:Hid (aF P M=q):=K.out om hq
   go_wp2
   go_ret;exact⟨by rw[A.out];rfl,rfl⟩
noncomputable def lI(n:Int):Bool:= @decide (nD n) (Classical.propDecidable _)
theorem pK{n:Int}(h:nD n):lI n=true:=by unfold lI;simp[h]
theorem nM{n:Int}(h:¬nD n):lI n=false:=by unfold lI;simp[h]
theorem pB(w:Wo)(n:Int)(D:2<=n)(hn:n<=256):Calls prog 100 #[n] w fun e w'=>e=.returned (.bool (lI n))/\w=w':=by
 go_enter func100,ntmps100
 go_wp2
 go_loop [3] (fun d=>∃k:Int,2<=k/\k<=17/\d=(k:aV)/\Hid (∀e:Int,2<=e->e<k->n%e≠0)) (fun d=>(17-intOf d).toNat)
 .exact⟨2,om,om,rfl,aG fun e A D=>om⟩
 .
  obtain⟨k,E,I,rfl,F⟩:=hrel;have M:0<=k*k:=Int.mul_nonneg om om;have N:k*k<=289:=by have A:k*k<=17*k:=Int.mul_le_mul_of_nonneg_right I om;omega
  by_cases O:k*k<=n
  .have L:k<=16:=by
    rcases Int.lt_or_le 16 k with h|h
    .have A:17*17<=k*k:=Int.mul_le_mul om om om om;omega
    .exact h
   by_cases B:n%k=0
   .have J:k<n:=by
     have A:2*k<=k*k:=Int.mul_le_mul_of_nonneg_right E om;omega
    have C:Hid (lI n=false):=nM fun K=>K.2 k E J B
    go_wp2
    go_ret;exact⟨by rw[C.out];rfl,rfl⟩
   .have P:(n%k==0)=false:=by simp[B]
    have G:=zh B;clear B
    go_wp2
    go_round
    .exact⟨k+1,om,om,rfl,aG fun e A D=>by
     by_cases H:e=k
     .subst H;exact G.out
     .exact F.out e A om⟩
    .simp[intOf];omega
  .have C:Hid (lI n=true):=pK (ES D E om F)
   go_wp2
   go_ret;exact⟨by rw[C.out];rfl,rfl⟩
theorem uK{x p:Int}(A:0<=x)(B:x<=256)(C:2<=p)(k:Nat):0<=x/p^k/\x/p^k<=256:=by
 have hk:=jA C k;constructor
 .exact Int.ediv_nonneg A om
 .exact Int.le_trans (Int.ediv_le_self _ A) B
theorem xI(w:Wo)(x p m:Int)(M:0<=x)(N:x<=256)(D:2<=p)(K:0<=m)(U:m<=8):
 Calls prog 156 #[x,p,m] w (sN w (bU x p m.toNat)):=by
 obtain⟨n,rfl⟩:=Int.eq_ofNat_of_zero_le K;rw[aZ8];have V:n<=8:=om;have L:=dX n om;have E:=zh (uK M N D);go_enter func156,ntmps156
 go_wp2
 clear L;have G:Hid (OI w (w.alloc (.cells (madeCells #[z0] n) 3)) (.slice w n n) (eQ x p n 0)):=by rw[vG];exact OI.made w n zr om
 go_loopw [0,13] (fun y i wr=>∃(k:Nat),k<=n/\i=(k:aV)/\y=.int .i64 (x/p^k)/\Hid (OI w wr (.slice w n n) (eQ x p n k))/\Hid (Below w w wr)) (fun _ i _=>n-(intOf i).toNat)
 .exact⟨0,aZ5 _,rfl,by simp,G,aH _ _⟩
 .
  obtain⟨k,hk,rfl,rfl,A,B⟩:=hrel;by_cases C:k<n
  .have Q:=A.cell k (by rw[xJ];exact C);have T:=A.frozen k;have H:=zh (A.set k (x/p^k%p));have J:=E.out k;obtain⟨R,S⟩:=J;have F:=zh (xL (x:=x) D k);have I:=zh (xK x p C);generalize hy:x/p^k=y at*;have P:=zh hy;clear hy;generalize hg:(eQ x p n k).getD k 0=W at*;have O:=zh hg;clear hg
   go_wp2
   go_roundw
   .exact⟨k+1,om,by go_num,by rw[<-F.out],I.out▸H,B.setCell zr _⟩
   .simp[intOf];omega
  .obtain rfl:k=n:=om
   go_wp2
   go_ret;exact⟨_,rfl,by rw[<-vF];exact A.out,B.out⟩
theorem LN(w:Wo)(v:Va)(d:LI)(p:Int)(h:SI w v d)(B:2<=p)(G:∀i,i<d.length->0<=d i 0/\d i 0<p)(hq:p^d.length<=256):
 Calls prog 157 #[v,p] w fun e w'=>e=.returned (.int .i64 (bL p d))/\w=w':=by
 obtain⟨A,c,rfl,h⟩:=h;have hn:=h.len;have H:=zh h;clear h;have E:=zh G;clear G;have L:Hid (∀i,i<=d.length->0<=bL p (d.drop i)/\bL p (d.drop i)*p<65536):=fun i hi=>by
  have D:=kB B (d.drop i) (fun j N=>by rw[List.length_drop] at N;rw[FE];exact E.out _ om);have R:p^(d.drop i).length<=p^d.length:=dU B (by rw[List.length_drop];omega);have C:d.length=0\/p<=256:=by
   by_cases e:d.length=0
   .exact .inl e
   .right;have:=dU B (show 1<=d.length from om);rw[Int.pow_one] at this;omega
  refine⟨D.1,?_⟩;rcases C with e|T
  .have:d.drop i=[]:=by apply eH;rw[List.length_drop];omega
   rw[this];simp[bL]
  .have S:bL p (d.drop i)*p<=255*p:=Int.mul_le_mul_of_nonneg_right om om;omega
 have C:p<=256\/d.length=0:=by
  by_cases e:d.length=0
  .exact .inr e
  .left;have:=dU B (show 1<=d.length from om);rw[Int.pow_one] at this;omega
 have J:=zh C;clear C;go_enter func157,ntmps157
 go_wp2
 go_loop [5,6] (fun x i=>∃(k:Nat),k<=d/\i=.int .i64 ((k:Int)-1)/\x=.int .i64 (bL p (d.drop k))) (fun _ i=>(intOf i+1).toNat)
 .exact⟨d.length,zr,rfl,by rw[List.drop_length];rfl⟩
 .
  obtain⟨k,hk,rfl,rfl⟩:=hrel;by_cases Q:0<k
  .obtain⟨P,x,rfl,V,_,F⟩:=H.elt (k:=k-1) om;have D:=L.out k hk;obtain⟨M,U⟩:=D;have I:=E.out (k-1) om;rw[F.out] at I;obtain⟨a,b⟩:=I;have Z:p<=256:=by rcases J.out with h|h;exact h;omega
   have K:Hid (bL p (d.drop (k-1))=bL p (d.drop k)*p+x):=by have:=AZ (p:=p) (d:=d) (i:=k-1) om;rw[F.out,show k-1+1=k from om] at this;exact this
   have X:((k:Int)-1).toNat=k-1:=om;have W:(1:Int)<=(k:Int):=om;have Y:0<=bL p (d.drop k)*p:=Int.mul_nonneg M om;generalize hv:bL p (d.drop k)=v at*;have O:=zh hv;clear hv
   go_wp2
   go_round
   .exact⟨k-1,om,by congr 1;omega,by rw[K.out]⟩
   .simp[intOf];omega
  .obtain rfl:k=0:=om
   go_wp2
   go_ret;exact⟨rfl,rfl⟩
def dH(q:Int)(l:LI):Int:=if∀k,k<l.length->0<=l k 0/\l k 0<q then 0 else 2
theorem xN{q:Int}{l:LI}{k:Nat}(hk:k<l)(h:¬(0<=l k 0/\l k 0<q)):dH q l=2:=by unfold dH;rw[iN];intro A;exact h (A k hk)
theorem tL{q:Int}{l:LI}(h:∀k,k<l.length->0<=l k 0/\l k 0<q):dH q l=0:=by unfold dH;rw[iP h]
theorem yB{P M x:Int}(h:0<=x/\x<aF P M):isB P M x=true:=by simp[isB,h]
theorem uN{P M x:Int}(h:¬(0<=x/\x<aF P M)):isB P M x=false:=by simp only[isB,Bool.and_eq_false_iff,decide_eq_false_iff_not];omega
theorem JT(w:Wo)(P M:Int)(mv v:Va)(l:LI)(h:SI w v l):
 Calls prog 143 #[.agg #[P,M,mv],v] w (kV w (dH (aF P M) l)):=by
 obtain⟨A,c,rfl,h⟩:=h;have hn:=h.len;have H:=zh h;clear h;go_enter func143,ntmps143
 go_wp2
 go_loopw [5] (fun i wr=>∃k:Nat,k<=l/\i=(k:aV)/\Hid (∀j,j<k->0<=l j 0/\l j 0<aF P M)/\Hid (Below (w.alloc (.cells #[P,M,mv] 24)).heap.size (w.alloc (.cells #[P,M,mv] 24)) wr)) (fun i _=>l.length-(intOf i).toNat)
 .exact⟨0,aZ5 _,rfl,aG fun j J=>aB J om,aG (bE _)⟩
 .
  obtain⟨k,hk,rfl,F,B⟩:=hrel;by_cases K:k<l
  .obtain⟨S,x,rfl,N,_,G⟩:=(H.below (aC (aH _ _) B) zr).elt K;have O:wr.cell? w.heap.size=some (P:aV):=by rw[(VJ B.out).1 _ _ sM];simp[go_sem]
   have Q:wr.cell? ⟨w.heap.size,1,none⟩=some (M:aV):=by rw[(VJ B.out).1 _ _ sM];simp[go_sem]
   have R:wr.cell? ⟨w.heap.size,2,none⟩=some mv:=by rw[(VJ B.out).1 _ _ sM];simp[go_sem]
   go_wp2_with fail
   go_still_tail 5,kr
   change wpList _ _ _ _ _ wr.drew;go_wp2_with fail;apply(MY _ _ _ _ _).mono;rintro e w1⟨rfl,I⟩;have E:=zh (aC (aC B (aI wr)) I);clear I B O Q R N;by_cases C:0<=x/\x<aF P M
   .rw[yB C];have L:=zh C;clear C
    go_wp2
    go_roundw
    .exact⟨k+1,om,by go_num,aG fun j J=>by
     by_cases e:j=k
     .subst e;rw[G.out];exact L.out
     .exact F.out j om,E⟩
    .simp[intOf];omega
   .rw[uN C];have D:Hid (dH (aF P M) l=2):=xN K (G.out▸C);clear C
    go_wp2
    go_ret;exact⟨by rw[D.out];rfl,aC (aH _ _) E⟩
  .obtain rfl:k=l:=om;have D:Hid (dH (aF P M) l=0):=tL F.out
   go_wp2
   go_ret;exact⟨by rw[D.out];rfl,aC (aH _ _) B⟩
def inQ(q x:Int):Int:=if 0<=x/\x<q then x else 0
theorem ji{q x:Int}(hq:1<=q):0<=inQ q x/\inQ q x<q:=by unfold inQ;split<;>omega
theorem bO{P M:Int}(h:aF P M≠0):2<=P/\P<=256/\1<=M/\M<=8/\P^M.toNat<=256/\aF P M=P^M.toNat:=by
 by_cases A:P<2\/M<1\/8<M
 .exact aB (kJ A) h
 .by_cases hq:P^M.toNat<=256
  .have B:=dU (show 2<=P from om) (show 1<=M.toNat from om);rw[Int.pow_one] at B;refine⟨om,om,om,om,hq,?_⟩;unfold aF;rw[iN A,iP hq]
  .exfalso;apply h;unfold aF;rw[iN A,iN hq]
structure dM(w w0:Wo)(P M:Int)(mv:Va):Prop where
 blk:Blk w0 w 24 [(P:aV),(M:aV),mv]
 bel:Below w w w0
theorem dM.mk'(w:Wo)(P M:Int)(mv:Va):dM w (w.alloc (.cells #[P,M,mv] 24)) P M mv:=⟨Blk.new w 24 [(P:aV),(M:aV),mv],aH w _⟩
theorem dM.on{w w0 w1:Wo}{P M:Int}{mv:Va}(h:dM w w0 P M mv)(A:Below w0 w0 w1):dM w w1 P M mv:=⟨h.blk.belowS A,aC h.bel A⟩
theorem dM.drew{w w0:Wo}{P M:Int}{mv:Va}(h:dM w w0 P M mv):dM w w0.drew P M mv:=⟨h.blk,h.bel.drew⟩
theorem dM.drewN{w w0:Wo}{P M:Int}{mv:Va}(h:dM w w0 P M mv)(n:Nat):dM w (w0.drewN n) P M mv:=⟨h.blk,aC h.bel (aY _ n)⟩
theorem dM.c0{w w0:Wo}{P M:Int}{mv:Va}(h:dM w w0 P M mv):w0.cell? w.heap.size=some (P:aV):=h.blk.cell 0
theorem dM.c1{w w0:Wo}{P M:Int}{mv:Va}(h:dM w w0 P M mv):w0.cell? ⟨w.heap.size,1,none⟩=some (M:aV):=h.blk.cell 1
theorem dM.c2{w w0:Wo}{P M:Int}{mv:Va}(h:dM w w0 P M mv):w0.cell? ⟨w.heap.size,2,none⟩=some mv:=h.blk.cell 2
theorem jk(w:Wo)(P M x:Int)(mv:Va):Calls prog 399 #[.agg #[P,M,mv],x] w (kV w (inQ (aF P M) x)):=by
 by_cases A:0<=x/\x<aF P M
 .have C:Hid (isB P M x=true):=yB A;have E:Hid (inQ (aF P M) x=x):=by show _=_;unfold inQ;rw[iP A]
  clear A;go_enter func399,ntmps399;go_wp2_with fail;apply(MY _ P M x mv).mono;rintro e w1⟨rfl,B⟩;rw[C.out];have D:=zh (aC (aH _ _) B);clear B;go_wp2;go_ret;exact⟨by rw[E.out];rfl,D.out⟩
 .have C:Hid (isB P M x=false):=uN A;have E:Hid (inQ (aF P M) x=0):=by show _=_;unfold inQ;rw[iN A]
  clear A;go_enter func399,ntmps399;go_wp2_with fail;apply(MY _ P M x mv).mono;rintro e w1⟨rfl,B⟩;rw[C.out];have D:=zh (aC (aH _ _) B);clear B;go_wp2;go_ret;exact⟨by rw[E.out];rfl,D.out⟩
theorem MI{x p:Int}(A:0<=x)(B:x<=100000000)(C:2<=p)(k:Nat):0<=x/p^k/\x/p^k<=100000000:=
 ⟨Int.ediv_nonneg A (oA (jA C k)),Int.le_trans (Int.ediv_le_self _ A) B⟩
theorem AT(w:Wo)(x p m:Int)(P:0<=x)(Q:x<=100000000)(E:2<=p)(Z:p<=100000000)(N:0<=m)(X:m<=1000):
 Calls prog 142 #[x,p,m] w (sN w (bU x p m.toNat)):=by
 obtain⟨n,rfl⟩:=Int.eq_ofNat_of_zero_le N;rw[aZ8];have Y:n<=1000:=om;have O:=dX n om;have G:=zh (MI P Q E);go_enter func142,ntmps142;go_wp2_with fail;clear O;have J:Hid (RI (w.alloc (.cells (madeCells #[z0] n) 3)) w (eQ x p n 0)):=by rw[vG];exact RI.made w n
 have F:=zh (aH w (.cells (madeCells #[z0] n) 3));go_loopw [0,8] (fun y i wr=>∃(k:Nat),k<=n/\i=(k:aV)/\y=.int .i64 (x/p^k)/\Hid (RI wr w (eQ x p n k))/\Hid (Below w w wr)) (fun _ i _=>n-(intOf i).toNat)
 .exact⟨0,aZ5 _,rfl,by simp,J,F⟩
 .
  obtain⟨k,hk,rfl,rfl,A,C⟩:=hrel;by_cases D:k<n
  .have T:=A.cell k (by rw[xJ];exact D);have W:=A.frozen k;have K:=zh (A.set k (x/p^k%p));have M:=G.out k;obtain⟨U,V⟩:=M;have I:=zh (xL (x:=x) E k);have L:=zh (xK x p D);generalize hy:x/p^k=y at*;have S:=zh hy;clear hy;generalize hg:(eQ x p n k).getD k 0=a at*;have R:=zh hg;clear hg;go_wp2_with fail
   go_roundw
   .exact⟨k+1,om,by go_num,by rw[<-I.out],L.out▸K,C.setCell zr _⟩
   .simp[intOf];omega
  .obtain rfl:n=k:=om;have H:Hid (RI wr w (bU x p n)):=by rw[<-vF];exact A
   go_wp2;go_ret;have:=H.oi (B:=w.heap.size) zr (by rw[eP];omega);rw[eP] at this;exact⟨_,rfl,this,C.out⟩
def cX(P M x:Int):LI:=bU (inQ (aF P M) x) P M.toNat
theorem jT(P M x:Int):(cX P M x).length=M.toNat:=eP _ _ _
theorem mV(w:Wo)(P M x:Int)(mv:Va)(H:aF P M≠0):Calls prog 352 #[.agg #[P,M,mv],x] w (sN w (cX P M x)):=by
 obtain⟨G,a,Y,Z,hq,O⟩:=bO H;have L:=ji (q:=aF P M) (x:=x) (oA (jA G M.toNat));have N:=aM P M;have F:Hid (0<=inQ (aF P M) x/\inQ (aF P M) x<=100000000):=by constructor<;>omega
 clear hq O L N H;have A:=zh (dM.mk' w P M mv);go_enter func352,ntmps352;go_wp2_with fail;obtain⟨w0,J⟩:=xE (w.alloc (.cells #[P,M,mv] 24));rw[<-J] at A|-;clear J;have c0:=A.c0;have c1:=A.c1;have c2:=A.c2
 go_region_held3 (fun w'=>w'.cell? w.heap.size=some (P:aV)/\w'.cell? ⟨w.heap.size,1,none⟩=some (M:aV)/\w'.cell? ⟨w.heap.size,2,none⟩=some mv) (go_keep)
  (first
   |(go_at_call 399;apply(jk _ P M x mv).mono;rintro e w1⟨rfl,D⟩;have Q:=zh D;have B:=zh (A.drew.on D);clear D;have S:=B.c0;have T:=B.c1;have U:=B.c2)
   |(go_at_call 142;apply(AT _ _ P M F.1 F.2 G om om om).mono;rintro e w2⟨u,rfl,I,E⟩;have K:=zh I;have R:=zh E;have C:=zh (B.on E);clear E I;have V:=C.c0;have W:=C.c1;have X:=C.c2))
 go_wp2;go_ret;exact⟨u,rfl,K.mono (B.bel.size),C.bel⟩
theorem wP(w:Wo)(P M:Int)(mv v:Va)(d:LI)(h:SI w v d)(C:2<=P)(J:∀i,i<d.length->0<=d i 0/\d i 0<P)(hq:P^d.length<=256):
 Calls prog 353 #[.agg #[P,M,mv],v] w (kV w (bL P d)):=by
 obtain⟨A,c,rfl,h⟩:=h;have hn:=h.len;have H:=zh h.si;clear h;have F:=zh J;clear J;have Q:Hid (∀i,i<=d.length->0<=bL P (d.drop i)/\bL P (d.drop i)*P<65536):=fun i hi=>by
  have E:=kB C (d.drop i) (fun j S=>by rw[List.length_drop] at S;rw[FE];exact F.out _ om);have W:P^(d.drop i).length<=P^d.length:=dU C (by rw[List.length_drop];omega);have D:d.length=0\/P<=256:=by
   by_cases e:d.length=0
   .exact .inl e
   .right;have:=dU C (show 1<=d.length from om);rw[Int.pow_one] at this;omega
  refine⟨E.1,?_⟩;rcases D with e|Y
  .have:d.drop i=[]:=by apply eH;rw[List.length_drop];omega
   rw[this];simp[bL]
  .have X:bL P (d.drop i)*P<=255*P:=Int.mul_le_mul_of_nonneg_right om om;omega
 have D:P<=256\/d.length=0:=by
  by_cases e:d.length=0
  .exact .inr e
  .left;have:=dU C (show 1<=d.length from om);rw[Int.pow_one] at this;omega
 have N:=zh D;clear D hq;have G:=zh (dM.mk' w P M mv);go_enter func353,ntmps353;go_wp2_with fail;obtain⟨w0,K⟩:=xE (w.alloc (.cells #[P,M,mv] 24));rw[<-K] at G|-;clear K;go_loopw [5,6] (fun x i wr=>∃(k:Nat),k<=d/\i=.int .i64 ((k:Int)-1)/\x=.int .i64 (bL P (d.drop k))/\Hid (dM w wr P M mv)) (fun _ i _=>(intOf i+1).toNat)
 .exact⟨d.length,zr,rfl,by rw[List.drop_length];rfl,G⟩
 .
  obtain⟨k,hk,rfl,rfl,B⟩:=hrel;by_cases V:0<k
  .obtain⟨U,x,rfl,a,_,I⟩:=(H.below B.bel zr).elt (k:=k-1) om;have E:=Q.out k hk;obtain⟨R,Z⟩:=E;have L:=F.out (k-1) om;rw[I.out] at L;obtain⟨n,o⟩:=L;have m:P<=256:=by rcases N.out with h|h;exact h;omega
   have O:Hid (bL P (d.drop (k-1))=bL P (d.drop k)*P+x):=by have:=AZ (p:=P) (d:=d) (i:=k-1) om;rw[I.out,show k-1+1=k from om] at this;exact this
   have g:((k:Int)-1).toNat=k-1:=om;have b:(1:Int)<=(k:Int):=om;have f:k-1<d.length:=om;have l:0<=bL P (d.drop k)*P:=Int.mul_nonneg R om;generalize hv:bL P (d.drop k)=v at*;have T:=zh hv;clear hv;have c0:=B.c0;go_wp2_with fail
   go_quiet (fail)
   go_wp2;exact⟨⟨k-1,om,by congr 1;omega,by rw[O.out],B.drewN _⟩,oI⟩
  .obtain rfl:k=0:=om
   go_wp2;go_ret;exact⟨rfl,B.bel⟩
theorem uJ{P M x:Int}(A:2<=P)(i:Nat):0<=(cX P M x).getD i 0/\(cX P M x).getD i 0<P:=iI A i
theorem dM.far{w w0:Wo}{P M:Int}{mv:Va}(h:dM w w0 P M mv){g k:Nat}(A:w<g)(u:Va):dM w (w0.setCell ⟨g,k,none⟩ u) P M mv:=
 ⟨h.blk.far (p:=⟨g,k,none⟩) (show w.heap.size≠g from om) u,h.bel.setCell (p:=⟨g,k,none⟩) (show w.heap.size<=g from om) u⟩
theorem dM.lt{w w0:Wo}{P M:Int}{mv:Va}(h:dM w w0 P M mv):w.heap.size<w0.heap.size:=h.blk.lt
def fW(P M x y:Int):Int:=bL P (aT M.toNat fun i=>((cX P M x).getD i 0+(cX P M y).getD i 0)%P)
def iO(P M x:Int):Int:=bL P (aT M.toNat fun i=>(P-(cX P M x).getD i 0)%P)
theorem YG(w:Wo)(P M x y:Int)(mv:Va)(O:aF P M≠0):Calls prog 351 #[.agg #[P,M,mv],x,y] w (kV w (fW P M x y)):=by
 obtain⟨K,Aa,τ,φ,hq,_⟩:=bO O;have T:=zh O;clear O;have X:=zh hq;clear hq;obtain⟨N,E⟩:=xE (M.toNat:Nat);have χ:1<=N:=om;have ψ:N<=8:=om;have j:Hid (fW P M x y=bL P (aT N fun i=>((cX P M x).getD i 0+(cX P M y).getD i 0)%P)):=by rw[E];rfl
 have A:Hid ((cX P M x).length=N/\(cX P M y).length=N):=by rw[E];exact⟨jT _ _ _,jT _ _ _⟩
 have h:=zh (uJ (M:=M) (x:=x) K);have m:=zh (uJ (M:=M) (x:=y) K);rw[<-E] at X;have θ:=zh E;clear E;have I:=zh (dM.mk' w P M mv);go_enter func351,ntmps351;go_wp2_with fail;obtain⟨w0,d⟩:=xE (w.alloc (.cells #[P,M,mv] 24));rw[<-d] at I|-;clear d;apply(mV _ P M x mv T).mono;rintro e w1⟨Ai,rfl,G,Z⟩;obtain⟨J,c1,rfl,Ac,Ad⟩:=G.form (by rw[A.out.1];omega);rw[A.out.1] at G|-;have C:=zh (I.on Z);have v:=C.c0;have z:=C.c1;have δ:=C.c2;have U:=zh G;clear Z G;go_wp2_with fail;apply(mV _ P M y mv T).mono;rintro e w2⟨Aj,rfl,H,L⟩;obtain⟨ζ,c2,rfl,Ae,Af⟩:=H.form (by rw[A.out.2];omega);rw[A.out.2] at H|-;have R:=zh (C.on L);have V:=zh (U.below L zr);have W:=zh H;have σ:=I.lt;clear L H v z δ C U;generalize ha:cX P M x=a at*;generalize hb:cX P M y=b at*;clear ha hb;go_wp2;go_loopw [9] (fun i wr=>∃k:Nat,k<=N/\i=(k:aV)/\Hid (OI w0 wr (.slice J N c1) (bZ N (fun i=>(a i 0+b i 0)%P) (fun i=>a i 0) k))/\Hid (OI w1 wr (.slice ζ N c2) b)/\Hid (dM w wr P M mv)) (fun i _=>(N-intOf i).toNat)
 .exact⟨0,aZ5 _,rfl,by rw[eT,rY A.out.1];exact V,W,R⟩
 .
  clear V W R;obtain⟨k,hk,rfl,B,Q,D⟩:=hrel;have c0:=D.c0;by_cases F:k<N
  .have ε:=B.cell k (by rw[fA];exact F);rw[fK F] at ε;have ξ:=Q.cell k (by rw[A.out.2];exact F);have ρ:=B.frozen k;have t:=h.out k;have u:=m.out k;have n:=zh (fQ (f:=fun i=>(a i 0+b i 0)%P) (g:=fun i=>a i 0) F);have p:=zh (B.set k ((a k 0+b k 0)%P));have q:=zh (Q.grown (aU wr J k (.int .i64 ((a k 0+b k 0)%P))) (fun g η e=>by simp[Value.ownBlock] at η;have π:=aZ0 e;omega));have s:=zh (D.far (g:=J) (k:=k) om (.int .i64 ((a k 0+b k 0)%P)));generalize a k 0=Ag at*;generalize b k 0=Ah at*;obtain⟨ι,κ⟩:=t;obtain⟨μ,ν⟩:=u;have ω:¬P=0:=om;have Ab:(P==0)=false:=by rw[eA];omega
   go_wp2_with fail
   go_still_tail 15,kr
   change wpList _ _ _ _ _ wr.drew;go_wp2;exact⟨⟨k+1,om,rfl,by rw[<-n.out];exact p.below (aI _) zr,q.below (aI _) zr,s.drew⟩,oI⟩
  .obtain rfl:N=k:=om;rw[eR] at B;have Y:Hid (∀i,i<(aT N fun i=>(a i 0+b i 0)%P).length->0<=(aT N fun i=>(a i 0+b i 0)%P).getD i 0/\(aT N fun i=>(a i 0+b i 0)%P).getD i 0<P):=fun i hi=>by rw[aW] at hi;rw[aK hi];exact⟨eN _ om,eM _ om⟩
   have S:Hid ((aT N fun i=>(a i 0+b i 0)%P).length=N):=aW _ _;generalize (aT N fun i=>(a i 0+b i 0)%P)=r at*;have o:=zh (B.si (oA S.out) (fun i=>by
    by_cases hi:i<r
    .have:=Y.out i hi;exact I64.of_small om om
    .rw[bG om];exact I64.zero))
   have c1:=D.c1;have c2:=D.c2;go_wp2_with fail;apply(wP _ P M mv _ r o K Y (S.out▸X.out)).mono;rintro e Ak⟨rfl,c⟩;have l:=zh (aC D.bel c);clear c;go_wp2;go_ret;exact⟨by rw[j.out];rfl,l.out⟩
