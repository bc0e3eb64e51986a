/- Texts of a claim, merged. -/
import Derived.Test.YtpfhoemohibniaaGreatDoorZA1
import Derived.Test.YtpfhoemohibniaaGreatDoorProg
import Derived.WalkKit
import Derived.Deep.Draws
import Derived.Deep.OwnRows
import Derived.Lib.Hide
import Derived.Test.YtpfhoemohibniaaGreatDoorRows
import Derived.ProofKit
import Derived.OpenShut
import Derived.ShutString
import Derived.ChangeOld
import Derived.Below
import Derived.SizedLaws
import Derived.Deep.Slices
import Derived.Lib.SmallJoins
import Derived.Deep.QuietTactic
import Derived.BigQuiet
import Derived.Deep.RegionHeld3
import Derived.StillTailTactics
import Derived.Maps.AppendAt
import Derived.Deep.RegionLawGrows
import Derived.Laws.CopyOwn
import Derived.Deep.DeepMust
import Derived.BigRegion
import Derived.OrdersHeld
import Derived.StillTail
set_option maxRecDepth 100000
set_option linter.unusedSimpArgs false
set_option linter.unusedVariables false
set_option maxHeartbeats 32000000
namespace Go.Proofs.YtpfhoemohibniaaGreatDoor
open Go.RowKit
theorem aD{p:Prop}(h:p):Hid p:=h
theorem bS(a:Addr)(n:Nat):(a.add n).block=a.block:=by unfold Addr.add;split<;>rfl
theorem yH(a:Addr)(i j:Nat):(a.add i).add j=a.add (i+j):=by unfold Addr.add;by_cases hi:i=0<;>by_cases A:j=0<;>simp[hi,A,Nat.add_assoc]
def I64(x:Int):Prop:= -9223372036854775808<=x/\x<=9223372036854775807
theorem I64.of_small{x:Int}(A: -1000000000000000<=x)(B:x<=1000000000000000):I64 x:=⟨by omega,by omega⟩
theorem I64.zero:I64 0:=I64.of_small (by omega) (by omega)
theorem I64.of_wf{x:Int}(h:(Lit.int .i64 x).wf=true):I64 x:=by simp[Lit.wf,IntKind.min,IntKind.max,IntKind.signed,IntKind.bits] at h;exact⟨by omega,by omega⟩
structure sH(w:World)(A:Option Addr)(c:Nat)(xs:LI):Prop where
 len:xs.length<=17592186044416
 cap:xs.length<=c
 cell:∀k,k<xs.length->∃ad,A=some ad/\w.cell? (ad.add k)=some (.int .i64 (xs.getD k 0))
 wf:∀k,I64 (xs.getD k 0)
def SI(w:World)(v:Value)(xs:LI):Prop:=∃A c,v=.slice A xs.length c/\sH w A c xs
theorem sH.keep{w w':World}{A:Option Addr}{c:Nat}{xs:LI}(h:sH w A c xs)(D:∀p:Addr,p.block<w.heap.size->w'.cell? p=w.cell? p):sH w' A c xs:=
 ⟨h.len,h.cap,fun k E=>by obtain⟨C,e,B⟩:=h.cell k E;exact⟨C,e,(D _ (World.block_lt_of_cell? _ _ B)).trans B⟩,h.wf⟩
theorem sH.below{w w':World}{A:Option Addr}{c B:Nat}{xs:LI}(h:sH w A c xs)(hb:Below B w w')(hB:w.heap.size<=B):sH w' A c xs:=
 h.keep fun _ C=>hb.cell (aY1 C hB)
theorem SI.below{w w':World}{v:Value}{B:Nat}{xs:LI}(h:SI w v xs)(hb:Below B w w')(hB:w.heap.size<=B):SI w' v xs:=by obtain⟨A,c,rfl,h⟩:=h;exact⟨A,c,rfl,h.below hb hB⟩
theorem sH.grown{w w':World}{A:Option Addr}{c:Nat}{xs:LI}{row:Option Nat}(h:sH w A c xs)(hg:w.grownBy w' row)(G:∀g,(Value.slice A xs.length c).ownBlock=some g->row≠some g):sH w' A c xs:=
 ⟨h.len,h.cap,fun k E=>by obtain⟨B,e,C⟩:=h.cell k E;refine⟨B,e,?_⟩;have F:=World.block_lt_of_cell? _ _ C;rw[World.cell?_of_block (w:=w) (hg.block _ F (fun D=>G (B.add k).block (by rw[bS,e];rfl) D.symm))];exact C,h.wf⟩
theorem sH.elt{w:World}{A:Option Addr}{c:Nat}{xs:LI}(h:sH w A c xs){k:Nat}(D:k<xs.length):∃B x,A=some B/\w.cell? (B.add k)=some (.int .i64 x)/\Hid (I64 x)/\Hid (xs.getD k 0=x):=by obtain⟨B,e,C⟩:=h.cell k D;exact⟨B,_,e,C,h.wf k,rfl⟩
theorem vO(a:Addr):a.add 0=a:=by simp[Addr.add]
theorem SI.none_(w:World):SI w (.slice none 0 0) []:=⟨none,0,rfl,by simp,by simp,fun k A=>absurd A (by simp),fun k=>by simp[I64]⟩
structure DQ(w:World)(A:Option Addr)(c:Nat)(xss:LL):Prop where
 len:xss.length<=17592186044416
 cap:xss.length<=c
 cell:∀k,k<xss.length->∃ad u,A=some ad/\w.cell? (ad.add k)=some u/\SI w u (xss.getD k [])
def SS(w:World)(v:Value)(xss:LL):Prop:=∃A c,v=.slice A xss.length c/\DQ w A c xss
theorem SI.keep{w w':World}{v:Value}{xs:LI}(h:SI w v xs)(B:∀p:Addr,p.block<w.heap.size->w'.cell? p=w.cell? p):SI w' v xs:=by obtain⟨A,c,rfl,h⟩:=h;exact⟨A,c,rfl,h.keep B⟩
theorem DQ.keep{w w':World}{A:Option Addr}{c:Nat}{xss:LL}(h:DQ w A c xss)(C:∀p:Addr,p.block<w.heap.size->w'.cell? p=w.cell? p):DQ w' A c xss:=
 ⟨h.len,h.cap,fun k E=>by obtain⟨D,u,e,B,F⟩:=h.cell k E;exact⟨D,u,e,(C _ (World.block_lt_of_cell? _ _ B)).trans B,F.keep C⟩⟩
theorem DQ.below{w w':World}{A:Option Addr}{c B:Nat}{xss:LL}(h:DQ w A c xss)(hb:Below B w w')(hB:w.heap.size<=B):DQ w' A c xss:=
 h.keep fun _ C=>hb.cell (aY1 C hB)
theorem SS.below{w w':World}{v:Value}{B:Nat}{xss:LL}(h:SS w v xss)(hb:Below B w w')(hB:w.heap.size<=B):SS w' v xss:=by obtain⟨A,c,rfl,h⟩:=h;exact⟨A,c,rfl,h.below hb hB⟩
theorem SS.none_(w:World):SS w (.slice none 0 0) []:=⟨none,0,rfl,by simp,by simp,fun k A=>absurd A (by simp)⟩
theorem DQ.elt{w:World}{A:Option Addr}{c:Nat}{xss:LL}(h:DQ w A c xss){k:Nat}(F:k<xss.length):
  ∃C B D xs,A=some C/\w.cell? (C.add k)=some (.slice B xs.length D)/\Hid (sH w B D xs)/\Hid (xss.getD k []=xs):=by
 obtain⟨C,u,e,E,B,D,H,G⟩:=h.cell k F;subst H;exact⟨C,B,D,_,e,E,G,rfl⟩
theorem sH.si{w:World}{A:Option Addr}{c:Nat}{xs:LI}(h:sH w A c xs):SI w (.slice A xs.length c) xs:=⟨A,c,rfl,h⟩
def OI(B:Nat)(w:World)(v:Value)(xs:LI):Prop:=w.ownsRow B 3 1 v xs.length (xs.map (Value.int .i64))
theorem OI.nil(B:Nat)(w:World):OI B w (.slice none 0 0) []:=World.ownsRow_nil w B 3 1
theorem OI.si{B:Nat}{w:World}{v:Value}{xs:LI}(h:OI B w v xs)(F:xs.length<=17592186044416)(G:∀k,I64 (xs.getD k 0)):SI w v xs:=by
 have D:=h.2;rcases D with⟨rfl,C⟩|⟨g,A,H,rfl,_,_,hn,_,_,_⟩
 .obtain rfl:xs=[]:=List.eq_nil_of_length_eq_zero C;exact SI.none_ w
 .refine⟨some ⟨g,0,none⟩,A,rfl,F,hn,fun k E=>⟨_,rfl,?_⟩,G⟩;refine World.ownsRow.cells h (g:=g) rfl k _ ?_;simp[E]
theorem OI.form{B:Nat}{w:World}{v:Value}{xs:LI}(h:OI B w v xs)(E:0<xs.length):∃g c,v=.slice (some ⟨g,0,none⟩) xs.length c/\B<=g/\g<w.heap.size:=by
 rcases h.2 with⟨rfl,D⟩|⟨g,A,C,rfl,hb,hg,_⟩
 .omega
 .exact⟨g,A,rfl,hb,(Array.getElem?_eq_some_iff.1 hg).1⟩
theorem OI.cell{B:Nat}{w:World}{g n c:Nat}{xs:LI}(h:OI B w (.slice (some ⟨g,0,none⟩) n c) xs)(k:Nat)(C:k<xs.length):w.cell? ⟨g,k,none⟩=some (.int .i64 (xs.getD k 0)):=by
 have hn:n=xs.length:=by
  rcases h.2 with⟨A,_⟩|⟨F,D,E,A,_⟩
  .simp at A
  .simp at A;exact A.2.1
 subst hn;have:=World.ownsRow.cellAt h k (by omega);rw[this];simp[C]
theorem OI.frozen{B:Nat}{w:World}{g n c:Nat}{xs:LI}(h:OI B w (.slice (some ⟨g,0,none⟩) n c) xs)(k:Nat):w.frozen? ⟨g,k,none⟩=false:=by
 have hn:n=xs.length:=by
  rcases h.2 with⟨A,_⟩|⟨E,C,D,A,_⟩
  .simp at A
  .simp at A;exact A.2.1
 subst hn;exact World.ownsRow.frozenAt h k
theorem OI.set{B:Nat}{w:World}{g n c:Nat}{xs:LI}(h:OI B w (.slice (some ⟨g,0,none⟩) n c) xs)(k:Nat)(x:Int):OI B (w.setCell ⟨g,k,none⟩ (.int .i64 x)) (.slice (some ⟨g,0,none⟩) n c) (xs.set k x):=by
 have hn:n=xs.length:=by
  rcases h.2 with⟨A,_⟩|⟨E,C,D,A,_⟩
  .simp at A
  .simp at A;exact A.2.1
 subst hn;have:=(World.ownsRow.stored h k (.int .i64 x)).1;unfold OI;simpa[List.map_set] using this
theorem OI.keep{B:Nat}{w w':World}{v:Value}{xs:LI}(h:OI B w v xs)(E:∀g,v.ownBlock=some g->w'.heap[g]?=w.heap[g]?):OI B w' v xs:=by
 refine⟨h.1,?_⟩;rcases h.2 with hn|⟨g,A,C,rfl,hb,D,rest⟩
 .exact .inl hn
 .exact .inr ⟨g,A,C,rfl,hb,(E g rfl).trans D,rest⟩
theorem OI.lt{B:Nat}{w:World}{v:Value}{xs:LI}(h:OI B w v xs){g:Nat}(hg:v.ownBlock=some g):B<=g/\g<w.heap.size:=World.ownsRow.lt h g hg
theorem OI.below{B B':Nat}{w w':World}{v:Value}{xs:LI}(h:OI B w v xs)(hb:Below B' w w')(hB:w.heap.size<=B'):OI B w' v xs:=
 h.keep fun g hg=>hb.block g (by have:=h.lt hg;omega)
theorem OI.grown{B:Nat}{w w':World}{v:Value}{xs:LI}{row:Option Nat}(h:OI B w v xs)(hg:w.grownBy w' row)(C:∀g,v.ownBlock=some g->row≠some g):OI B w' v xs:=
 h.keep fun g A=>hg.block g (h.lt A).2 (fun e=>C g A e.symm)
theorem OI.mono{B B':Nat}{w:World}{v:Value}{xs:LI}(h:OI B w v xs)(hB:B'<=B):OI B' w v xs:=by
 refine⟨h.1,?_⟩;rcases h.2 with hn|⟨g,A,C,rfl,hb,D,rest⟩
 .exact .inl hn
 .exact .inr ⟨g,A,C,rfl,by omega,D,rest⟩
theorem Tryz.infoInt:(Tryz.prog.info? 3).map (fun i=>(i.zero,i.size,i.bytes))=some (some (.int .i64 0),1,8):=by kernel_rfl
theorem dV(n:Nat)(h:n<=35184372088832)(w:World):(Instr.makeSlice 22 (.int .i64 (n:Int)) (.int .i64 (n:Int))).run Tryz.prog w=
  .ok (.slice (some ⟨w.heap.size,0,none⟩) n n) (w.alloc (.cells (madeCells #[.int .i64 0] n) 3)):=
 run_make_row' (P:=Tryz.prog) 22 3 (.int .i64 0) 8 Tryz.underlying22 Tryz.infoInt rfl .i64 .i64 n (by omega) (by omega) w
theorem OI.made{B:Nat}(w:World)(n:Nat)(hB:B<=w.heap.size)(h:n<=35184372088832):OI B (w.alloc (.cells (madeCells #[.int .i64 0] n) 3)) (.slice (some ⟨w.heap.size,0,none⟩) n n) (List.replicate n 0):=by have:=World.ownsRow_lit (base:=B) (e:=3) (size:=1) w (madeCells #[.int .i64 0] n) n hB (by unfold maxLen;omega) (by simp[size_madeCells]);unfold OI;rw[toList_madeCells_one] at this;simpa using this
theorem OI.empty{B:Nat}(w:World)(hB:B<=w.heap.size):OI B (w.alloc (.cells #[] 3)) (.slice (some ⟨w.heap.size,0,none⟩) 0 0) []:=by have:=World.ownsRow_lit (base:=B) (e:=3) (size:=1) w #[] 0 hB (by unfold maxLen;omega) rfl;unfold OI;simpa using this
theorem OI.lit{B:Nat}(w:World)(xs:LI)(hB:B<=w.heap.size)(h:xs.length<=17592186044416):OI B (w.alloc (.cells (xs.map (Value.int .i64)).toArray 3)) (.slice (some ⟨w.heap.size,0,none⟩) xs.length xs.length) xs:=by have:=World.ownsRow_lit (base:=B) (e:=3) (size:=1) w (xs.map (Value.int .i64)).toArray xs.length hB (by unfold maxLen;omega) (by simp);unfold OI;simpa using this
theorem SI.lit(w:World)(xs:LI)(h:xs.length<=17592186044416)(A:∀k,I64 (xs.getD k 0)):SI (w.alloc (.cells (xs.map (Value.int .i64)).toArray 3)) (.slice (some ⟨w.heap.size,0,none⟩) xs.length xs.length) xs:=
 (OI.lit (B:=0) w xs (aZ5 _) h).si h A
theorem OI.alloc{B:Nat}{w:World}{v:Value}{xs:LI}(h:OI B w v xs)(o:Obj):OI B (w.alloc o) v xs:=World.ownsRow.alloc h o
theorem fF{ops:Array Oper}{rest:List Oper}{o:Oper}{a:Act}{w:World}{Q:Exit->Act->World->Prop}(hg:o.guard=none)(s x:Operand)
  (G:o.op=.call {callee:=.builtin .append,args:=#[s,x],argTypes:=#[22,22]})
  (B:Nat)(v:Value)(xs:LI)(I:a.eval s=v)(H:OI B w v xs)(g c:Nat)(y:Int)(J:a.eval x=.slice (some ⟨g,0,none⟩) 1 c)(F:w.cell? ⟨g,0,none⟩=some (.int .i64 y))
  (O:xs.length+1<=17592186044416)(hB:B<=w.heap.size)
  (h:∀v' w',OI B w' v' (xs++[y])->w.grownBy w' v.ownBlock->wpList Tryz.prog ops Q rest (a.put o.dst v') w'):wpList Tryz.prog ops Q (o::rest) a w:=by
 obtain⟨N,hi,K,L,M⟩:=info_parts Tryz.infoInt;refine wpList_append_own w hg s x 22 G B 3 N (.int .i64 0) 1 8 Tryz.underlying22 hi K L M rfl (by decide) v xs.length (xs.map (Value.int .i64)) I H ⟨g,0,none⟩ 1 c [.int .i64 y] J rfl ?_ ?_ ?_ ?_ hB ?_
 .intro j u A
  match j,A with
  |0,A=>simp at A;subst A;simpa[Addr.add] using F
 .intro u C;simp at C;subst C;rfl
 .unfold maxLen;omega
 .omega
 .intro v' w' D E _;refine h v' w' ?_ E;unfold OI;simpa using D
theorem OI.bgrown{B:Nat}{w0 w w':World}{v:Value}{xs:LI}(h:OI B w v xs)(hb:Below B w0 w)(hB:B<=w.heap.size)(hg:w.grownBy w' v.ownBlock):Below B w0 w':=
 hb.grown hg hB fun k A=>(h.lt A).1
theorem bE(w:World):Below w.heap.size w w:=Below.refl _ _
theorem aF(w:World)(o:Obj):Below w.heap.size w (w.alloc o):=(Below.refl _ _).alloc zr o
theorem aH(w:World):Below w.heap.size w w.drew:=(Below.refl _ _).drew
theorem bI(w:World)(n:Nat):Below w.heap.size w (w.drewN n):=⟨rfl,rfl,rfl,Nat.le_refl _,fun _ _=>rfl⟩
theorem aA{w w1 w2:World}(h:Below w.heap.size w w1)(A:Below w1.heap.size w1 w2):Below w.heap.size w w2:=h.trans (A.mono h.size)
theorem P8{W w1:World}(hb:Below W.heap.size W w1):(∀b o,b<W.heap.size->w1.cell? ⟨b,o,none⟩=W.cell? ⟨b,o,none⟩)/\(∀b o,b<W.heap.size->w1.frozen? ⟨b,o,none⟩=W.frozen? ⟨b,o,none⟩):=
 ⟨fun b o h=>hb.cell (p:=⟨b,o,none⟩) h,fun b o h=>hb.frozen (p:=⟨b,o,none⟩) h⟩
def iJ(w:World)(z:Int)(e:Ending)(w':World):Prop:=e=.returned (.int .i64 z)/\Below w.heap.size w w'
def sG(w:World)(z:Bool)(e:Ending)(w':World):Prop:=e=.returned (.bool z)/\Below w.heap.size w w'
def New(w:World)(u:Value):Prop:=∀g,u.ownBlock=some g->w.heap.size<=g
theorem New.nil(w:World)(n c:Nat):New w (.slice none n c):=fun g h=>by simp[Value.ownBlock] at h
theorem OI.new{B:Nat}{w w':World}{v:Value}{xs:LI}(h:OI B w' v xs)(hB:w.heap.size<=B):New w v:=fun g hg=>aZ6 hB (h.lt hg).1
section bits
theorem CW(a:Nat)(A:a<9223372036854775808):(BitVec.ofInt 64 (a:Int)).toNat=a:=by rw[BitVec.ofInt_natCast,BitVec.toNat_ofNat];exact Nat.mod_eq_of_lt (by omega)
theorem F3(a b:Nat)(A:a<9223372036854775808)(hb:b<9223372036854775808):bits .xor .i64 (a:Int) (b:Int)=((a^^^b:Nat):Int):=by have B:a^^^b<2^63:=Nat.xor_lt_two_pow (by omega) (by omega);show IntKind.i64.wrap ((BitVec.ofInt 64 (a:Int)^^^BitVec.ofInt 64 (b:Int)).toNat:Int)=_;rw[BitVec.toNat_xor,CW a A,CW b hb,IntKind.wrap_i64];omega
end bits
theorem tz:(∀{α:Type} {xs:List α} {i:Nat} (h:i<xs.toArray.size),xs.toArray[i]=xs[i])/\(∀{α:Type} {a:α} {l:List α} (h:0<(a::l).length),(a::l)[0]=a)/\(∀{α:Type} {a:α} {l:List α} {i:Nat} (h:i+1<(a::l).length),(a::l)[i+1]=l[i]'(Nat.lt_of_succ_lt_succ h))/\(∀{α:Type} {l:List α} {i:Nat} {v:α},l.toArray.setIfInBounds i v=(l.set i v).toArray)/\(∀{α:Type} {a:α} {l:List α} {v:α},(a::l).set 0 v=v::l)/\(∀{α:Type} {a:α} {l:List α} {n:Nat} {v:α},(a::l).set (n+1) v=a::l.set n v)/\(∀(a:Act) (k:Nat) (v:Value),a.put (some k) v={a with tmps:=a.tmps.setIfInBounds k v})/\(∀(a:Act) (v:Value),a.put none v=a):=
 ⟨fun _=>rfl,fun _=>rfl,fun _=>rfl,List.setIfInBounds_toArray ..,rfl,rfl,fun _ _ _=>rfl,fun _ _=>rfl⟩
theorem tdg{α:Type}{l:List α}{i:Nat}:l.toArray[i]?=l[i]?:=List.getElem?_toArray ..
theorem tdh{α:Type}{a:α}{l:List α}{i:Nat}:(a::l)[i+1]?=l[i]?:=rfl
theorem tdi{α:Type}{a:α}{l:List α}:(a::l)[0]?=some a:=rfl
end Go.Proofs.YtpfhoemohibniaaGreatDoor
namespace Go.Proofs.YtpfhoemohibniaaGreatDoor
open Go.ChangeShapes Go.WideShapes Go.ChangeAt Go.RowKit
theorem own:ownKnob Tryz.prog.godebug=none:=by kernel_rfl
theorem UZ:laidOutB Tryz.prog=true:=by kernel_rfl
theorem QH:Tryz.prog.cellsOf 3=1:=by kernel_rfl
theorem QG:Tryz.prog.bytesOf 3=8:=by kernel_rfl
section
variable {H:Type} {enc:TypeId×Value->H} {W:World} {base:Nat} {held:Bool}
theorem sO {fuel : Nat} {cs : List Value} {d : DataW H} {p : List MemPlace} (h : DataW.trod enc Tryz.prog W base (fun _ => true) held fuel 22 cs = some (d, p))
   (I:∀n∈d.weights Tryz.prog 22,n<=reachBytes):∃v xs,cs=[v]/\SI W v xs:=by
 rcases open_ints Tryz.underlying22 Tryz.underlying3 QH h with⟨rfl,_⟩|⟨a,A,D,C,rfl,_,L,hm,K,E,F,J⟩
 . exact⟨_,[],rfl,SI.none_ W⟩
 . simp only[if_true] at K;simp only[Prod.mk.injEq] at E;obtain⟨rfl,_⟩:=E;have G:D*8<=reachBytes:=by
     have:=I ((((lits (H:=H) .i64 (C.take A)).length)+((lits (H:=H) .i64 (C.drop A)).length))*Tryz.prog.bytesOf 3) (by simp[DataW.weights,Tryz.underlying22]);rw[QG] at this;simp only[lits,aY7,aY3,List.length_drop] at this;omega
   simp only[reachBytes] at G;have e:(C.take A).length=A:=by rw[aY3];omega
   refine⟨.slice (some a) A D,C.take A,rfl,some a,D,by rw[e],by omega,by omega,fun k B=>⟨a,rfl,?_⟩,fun k=>?_⟩
   . rw[e] at B;rw[F k (by omega)];simp[List.getD,List.getElem?_take,B]
   . by_cases B:k<(C.take A).length
     . rw[aZ4,aZ3 B,Option.getD_some];exact I64.of_wf (J _ (List.mem_of_mem_take (aY6 B)))
     . rw[aZ4,aY4 (by omega)];exact I64.zero
theorem MG:Tryz.prog.bytesOf 22=24:=by kernel_rfl
theorem MO:Tryz.prog.cellsOf 22=1:=by kernel_rfl
theorem qR{e:TypeId}{d:DataW H}{n:Nat}:∀{l:List (DataW H)},d∈l->n∈d.weights Tryz.prog e->n∈DataW.weightsAll Tryz.prog e l
 |x::r,A,hn=>by
  simp only[DataW.weightsAll,List.mem_append];rcases List.mem_cons.1 A with rfl|A
  .exact .inl hn
  .exact .inr (qR A hn)
theorem BI {fuel : Nat} {cs : List Value} {d : DataW H} {p : List MemPlace} (h : DataW.trod enc Tryz.prog W base (fun _ => true) held fuel 25 cs = some (d, p))
   (I:∀n∈d.weights Tryz.prog 25,n<=reachBytes):∃v xss,cs=[v]/\SS W v xss:=by
 rcases Go.Deep.open_slice1 Tryz.underlying25 MO h with⟨rfl,_⟩|⟨a,A,B,m,n,V,D,Q,rfl,_,R,hm,E,J,F⟩
 . exact⟨_,[],rfl,SS.none_ W⟩
 . simp only[if_true] at E;have O:=E.symm;subst O;simp only[Prod.mk.injEq] at J;obtain⟨rfl,_⟩:=J;have P:B*24<=reachBytes:=by
     have:=I ((((List.range A).map D).length+((List.range (B-A)).map fun j=>D (A+j)).length)*Tryz.prog.bytesOf 22) (by simp[DataW.weights,Tryz.underlying25]);rw[MG] at this;simp only[aY7,List.length_range] at this;rw[show A+(B-A)=B by omega] at this;exact this
   simp only[reachBytes] at P;have L:∀k,k<A->∃xs,SI W (V k) xs:=fun k C=>by
     obtain⟨v',xs,N,G⟩:=sO (F k (by omega)).2 (fun n hn=>I n (by simp only[DataW.weights,Tryz.underlying25,List.mem_cons,List.mem_append];exact .inr (.inl (qR (List.mem_map.2 ⟨k,List.mem_range.2 C,rfl⟩) hn))));have e:V k=v':=(List.cons.inj N).1;rw[<-e] at G;exact⟨xs,G⟩
   obtain⟨X,M⟩:=Go.Deep.choose_lt L;have e:((List.range A).map X).length=A:=by simp
   refine⟨_,(List.range A).map X,rfl,some a,B,by rw[e],by omega,by omega,fun k C=>?_⟩;rw[e] at C;refine⟨a,V k,rfl,(F k (by omega)).1,?_⟩;have K:((List.range A).map X).getD k []=X k:=by simp[List.getD,C]
   rw[K];exact M k C
theorem YF{A:List TypeId}{ds:List (DataW H)}(h:(DataW.weightsEach Tryz.prog A ds).all (·<=reachBytes)=true)(j:Nat){t:TypeId}{d:DataW H}(C:A[j]?=some t)(B:ds[j]?=some d):∀n∈d.weights Tryz.prog t,n<=reachBytes:=fun n hn=>by have:=List.all_eq_true.1 h n (DataW.weights_mem_each C B n hn);simpa using this
theorem JM{t:TypeId}{v:Value}{d:DataW H}{p:List MemPlace}(h:DataW.Trod enc Tryz.prog W base (fun _=>true) held t v d p):∀x∈p,x.block<W.heap.size:=by obtain⟨m,hm⟩:=h;exact DataW.trod_lt m _ _ _ hm
end
section
variable {H:Type} {enc:TypeId×Value->H} {W:World} {base:Nat} {held:Bool}
theorem mM{fuel:Nat}{v:Value}{x:DataW H×List MemPlace}(h:DataW.trod enc Tryz.prog W base (fun _=>true) held fuel 3 [v]=some x):∃n,v=.int .i64 n/\I64 n:=by obtain⟨n,A,_,B⟩:=DataW.trod_int Tryz.underlying3 h;exact⟨n,(List.cons.inj A).1,I64.of_wf B⟩
theorem BG{fuel:Nat}{v:Value}{x:DataW H×List MemPlace}(h:DataW.trod enc Tryz.prog W base (fun _=>true) held fuel 22 [v]=some x)(C:∀n∈x.1.weights Tryz.prog 22,n<=reachBytes):∃xs,SI W v xs:=by obtain⟨v',xs,B,A⟩:=sO (d:=x.1) (p:=x.2) h C;have e:v=v':=(List.cons.inj B).1;rw[<-e] at A;exact⟨xs,A⟩
end
theorem X8{α:Type}{cs:List α}(h:cs.length=5):∃A B C D E,cs=[A,B,C,D,E]:=by
 match cs,h with
 |[A,B,C,D,E],_=>exact⟨A,B,C,D,E,rfl⟩
section
variable {H:Type} {enc:TypeId×Value->H} {W:World} {base:Nat} {held:Bool}
theorem TP {t : TypeId} {A B C : Field} {fuel : Nat} {cs : List Value} {x : DataW H × List MemPlace} (K : Tryz.prog.underlying t = some (.struct #[A, B, C])) (h : DataW.trod enc Tryz.prog W base (fun _ => true) held fuel t cs = some x) :
   ∃D E F n,x=(.agg [D.1,E.1,F.1],D.2++(E.2++F.2))/\cs.length=Tryz.prog.cellsOf t/\DataW.trod enc Tryz.prog W base (fun _=>true) held n A.type ((cs.drop A.offset).take (Tryz.prog.cellsOf A.type))=some D/\
     DataW.trod enc Tryz.prog W base (fun _=>true) held n B.type ((cs.drop B.offset).take (Tryz.prog.cellsOf B.type))=some E/\DataW.trod enc Tryz.prog W base (fun _=>true) held n C.type ((cs.drop C.offset).take (Tryz.prog.cellsOf C.type))=some F:=by
 obtain⟨xs,n,_,rfl,I,J,G⟩:=DataW.trod_struct K h
 match xs,J with
 |[D,E,F],_=>exact⟨D,E,F,n,by simp,I,by simpa using G 0 A rfl,by simpa using G 1 B rfl,by simpa using G 2 C rfl⟩
theorem BH{fuel:Nat}{v:Value}{x:DataW H×List MemPlace}(h:DataW.trod enc Tryz.prog W base (fun _=>true) held fuel 25 [v]=some x)(C:∀n∈x.1.weights Tryz.prog 25,n<=reachBytes):∃xss,SS W v xss:=by obtain⟨v',xss,B,A⟩:=BI (d:=x.1) (p:=x.2) h C;have e:v=v':=(List.cons.inj B).1;rw[<-e] at A;exact⟨xss,A⟩
theorem MN:Tryz.prog.cellsOf 27=5:=by kernel_rfl
theorem FG:Tryz.prog.cellsOf 24=3:=by kernel_rfl
theorem wE {fuel : Nat} {A B C : Value} {x : DataW H × List MemPlace} (h : DataW.trod enc Tryz.prog W base (fun _ => true) held fuel 24 [A, B, C] = some x)
   (K:∀n∈x.1.weights Tryz.prog 24,n<=reachBytes):∃P M Mod,A=.int .i64 P/\B=.int .i64 M/\SI W C Mod:=by
 obtain⟨N,O,Q,n,L,_,F,G,I⟩:=TP Tryz.underlying24 h;subst L;obtain⟨P,rfl,_⟩:=mM (v:=A) F;obtain⟨M,rfl,_⟩:=mM (v:=B) G;have E:∀k,k∈DataW.weightsEach Tryz.prog [3,3,22] [N.1,O.1,Q.1]->k<=reachBytes:=fun k D=>K k (by rw[DataW.weights,Tryz.underlying24];exact D);simp only[DataW.weightsEach,List.mem_append] at E;obtain⟨Mod,J⟩:=BG (v:=C) I fun k D=>E k (by simp[D]);exact⟨P,M,Mod,rfl,rfl,J⟩
theorem xM {fuel : Nat} {cs : List Value} {x : DataW H × List MemPlace} (h : DataW.trod enc Tryz.prog W base (fun _ => true) held fuel 27 cs = some x)
   (S:∀n∈x.1.weights Tryz.prog 27,n<=reachBytes):∃P M mv Mod n gv gen,cs=[.int .i64 P,.int .i64 M,mv,.int .i64 n,gv]/\I64 n/\SI W mv Mod/\SS W gv gen:=by
 obtain⟨G,U,V,n,T,F,L,Q,R⟩:=TP Tryz.underlying27 h;rw[MN] at F;obtain⟨I,J,C,K,D,rfl⟩:=X8 F;subst T;have B:∀k,k∈DataW.weightsEach Tryz.prog [24,3,25] [G.1,U.1,V.1]->k<=reachBytes:=fun k A=>S k (by rw[DataW.weights,Tryz.underlying27];exact A);simp only[DataW.weightsEach,List.mem_append] at B;have O:DataW.trod enc Tryz.prog W base (fun _=>true) held n 24 [I,J,C]=some G:=by have E:=L;simp only[FG] at E;exact E
 obtain⟨P,M,Mod,rfl,rfl,hm⟩:=wE O fun k A=>B k (by simp[A]);obtain⟨N,rfl,hn⟩:=mM (v:=K) Q;obtain⟨gen,hg⟩:=BH (v:=D) R fun k A=>B k (by simp[A]);exact⟨P,M,C,Mod,N,D,gen,rfl,hn,hm,hg⟩
theorem N6 {v : Value} {d : DataW H} {p : List MemPlace} {bs : Nat} (h : DataW.Trod enc Tryz.prog W base (fun _ => true) held 27 v d p) (D : Value.okWide Tryz.prog W .any bs 27 v)
   (E:∀n∈d.weights Tryz.prog 27,n<=reachBytes):∃P M mv Mod n gv gen,v=.agg #[.int .i64 P,.int .i64 M,mv,.int .i64 n,gv]/\I64 n/\SI W mv Mod/\SS W gv gen:=by
 obtain⟨cs,rfl,F⟩:=okWide_struct Tryz.underlying27 D;obtain⟨fuel,C⟩:=h;obtain⟨P,M,mv,Mod,n,gv,gen,B,hn,hm,hg⟩:=xM (x:=(d,p)) C E;refine⟨P,M,mv,Mod,n,gv,gen,?_,hn,hm,hg⟩;have e:cs=#[.int .i64 P,.int .i64 M,mv,.int .i64 n,gv]:=by have A:cs.toList=[.int .i64 P,.int .i64 M,mv,.int .i64 n,gv]:=B;rw[<-Array.toArray_toList (xs:=cs),A]
 rw[e]
end
end Go.Proofs.YtpfhoemohibniaaGreatDoor
namespace Go.Proofs.YtpfhoemohibniaaGreatDoor
theorem F2{l:LI}(k:Nat)(h:k<l.length):l.getD k 0∈l:=by rw[aZ4,aZ3 h];simp
end Go.Proofs.YtpfhoemohibniaaGreatDoor
namespace Go.Proofs.YtpfhoemohibniaaGreatDoor
open Go.RowKit
def aC(P M:Int):Int:=if P<2\/M<1\/8<M then 0 else if P^M.toNat<=256 then P^M.toNat else 0
theorem iO{P M:Int}(h:P<2\/M<1\/8<M):aC P M=0:=by unfold aC;rw[if_pos h]
theorem gC{P:Int}(h:2<=P)(k:Nat):1<=P^k:=by
 induction k with
 |zero=>simp
 |succ k ih=>rw[Int.pow_succ];have:=Int.mul_le_mul ih (show(1:Int)<=P by omega) (by omega) (by omega);omega
theorem cY{P:Int}(h:2<=P){i j:Nat}(B:i<=j):P^i<=P^j:=by obtain⟨d,rfl⟩:=Nat.le.dest B;rw[Int.pow_add];have C:=gC h i;have A:=gC h d;have:=Int.mul_le_mul_of_nonneg_left A (show 0<=P^i by omega);omega
theorem WO{P q:Int}(A:2<=P)(hq:1<=q):(256/P<q)↔256<q*P:=by have:=Int.ediv_lt_iff_lt_mul (a:=256) (b:=q) (c:=P) (by omega);exact this
theorem zZ{P M:Int}{k:Nat}(B:2<=P)(C:1<=M)(D:M<=8)(E:(k:Int)<M)(h:256<P^k*P):aC P M=0:=by unfold aC;rw[if_neg (by omega),if_neg];have A:=cY B (show k+1<=M.toNat by omega);rw[Int.pow_succ] at A;omega
theorem CZ{P M:Int}{k:Nat}(C:2<=P)(A:1<=M)(B:M<=8)(D:(k:Int)=M)(h:P^k<=256):aC P M=P^k:=by
 obtain rfl:k=M.toNat:=by omega
 unfold aC;rw[if_neg (by omega),if_pos h]
theorem aK(P M:Int):0<=aC P M/\aC P M<=256:=by
 unfold aC;split
 .omega
 .rename_i h;have:=gC (show 2<=P by omega) M.toNat
  split<;>omega
theorem lS(w:World)(P M:Int)(mv:Value):Calls Tryz.prog 14 #[.agg #[.int .i64 P,.int .i64 M,mv]] w (iJ w (aC P M)):=by
 have K:∀o,Below w.heap.size w (w.alloc o):=fun o=>(Below.refl _ _).alloc zr o;have B:=zh K;clear K;by_cases J:P<2
 . have A:Hid (aC P M=0):=iO (.inl J);go_enter Tryz.func14,Tryz.ntmps14
   go_wp2
   go_ret;exact⟨by rw[A.out];rfl,B.out _⟩
 by_cases F:M<1
 . have A:Hid (aC P M=0):=iO (.inr (.inl F));go_enter Tryz.func14,Tryz.ntmps14
   go_wp2
   go_ret;exact⟨by rw[A.out];rfl,B.out _⟩
 by_cases H:8<M
 . have A:Hid (aC P M=0):=iO (.inr (.inr H));go_enter Tryz.func14,Tryz.ntmps14
   go_wp2
   go_ret;exact⟨by rw[A.out];rfl,B.out _⟩
 have C:2<=P:=by omega
 have G:1<=M:=by omega
 have I:M<=8:=by omega
 clear J F H;go_enter Tryz.func14,Tryz.ntmps14
 go_wp2
 go_loop [3,4] (fun q i=>∃k:Nat,(k:Int)<=M/\i=.int .i64 k/\q=.int .i64 (P^k)/\P^k<=256) (fun _ i=>(M-intOf i).toNat)
 case atStart=>exact⟨0,by omega,rfl,by rw[Int.pow_zero],by simp⟩
 case round=>
   obtain⟨k,V,rfl,rfl,hq⟩:=hrel;have S:=gC C k;have D:=zh (WO (q:=P^k) C S);have E:Hid (P^(k+1)=P^k*P):=Int.pow_succ P k;have N:=zh (@zZ P M k C G I);have O:=zh (@CZ P M k C G I);generalize hQ:P^k=q at*;have T:=zh hQ;clear hQ;by_cases R:(k:Int)<M
   . by_cases L:256/P<q
     . have A:Hid (aC P M=0):=N.out R (D.1 L)
       go_wp2
       go_ret;exact⟨by rw[A.out];rfl,B.out _⟩
     . have Q:q*P<=256:=by
         rcases Int.lt_or_le 256 (q*P) with h|h
         . exact absurd (D.2 h) L
         . exact h
       have U:0<=q*P:=Int.mul_nonneg (by omega) (by omega)
       go_wp2
       go_round
       case rel=>exact⟨k+1,by omega,by go_num,by rw[E.out],by rw[E.out];exact Q⟩
       case measure=>simp[intOf];omega
   . have A:Hid (aC P M=q):=O.out (by omega) hq
     go_wp2
     go_ret;exact⟨by rw[A.out];rfl,B.out _⟩
def isB(P M x:Int):Bool:=decide (0<=x)&&decide (x<aC P M)
theorem JI(w:World)(P M x:Int)(mv:Value):Calls Tryz.prog 269 #[.agg #[.int .i64 P,.int .i64 M,mv],.int .i64 x] w (sG w (isB P M x)):=by
 by_cases B:0<=x
 . have A:Hid (isB P M x=decide (x<aC P M)):=by
     have:isB P M x=decide (x<aC P M):=by simp[isB,B]
     exact this
   generalize hO:aC P M=O at*;have C:=zh hO;clear hO;go_enter Tryz.func269,Tryz.ntmps269;go_wp2_with fail;refine(lS _ _ _ _).mono ?_;rintro e w1 ⟨rfl,hb⟩;rw[C.out]
   go_wp2
   go_ret;exact⟨by rw[A.out];rfl,aA (aF _ _) hb⟩
 . have A:Hid (isB P M x=false):=by
     have:isB P M x=false:=by simp[isB,B]
     exact this
   go_enter Tryz.func269,Tryz.ntmps269
   go_wp2
   go_ret;exact⟨by rw[A.out];rfl,aF _ _⟩
end Go.Proofs.YtpfhoemohibniaaGreatDoor
namespace Go.Proofs.YtpfhoemohibniaaGreatDoor
def lE(n:Int):Prop:=2<=n/\∀d:Int,2<=d->d<n->n%d≠0
theorem BK{n d:Int}(A:2<=n)(H:2<=d)(hb:n<d*d)(h:∀e:Int,2<=e->e<d->n%e≠0):lE n:=by
 refine⟨A,fun e C I B=>?_⟩;by_cases F:e<d
 .exact h e C F B
 .obtain⟨f,D⟩:=Int.dvd_of_emod_eq_zero B;have J:0<f:=by
   rcases Int.lt_or_le 0 f with h|h
   .exact h
   .have:=Int.mul_nonneg (show 0<=e by omega) (show 0<= -f by omega);rw[Int.mul_neg] at this;omega
  have K:f≠1:=by rintro rfl;omega
  have E:f<d:=by
   rcases Int.lt_or_le f d with h|h
   .exact h
   .have G:d*d<=e*d:=Int.mul_le_mul_of_nonneg_right (by omega) (by omega);have A:e*d<=e*f:=Int.mul_le_mul_of_nonneg_left h (by omega);omega
  exact h f (by omega) E (by rw[D];exact Int.mul_emod_left e f)
def bU(x p:Int)(m:Nat):LI:=(List.range m).map fun i=>x/p^i%p
theorem dI(x p:Int)(m:Nat):(bU x p m).length=m:=by simp[bU]
theorem eI{x p:Int}{m i:Nat}(h:i<m):(bU x p m).getD i 0=x/p^i%p:=by simp[bU,List.getD,h]
theorem fN{x p:Int}{m:Nat}(A:2<=p)(i:Nat):0<=(bU x p m).getD i 0/\(bU x p m).getD i 0<p:=by
 by_cases h:i<m
 .rw[eI h];exact⟨Int.emod_nonneg _ (by omega),Int.emod_lt_of_pos _ (by omega)⟩
 .rw[aZ4,aY4 (by rw[dI];omega)];simp;omega
def dJ(x p:Int)(m k:Nat):LI:=(List.range m).map fun i=>if i<k then x/p^i%p else 0
theorem sL(x p:Int)(m:Nat):dJ x p m 0=List.replicate m 0:=by simp[dJ,List.map_const']
theorem uC(x p:Int)(m k:Nat):(dJ x p m k).length=m:=by simp[dJ]
theorem sK(x p:Int)(m:Nat):dJ x p m m=bU x p m:=by unfold dJ bU;exact List.map_congr_left fun i hi=>by rw[if_pos (by simpa using hi)]
theorem uD(x p:Int){m k:Nat}(B:k<m):(dJ x p m k).set k (x/p^k%p)=dJ x p m (k+1):=by
 apply List.ext_getElem?;intro i;by_cases hi:i<m
 .by_cases e:k=i
  .subst e;simp[dJ,hi]
  .have A:(i<k+1)=(i<k):=by simp;omega
   simp[dJ,List.getElem?_set,e,hi,A]
 .simp[dJ,List.getElem?_set,hi]
theorem uE{x p:Int}(A:2<=p)(k:Nat):x/p^k/p=x/p^(k+1):=by rw[Int.pow_succ,Int.ediv_ediv_of_nonneg];exact Int.le_of_lt (Int.pow_pos (by omega))
def bL(p:Int):LI->Int
 |[]=>0
 |a::d=>bL p d*p+a
theorem iF{p:Int}(D:2<=p):∀d:LI,(∀i,i<d.length->0<=d.getD i 0/\d.getD i 0<p)->0<=bL p d/\bL p d<p^d.length
 |[],_=>by simp[bL]
 |a::d,h=>by
  have E:=iF D d (fun i hi=>by have:=h (i+1) (by simpa using hi);simpa using this);have A:=h 0 (by simp);simp only[List.getD_cons_zero] at A;unfold bL;rw[List.length_cons,Int.pow_succ];constructor
  .have:=Int.mul_nonneg E.1 (show 0<=p by omega);omega
  .have B:bL p d+1<=p^d.length:=by omega
   have C:=Int.mul_le_mul_of_nonneg_right B (show 0<=p by omega);rw[Int.add_mul] at C;omega
theorem qI{d:LI}{i:Nat}(h:i<d.length):d.drop i=d.getD i 0::d.drop (i+1):=by rw[List.drop_eq_getElem_cons h];simp[List.getD,h]
theorem xH{p:Int}{d:LI}{i:Nat}(h:i<d.length):bL p (d.drop i)=bL p (d.drop (i+1))*p+d.getD i 0:=by rw[qI h];rfl
theorem CE(d:LI)(i j:Nat):(d.drop i).getD j 0=d.getD (i+j) 0:=by simp[List.getD,List.getElem?_drop]
end Go.Proofs.YtpfhoemohibniaaGreatDoor
namespace Go.Proofs.YtpfhoemohibniaaGreatDoor
open Go.RowKit
theorem Q2{a w:World}{row:Option Nat}(h:a.grownBy w row)(n:Nat):a.grownBy (w.drewN n) row:=⟨h.os,h.tape,h.output,h.size,h.block⟩
theorem UO{a w:World}{row:Option Nat}(h:a.grownBy w row):a.grownBy w.drew row:=⟨h.os,h.tape,h.output,h.size,h.block⟩
theorem Q1{a w:World}{row:Option Nat}(h:a.grownBy w row)(o:Obj):a.grownBy (w.alloc o) row:=
 ⟨h.os,h.tape,h.output,aZ6 h.size (by simp),fun i hi A=>(Below.heap_alloc w o i (aY1 hi h.size)).trans (h.block i hi A)⟩
theorem aP{a w:World}{g:Nat}(h:a.grownBy w (some g)){p:Addr}(A:p.block=g\/a.heap.size<=p.block)(u:Value):a.grownBy (w.setCell p u) (some g):=
 ⟨h.os,h.tape,h.output,by simpa[World.setCell] using h.size,fun i hi B=>(Below.heap_setCell w p u i (by
  rintro rfl;rcases A with A|A
  .exact B (by rw[A])
  .omega)).trans (h.block i hi B)⟩
theorem aN{a w:World}(h:Below a.heap.size a w)(row:Option Nat):a.grownBy w row:=⟨h.os,h.tape,h.output,h.size,fun i hi _=>h.block i hi⟩
theorem aX{a b c:World}{row:Option Nat}(h:a.grownBy b row)(k:b.grownBy c row):a.grownBy c row:=
 ⟨k.os.trans h.os,k.tape.trans h.tape,k.output.trans h.output,aZ6 h.size k.size,fun i hi A=>(k.block i (aY1 hi h.size) A).trans (h.block i hi A)⟩
theorem aE{w w':World}{a:Addr}{v:Value}(hb:Below w.heap.size w w')(h:w.cell? a=some v):w'.cell? a=some v:=(hb.cell (World.block_lt_of_cell? _ _ h)).trans h
def pX(w:World)(xs:LI)(e:Ending)(w':World):Prop:=∃u,e=.returned u/\OI w.heap.size w' u xs/\Below w.heap.size w w'
theorem cb{w w':World}{p:Addr}{v:Value}(h:Hid (Below w.heap.size w w'))(A:Hid (w.cell? p=some v)):w'.cell? p=some v:=aE h.out A.out
theorem GS{P M:Int}(h:256<P):aC P M=0:=by
 unfold aC;by_cases hb:P<2\/M<1\/8<M
 .rw[if_pos hb]
 .rw[if_neg hb,if_neg];have A:=cY (show 2<=P by omega) (show 1<=M.toNat by omega);rw[Int.pow_one] at A;omega
theorem fB(w:World)(P M:Int):Calls Tryz.prog 85 #[.int .i64 P,.int .i64 M] w fun e w'=>e=.returned (.int .i64 (aC P M))/\w=w':=by
 by_cases H:P<2
 .have A:Hid (aC P M=0):=iO (.inl H);go_enter Tryz.func85,Tryz.ntmps85
  go_wp2
  go_ret;exact⟨by rw[A.out];rfl,rfl⟩
 by_cases I:256<P
 .have A:Hid (aC P M=0):=GS I;go_enter Tryz.func85,Tryz.ntmps85
  go_wp2
  go_ret;exact⟨by rw[A.out];rfl,rfl⟩
 by_cases D:M<1
 .have A:Hid (aC P M=0):=iO (.inr (.inl D));go_enter Tryz.func85,Tryz.ntmps85
  go_wp2
  go_ret;exact⟨by rw[A.out];rfl,rfl⟩
 by_cases F:8<M
 .have A:Hid (aC P M=0):=iO (.inr (.inr F));go_enter Tryz.func85,Tryz.ntmps85
  go_wp2
  go_ret;exact⟨by rw[A.out];rfl,rfl⟩
 have B:2<=P:=by omega
 have R:P<=256:=by omega
 have E:1<=M:=by omega
 have G:M<=8:=by omega
 clear H D F I;go_enter Tryz.func85,Tryz.ntmps85
 go_wp2
 go_loop [5,21] (fun q i=>∃k:Nat,(k:Int)<=M/\i=.int .i64 k/\q=.int .i64 (P^k)/\P^k<=256) (fun _ i=>(M-intOf i).toNat)
 case atStart=>exact⟨0,by omega,rfl,by rw[Int.pow_zero],by simp⟩
 case round=>
  obtain⟨k,T,rfl,rfl,hq⟩:=hrel;have V:=gC B k;have C:Hid (P^(k+1)=P^k*P):=Int.pow_succ P k;have J:=zh (@zZ P M k B E G);have K:=zh (@CZ P M k B E G);generalize hQ:P^k=q at*;have O:=zh hQ;clear hQ;by_cases N:(k:Int)<M
  .have S:0<=q*P:=Int.mul_nonneg (by omega) (by omega);have U:q*P<=65536:=by
    have Q:q*P<=256*P:=Int.mul_le_mul_of_nonneg_right hq (by omega);omega
   by_cases L:256<q*P
   .have A:Hid (aC P M=0):=J.out N L
    go_wp2
    go_ret;exact⟨by rw[A.out];rfl,rfl⟩
   .go_wp2
    go_round
    case rel=>exact⟨k+1,by omega,by go_num,by rw[C.out],by rw[C.out];omega⟩
    case measure=>simp[intOf];omega
  .have A:Hid (aC P M=q):=K.out (by omega) hq
   go_wp2
   go_ret;exact⟨by rw[A.out];rfl,rfl⟩
noncomputable def jJ(n:Int):Bool:= @decide (lE n) (Classical.propDecidable _)
theorem nD{n:Int}(h:lE n):jJ n=true:=by unfold jJ;simp[h]
theorem lN{n:Int}(h:¬lE n):jJ n=false:=by unfold jJ;simp[h]
theorem mW(w:World)(n:Int)(D:2<=n)(hn:n<=256):Calls Tryz.prog 150 #[.int .i64 n] w fun e w'=>e=.returned (.bool (jJ n))/\w=w':=by
 go_enter Tryz.func150,Tryz.ntmps150
 go_wp2
 go_loop [3] (fun d=>∃k:Int,2<=k/\k<=17/\d=.int .i64 k/\Hid (∀e:Int,2<=e->e<k->n%e≠0)) (fun d=>(17-intOf d).toNat)
 case atStart=>exact⟨2,by omega,by omega,rfl,aD fun e A D=>by omega⟩
 case round=>
   obtain⟨k,E,I,rfl,F⟩:=hrel;have M:0<=k*k:=Int.mul_nonneg (by omega) (by omega);have N:k*k<=289:=by have A:k*k<=17*k:=Int.mul_le_mul_of_nonneg_right I (by omega);omega
   by_cases O:k*k<=n
   . have L:k<=16:=by
       rcases Int.lt_or_le 16 k with h|h
       . have A:17*17<=k*k:=Int.mul_le_mul (by omega) (by omega) (by omega) (by omega);omega
       . exact h
     by_cases B:n%k=0
     . have J:k<n:=by
         have A:2*k<=k*k:=Int.mul_le_mul_of_nonneg_right E (by omega);omega
       have C:Hid (jJ n=false):=lN fun K=>K.2 k E J B
       go_wp2
       go_ret;exact⟨by rw[C.out];rfl,rfl⟩
     . have P:(n%k==0)=false:=by simp[B]
       have G:=zh B;clear B
       go_wp2
       go_round
       case rel=>exact⟨k+1,by omega,by omega,rfl,aD fun e A D=>by
         by_cases H:e=k
         . subst H;exact G.out
         . exact F.out e A (by omega)⟩
       case measure=>simp[intOf];omega
   . have C:Hid (jJ n=true):=nD (BK D E (by omega) F)
     go_wp2
     go_ret;exact⟨by rw[C.out];rfl,rfl⟩
theorem rR{x p:Int}(A:0<=x)(B:x<=256)(C:2<=p)(k:Nat):0<=x/p^k/\x/p^k<=256:=by
 have D:=gC C k;constructor
 .exact Int.ediv_nonneg A (by omega)
 .exact Int.le_trans (Int.ediv_le_self _ A) B
theorem uB(w:World)(x p m:Int)(M:0<=x)(N:x<=256)(D:2<=p)(K:0<=m)(hm:m<=8):
  Calls Tryz.prog 192 #[.int .i64 x,.int .i64 p,.int .i64 m] w (pX w (bU x p m.toNat)):=by
 obtain⟨n,rfl⟩:=Int.eq_ofNat_of_zero_le K;rw[aZ8];have V:n<=8:=by omega
 have L:=dV n (by omega);have E:=zh (rR M N D);go_enter Tryz.func192,Tryz.ntmps192
 go_wp2
 clear L;have G:Hid (OI w.heap.size (w.alloc (.cells (madeCells #[.int .i64 0] n) 3)) (.slice (some ⟨w.heap.size,0,none⟩) n n) (dJ x p n 0)):=by rw[sL];exact OI.made w n zr (by omega)
 go_loopw [0,13] (fun y i wr=>∃(k:Nat),k<=n/\i=.int .i64 k/\y=.int .i64 (x/p^k)/\Hid (OI w.heap.size wr (.slice (some ⟨w.heap.size,0,none⟩) n n) (dJ x p n k))/\Hid (Below w.heap.size w wr)) (fun _ i _=>n-(intOf i).toNat)
 case atStart=>exact⟨0,aZ5 _,rfl,by simp,G,aF _ _⟩
 case round=>
  obtain⟨k,U,rfl,rfl,A,B⟩:=hrel;by_cases C:k<n
  .have Q:=A.cell k (by rw[uC];exact C);have T:=A.frozen k;have H:=zh (A.set k (x/p^k%p));have J:=E.out k;obtain⟨R,S⟩:=J;have F:=zh (uE (x:=x) D k);have I:=zh (uD x p C);generalize hy:x/p^k=y at*;have P:=zh hy;clear hy;generalize hg:(dJ x p n k).getD k 0=W at*;have O:=zh hg;clear hg
   go_wp2
   go_roundw
   case rel=>exact⟨k+1,by omega,by go_num,by rw[<-F.out],by rw[<-I.out];exact H,B.setCell zr _⟩
   case measure=>simp[intOf];omega
  .obtain rfl:k=n:=by omega
   go_wp2
   go_ret;exact⟨_,rfl,by rw[<-sK];exact A.out,B.out⟩
theorem IG(w:World)(v:Value)(d:LI)(p:Int)(h:SI w v d)(B:2<=p)(F:∀i,i<d.length->0<=d.getD i 0/\d.getD i 0<p)(hq:p^d.length<=256):
  Calls Tryz.prog 278 #[v,.int .i64 p] w fun e w'=>e=.returned (.int .i64 (bL p d))/\w=w':=by
 obtain⟨A,c,rfl,h⟩:=h;have hn:=h.len;have H:=zh h;clear h;have D:=zh F;clear F;have K:Hid (∀i,i<=d.length->0<=bL p (d.drop i)/\bL p (d.drop i)*p<65536):=fun i hi=>by
  have hb:=iF B (d.drop i) (fun j M=>by rw[List.length_drop] at M;rw[CE];exact D.out _ (by omega));have R:p^(d.drop i).length<=p^d.length:=cY B (by rw[List.length_drop];omega);have C:d.length=0\/p<=256:=by
   by_cases e:d.length=0
   .exact .inl e
   .right;have:=cY B (show 1<=d.length by omega);rw[Int.pow_one] at this;omega
  refine⟨hb.1,?_⟩;rcases C with e|T
  .have:d.drop i=[]:=by apply List.eq_nil_of_length_eq_zero;rw[List.length_drop];omega
   rw[this];simp[bL]
  .have S:bL p (d.drop i)*p<=255*p:=Int.mul_le_mul_of_nonneg_right (by omega) (by omega);omega
 have C:p<=256\/d.length=0:=by
  by_cases e:d.length=0
  .exact .inr e
  .left;have:=cY B (show 1<=d.length by omega);rw[Int.pow_one] at this;omega
 have I:=zh C;clear C;go_enter Tryz.func278,Tryz.ntmps278
 go_wp2
 go_loop [5,6] (fun x i=>∃(k:Nat),k<=d.length/\i=.int .i64 ((k:Int)-1)/\x=.int .i64 (bL p (d.drop k))) (fun _ i=>(intOf i+1).toNat)
 case atStart=>exact⟨d.length,Nat.le_refl _,rfl,by rw[List.drop_length];rfl⟩
 case round=>
  obtain⟨k,N,rfl,rfl⟩:=hrel;by_cases Q:0<k
  .obtain⟨P,x,rfl,V,_,E⟩:=H.elt (k:=k-1) (by omega);have hb:=K.out k N;obtain⟨L,U⟩:=hb;have G:=D.out (k-1) (by omega);rw[E.out] at G;obtain⟨a,b⟩:=G;have Z:p<=256:=by rcases I.out with h|h;exact h;omega
   have J:Hid (bL p (d.drop (k-1))=bL p (d.drop k)*p+x):=by have:=xH (p:=p) (d:=d) (i:=k-1) (by omega);rw[E.out,show k-1+1=k by omega] at this;exact this
   have X:((k:Int)-1).toNat=k-1:=by omega
   have W:(1:Int)<=(k:Int):=by omega
   have Y:0<=bL p (d.drop k)*p:=Int.mul_nonneg L (by omega);generalize hv:bL p (d.drop k)=v at*;have O:=zh hv;clear hv
   go_wp2
   go_round
   case rel=>exact⟨k-1,by omega,by congr 1;omega,by rw[J.out]⟩
   case measure=>simp[intOf];omega
  .obtain rfl:k=0:=by omega
   go_wp2
   go_ret;exact⟨rfl,rfl⟩
end Go.Proofs.YtpfhoemohibniaaGreatDoor
namespace Go.Proofs.YtpfhoemohibniaaGreatDoor
def bY(N:Nat)(f g:Nat->Int)(k:Nat):LI:=(List.range N).map fun p=>if p<k then f p else g p
def aQ(N:Nat)(f:Nat->Int):LI:=(List.range N).map f
theorem aT(N:Nat)(f:Nat->Int):(aQ N f).length=N:=by simp[aQ]
theorem aS{N:Nat}{f:Nat->Int}{k:Nat}(h:k<N):(aQ N f).getD k 0=f k:=by simp[aQ,List.getD,h]
theorem mP{a:LI}{N:Nat}(h:a.length=N):aQ N (fun p=>a.getD p 0)=a:=by subst h;apply List.ext_getElem?;intro i;by_cases hi:i<a.length<;>simp[aQ,hi]
theorem gH(N:Nat):aQ N (fun _=>0)=List.replicate N 0:=by simp[aQ,List.map_const']
theorem qX{N:Nat}{f g:Nat->Int}(h:∀p,p<N->f p=g p):aQ N f=aQ N g:=List.map_congr_left fun p A=>h p (by simpa using A)
theorem dA(N:Nat)(f g:Nat->Int):bY N f g 0=aQ N g:=by simp[bY,aQ]
theorem cZ(N:Nat)(f g:Nat->Int):bY N f g N=aQ N f:=List.map_congr_left fun p A=>by rw[if_pos (by simpa using A)]
theorem cU(N:Nat)(f g:Nat->Int)(k:Nat):(bY N f g k).length=N:=by simp[bY]
theorem eJ{N:Nat}{f g:Nat->Int}{k:Nat}(h:k<N):(bY N f g k).getD k 0=g k:=by simp[bY,List.getD,h]
theorem dO{N:Nat}{f g:Nat->Int}{k:Nat}(h:k<N):(bY N f g k).set k (f k)=bY N f g (k+1):=by
 apply List.ext_getElem?;intro i;by_cases hi:i<N
 .by_cases e:k=i
  .subst e;simp[bY,hi]
  .have A:(i<k+1)=(i<k):=by simp;omega
   simp[bY,List.getElem?_set,e,hi,A]
 .simp[bY,List.getElem?_set,hi]
theorem qK{N:Nat}{f g:Nat->Int}{k:Nat}(h:k<N->f k=g k):bY N f g (k+1)=bY N f g k:=
 List.map_congr_left fun p B=>by
  by_cases e:p=k
  .subst e;simp[h (by simpa using B)]
  .have A:(p<k+1)=(p<k):=by simp;omega
   simp[A]
theorem aW{a:LI}{k:Nat}(h:a.length<=k):a.getD k 0=0:=by rw[aZ4,aY4 h];rfl
end Go.Proofs.YtpfhoemohibniaaGreatDoor
namespace Go.Proofs.YtpfhoemohibniaaGreatDoor
open Go.RowKit
theorem Tryz.infoInts:(Tryz.prog.info? 22).map (fun i=>(i.zero,i.size,i.bytes))=some (some (.slice none 0 0),1,24):=by kernel_rfl
theorem SI.lt{w:World}{v:Value}{xs:LI}(h:SI w v xs)(B:0<xs.length){g:Nat}(hg:v.ownBlock=some g):g<w.heap.size:=by obtain⟨A,c,rfl,h⟩:=h;obtain⟨D,e,C⟩:=h.cell 0 B;subst e;have:=World.block_lt_of_cell? _ _ C;rw[bS] at this;simp[Value.ownBlock] at hg;omega
theorem SI.grown{w w':World}{v:Value}{xs:LI}{row:Option Nat}(h:SI w v xs)(hg:w.grownBy w' row)(D:0<xs.length->∀g,v.ownBlock=some g->row≠some g):SI w' v xs:=by
 obtain⟨A,c,rfl,h⟩:=h;by_cases B:0<xs.length
 .exact⟨A,c,rfl,h.grown hg (D B)⟩
 .exact⟨A,c,rfl,h.len,h.cap,fun k C=>absurd C (by omega),h.wf⟩
def OS(B:Nat)(X:Nat->Prop)(w:World)(v:Value)(xss:LL):Prop:=
 ∃us:List Value,w.ownsRow B 22 1 v xss.length us/\∀i,i<xss.length->∃u,us[i]?=some u/\SI w u (xss.getD i [])/\
  (0<(xss.getD i []).length->∀g,u.ownBlock=some g->v.ownBlock≠some g/\¬X g)
theorem OS.nil(B:Nat)(X:Nat->Prop)(w:World):OS B X w (.slice none 0 0) []:=⟨[],World.ownsRow_nil w B 22 1,fun i hi=>absurd hi (by simp)⟩
theorem OS.lt{B:Nat}{X:Nat->Prop}{w:World}{v:Value}{xss:LL}(h:OS B X w v xss){g:Nat}(hg:v.ownBlock=some g):B<=g/\g<w.heap.size:=by obtain⟨us,h,_⟩:=h;exact World.ownsRow.lt h g hg
theorem OS.grown{B:Nat}{X:Nat->Prop}{w w':World}{v:Value}{xss:LL}{row:Option Nat}(h:OS B X w v xss)(hg:w.grownBy w' row)(A:∀g,row=some g->v.ownBlock≠some g/\X g):OS B X w' v xss:=by
 obtain⟨us,G,hi⟩:=h;refine⟨us,World.ownsRow.kept G hg ?_,fun i F=>?_⟩
 .cases row with
  |none=>cases hv:v.ownBlock<;>simp
  |some g=>exact .inr (A g rfl).1
 .obtain⟨u,I,H,C⟩:=hi i F;exact⟨u,I,H.grown hg (fun D g E e=>(C D g E).2 (A g e).2),C⟩
theorem OS.below{B:Nat}{X:Nat->Prop}{w w':World}{v:Value}{xss:LL}(h:OS B X w v xss)(hb:Below w.heap.size w w'):OS B X w' v xss:=
 h.grown (aN hb none) (fun g hg=>by cases hg)
theorem OS.alloc{B:Nat}{X:Nat->Prop}{w:World}{v:Value}{xss:LL}(h:OS B X w v xss)(o:Obj):OS B X (w.alloc o) v xss:=h.below (aF w o)
theorem OS.names{B:Nat}{X Y:Nat->Prop}{w:World}{v:Value}{xss:LL}(h:OS B X w v xss)(H:∀g,g<w.heap.size->Y g->X g):OS B Y w v xss:=by obtain⟨us,F,hi⟩:=h;refine⟨us,F,fun i E=>?_⟩;obtain⟨u,G,C,D⟩:=hi i E;exact⟨u,G,C,fun A g hg=>⟨(D A g hg).1,fun I=>(D A g hg).2 (H g (C.lt A hg) I)⟩⟩
theorem OS.mono{B B':Nat}{X:Nat->Prop}{w:World}{v:Value}{xss:LL}(h:OS B X w v xss)(hB:B'<=B):OS B' X w v xss:=by
 obtain⟨us,A,hi⟩:=h;refine⟨us,⟨A.1,?_⟩,hi⟩;rcases A.2 with hn|⟨g,C,D,rfl,hb,E,rest⟩
 .exact .inl hn
 .exact .inr ⟨g,C,D,rfl,by omega,E,rest⟩
theorem OS.ss{B:Nat}{X:Nat->Prop}{w:World}{v:Value}{xss:LL}(h:OS B X w v xss)(G:xss.length<=17592186044416):SS w v xss:=by
 obtain⟨us,A,hi⟩:=h;have E:=A.2;rcases E with⟨rfl,D⟩|⟨g,C,J,rfl,_,_,hn,_,_,_⟩
 .obtain rfl:xss=[]:=List.eq_nil_of_length_eq_zero D;exact SS.none_ w
 .refine⟨some ⟨g,0,none⟩,C,rfl,G,hn,fun k F=>?_⟩;obtain⟨u,I,H,_⟩:=hi k F;exact⟨_,u,rfl,World.ownsRow.cells A (g:=g) rfl k u I,H⟩
theorem OS.form{B:Nat}{X:Nat->Prop}{w:World}{v:Value}{xss:LL}(h:OS B X w v xss):∃A c,v=.slice A xss.length c:=by
 obtain⟨us,D,_⟩:=h;rcases D.2 with⟨rfl,C⟩|⟨g,E,F,rfl,_⟩
 .exact⟨none,0,by rw[C]⟩
 .exact⟨_,_,rfl⟩
theorem OS.bgrown{B:Nat}{X:Nat->Prop}{w0 w w':World}{v:Value}{xss:LL}(h:OS B X w v xss)(hb:Below B w0 w)(hB:B<=w.heap.size)(hg:w.grownBy w' v.ownBlock):Below B w0 w':=
 hb.grown hg hB fun k A=>(h.lt A).1
section
variable {ops:Array Oper} {rest:List Oper} {o:Oper} {a:Act} {w:World} {K:Act->World->Prop} {Q:Exit->Act->World->Prop} {E:Prop}
theorem IM(s x:Operand)
  (Z:o.op=.call {callee:=.builtin .append,args:=#[s,x],argTypes:=#[25,25]})
  (B:Nat)(X:Nat->Prop)(v:Value)(xss:LL)(k:a.eval s=v)(d:OS B X w v xss)(g c:Nat)(u:Value)(ys:LI)(m:a.eval x=.slice (some ⟨g,0,none⟩) 1 c)(V:w.cell? ⟨g,0,none⟩=some u)
  (M:SI w u ys)(N:0<ys.length->∀g,u.ownBlock=some g->v.ownBlock≠some g/\¬X g)
  (z:xss.length+1<=4398046511104)(hB:B<=w.heap.size)
  (h:∀v' w',OS B X w' v' (xss++[ys])->w.grownBy w' v.ownBlock->(v'.ownBlock=v.ownBlock\/v'.ownBlock=some w.heap.size)->K (a.put o.dst v') w'):o.wp Tryz.prog a w K Q:=by
 obtain⟨r,hi,n,p,q⟩:=info_parts Tryz.infoInts;obtain⟨us,R,Y⟩:=d;have b:u.oneCell'=true:=by obtain⟨A,t,rfl,_⟩:=M;rfl
 obtain⟨v',w',f,U,J,_,D⟩:=run_append_own_at (P:=Tryz.prog) w B 25 o.type 22 r (.slice none 0 0) 1 24 Tryz.underlying25 hi n p q rfl (by decide) v xss.length us R
  ⟨g,0,none⟩ 1 c [u] rfl (by
   intro j y H
   match j,H with
   |0,H=>simp at H;subst H;simpa[Addr.add] using V) (by intro y I;simp at I;subst I;exact b) (by unfold maxLen;omega) (by omega) hB
 unfold Oper.wp execOp;simp only[Z,resolve,invoke,builtin,Sem.run_bind,Sem.run_pure,Result.andThen_ok,List.map_toArray,List.map_cons,List.map_nil,k,m,f];refine h v' w' ?_ J D;have l:us.length=xss.length:=by have:=R.1;omega
 refine⟨us++[u],by simpa using U,fun i W=>?_⟩;rw[aZ1,aZ2] at W;by_cases e:i<xss.length
 .obtain⟨y,I,S,O⟩:=Y i e;have L:(xss++[ys]).getD i []=xss.getD i []:=by simp[List.getD,aY2 e]
  rw[L];refine⟨y,by rw[aY2 (by omega)];exact I,S.grown J (fun C F E=>(O C F E).1),fun C F E=>⟨?_,(O C F E).2⟩⟩;rcases D with D|D
  .rw[D];exact(O C F E).1
  .rw[D];intro G;have:=S.lt C E;injection G with G;omega
 .have T:i=xss.length:=by omega
  subst T;have L:(xss++[ys]).getD xss.length []=ys:=by simp[List.getD]
  rw[L];refine⟨u,by rw[<-l];simp,M.grown J (fun C F E=>(N C F E).1),fun C F E=>⟨?_,(N C F E).2⟩⟩;rcases D with D|D
  .rw[D];exact(N C F E).1
  .rw[D];intro G;have:=M.lt C E;injection G with G;omega
theorem jM(hg:o.guard=none)(s x:Operand)
  (G:o.op=.call {callee:=.builtin .append,args:=#[s,x],argTypes:=#[25,25]})
  (B:Nat)(X:Nat->Prop)(v:Value)(xss:LL)(I:a.eval s=v)(H:OS B X w v xss)(g c:Nat)(u:Value)(ys:LI)(M:a.eval x=.slice (some ⟨g,0,none⟩) 1 c)(E:w.cell? ⟨g,0,none⟩=some u)
  (J:SI w u ys)(L:0<ys.length->∀g,u.ownBlock=some g->v.ownBlock≠some g/\¬X g)
  (F:xss.length+1<=4398046511104)(hB:B<=w.heap.size)
  (h:∀v' w',OS B X w' v' (xss++[ys])->w.grownBy w' v.ownBlock->(v'.ownBlock=v.ownBlock\/v'.ownBlock=some w.heap.size)->wpList Tryz.prog ops Q rest (a.put o.dst v') w'):wpList Tryz.prog ops Q (o::rest) a w:=
 wpList_plain hg fun K hK=>IM s x G B X v xss I H g c u ys M E J L F hB fun v' w' A C D=>hK _ _ (h v' w' A C D)
theorem AO(hg:o.guard=none)(s x:Operand)
  (D:o.op=.call {callee:=.builtin .append,args:=#[s,x],argTypes:=#[25,25]})
  (B:Nat)(X:Nat->Prop)(v:Value)(xss:LL)(G:a.eval s=v)(F:OS B X w v xss)(g c:Nat)(u:Value)(ys:LI)(J:a.eval x=.slice (some ⟨g,0,none⟩) 1 c)(A:w.cell? ⟨g,0,none⟩=some u)
  (H:SI w u ys)(I:0<ys.length->∀g,u.ownBlock=some g->v.ownBlock≠some g/\¬X g)
  (C:xss.length+1<=4398046511104)(hB:B<=w.heap.size)
  (h:∀v' w',OS B X w' v' (xss++[ys])->w.grownBy w' v.ownBlock->(v'.ownBlock=v.ownBlock\/v'.ownBlock=some w.heap.size)->K (a.put o.dst v') w'):
  if Region.wanted o (yielded ops a.tmps)=true then Oper.wp Tryz.prog o a w K Q else E:=by
 rw[if_pos (by simp[Region.wanted,hg])];exact IM s x D B X v xss G F g c u ys J A H I C hB h
end
section
variable {ops:Array Oper} {rest:List Oper} {o:Oper} {a:Act} {w:World} {K:Act->World->Prop} {Q:Exit->Act->World->Prop} {E:Prop}
end
section
variable {ops:Array Oper} {rest:List Oper} {o:Oper} {a:Act} {w:World} {K:Act->World->Prop} {Q:Exit->Act->World->Prop} {E:Prop}
theorem L4(s x:Operand)
   (I:o.op=.call {callee:=.builtin .append,args:=#[s,x],argTypes:=#[22,22]})
   (B:Nat)(v:Value)(xs:LI)(J:a.eval s=v)(G:OI B w v xs)(u:Value)(ys:LI)(L:a.eval x=u)(D:SI w u ys)
   (d:xs.length+ys.length<=17592186044416)(hB:B<=w.heap.size)
   (h:∀v' w',OI B w' v' (xs++ys)->w.grownBy w' v.ownBlock->(v'.ownBlock=v.ownBlock\/v'.ownBlock=some w.heap.size)->K (a.put o.dst v') w'):o.wp Tryz.prog a w K Q:=by
 obtain⟨X,hi,U,V,W⟩:=info_parts Tryz.infoInt;obtain⟨A,c,rfl,D⟩:=D;rcases A with _|M
 . have C:ys.length=0:=by
     rcases Nat.eq_zero_or_pos ys.length with C|C
     . exact C
     . obtain⟨_,e,_⟩:=D.cell 0 C;cases e
   obtain rfl:ys=[]:=List.eq_nil_of_length_eq_zero C;have H:(Builtin.append_ #[22,22] o.type #[v,.slice none ([]:LI).length c]).run Tryz.prog w=.ok v w:=by
     rcases G.2 with⟨rfl,C⟩|⟨g,Z,b,rfl,_,_,T,_⟩
     . simp[Builtin.append_,run_underlying Tryz.underlying22,sizeOf,typeInfo,hi,Builtin.lenOf,Builtin.firstCells]
     . simp[Builtin.append_,run_underlying Tryz.underlying22,sizeOf,typeInfo,hi,Builtin.lenOf,Builtin.firstCells,T,storeCells]
   unfold Oper.wp execOp;simp only[I,resolve,invoke,builtin,Sem.run_bind,Sem.run_pure,Result.andThen_ok,List.map_toArray,List.map_cons,List.map_nil,J,L,H];exact h v w (by simpa using G) (World.grownBy.refl _ _) (.inl rfl)
 . obtain ⟨v', w', H, N, O, _, R⟩ := run_append_own_at (P := Tryz.prog) w B 22 o.type 3 X (.int .i64 0) 1 8 Tryz.underlying22 hi U V W rfl (by decide) v xs.length _ G
     M ys.length c (ys.map (Value.int .i64)) (by simp) (by
       intro j y E;have F:j<ys.length:=by simpa using(List.getElem?_eq_some_iff.1 E).1
       obtain⟨Y,e,S⟩:=D.cell j F;injection e with e;subst e;rw[S];simp[F] at E;simp[List.getD,F,E]) (ints_oneCell _ _) (by unfold maxLen;omega) (by omega) hB
   unfold Oper.wp execOp;simp only[I,resolve,invoke,builtin,Sem.run_bind,Sem.run_pure,Result.andThen_ok,List.map_toArray,List.map_cons,List.map_nil,J,L,H];refine h v' w' ?_ O R;unfold OI;simpa using N
theorem dW(hg:o.guard=none)(s x:Operand)
  (F:o.op=.call {callee:=.builtin .append,args:=#[s,x],argTypes:=#[22,22]})
  (B:Nat)(v:Value)(xs:LI)(H:a.eval s=v)(G:OI B w v xs)(u:Value)(ys:LI)(J:a.eval x=u)(I:SI w u ys)
  (E:xs.length+ys.length<=17592186044416)(hB:B<=w.heap.size)
  (h:∀v' w',OI B w' v' (xs++ys)->w.grownBy w' v.ownBlock->(v'.ownBlock=v.ownBlock\/v'.ownBlock=some w.heap.size)->wpList Tryz.prog ops Q rest (a.put o.dst v') w'):wpList Tryz.prog ops Q (o::rest) a w:=
 wpList_plain hg fun K hK=>L4 s x F B v xs H G u ys J I E hB fun v' w' A C D=>hK _ _ (h v' w' A C D)
theorem oQ(hg:o.guard=none)(s x:Operand)
  (C:o.op=.call {callee:=.builtin .append,args:=#[s,x],argTypes:=#[22,22]})
  (B:Nat)(v:Value)(xs:LI)(F:a.eval s=v)(D:OI B w v xs)(u:Value)(ys:LI)(H:a.eval x=u)(G:SI w u ys)
  (A:xs.length+ys.length<=17592186044416)(hB:B<=w.heap.size)
  (h:∀v' w',OI B w' v' (xs++ys)->w.grownBy w' v.ownBlock->(v'.ownBlock=v.ownBlock\/v'.ownBlock=some w.heap.size)->K (a.put o.dst v') w'):
  if Region.wanted o (yielded ops a.tmps)=true then Oper.wp Tryz.prog o a w K Q else E:=by
 rw[if_pos (by simp[Region.wanted,hg])];exact L4 s x C B v xs F D u ys H G A hB h
end
def Blk(w:World)(g:Nat)(t:TypeId)(cs:List Value):Prop:=w.heap[g]?=some (.cells cs.toArray t (0,0))
section
variable {w w':World} {g:Nat} {t:TypeId} {cs:List Value}
theorem Blk.lt(h:Blk w g t cs):g<w.heap.size:=by
 rcases Nat.lt_or_ge g w.heap.size with B|A
 .exact B
 .unfold Blk at h;rw[Array.getElem?_eq_none A] at h;cases h
theorem Blk.cell(h:Blk w g t cs)(i:Nat):w.cell? ⟨g,i,none⟩=cs[i]?:=by rw[cell_of_row w g i cs.toArray t (0,0) h];simp
theorem Blk.frozen(h:Blk w g t cs)(i:Nat):w.frozen? ⟨g,i,none⟩=false:=by unfold Blk at h;simp[World.frozen?,h]
theorem Blk.new(w:World)(t:TypeId)(cs:List Value):Blk (w.alloc (.cells cs.toArray t)) w.heap.size t cs:=heap_alloc_new w _
theorem Blk.keep(h:Blk w g t cs)(e:w'.heap[g]?=w.heap[g]?):Blk w' g t cs:=e.trans h
theorem Blk.alloc(h:Blk w g t cs)(o:Obj):Blk (w.alloc o) g t cs:=(Below.heap_alloc w o g h.lt).trans h
theorem Blk.set_(h:Blk w g t cs)(i:Nat)(u:Value):Blk (w.setCell ⟨g,i,none⟩ u) g t (cs.set i u):=by unfold Blk at h|-;simp[World.setCell,Array.getElem?_modify,h]
theorem Blk.far(h:Blk w g t cs){p:Addr}(A:g≠p.block)(u:Value):Blk (w.setCell p u) g t cs:=(Below.heap_setCell w p u g A).trans h
theorem Blk.below{B:Nat}(h:Blk w g t cs)(hb:Below B w w')(hg:g<B):Blk w' g t cs:=(hb.block g hg).trans h
theorem Blk.belowS(h:Blk w g t cs)(hb:Below w.heap.size w w'):Blk w' g t cs:=h.below hb h.lt
theorem Blk.grown{row:Option Nat}(h:Blk w g t cs)(hb:w.grownBy w' row)(hg:some g≠row):Blk w' g t cs:=(hb.block g h.lt hg).trans h
end
def RI(w:World)(g:Nat)(xs:LI):Prop:=Blk w g 3 (xs.map (Value.int .i64))
section
variable {w w':World} {g:Nat} {xs:LI}
theorem RI.made(w:World)(n:Nat):RI (w.alloc (.cells (madeCells #[.int .i64 0] n) 3)) w.heap.size (List.replicate n 0):=by
 have:=Blk.new w 3 (madeCells #[.int .i64 0] n).toList;unfold RI;rw[toList_madeCells_one] at this;have e:(madeCells #[.int .i64 0] n)=(List.replicate n (Value.int .i64 0)).toArray:=by rw[<-toList_madeCells_one]
 rw[e];simpa using this
theorem RI.set(h:RI w g xs)(k:Nat)(x:Int):RI (w.setCell ⟨g,k,none⟩ (.int .i64 x)) g (xs.set k x):=by have:=Blk.set_ h k (.int .i64 x);unfold RI;rwa[List.map_set]
theorem RI.cell(h:RI w g xs)(k:Nat)(A:k<xs.length):w.cell? ⟨g,k,none⟩=some (.int .i64 (xs.getD k 0)):=by rw[Blk.cell h k];simp[A]
theorem RI.frozen(h:RI w g xs)(k:Nat):w.frozen? ⟨g,k,none⟩=false:=Blk.frozen h k
theorem RI.lt(h:RI w g xs):g<w.heap.size:=Blk.lt h
theorem RI.oi(h:RI w g xs){B:Nat}(hB:B<=g)(hm:xs.length<=17592186044416):OI B w (.slice (some ⟨g,0,none⟩) xs.length xs.length) xs:=
 ⟨by simp,.inr ⟨g,xs.length,_,rfl,hB,h,Nat.le_refl _,by unfold maxLen;omega,by simp,by rw[Nat.mul_one,List.take_of_length_le (by simp)]⟩⟩
theorem RI.si(h:RI w g xs)(hm:xs.length<=17592186044416)(A:∀k,I64 (xs.getD k 0)):SI w (.slice (some ⟨g,0,none⟩) xs.length xs.length) xs:=
 (h.oi (B:=0) (aZ5 _) hm).si hm A
theorem RI.alloc(h:RI w g xs)(o:Obj):RI (w.alloc o) g xs:=Blk.alloc h o
theorem RI.belowS(h:RI w g xs)(hb:Below w.heap.size w w'):RI w' g xs:=Blk.belowS h hb
theorem RI.grown{row:Option Nat}(h:RI w g xs)(hb:w.grownBy w' row)(hg:some g≠row):RI w' g xs:=Blk.grown h hb hg
theorem RI.drew(h:RI w g xs):RI w.drew g xs:=h
end
def RB(w:World)(g:Nat)(bs:List Bool):Prop:=Blk w g 4 (bs.map Value.bool)
theorem Tryz.infoBool:(Tryz.prog.info? 4).map (fun i=>(i.zero,i.size,i.bytes))=some (some (.bool false),1,1):=by kernel_rfl
theorem VY(n:Nat)(h:n<=35184372088832)(w:World):(Instr.makeSlice 181 (.int .i64 (n:Int)) (.int .i64 (n:Int))).run Tryz.prog w=
  .ok (.slice (some ⟨w.heap.size,0,none⟩) n n) (w.alloc (.cells (madeCells #[.bool false] n) 4)):=
 run_make_row' (P:=Tryz.prog) 181 4 (.bool false) 1 Tryz.underlying181 Tryz.infoBool rfl .i64 .i64 n (by omega) (by omega) w
section
variable {w w':World} {g:Nat} {bs:List Bool}
theorem RB.made(w:World)(n:Nat):RB (w.alloc (.cells (madeCells #[.bool false] n) 4)) w.heap.size (List.replicate n false):=by
 have:=Blk.new w 4 (madeCells #[.bool false] n).toList;unfold RB;rw[toList_madeCells_one] at this;have e:(madeCells #[.bool false] n)=(List.replicate n (Value.bool false)).toArray:=by rw[<-toList_madeCells_one]
 rw[e];simpa using this
theorem RB.set(h:RB w g bs)(k:Nat)(x:Bool):RB (w.setCell ⟨g,k,none⟩ (.bool x)) g (bs.set k x):=by have:=Blk.set_ h k (.bool x);unfold RB;rwa[List.map_set]
theorem RB.cell(h:RB w g bs)(k:Nat)(A:k<bs.length):w.cell? ⟨g,k,none⟩=some (.bool (bs.getD k false)):=by rw[Blk.cell h k];simp[A]
theorem RB.frozen(h:RB w g bs)(k:Nat):w.frozen? ⟨g,k,none⟩=false:=Blk.frozen h k
theorem RB.alloc(h:RB w g bs)(o:Obj):RB (w.alloc o) g bs:=Blk.alloc h o
theorem RB.belowS(h:RB w g bs)(hb:Below w.heap.size w w'):RB w' g bs:=Blk.belowS h hb
theorem RB.grown{row:Option Nat}(h:RB w g bs)(hb:w.grownBy w' row)(hg:some g≠row):RB w' g bs:=Blk.grown h hb hg
end
theorem T9{w:World}{u:Value}{t:TypeId}:(w.alloc (.cells #[u] t)).cell? ⟨w.heap.size,0,none⟩=some u:=(Blk.new w t [u]).cell 0
theorem fM{w:World}{B:Nat}(h:B<=w.heap.size)(o:Obj):B<=(w.alloc o).heap.size:=aZ6 h (aF w o).size
structure BR(B:Nat)(w0 w:World)(v:Value)(xs:LI)(y:Int):Prop where
 own:OI B (w.alloc (.cells #[.int .i64 y] 3)) v xs
 box:(w.alloc (.cells #[.int .i64 y] 3)).cell? ⟨w.heap.size,0,none⟩=some (.int .i64 y)
 up:B<=(w.alloc (.cells #[.int .i64 y] 3)).heap.size
 bel:Below w0.heap.size w0 (w.alloc (.cells #[.int .i64 y] 3))
theorem BR.mk'{B:Nat}{w0 w:World}{v:Value}{xs:LI}(h:OI B w v xs)(hb:Below w0.heap.size w0 w)(hB:B<=w.heap.size)(y:Int):BR B w0 w v xs y:=
 ⟨h.alloc _,T9,fM hB _,hb.alloc hb.size _⟩
theorem BR.below{B:Nat}{w0 w w':World}{v:Value}{xs:LI}{y:Int}(h:BR B w0 w v xs y)(hB:w0.heap.size<=B)(hg:(w.alloc (.cells #[.int .i64 y] 3)).grownBy w' v.ownBlock):Below w0.heap.size w0 w':=
 h.bel.grown hg h.bel.size fun k A=>aZ6 hB (h.own.lt A).1
theorem OI.form'{B:Nat}{w:World}{v:Value}{xs:LI}(h:OI B w v xs):∃A c,v=.slice A xs.length c:=by
 rcases h.2 with⟨rfl,C⟩|⟨g,D,E,rfl,_⟩
 .exact⟨none,0,by rw[C]⟩
 .exact⟨_,_,rfl⟩
theorem bF(w:World)(R A:Nat)(B:Value):w.grownBy (w.setCell ⟨R,A,none⟩ B) (some R):=
 aP (p:=⟨R,A,none⟩) (World.grownBy.refl _ _) (.inl rfl) _
theorem iI(w:World)(R A B:Nat)(C D:Value):w.grownBy ((w.setCell ⟨R,A,none⟩ C).setCell ⟨R,B,none⟩ D) (some R):=
 aP (p:=⟨R,B,none⟩) (bF w R A C) (.inl rfl) _
theorem SI.elt{w:World}{A:Option Addr}{n c:Nat}{xs:LI}(h:SI w (.slice A n c) xs){k:Nat}(C:k<xs.length):∃B x,A=some B/\w.cell? (B.add k)=some (.int .i64 x)/\Hid (I64 x)/\Hid (xs.getD k 0=x):=by
 obtain⟨D,c',e,h⟩:=h;injection e with e1 e2 e3;subst e1;exact h.elt C
theorem eP{w:World}{a b:Addr}{v u:Value}(h:w.cell? b=some u)(A:b≠a):(w.setCell a v).cell? b=some u:=by
 rw[<-h]
 first
  |exact World.cell?_setCell_other (fun e=>A e.symm)
  |exact World.cell?_setCell_other _ _ (fun e=>A e.symm)
  |exact World.cell?_setCell_other _ _ _ (fun e=>A e.symm)
  |exact World.cell?_setCell_other _ _ _ _ (fun e=>A e.symm)
theorem SI.at0{w:World}{g n c:Nat}{xs:LI}(h:SI w (.slice (some ⟨g,0,none⟩) n c) xs){k:Nat}(D:k<xs.length):w.cell? ⟨g,k,none⟩=some (.int .i64 (xs.getD k 0)):=by
 obtain⟨F,x,e,A,_,E⟩:=h.elt D;obtain rfl:=aZ0 e;rw[E.out];have B:(⟨g,0,none⟩:Addr).add k=⟨g,k,none⟩:=by unfold Addr.add;by_cases C:k=0<;>simp[C]
 rw[B] at A;exact A
theorem RI.siTake{w:World}{g n:Nat}{xs:LI}(h:RI w g xs)(hn:n<=xs.length)(hm:xs.length<=17592186044416)(E:∀k,I64 (xs.getD k 0)):SI w (.slice (some ⟨g,0,none⟩) n xs.length) (xs.take n):=by
 have B:(xs.take n).length=n:=by rw[aY3];omega
 have hg:∀k,k<n->(xs.take n).getD k 0=xs.getD k 0:=fun k A=>by simp[List.getD,List.getElem?_take,A]
 refine⟨some ⟨g,0,none⟩,xs.length,by rw[B],by omega,by omega,fun k A=>⟨_,rfl,?_⟩,fun k=>?_⟩
 .rw[B] at A;rw[hg k A];have:=h.cell k (by omega);have C:(⟨g,0,none⟩:Addr).add k=⟨g,k,none⟩:=by
   unfold Addr.add;by_cases D:k=0<;>simp[D]
  rw[C];exact this
 .by_cases A:k<n
  .rw[hg k A];exact E k
  .rw[aZ4,aY4 (by omega)];exact I64.zero
theorem SS.eltA{w:World}{A:Option Addr}{n c:Nat}{xss:LL}(h:SS w (.slice A n c) xss){k:Nat}(E:k<xss.length):∃C B D xs,A=some C/\w.cell? (C.add k)=some (.slice B xs.length D)/\Hid (sH w B D xs)/\Hid (xss.getD k []=xs):=by
 obtain⟨F,c',e,h⟩:=h;injection e with e1 e2 e3;subst e1;exact h.elt E
theorem OI.ne_blk{B:Nat}{w:World}{v:Value}{xs:LI}(h:OI B w v xs){g:Nat}{t:TypeId}{cs:List Value}(hb:Blk w g t cs)(C:t≠3):v.ownBlock≠some g:=by
 rcases h.2 with⟨rfl,_⟩|⟨F,D,E,rfl,_,A,_⟩
 .simp[Value.ownBlock]
 .intro e;simp[Value.ownBlock] at e;subst e;unfold Blk at hb;rw[hb] at A;simp at A;exact C A.2
def cM(q:Int)(l:LI):Int:=if∀k,k<l.length->0<=l.getD k 0/\l.getD k 0<q then 0 else 2
theorem uH{q:Int}{l:LI}{k:Nat}(B:k<l.length)(h:¬(0<=l.getD k 0/\l.getD k 0<q)):cM q l=2:=by unfold cM;rw[if_neg];intro A;exact h (A k B)
theorem mV{q:Int}{l:LI}(h:∀k,k<l.length->0<=l.getD k 0/\l.getD k 0<q):cM q l=0:=by unfold cM;rw[if_pos h]
theorem uO{P M x:Int}(h:0<=x/\x<aC P M):isB P M x=true:=by simp[isB,h]
theorem rU{P M x:Int}(h:¬(0<=x/\x<aC P M)):isB P M x=false:=by simp only[isB,Bool.and_eq_false_iff,decide_eq_false_iff_not];omega
theorem FS(w:World)(P M:Int)(mv v:Value)(l:LI)(h:SI w v l):
  Calls Tryz.prog 144 #[.agg #[.int .i64 P,.int .i64 M,mv],v] w (iJ w (cM (aC P M) l)):=by
 obtain⟨A,c,rfl,h⟩:=h;have hn:=h.len;have H:=zh h;clear h;go_enter Tryz.func144,Tryz.ntmps144
 go_wp2
 go_loopw [5] (fun i wr=>∃k:Nat,k<=l.length/\i=.int .i64 k/\Hid (∀j,j<k->0<=l.getD j 0/\l.getD j 0<aC P M)/\Hid (Below (w.alloc (.cells #[.int .i64 P,.int .i64 M,mv] 24)).heap.size (w.alloc (.cells #[.int .i64 P,.int .i64 M,mv] 24)) wr)) (fun i _=>l.length-(intOf i).toNat)
 case atStart=>exact⟨0,aZ5 _,rfl,aD fun j G=>absurd G (by omega),aD (bE _)⟩
 case round=>
  obtain⟨k,R,rfl,E,B⟩:=hrel;by_cases I:k<l.length
  .obtain⟨Q,x,rfl,K,_,F⟩:=(H.below (aA (aF _ _) B) zr).elt I;have L:wr.cell? ⟨w.heap.size,0,none⟩=some (.int .i64 P):=by rw[(P8 B.out).1 _ _ (by simp)];simp[go_sem]
   have N:wr.cell? ⟨w.heap.size,1,none⟩=some (.int .i64 M):=by rw[(P8 B.out).1 _ _ (by simp)];simp[go_sem]
   have O:wr.cell? ⟨w.heap.size,2,none⟩=some mv:=by rw[(P8 B.out).1 _ _ (by simp)];simp[go_sem]
   go_wp2_with fail
   go_still_tail 5,(by kernel_rfl)
   change wpList _ _ _ _ _ wr.drew;go_wp2_with fail;refine(JI _ _ _ _ _).mono ?_;rintro e w1 ⟨rfl,hb⟩;have D:=zh (aA (aA B (aH wr)) hb);clear hb B L N O K;by_cases hg:0<=x/\x<aC P M
   .rw[uO hg];have J:=zh hg;clear hg
    go_wp2
    go_roundw
    case rel=>exact⟨k+1,by omega,by go_num,aD fun j G=>by
     by_cases e:j=k
     .subst e;rw[F.out];exact J.out
     .exact E.out j (by omega),D⟩
    case measure=>simp[intOf];omega
   .rw[rU hg];have C:Hid (cM (aC P M) l=2):=uH I (by rw[F.out];exact hg);clear hg
    go_wp2
    go_ret;exact⟨by rw[C.out];rfl,aA (aF _ _) D⟩
  .obtain rfl:k=l.length:=by omega
   have C:Hid (cM (aC P M) l=0):=mV E.out
   go_wp2
   go_ret;exact⟨by rw[C.out];rfl,aA (aF _ _) B⟩
def inQ(q x:Int):Int:=if 0<=x/\x<q then x else 0
theorem WT{q x:Int}(hq:1<=q):0<=inQ q x/\inQ q x<q:=by unfold inQ;split<;>omega
theorem bN{P M:Int}(h:aC P M≠0):2<=P/\P<=256/\1<=M/\M<=8/\P^M.toNat<=256/\aC P M=P^M.toNat:=by
 by_cases hb:P<2\/M<1\/8<M
 .exact absurd (iO hb) h
 .by_cases hq:P^M.toNat<=256
  .have A:=cY (show 2<=P by omega) (show 1<=M.toNat by omega);rw[Int.pow_one] at A;refine⟨by omega,by omega,by omega,by omega,hq,?_⟩;unfold aC;rw[if_neg hb,if_pos hq]
  .exfalso;apply h;unfold aC;rw[if_neg hb,if_neg hq]
structure cV(w w0:World)(P M:Int)(mv:Value):Prop where
 blk:Blk w0 w.heap.size 24 [.int .i64 P,.int .i64 M,mv]
 bel:Below w.heap.size w w0
theorem cV.mk'(w:World)(P M:Int)(mv:Value):cV w (w.alloc (.cells #[.int .i64 P,.int .i64 M,mv] 24)) P M mv:=⟨Blk.new w 24 [.int .i64 P,.int .i64 M,mv],aF w _⟩
theorem cV.on{w w0 w1:World}{P M:Int}{mv:Value}(h:cV w w0 P M mv)(hb:Below w0.heap.size w0 w1):cV w w1 P M mv:=⟨h.blk.belowS hb,aA h.bel hb⟩
theorem cV.drew{w w0:World}{P M:Int}{mv:Value}(h:cV w w0 P M mv):cV w w0.drew P M mv:=⟨h.blk,h.bel.drew⟩
theorem cV.drewN{w w0:World}{P M:Int}{mv:Value}(h:cV w w0 P M mv)(n:Nat):cV w (w0.drewN n) P M mv:=⟨h.blk,aA h.bel (bI _ n)⟩
theorem cV.c0{w w0:World}{P M:Int}{mv:Value}(h:cV w w0 P M mv):w0.cell? ⟨w.heap.size,0,none⟩=some (.int .i64 P):=h.blk.cell 0
theorem cV.c1{w w0:World}{P M:Int}{mv:Value}(h:cV w w0 P M mv):w0.cell? ⟨w.heap.size,1,none⟩=some (.int .i64 M):=h.blk.cell 1
theorem cV.c2{w w0:World}{P M:Int}{mv:Value}(h:cV w w0 P M mv):w0.cell? ⟨w.heap.size,2,none⟩=some mv:=h.blk.cell 2
theorem WV(w:World)(P M x:Int)(mv:Value):Calls Tryz.prog 377 #[.agg #[.int .i64 P,.int .i64 M,mv],.int .i64 x] w (iJ w (inQ (aC P M) x)):=by
 by_cases A:0<=x/\x<aC P M
 .have C:Hid (isB P M x=true):=uO A;have E:Hid (inQ (aC P M) x=x):=by show _=_;unfold inQ;rw[if_pos A]
  clear A;go_enter Tryz.func377,Tryz.ntmps377;go_wp2_with fail;refine(JI _ P M x mv).mono ?_;rintro e w1 ⟨rfl,B⟩;rw[C.out];have D:=zh (aA (aF _ _) B);clear B;go_wp2_with fail;go_ret;exact⟨by rw[E.out];rfl,D.out⟩
 .have C:Hid (isB P M x=false):=rU A;have E:Hid (inQ (aC P M) x=0):=by show _=_;unfold inQ;rw[if_neg A]
  clear A;go_enter Tryz.func377,Tryz.ntmps377;go_wp2_with fail;refine(JI _ P M x mv).mono ?_;rintro e w1 ⟨rfl,B⟩;rw[C.out];have D:=zh (aA (aF _ _) B);clear B;go_wp2_with fail;go_ret;exact⟨by rw[E.out];rfl,D.out⟩
theorem I4{x p:Int}(A:0<=x)(B:x<=100000000)(C:2<=p)(k:Nat):0<=x/p^k/\x/p^k<=100000000:=
 ⟨Int.ediv_nonneg A (by have:=gC C k;omega),Int.le_trans (Int.ediv_le_self _ A) B⟩
theorem xE(w:World)(x p m:Int)(P:0<=x)(Q:x<=100000000)(E:2<=p)(Z:p<=100000000)(N:0<=m)(hm:m<=1000):
  Calls Tryz.prog 143 #[.int .i64 x,.int .i64 p,.int .i64 m] w (pX w (bU x p m.toNat)):=by
 obtain⟨n,rfl⟩:=Int.eq_ofNat_of_zero_le N;rw[aZ8];have Y:n<=1000:=by omega
 have O:=dV n (by omega);have G:=zh (I4 P Q E);go_enter Tryz.func143,Tryz.ntmps143;go_wp2_with fail;clear O;have J:Hid (RI (w.alloc (.cells (madeCells #[.int .i64 0] n) 3)) w.heap.size (dJ x p n 0)):=by rw[sL];exact RI.made w n
 have F:=zh (aF w (.cells (madeCells #[.int .i64 0] n) 3));go_loopw [0,8] (fun y i wr=>∃(k:Nat),k<=n/\i=.int .i64 k/\y=.int .i64 (x/p^k)/\Hid (RI wr w.heap.size (dJ x p n k))/\Hid (Below w.heap.size w wr)) (fun _ i _=>n-(intOf i).toNat)
 case atStart=>exact⟨0,aZ5 _,rfl,by simp,J,F⟩
 case round=>
  obtain⟨k,X,rfl,rfl,A,C⟩:=hrel;by_cases D:k<n
  .have T:=A.cell k (by rw[uC];exact D);have W:=A.frozen k;have K:=zh (A.set k (x/p^k%p));have M:=G.out k;obtain⟨U,V⟩:=M;have I:=zh (uE (x:=x) E k);have L:=zh (uD x p D);generalize hy:x/p^k=y at*;have S:=zh hy;clear hy;generalize hg:(dJ x p n k).getD k 0=a at*;have R:=zh hg;clear hg;go_wp2_with fail
   go_roundw
   case rel=>exact⟨k+1,by omega,by go_num,by rw[<-I.out],by rw[<-L.out];exact K,C.setCell zr _⟩
   case measure=>simp[intOf];omega
  .obtain rfl:n=k:=by omega
   have H:Hid (RI wr w.heap.size (bU x p n)):=by rw[<-sK];exact A
   go_wp2_with fail;go_ret;have:=H.oi (B:=w.heap.size) zr (by rw[dI];omega);rw[dI] at this;exact⟨_,rfl,this,C.out⟩
def cJ(P M x:Int):LI:=bU (inQ (aC P M) x) P M.toNat
theorem gY(P M x:Int):(cJ P M x).length=M.toNat:=dI _ _ _
theorem kW(w:World)(P M x:Int)(mv:Value)(H:aC P M≠0):Calls Tryz.prog 340 #[.agg #[.int .i64 P,.int .i64 M,mv],.int .i64 x] w (pX w (cJ P M x)):=by
 obtain⟨G,a,Y,Z,hq,O⟩:=bN H;have L:=WT (q:=aC P M) (x:=x) (by have:=gC G M.toNat;omega);have N:=aK P M;have F:Hid (0<=inQ (aC P M) x/\inQ (aC P M) x<=100000000):=by constructor<;>omega
 clear hq O L N H;have A:=zh (cV.mk' w P M mv);go_enter Tryz.func340,Tryz.ntmps340;go_wp2_with fail;obtain⟨w0,J⟩:∃w0,w0=w.alloc (.cells #[.int .i64 P,.int .i64 M,mv] 24):=⟨_,rfl⟩
 rw[<-J] at A|-;clear J;have c0:=A.c0;have c1:=A.c1;have c2:=A.c2
 go_region_held3 (fun w'=>w'.cell? ⟨w.heap.size,0,none⟩=some (.int .i64 P)/\w'.cell? ⟨w.heap.size,1,none⟩=some (.int .i64 M)/\w'.cell? ⟨w.heap.size,2,none⟩=some mv) (go_keep)
  (first
   |(go_at_call 377;refine(WV _ P M x mv).mono ?_;rintro e w1 ⟨rfl,D⟩;have Q:=zh D;have B:=zh (A.drew.on D);clear D;have S:=B.c0;have T:=B.c1;have U:=B.c2)
   |(go_at_call 143;refine(xE _ _ P M F.1 F.2 G (by omega) (by omega) (by omega)).mono ?_;rintro e w2 ⟨u,rfl,I,E⟩;have K:=zh I;have R:=zh E;have C:=zh (B.on E);clear E I;have V:=C.c0;have W:=C.c1;have X:=C.c2))
 go_wp2_with fail;go_ret;exact⟨u,rfl,K.mono (B.bel.size),C.bel⟩
theorem tK(w:World)(P M:Int)(mv v:Value)(d:LI)(h:SI w v d)(C:2<=P)(I:∀i,i<d.length->0<=d.getD i 0/\d.getD i 0<P)(hq:P^d.length<=256):
  Calls Tryz.prog 341 #[.agg #[.int .i64 P,.int .i64 M,mv],v] w (iJ w (bL P d)):=by
 obtain⟨A,c,rfl,h⟩:=h;have hn:=h.len;have H:=zh h.si;clear h;have E:=zh I;clear I;have O:Hid (∀i,i<=d.length->0<=bL P (d.drop i)/\bL P (d.drop i)*P<65536):=fun i hi=>by
  have hb:=iF C (d.drop i) (fun j R=>by rw[List.length_drop] at R;rw[CE];exact E.out _ (by omega));have W:P^(d.drop i).length<=P^d.length:=cY C (by rw[List.length_drop];omega);have D:d.length=0\/P<=256:=by
   by_cases e:d.length=0
   .exact .inl e
   .right;have:=cY C (show 1<=d.length by omega);rw[Int.pow_one] at this;omega
  refine⟨hb.1,?_⟩;rcases D with e|Y
  .have:d.drop i=[]:=by apply List.eq_nil_of_length_eq_zero;rw[List.length_drop];omega
   rw[this];simp[bL]
  .have X:bL P (d.drop i)*P<=255*P:=Int.mul_le_mul_of_nonneg_right (by omega) (by omega);omega
 have D:P<=256\/d.length=0:=by
  by_cases e:d.length=0
  .exact .inr e
  .left;have:=cY C (show 1<=d.length by omega);rw[Int.pow_one] at this;omega
 have L:=zh D;clear D hq;have F:=zh (cV.mk' w P M mv);go_enter Tryz.func341,Tryz.ntmps341;go_wp2_with fail;obtain⟨w0,J⟩:∃w0,w0=w.alloc (.cells #[.int .i64 P,.int .i64 M,mv] 24):=⟨_,rfl⟩
 rw[<-J] at F|-;clear J;go_loopw [5,6] (fun x i wr=>∃(k:Nat),k<=d.length/\i=.int .i64 ((k:Int)-1)/\x=.int .i64 (bL P (d.drop k))/\Hid (cV w wr P M mv)) (fun _ i _=>(intOf i+1).toNat)
 case atStart=>exact⟨d.length,Nat.le_refl _,rfl,by rw[List.drop_length];rfl,F⟩
 case round=>
  obtain⟨k,S,rfl,rfl,B⟩:=hrel;by_cases V:0<k
  .obtain⟨U,x,rfl,a,_,G⟩:=(H.below B.bel zr).elt (k:=k-1) (by omega);have hb:=O.out k S;obtain⟨Q,Z⟩:=hb;have K:=E.out (k-1) (by omega);rw[G.out] at K;obtain⟨n,o⟩:=K;have m:P<=256:=by rcases L.out with h|h;exact h;omega
   have N:Hid (bL P (d.drop (k-1))=bL P (d.drop k)*P+x):=by have:=xH (p:=P) (d:=d) (i:=k-1) (by omega);rw[G.out,show k-1+1=k by omega] at this;exact this
   have g:((k:Int)-1).toNat=k-1:=by omega
   have b:(1:Int)<=(k:Int):=by omega
   have f:k-1<d.length:=by omega
   have l:0<=bL P (d.drop k)*P:=Int.mul_nonneg Q (by omega);generalize hv:bL P (d.drop k)=v at*;have T:=zh hv;clear hv;have c0:=B.c0;go_wp2_with fail
   go_quiet (fail)
   go_wp2_with fail;exact⟨⟨k-1,by omega,by congr 1;omega,by rw[N.out],B.drewN _⟩,by simp only[intOf];omega⟩
  .obtain rfl:k=0:=by omega
   go_wp2_with fail;go_ret;exact⟨rfl,B.bel⟩
theorem rQ{P M x:Int}(A:2<=P)(i:Nat):0<=(cJ P M x).getD i 0/\(cJ P M x).getD i 0<P:=fN A i
theorem cV.far{w w0:World}{P M:Int}{mv:Value}(h:cV w w0 P M mv){g k:Nat}(hg:w.heap.size<g)(u:Value):cV w (w0.setCell ⟨g,k,none⟩ u) P M mv:=
 ⟨h.blk.far (p:=⟨g,k,none⟩) (show w.heap.size≠g by omega) u,h.bel.setCell (p:=⟨g,k,none⟩) (show w.heap.size<=g by omega) u⟩
theorem cV.lt{w w0:World}{P M:Int}{mv:Value}(h:cV w w0 P M mv):w.heap.size<w0.heap.size:=h.blk.lt
def dT(P M x y:Int):Int:=bL P (aQ M.toNat fun i=>((cJ P M x).getD i 0+(cJ P M y).getD i 0)%P)
def fZ(P M x:Int):Int:=bL P (aQ M.toNat fun i=>(P-(cJ P M x).getD i 0)%P)
theorem ST(w:World)(P M x y:Int)(mv:Value)(O:aC P M≠0):Calls Tryz.prog 339 #[.agg #[.int .i64 P,.int .i64 M,mv],.int .i64 x,.int .i64 y] w (iJ w (dT P M x y)):=by
 obtain⟨K,ω,σ,τ,hq,_⟩:=bN O;have T:=zh O;clear O;have X:=zh hq;clear hq;obtain⟨N,E⟩:∃N:Nat,N=M.toNat:=⟨_,rfl⟩
 have φ:1<=N:=by omega
 have χ:N<=8:=by omega
 have j:Hid (dT P M x y=bL P (aQ N fun i=>((cJ P M x).getD i 0+(cJ P M y).getD i 0)%P)):=by rw[E];rfl
 have A:Hid ((cJ P M x).length=N/\(cJ P M y).length=N):=by rw[E];exact⟨gY _ _ _,gY _ _ _⟩
 have h:=zh (rQ (M:=M) (x:=x) K);have m:=zh (rQ (M:=M) (x:=y) K);rw[<-E] at X;have η:=zh E;clear E;have I:=zh (cV.mk' w P M mv);go_enter Tryz.func339,Tryz.ntmps339;go_wp2_with fail;obtain⟨w0,d⟩:∃w0,w0=w.alloc (.cells #[.int .i64 P,.int .i64 M,mv] 24):=⟨_,rfl⟩
 rw[<-d] at I|-;clear d;refine(kW _ P M x mv T).mono ?_;rintro e w1 ⟨Ai,rfl,G,Z⟩;obtain⟨J,c1,rfl,Ab,Ac⟩:=G.form (by rw[A.out.1];omega);rw[A.out.1] at G|-;have C:=zh (I.on Z);have v:=C.c0;have z:=C.c1;have δ:=C.c2;have U:=zh G;clear Z G;go_wp2_with fail;refine(kW _ P M y mv T).mono ?_;rintro e w2 ⟨Aj,rfl,H,L⟩;obtain⟨ζ,c2,rfl,Ad,Ae⟩:=H.form (by rw[A.out.2];omega);rw[A.out.2] at H|-;have R:=zh (C.on L);have V:=zh (U.below L zr);have W:=zh H;have ρ:=I.lt;clear L H v z δ C U;generalize ha:cJ P M x=a at*;generalize hb:cJ P M y=b at*;clear ha hb;go_wp2_with fail;go_loopw [9] (fun i wr=>∃k:Nat,k<=N/\i=.int .i64 (k:Int)/\Hid (OI w0.heap.size wr (.slice (some ⟨J,0,none⟩) N c1) (bY N (fun i=>(a.getD i 0+b.getD i 0)%P) (fun i=>a.getD i 0) k))/\Hid (OI w1.heap.size wr (.slice (some ⟨ζ,0,none⟩) N c2) b)/\Hid (cV w wr P M mv)) (fun i _=>(N-intOf i).toNat)
 case atStart=>exact⟨0,aZ5 _,rfl,by rw[dA,mP A.out.1];exact V,W,R⟩
 case round=>
  clear V W R;obtain⟨k,Af,rfl,B,Q,D⟩:=hrel;have c0:=D.c0;by_cases F:k<N
  .have ε:=B.cell k (by rw[cU];exact F);rw[eJ F] at ε;have ν:=Q.cell k (by rw[A.out.2];exact F);have π:=B.frozen k;have t:=h.out k;have u:=m.out k;have n:=zh (dO (f:=fun i=>(a.getD i 0+b.getD i 0)%P) (g:=fun i=>a.getD i 0) F);have p:=zh (B.set k ((a.getD k 0+b.getD k 0)%P));have q:=zh (Q.grown (bF wr J k (.int .i64 ((a.getD k 0+b.getD k 0)%P))) (fun g hg e=>by simp[Value.ownBlock] at hg;have ξ:=aZ0 e;omega));have s:=zh (D.far (g:=J) (k:=k) (by omega) (.int .i64 ((a.getD k 0+b.getD k 0)%P)));generalize a.getD k 0=Ag at*;generalize b.getD k 0=Ah at*;obtain⟨θ,ι⟩:=t;obtain⟨κ,μ⟩:=u;have ψ:¬P=0:=by omega
   have Aa:(P==0)=false:=by rw[beq_eq_false_iff_ne];omega
   go_wp2_with fail
   go_still_tail 15,(by kernel_rfl)
   change wpList _ _ _ _ _ wr.drew;go_wp2_with fail;exact⟨⟨k+1,by omega,rfl,by rw[<-n.out];exact p.below (aH _) zr,q.below (aH _) zr,s.drew⟩,by simp only[intOf];omega⟩
  .obtain rfl:N=k:=by omega
   rw[cZ] at B;have Y:Hid (∀i,i<(aQ N fun i=>(a.getD i 0+b.getD i 0)%P).length->0<=(aQ N fun i=>(a.getD i 0+b.getD i 0)%P).getD i 0/\(aQ N fun i=>(a.getD i 0+b.getD i 0)%P).getD i 0<P):=fun i hi=>by rw[aT] at hi;rw[aS hi];exact⟨Int.emod_nonneg _ (by omega),Int.emod_lt_of_pos _ (by omega)⟩
   have S:Hid ((aQ N fun i=>(a.getD i 0+b.getD i 0)%P).length=N):=aT _ _;generalize (aQ N fun i=>(a.getD i 0+b.getD i 0)%P)=r at*;have o:=zh (B.si (by rw[S.out];omega) (fun i=>by
    by_cases hi:i<r.length
    .have:=Y.out i hi;exact I64.of_small (by omega) (by omega)
    .rw[aW (by omega)];exact I64.zero))
   have c1:=D.c1;have c2:=D.c2;go_wp2_with fail;refine(tK _ P M mv _ r o K Y (by rw[S.out];exact X.out)).mono ?_;rintro e Ak ⟨rfl,c⟩;have l:=zh (aA D.bel c);clear c;go_wp2_with fail;go_ret;exact⟨by rw[j.out];rfl,l.out⟩
end Go.Proofs.YtpfhoemohibniaaGreatDoor
namespace Go.Proofs.YtpfhoemohibniaaGreatDoor
def Rng(p:Int)(c:LI):Prop:=∀k,0<=c.getD k 0/\c.getD k 0<p
theorem Rng.zero{p:Int}(A:2<=p)(n:Nat):Rng p (List.replicate n 0):=fun k=>by
 have:(List.replicate n (0:Int)).getD k 0=0:=by by_cases h:k<n<;>simp[List.getD,h]
 rw[this];omega
theorem kN(c:LI)(i k:Nat)(x:Int):(c.set i x).getD k 0=if i=k/\i<c.length then x else c.getD k 0:=by
 by_cases e:i=k
 .subst e;by_cases h:i<c.length<;>simp[List.getD,h]
 .simp[List.getD,List.getElem?_set_ne e,e]
theorem Rng.set{p:Int}(A:2<=p){c:LI}(h:Rng p c)(i:Nat)(x:Int):Rng p (c.set i (x%p)):=fun k=>by
 rw[kN];split
 .exact⟨Int.emod_nonneg _ (by omega),Int.emod_lt_of_pos _ (by omega)⟩
 .exact h k
def qG(p:Int)(a b:LI)(i j:Nat)(c:LI):LI:=c.set (i+j) ((c.getD (i+j) 0+a.getD i 0*b.getD j 0)%p)
def iG(p:Int)(a b:LI)(i:Nat):Nat->LI->LI
 |0,c=>c
 |j+1,c=>qG p a b i j (iG p a b i j c)
def conv(p:Int)(a b:LI)(N:Nat):Nat->LI
 |0=>List.replicate (2*N-1) 0
 |i+1=>iG p a b i N (conv p a b N i)
def rY(p:Int)(low:LI)(N i j:Nat)(c:LI):LI:=c.set (i-N+j) ((c.getD (i-N+j) 0+(p-c.getD i 0)*low.getD j 0)%p)
def iQ(p:Int)(low:LI)(N i:Nat):Nat->LI->LI
 |0,c=>c
 |j+1,c=>rY p low N i j (iQ p low N i j c)
def jL(p:Int)(low:LI)(N:Nat)(c:LI):Nat->LI
 |0=>c
 |t+1=>iQ p low N (2*N-2-t) N (jL p low N c t)
theorem mS(p:Int)(a b:LI)(i:Nat):∀j c,(iG p a b i j c).length=c.length
 |0,c=>rfl
 |j+1,c=>by rw[iG,qG,aZ9,mS p a b i j c]
theorem kI(p:Int)(a b:LI)(N:Nat):∀i,(conv p a b N i).length=2*N-1
 |0=>by simp[conv]
 |i+1=>by rw[conv,mS,kI p a b N i]
theorem pK(p:Int)(low:LI)(N i:Nat):∀j c,(iQ p low N i j c).length=c.length
 |0,c=>rfl
 |j+1,c=>by rw[iQ,rY,aZ9,pK p low N i j c]
theorem jZ(p:Int)(low:LI)(N:Nat)(c:LI):∀t,(jL p low N c t).length=c.length
 |0=>rfl
 |t+1=>by rw[jL,pK,jZ p low N c t]
theorem qF{p:Int}(A:2<=p)(a b:LI)(i:Nat):∀j c,Rng p c->Rng p (iG p a b i j c)
 |0,c,h=>h
 |j+1,c,h=>by rw[iG,qG];exact(qF A a b i j c h).set A _ _
theorem qH{p:Int}(A:2<=p)(a b:LI)(N:Nat):∀i,Rng p (conv p a b N i)
 |0=>Rng.zero A _
 |i+1=>by rw[conv];exact qF A a b i N _ (qH A a b N i)
theorem tL{p:Int}(A:2<=p)(low:LI)(N i:Nat):∀j c,Rng p c->Rng p (iQ p low N i j c)
 |0,c,h=>h
 |j+1,c,h=>by rw[iQ,rY];exact(tL A low N i j c h).set A _ _
theorem oN{p:Int}(A:2<=p)(low:LI)(N:Nat)(c:LI)(h:Rng p c):∀t,Rng p (jL p low N c t)
 |0=>h
 |t+1=>by rw[jL];exact tL A low N _ N _ (oN A low N c h t)
theorem AH(p:Int)(low:LI){N i:Nat}(hi:N<=i):∀j c,j<=N->(iQ p low N i j c).getD i 0=c.getD i 0
 |0,c,_=>rfl
 |j+1,c,h=>by rw[iQ,rY,kN,if_neg (by omega)];exact AH p low hi j c (by omega)
def mY(p:Int)(low a b:LI)(N:Nat):LI:=(jL p low N (conv p a b N N) (N-1)).take N
def fS(p:Int)(low:LI)(c:Int)(i:Nat):Nat->LI->LI
 |0,r=>r
 |j+1,r=>(fS p low c i j r).set (i-low.length+j) (((fS p low c i j r).getD (i-low.length+j) 0+(p-c)*low.getD j 0)%p)
def eY(p:Int)(low r:LI):Nat->LI
 |0=>r
 |t+1=>(fS p low ((eY p low r t).getD (r.length-1-t) 0) (r.length-1-t) low.length (eY p low r t)).set (r.length-1-t) 0
def eR(p:Int)(low mod:LI):Bool:=(eY p low (mod++[1]) (mod.length+1-low.length)).all (·==0)
theorem mE(p:Int)(low:LI)(c:Int)(i:Nat):∀j r,(fS p low c i j r).length=r.length
 |0,r=>rfl
 |j+1,r=>by rw[fS,aZ9,mE p low c i j r]
theorem nW(p:Int)(low r:LI):∀t,(eY p low r t).length=r.length
 |0=>rfl
 |t+1=>by rw[eY,aZ9,mE,nW p low r t]
theorem sW{p:Int}(A:2<=p)(low:LI)(c:Int)(i:Nat):∀j r,Rng p r->Rng p (fS p low c i j r)
 |0,r,h=>h
 |j+1,r,h=>by rw[fS];exact(sW A low c i j r h).set A _ _
theorem Rng.set0{p:Int}(A:2<=p){c:LI}(h:Rng p c)(i:Nat):Rng p (c.set i 0):=by have:=h.set A i 0;rwa[Int.zero_emod] at this
theorem vR{p:Int}(A:2<=p)(low r:LI)(h:Rng p r):∀t,Rng p (eY p low r t)
 |0=>h
 |t+1=>by rw[eY];exact(sW A low _ _ _ _ (vR A low r h t)).set0 A _
def mL(p:Int)(mod:LI)(d v:Nat):Bool:=(List.range v).all fun x=>!eR p (bU x p d) mod
def pV(p:Int)(mod:LI)(d:Nat):Bool:=(List.range d).all fun e=>mL p mod (e+1) (p^(e+1)).toNat
def uN(p:Int)(mod:LI):Bool:=pV p mod (mod.length/2)
theorem GO(p:Int)(mod:LI)(d v:Nat):mL p mod d (v+1)=(mL p mod d v&&!eR p (bU v p d) mod):=by unfold mL;rw[List.range_succ,List.all_append];simp
theorem JH(p:Int)(mod:LI)(d:Nat):pV p mod (d+1)=(pV p mod d&&mL p mod (d+1) (p^(d+1)).toNat):=by unfold pV;rw[List.range_succ,List.all_append];simp
theorem uZ{p:Int}{mod:LI}{d v n:Nat}(A:v<n)(h:eR p (bU v p d) mod=true):mL p mod d n=false:=by unfold mL;rw[List.all_eq_false];exact⟨v,List.mem_range.2 A,by simp[h]⟩
theorem wX{p:Int}{mod:LI}{d n:Nat}(A:d<n)(h:mL p mod (d+1) (p^(d+1)).toNat=false):pV p mod n=false:=by unfold pV;rw[List.all_eq_false];exact⟨d,List.mem_range.2 A,by simp[h]⟩
def wI(N:Nat)(out:LI):LI:=(List.range N).map fun j=>if j=0 then 0 else out.getD (j-1) 0
def kT(p:Int)(low a out:LI)(N:Nat)(b:Int)(j:Nat):Int:=
 ((if j=0 then 0 else out.getD (j-1) 0)+(p-out.getD (N-1) 0)*low.getD j 0+b*a.getD j 0)%p
def nA(p:Int)(low a out:LI)(N:Nat)(b:Int)(k:Nat):LI:=
 (List.range N).map fun j=>if j<k then kT p low a out N b j else if j=0 then 0 else out.getD (j-1) 0
def kD(p:Int)(low a out:LI)(N:Nat)(b:Int):LI:=(List.range N).map fun j=>kT p low a out N b j
def fK(p:Int)(low a:LI)(N:Nat):LI->LI
 |[]=>List.replicate N 0
 |b::r=>kD p low a (fK p low a N r) N b
theorem JT(p:Int)(low a out:LI)(N:Nat)(b:Int):nA p low a out N b 0=wI N out:=by simp[nA,wI]
theorem JR(p:Int)(low a out:LI)(N:Nat)(b:Int):nA p low a out N b N=kD p low a out N b:=by unfold nA kD;exact List.map_congr_left fun j A=>by rw[if_pos (by simpa using A)]
theorem NZ(p:Int)(low a out:LI)(N:Nat)(b:Int)(k:Nat):(nA p low a out N b k).length=N:=by simp[nA]
theorem wZ(p:Int)(low a out:LI)(N:Nat)(b:Int):(kD p low a out N b).length=N:=by simp[kD]
theorem oG(p:Int)(low a:LI)(N:Nat):∀b,(fK p low a N b).length=N
 |[]=>by simp[fK]
 |b::r=>by rw[fK,wZ]
theorem JS{p:Int}{low a out:LI}{N:Nat}{b:Int}{k:Nat}(A:k<N):(nA p low a out N b k).getD k 0=if k=0 then 0 else out.getD (k-1) 0:=by simp[nA,List.getD,A]
theorem N0{p:Int}{low a out:LI}{N:Nat}{b:Int}{k:Nat}(B:k<N):(nA p low a out N b k).set k (kT p low a out N b k)=nA p low a out N b (k+1):=by
 apply List.ext_getElem?;intro i;by_cases hi:i<N
 .by_cases e:k=i
  .subst e;simp[nA,hi]
  .have A:(i<k+1)=(i<k):=by simp;omega
   simp[nA,List.getElem?_set,e,hi,A]
 .simp[nA,List.getElem?_set,hi]
theorem tG{p:Int}{low a:LI}{N:Nat}(A:2<=p):∀(b:LI) (j:Nat),0<=(fK p low a N b).getD j 0/\(fK p low a N b).getD j 0<p
 |[],j=>by
  rw[fK];have:(List.replicate N (0:Int)).getD j 0=0:=by by_cases h:j<N<;>simp[List.getD,h]
  rw[this];omega
 |b::r,j=>by
  rw[fK];by_cases h:j<N
  .have:(kD p low a (fK p low a N r) N b).getD j 0=kT p low a (fK p low a N r) N b j:=by simp[kD,List.getD,h]
   rw[this];exact⟨Int.emod_nonneg _ (by omega),Int.emod_lt_of_pos _ (by omega)⟩
  .rw[aZ4,aY4 (by rw[wZ];omega)];simp;omega
def lL(M:Int)(Mod:LI):LI:=if 1<M then Mod else[]
def EF(P M:Int)(Mod:LI)(x y:Int):Int:=bL P (fK P (lL M Mod) (bU x P M.toNat) M.toNat (bU y P M.toNat))
theorem NX{p:Int}{low a d:LI}{N i:Nat}(h:i<d.length):fK p low a N (d.drop i)=kD p low a (fK p low a N (d.drop (i+1))) N (d.getD i 0):=by rw[qI h];rfl
theorem D3{p s B A b a:Int}(J:2<=p)(I:p<=256)(K:0<=s/\s<p)(L:0<=B/\B<p)(H:0<=A/\A<p)(hb:0<=b/\b<p)(G:0<=a/\a<p):
  0<=(p-B)*A/\(p-B)*A<=65536/\0<=b*a/\b*a<=65536:=by
 have C:0<=(p-B)*A:=Int.mul_nonneg (by omega) (by omega);have D:(p-B)*A<=256*256:=Int.mul_le_mul (by omega) (by omega) (by omega) (by omega);have E:0<=b*a:=Int.mul_nonneg (by omega) (by omega);have F:b*a<=256*256:=Int.mul_le_mul (by omega) (by omega) (by omega) (by omega);omega
end Go.Proofs.YtpfhoemohibniaaGreatDoor
namespace Go.Proofs.YtpfhoemohibniaaGreatDoor
open Go.RowKit
section
variable {P:Program} {ops:Array Oper} {Q:Exit->Act->World->Prop} {S:World->Prop}
def aG(P:Program)(ops:Array Oper)(Q:Exit->Act->World->Prop)(S:World->Prop):Nat->Array Bool->Act->World->Prop
 |0,L,a,w=>Region.ready .any ops L=[]/\Q .normal a w
 |n+1,L,a,w=>
  (Region.ready .any ops L=[]->Q .normal a w)/\
  ∀i∈Region.ready .any ops L,wpOp P ops Q i (fun b v=>S v/\aG P ops Q S n (L.setIfInBounds i true) b v) a w
theorem aG.any:∀(n:Nat) (L:Array Bool) (a:Act) (w:World),aG P ops Q S n L a w->wpAny P .any ops Q n L a w
 |0,_,_,_,h=>h
 |n+1,_,_,_,h=>⟨h.1,fun i hi=>wpOp_mono (fun b v hb=>aG.any n _ b v hb.2) (h.2 i hi)⟩
theorem GP{L:Array Bool}{i:Nat}{oj:Oper}{j:Nat}(hi:i∈Region.ready .any ops L)(G:ops[j]?=some oj)(D:∀e∈oj.after,Region.binds .any e=true->L.getD e.on false=true):∀e∈oj.after,Region.binds .any e=true->e.on≠i:=fun e E hb F=>by
 have A:=D e E hb;have C:=(mem_ready.1 hi).1;rw[F] at A;rcases Nat.lt_or_ge i L.size with B|B
 .simp[B] at C A;rw[C] at A;cases A
 .simp[Array.getElem?_eq_none B] at A
theorem aG.first{i:Nat}{oi:Oper}{v:Value}(hi:ops[i]?=some oi)(D:∀(j:Nat) (o:Oper) cs b,ops[j]?=some o->o.op≠.select cs b)
  (E:∀c a w,Q (.panic c) (a.put oi.dst v) w->Q (.panic c) a w):
  ∀(n:Nat) (L:Array Bool) (a:Act) (w:World),
   (∀j oj,ops[j]?=some oj->j≠i->L.getD j true=false->(∀e∈oj.after,Region.binds .any e=true->e.on≠i)->oi.apart ops oj=true)->
   i∈Region.ready .any ops L->YieldsIf P ops S oi v a->S w->
   aG P ops Q S n (L.setIfInBounds i true) (a.put oi.dst v) w->aG P ops Q S (n+1) L a w
 |0,L,a,w,_,hr,hy,hS,H=>by
  refine⟨fun h=>(by rw[h] at hr;cases hr),fun j B=>?_⟩;by_cases A:j=i
  .subst A;exact hy.wpOp hi hS ⟨hS,H⟩
  .have:=ready_mono B A;rw[H.1] at this;cases this
 |n+1,L,a,w,hfree,hr,hy,hS,H=>by
  refine⟨fun h=>(by rw[h] at hr;cases hr),fun j B=>?_⟩;by_cases A:j=i
  .subst A;exact hy.wpOp hi hS ⟨hS,H⟩
  .have K:=H.2 j (ready_mono B A);obtain⟨I,oj,C,R⟩:=mem_ready.1 B;have M:=wpOp_putIf C (hfree j oj C A I (GP hr C R)) (fun cs b=>D i oi cs b hi) (fun cs b=>D j oj cs b C) E hy K;have W:=ready_mono hr (Ne.symm A);refine wpOp_mono (fun b u N=>?_) M;rcases N with⟨X,F,O⟩
   refine⟨F,aG.first hi D E n (L.setIfInBounds j true) b u (fun k Y T U J V=>?_) W X F ?_⟩
   .refine hfree k Y T U ?_ V;by_cases G:j=k
    .subst G;exact I
    .rw[getD_set_ne true G] at J;exact J
   .rw[Array.setIfInBounds_comm _ _ A];exact O
theorem aG.take{i n:Nat}{oi:Oper}{v:Value}{L:Array Bool}{a:Act}{w:World}(hi:ops[i]?=some oi)(E:Region.noSelect ops=true)(C:Region.free .any ops L i=true)
  (D:(Region.ready .any ops L).contains i=true)(A:∀c a w,Q (.panic c) (a.put oi.dst v) w->Q (.panic c) a w)(F:YieldsIf P ops S oi v a)(B:S w)
  (h:aG P ops Q S n (L.setIfInBounds i true) (a.put oi.dst v) w):aG P ops Q S (n+1) L a w:=
 aG.first hi (Region.noSelect_spec E) A n L a w (Region.free_spec hi C) (by simpa using D) F B h
theorem tq(i:Nat){n:Nat}{oi:Oper}{v:Value}{L:Array Bool}{a:Act}{w:World}(h:aG P ops Q S n (L.setIfInBounds i true) (a.put oi.dst v) w)(B:S w:=by assumption)(hi:ops[i]?=some oi:=by rfl)(G:∀w,S w->(execOp a.eval oi).run P w=.ok (.value v) w:=by intro w' h;(try dsimp only at h);go_simp<;>with_reducible rfl)(F:Region.noSelect ops=true:=by kernel_rfl)(C:Region.free .any ops L i=true:=by kernel_rfl)(E:(Region.ready .any ops L).contains i=true:=by kernel_rfl)(A:∀c a w,Q (.panic c) (a.put oi.dst v) w->Q (.panic c) a w:=by exact fun _ _ _ h=>h)(D:Region.wanted oi (yielded ops a.tmps)=true:=by kernel_rfl):aG P ops Q S (n+1) L a w:=
 aG.take hi F C E A (.inl ⟨D,G⟩) B h
theorem aG.only{i n:Nat}{o:Oper}{L:Array Bool}{a:Act}{w:World}(C:Region.ready .any ops L=[i])(G:ops[i]?=some o)
  (h:∀K:Act->World->Prop,Hid (∀b v,S v->(S v->aG P ops Q S n (L.setIfInBounds i true) b v)->K b v)->if Region.wanted o (yielded ops a.tmps)=true then Oper.wp P o a w K Q else K (a.put o.dst undef) w):
  aG P ops Q S (n+1) L a w:=by
 refine⟨fun E=>absurd (C.symm.trans E) (by simp),fun j B=>?_⟩;rw[C] at B;obtain rfl:j=i:=by simpa using B
 exact wpOp_step G (fun D hK=>h D (fun b v A F=>hK b v ⟨A,F A⟩))
theorem aG.done{n:Nat}{L:Array Bool}{a:Act}{w:World}(A:Region.ready .any ops L=[])(h:Q .normal a w):aG P ops Q S n L a w:=by
 cases n with
 |zero=>exact⟨A,h⟩
 |succ n=>exact⟨fun _=>h,fun i hi=>by rw[A] at hi;cases hi⟩
theorem aG.start{id:Nat}{a:Act}{w:World}(hm:P.follows .mixedOrders=true)(A:S w.drew)(h:S w.drew->aG P ops Q S ops.size (Array.replicate ops.size false) a w.drew):(Code.region id ops true).wp P Q a w:=
 wp_region_any hm (aG.any _ _ _ _ (h A))
end
section
variable {P:Program} {ops:Array Oper} {Q:Exit->Act->World->Prop} {S:World->Prop}
def aM(P:Program)(ops:Array Oper)(Q:Exit->Act->World->Prop)(S:World->Prop):Nat->Array Bool->Act->World->Prop
 |0,L,a,w=>Region.ready .any ops L=[]/\Q .normal a w
 |n+1,L,a,w=>
  (Region.ready .any ops L=[]->Q .normal a w)/\
  ∀i∈Region.ready .any ops L,wpOp P ops Q i (fun b v=>(i+1≠ops.size->S v)/\aM P ops Q S n (L.setIfInBounds i true) b v) a w
theorem aM.any:∀(n:Nat) (L:Array Bool) (a:Act) (w:World),aM P ops Q S n L a w->wpAny P .any ops Q n L a w
 |0,_,_,_,h=>h
 |n+1,_,_,_,h=>⟨h.1,fun i hi=>wpOp_mono (fun b v hb=>aM.any n _ b v hb.2) (h.2 i hi)⟩
theorem zW{L:Array Bool}{i:Nat}{oj:Oper}{j:Nat}(hi:i∈Region.ready .any ops L)(G:ops[j]?=some oj)(D:∀e∈oj.after,Region.binds .any e=true->L.getD e.on false=true):∀e∈oj.after,Region.binds .any e=true->e.on≠i:=fun e E hb F=>by
 have A:=D e E hb;have C:=(mem_ready.1 hi).1;rw[F] at A;rcases Nat.lt_or_ge i L.size with B|B
 .simp[B] at C A;rw[C] at A;cases A
 .simp[Array.getElem?_eq_none B] at A
theorem aM.first{i:Nat}{oi:Oper}{v:Value}(hi:ops[i]?=some oi)(D:∀(j:Nat) (o:Oper) cs b,ops[j]?=some o->o.op≠.select cs b)
  (E:∀c a w,Q (.panic c) (a.put oi.dst v) w->Q (.panic c) a w)(O:Region.waitsFor .any ops (ops.size-1) i=true):
  ∀(n:Nat) (L:Array Bool) (a:Act) (w:World),
   (∀j oj,ops[j]?=some oj->j≠i->L.getD j true=false->(∀e∈oj.after,Region.binds .any e=true->e.on≠i)->oi.apart ops oj=true)->
   i∈Region.ready .any ops L->YieldsIf P ops S oi v a->S w->
   aM P ops Q S n (L.setIfInBounds i true) (a.put oi.dst v) w->aM P ops Q S (n+1) L a w
 |0,L,a,w,_,hr,hy,hS,H=>by
  refine⟨fun h=>(by rw[h] at hr;cases hr),fun j C=>?_⟩;by_cases A:j=i
  .subst A;exact hy.wpOp hi hS ⟨fun _=>hS,H⟩
  .have:=ready_mono C A;rw[H.1] at this;cases this
 |n+1,L,a,w,hfree,hr,hy,hS,H=>by
  refine⟨fun h=>(by rw[h] at hr;cases hr),fun j C=>?_⟩;by_cases A:j=i
  .subst A;exact hy.wpOp hi hS ⟨fun _=>hS,H⟩
  .have R:=H.2 j (ready_mono C A);obtain⟨K,oj,B,G⟩:=mem_ready.1 C;have T:=wpOp_putIf B (hfree j oj B A K (zW hr B G)) (fun cs b=>D i oi cs b hi) (fun cs b=>D j oj cs b B) E hy R;have g:=ready_mono hr (Ne.symm A);have J:j+1≠ops.size:=fun J=>by
    obtain⟨p,M,e,X,hb,f⟩:=Region.waitsFor_spec O;rw[show ops.size-1=j by omega] at M;obtain rfl:=aZ0 (M.symm.trans B);exact zW hr B G e X hb f
   refine wpOp_mono (fun b u U=>?_) T;rcases U with⟨l,W,V⟩
   have F:=W J;refine⟨fun _=>F,aM.first hi D E O n (L.setIfInBounds j true) b u (fun k m Y Z N d=>?_) g l F ?_⟩
   .refine hfree k m Y Z ?_ d;by_cases I:j=k
    .subst I;exact K
    .rw[getD_set_ne true I] at N;exact N
   .rw[Array.setIfInBounds_comm _ _ A];exact V
theorem aM.take{i n:Nat}{oi:Oper}{v:Value}{L:Array Bool}{a:Act}{w:World}(hi:ops[i]?=some oi)(E:Region.noSelect ops=true)(C:Region.free .any ops L i=true)
  (D:(Region.ready .any ops L).contains i=true)(F:Region.waitsFor .any ops (ops.size-1) i=true)(A:∀c a w,Q (.panic c) (a.put oi.dst v) w->Q (.panic c) a w)(G:YieldsIf P ops S oi v a)(B:S w)
  (h:aM P ops Q S n (L.setIfInBounds i true) (a.put oi.dst v) w):aM P ops Q S (n+1) L a w:=
 aM.first hi (Region.noSelect_spec E) A F n L a w (Region.free_spec hi C) (by simpa using D) G B h
theorem dq(i:Nat){n:Nat}{oi:Oper}{v:Value}{L:Array Bool}{a:Act}{w:World}(h:aM P ops Q S n (L.setIfInBounds i true) (a.put oi.dst v) w)(B:S w:=by assumption)(hi:ops[i]?=some oi:=by rfl)(H:∀w,S w->(execOp a.eval oi).run P w=.ok (.value v) w:=by intro w' h;(try dsimp only at h);go_simp<;>with_reducible rfl)(F:Region.noSelect ops=true:=by kernel_rfl)(C:Region.free .any ops L i=true:=by kernel_rfl)(E:(Region.ready .any ops L).contains i=true:=by kernel_rfl)(G:Region.waitsFor .any ops (ops.size-1) i=true:=by kernel_rfl)(A:∀c a w,Q (.panic c) (a.put oi.dst v) w->Q (.panic c) a w:=by exact fun _ _ _ h=>h)(D:Region.wanted oi (yielded ops a.tmps)=true:=by kernel_rfl):aM P ops Q S (n+1) L a w:=
 aM.take hi F C E G A (.inl ⟨D,H⟩) B h
theorem aM.only{i n:Nat}{o:Oper}{L:Array Bool}{a:Act}{w:World}(C:Region.ready .any ops L=[i])(G:ops[i]?=some o)
  (h:∀K:Act->World->Prop,Hid (∀b v,(i+1≠ops.size->S v)->((i+1≠ops.size->S v)->aM P ops Q S n (L.setIfInBounds i true) b v)->K b v)->if Region.wanted o (yielded ops a.tmps)=true then Oper.wp P o a w K Q else K (a.put o.dst undef) w):
  aM P ops Q S (n+1) L a w:=by
 refine⟨fun E=>absurd (C.symm.trans E) (by simp),fun j B=>?_⟩;rw[C] at B;obtain rfl:j=i:=by simpa using B
 exact wpOp_step G (fun D hK=>h D (fun b v A F=>hK b v ⟨A,F A⟩))
theorem aM.done{n:Nat}{L:Array Bool}{a:Act}{w:World}(A:Region.ready .any ops L=[])(h:Q .normal a w):aM P ops Q S n L a w:=by
 cases n with
 |zero=>exact⟨A,h⟩
 |succ n=>exact⟨fun _=>h,fun i hi=>by rw[A] at hi;cases hi⟩
theorem aM.start{id:Nat}{a:Act}{w:World}(hm:P.follows .mixedOrders=true)(A:S w.drew)(h:S w.drew->aM P ops Q S ops.size (Array.replicate ops.size false) a w.drew):(Code.region id ops true).wp P Q a w:=
 wp_region_any hm (aM.any _ _ _ _ (h A))
end
theorem I9(l:LL)(i k:Nat)(x:LI):(l.set i x).getD k []=if i=k/\i<l.length then x else l.getD k []:=by
 by_cases e:i=k
 .subst e;by_cases h:i<l.length<;>simp[List.getD,h]
 .simp[List.getD,List.getElem?_set_ne e,e]
section
variable {B g n c:Nat} {X:Nat->Prop} {w:World} {l:LL}
theorem OS.formP{v:Value}(h:OS B X w v l)(F:0<l.length):∃g c,v=.slice (some ⟨g,0,none⟩) l.length c/\B<=g/\g<w.heap.size:=by
 obtain⟨us,C,_⟩:=h;rcases C.2 with⟨rfl,E⟩|⟨g,A,D,rfl,hb,hg,_⟩
 .omega
 .exact⟨g,A,rfl,hb,(Array.getElem?_eq_some_iff.1 hg).1⟩
theorem OS.lenEq{A:Option Addr}(h:OS B X w (.slice A n c) l):n=l.length:=by
 obtain⟨us,C,_⟩:=h;rcases C.2 with⟨e,F⟩|⟨g,D,E,e,_⟩
 .injection e with e1 e2 e3;omega
 .injection e with e1 e2 e3
theorem OS.row(h:OS B X w (.slice (some ⟨g,0,none⟩) n c) l){k:Nat}(H:k<l.length):∃u,w.cell? ⟨g,k,none⟩=some u/\SI w u (l.getD k [])/\(0<(l.getD k []).length->∀A,u.ownBlock=some A->A≠g/\¬X A):=by
 have hn:=h.lenEq;subst hn;obtain⟨us,E,hi⟩:=h;obtain⟨u,J,I,F⟩:=hi k H;have K:us.length=l.length:=by have:=E.1;omega
 refine⟨u,?_,I,fun C A D=>⟨fun e=>(F C A D).1 (by rw[e];rfl),(F C A D).2⟩⟩;have:=World.ownsRow.cells E (g:=g) rfl k u J;have G:(⟨g,0,none⟩:Addr).add k=⟨g,k,none⟩:=by unfold Addr.add;by_cases C:k=0<;>simp[C]
 rw[G] at this;exact this
theorem OS.frozen(h:OS B X w (.slice (some ⟨g,0,none⟩) n c) l)(k:Nat):w.frozen? ⟨g,k,none⟩=false:=by have hn:=h.lenEq;subst hn;obtain⟨us,A,_⟩:=h;exact World.ownsRow.frozenAt A k
theorem OS.elt(h:OS B X w (.slice (some ⟨g,0,none⟩) n c) l){k j:Nat}(H:k<l.length)(G:j<(l.getD k []).length):
  ∃C D x,w.cell? ⟨g,k,none⟩=some (.slice (some C) (l.getD k []).length D)/\w.cell? (C.add j)=some (.int .i64 x)/\Hid ((l.getD k []).getD j 0=x)/\Hid (SI w (.slice (some C) (l.getD k []).length D) (l.getD k [])):=by
 obtain⟨u,I,E,_⟩:=h.row H;obtain⟨A,D,rfl,E⟩:=E;obtain⟨C,x,rfl,F,_,J⟩:=E.elt G;exact⟨C,D,x,I,F,J,E.si⟩
theorem OS.setRow(h:OS B X w (.slice (some ⟨g,0,none⟩) n c) l)(k:Nat){u:Value}{r:LI}(L:SI w u r)(G:0<r.length->∀A,u.ownBlock=some A->A≠g/\¬X A):
  OS B X (w.setCell ⟨g,k,none⟩ u) (.slice (some ⟨g,0,none⟩) n c) (l.set k r):=by
 have hn:=h.lenEq;subst hn;obtain⟨us,H,hi⟩:=h;have N:us.length=l.length:=by have:=H.1;omega
 have K:=(World.ownsRow.stored H k u).1;have hg:=bF w g k u;refine⟨us.set k u,by rw[aZ9];exact K,fun i F=>?_⟩;rw[aZ9] at F;rw[I9];by_cases e:k=i
 .subst e;rw[if_pos ⟨rfl,F⟩];refine⟨u,by rw[List.getElem?_set_self (by omega)],L.grown hg (fun D A E C=>(G D A E).1 (aZ0 C).symm),fun D A E=>⟨fun C=>(G D A E).1 (by simp[Value.ownBlock] at C;exact C.symm),(G D A E).2⟩⟩
 .rw[if_neg (fun h=>e h.1)];obtain⟨y,M,J,I⟩:=hi i F;exact⟨y,by rw[List.getElem?_set_ne e];exact M,J.grown hg (fun D A E C=>(I D A E).1 (by rw[<-C];rfl)),I⟩
theorem OS.ne_oi{B':Nat}{v u:Value}{xs:LI}(h:OS B X w v l)(E:OI B' w u xs){A:Nat}(hg:u.ownBlock=some A):v.ownBlock≠some A:=by
 obtain⟨us,F,_⟩:=h;rcases E.2 with⟨rfl,_⟩|⟨K,G,I,rfl,_,D,_⟩
 .simp[Value.ownBlock] at hg
 .simp[Value.ownBlock] at hg;subst hg;rcases F.2 with⟨rfl,_⟩|⟨L,H,J,rfl,_,C,_⟩
  .simp[Value.ownBlock]
  .intro e;simp[Value.ownBlock] at e;subst e;rw[D] at C;simp at C
end
structure EL(B:Nat)(w0 wr:World)(v u:Value)(l:LL)(piv:LI)(X:Nat->Prop):Prop where
 os:OS B X wr v l
 oi:OI B wr u piv
 xu:∀g,u.ownBlock=some g->X g
 xb:∀g,X g->g<wr.heap.size
 low:∀g,g<w0.heap.size->X g
 bel:Below w0.heap.size w0 wr
theorem EL.on{B:Nat}{w0 wr w1:World}{v u:Value}{l:LL}{piv:LI}{X:Nat->Prop}(h:EL B w0 wr v u l piv X)(hb:Below wr.heap.size wr w1):EL B w0 w1 v u l piv X:=
 ⟨h.os.below hb,h.oi.below hb zr,h.xu,fun g hg=>aY1 (h.xb g hg) hb.size,h.low,aA h.bel hb⟩
theorem EL.drew{B:Nat}{w0 wr:World}{v u:Value}{l:LL}{piv:LI}{X:Nat->Prop}(h:EL B w0 wr v u l piv X):EL B w0 wr.drew v u l piv X:=h.on (aH _)
theorem EL.setRow{B g n c:Nat}{w0 wr:World}{u:Value}{l:LL}{piv:LI}{X:Nat->Prop}(h:EL B w0 wr (.slice (some ⟨g,0,none⟩) n c) u l piv X)(hB:w0.heap.size<=B)(k:Nat){y:Value}{r:LI}(E:SI wr y r)(F:0<r.length->∀A,y.ownBlock=some A->A≠g/\¬X A):
  EL B w0 (wr.setCell ⟨g,k,none⟩ y) (.slice (some ⟨g,0,none⟩) n c) u (l.set k r) piv X:=by
 have D:=(h.os.lt (g:=g) rfl).1;refine⟨h.os.setRow k E F,h.oi.grown (bF wr g k y) (fun A C e=>?_),h.xu,fun A C=>?_,h.low,h.bel.setCell (p:=⟨g,k,none⟩) (aZ6 hB D) y⟩
 .have:=aZ0 e;subst this;exact h.os.ne_oi h.oi C rfl
 .have:=h.xb A C;simpa[World.setCell] using this
theorem EL.push{B:Nat}{w0 wr w1:World}{v u v':Value}{l:LL}{piv:LI}{y:Int}{X:Nat->Prop}{o:Obj}(h:EL B w0 wr v u l piv X)(hB:w0.heap.size<=B)(F:OI B w1 v' (piv++[y]))(hg:(wr.alloc o).grownBy w1 u.ownBlock)
  (E:v'.ownBlock=u.ownBlock\/v'.ownBlock=some (wr.alloc o).heap.size):EL B w0 w1 v v' l (piv++[y]) (fun g=>X g\/v'.ownBlock=some g):=by
 have C:=h.on (aF wr o);refine⟨?_,F,fun g D=>.inr D,fun g D=>?_,fun g I=>.inl (h.low g I),C.bel.grown hg C.bel.size (fun k H=>aZ6 hB (h.oi.lt H).1)⟩
 .refine(C.os.names (Y:=fun g=>X g\/v'.ownBlock=some g) (fun g J A=>?_)).grown hg (fun G D=>⟨C.os.ne_oi C.oi D,.inl (h.xu G D)⟩);rcases A with A|A
  .exact A
  .rcases E with E|E
   .exact h.xu g (by rw[<-E];exact A)
   .rw[E] at A;have:=aZ0 A;omega
 .rcases D with A|A
  .exact aY1 (C.xb g A) hg.size
  .exact(F.lt A).2
theorem EL.fresh{B g n c:Nat}{w0 wr w1:World}{u y:Value}{l:LL}{piv r:LI}{X:Nat->Prop}(h:EL B w0 wr (.slice (some ⟨g,0,none⟩) n c) u l piv X)(D:OI wr.heap.size w1 y r):0<r.length->∀A,y.ownBlock=some A->A≠g/\¬X A:=fun _ A C=>by have F:=(D.lt C).1;have G:=(h.os.lt (g:=g) rfl).2;exact⟨by omega,fun E=>by have:=h.xb A E;omega⟩
structure nH(w w':World)(g:Nat)(t:TypeId)(cs:List Value):Prop where
 blk:Blk w' g t cs
 gr:w.grownBy w' (some g)
theorem nH.c0{w w':World}{g:Nat}{t:TypeId}{a:Value}{cs:List Value}(h:nH w w' g t (a::cs)):w'.cell? ⟨g,0,none⟩=some a:=h.blk.cell 0
theorem nH.c1{w w':World}{g:Nat}{t:TypeId}{a b:Value}{cs:List Value}(h:nH w w' g t (a::b::cs)):w'.cell? ⟨g,1,none⟩=some b:=h.blk.cell 1
theorem nH.c2{w w':World}{g:Nat}{t:TypeId}{a b c:Value}{cs:List Value}(h:nH w w' g t (a::b::c::cs)):w'.cell? ⟨g,2,none⟩=some c:=h.blk.cell 2
theorem nH.c3{w w':World}{g:Nat}{t:TypeId}{a b c d:Value}{cs:List Value}(h:nH w w' g t (a::b::c::d::cs)):w'.cell? ⟨g,3,none⟩=some d:=h.blk.cell 3
theorem nH.c4{w w':World}{g:Nat}{t:TypeId}{a b c d e:Value}{cs:List Value}(h:nH w w' g t (a::b::c::d::e::cs)):w'.cell? ⟨g,4,none⟩=some e:=h.blk.cell 4
theorem nH.below{B:Nat}{w0 w w':World}{g:Nat}{t:TypeId}{cs:List Value}(h:nH w w' g t cs)(hb:Below B w0 w)(hB:B<=w.heap.size)(hg:B<=g):Below B w0 w':=hb.grown h.gr hB fun k e=>by cases e;exact hg
theorem X6{w:World}{g:Nat}{t:TypeId}{a x:Value}(h:Blk w g t [a]):∃w',w.setCell ⟨g,0,none⟩ x=w'/\nH w w' g t [x]:=
 ⟨_,rfl,h.set_ 0 x,bF w g 0 x⟩
theorem oD{w:World}{g:Nat}{t:TypeId}{a b x y:Value}(h:Blk w g t [a,b]):∃w',(w.setCell ⟨g,0,none⟩ x).setCell ⟨g,1,none⟩ y=w'/\nH w w' g t [x,y]:=
 ⟨_,rfl,(h.set_ 0 x).set_ 1 y,iI w g 0 1 x y⟩
theorem xK{w:World}{g:Nat}{t:TypeId}{a b c x y z:Value}(h:Blk w g t [a,b,c]):∃w',((w.setCell ⟨g,0,none⟩ x).setCell ⟨g,1,none⟩ y).setCell ⟨g,2,none⟩ z=w'/\nH w w' g t [x,y,z]:=
 ⟨_,rfl,((h.set_ 0 x).set_ 1 y).set_ 2 z,aP (p:=⟨g,2,none⟩) (iI w g 0 1 x y) (.inl rfl) _⟩
theorem uP{w:World}{g:Nat}{t:TypeId}{a b c d e x y z u v:Value}(h:Blk w g t [a,b,c,d,e]):∃w',((((w.setCell ⟨g,0,none⟩ x).setCell ⟨g,1,none⟩ y).setCell ⟨g,2,none⟩ z).setCell ⟨g,3,none⟩ u).setCell ⟨g,4,none⟩ v=w'/\nH w w' g t [x,y,z,u,v]:=
 ⟨_,rfl,((((h.set_ 0 x).set_ 1 y).set_ 2 z).set_ 3 u).set_ 4 v,aP (p:=⟨g,4,none⟩) (aP (p:=⟨g,3,none⟩) (aP (p:=⟨g,2,none⟩) (iI w g 0 1 x y) (.inl rfl) _) (.inl rfl) _) (.inl rfl) _⟩
theorem Blk.three{w:World}{g:Nat}{t:TypeId}{a b c:Value}(h:Blk w g t [a,b,c]):
  w.cell? ⟨g,0,none⟩=some a/\w.cell? ⟨g,1,none⟩=some b/\w.cell? ⟨g,2,none⟩=some c/\w.frozen? ⟨g,0,none⟩=false/\w.frozen? ⟨g,1,none⟩=false/\w.frozen? ⟨g,2,none⟩=false:=
 ⟨h.cell 0,h.cell 1,h.cell 2,h.frozen 0,h.frozen 1,h.frozen 2⟩
theorem Blk.two{w:World}{g:Nat}{t:TypeId}{a b:Value}(h:Blk w g t [a,b]):
  w.cell? ⟨g,0,none⟩=some a/\w.cell? ⟨g,1,none⟩=some b/\w.frozen? ⟨g,0,none⟩=false/\w.frozen? ⟨g,1,none⟩=false:=
 ⟨h.cell 0,h.cell 1,h.frozen 0,h.frozen 1⟩
theorem Blk.five{w:World}{g:Nat}{t:TypeId}{a b c d e:Value}(h:Blk w g t [a,b,c,d,e]):
  w.cell? ⟨g,0,none⟩=some a/\w.cell? ⟨g,1,none⟩=some b/\w.cell? ⟨g,2,none⟩=some c/\w.cell? ⟨g,3,none⟩=some d/\w.cell? ⟨g,4,none⟩=some e/\
  w.frozen? ⟨g,0,none⟩=false/\w.frozen? ⟨g,1,none⟩=false/\w.frozen? ⟨g,2,none⟩=false/\w.frozen? ⟨g,3,none⟩=false/\w.frozen? ⟨g,4,none⟩=false:=
 ⟨h.cell 0,h.cell 1,h.cell 2,h.cell 3,h.cell 4,h.frozen 0,h.frozen 1,h.frozen 2,h.frozen 3,h.frozen 4⟩
end Go.Proofs.YtpfhoemohibniaaGreatDoor
namespace Go.Proofs.YtpfhoemohibniaaGreatDoor
def bH(f:Nat->Int):Nat->Int
 |0=>0
 |n+1=>bH f n+f n
theorem bD{f g:Nat->Int}:∀{n:Nat},(∀i,i<n->f i=g i)->bH f n=bH g n
 |0,_=>rfl
 |n+1,h=>by rw[bH,bH,bD fun i hi=>h i (by omega),h n (by omega)]
theorem iC(f g:Nat->Int):∀n,bH (fun i=>f i+g i) n=bH f n+bH g n
 |0=>rfl
 |n+1=>by rw[bH,bH,bH,iC f g n];omega
theorem eV(c:Int)(f:Nat->Int):∀n,c*bH f n=bH (fun i=>c*f i) n
 |0=>Int.mul_zero c
 |n+1=>by rw[bH,bH,Int.mul_add,eV c f n]
theorem jC{f:Nat->Int}:∀{n:Nat},(∀i,i<n->f i=0)->bH f n=0
 |0,_=>rfl
 |n+1,h=>by rw[bH,jC fun i hi=>h i (by omega),h n (by omega)];rfl
theorem eN{f:Nat->Int}{k:Nat}:∀{n:Nat},k<n->(∀i,i<n->i≠k->f i=0)->bH f n=f k
 |0,h,_=>absurd h (by omega)
 |n+1,h,h0=>by
  rw[bH];by_cases e:k=n
  .subst e;rw[jC fun i hi=>h0 i (by omega) (by omega)];omega
  .rw[eN (k:=k) (by omega) fun i hi=>h0 i (by omega),h0 n (by omega) (fun h=>e h.symm)];omega
theorem sC(f:Nat->Nat->Int)(m:Nat):∀n,bH (fun i=>bH (fun j=>f i j) m) n=bH (fun j=>bH (fun i=>f i j) n) m
 |0=>(jC fun _ _=>rfl).symm
 |n+1=>by rw[bH,sC f m n,<-iC];exact bD fun j _=>rfl
theorem AQ{f:Nat->Int}{n m:Nat}(h:n<=m)(A:∀i,n<=i->i<m->f i=0):bH f m=bH f n:=by
 induction m with
 | zero => obtain rfl : n = 0 := by omega
           rfl
 |succ m ih=>
   by_cases e:n=m+1
   . rw[e]
   . rw[bH,A m (by omega) (by omega),ih (by omega) fun i B C=>A i B (by omega)];omega
theorem pO(f:Nat->Int):∀n,bH f (n+1)=f 0+bH (fun i=>f (i+1)) n
 |0=>by simp[bH]
 |n+1=>by rw[bH,pO f n,bH];omega
structure Lin(L:(Nat->Int)->Nat->Int):Prop where
 add:∀a b,L (fun i=>a i+b i)=fun i=>L a i+L b i
 smul:∀c a,L (fun i=>c*a i)=fun i=>c*L a i
theorem Lin.zero{L:(Nat->Int)->Nat->Int}(h:Lin L):L (fun _=>0)=fun _=>0:=by have:=h.smul 0 (fun _=>0);simpa using this
theorem Lin.sum{L:(Nat->Int)->Nat->Int}(h:Lin L)(f:Nat->Int)(v:Nat->Nat->Int):∀n,L (fun j=>bH (fun i=>f i*v i j) n)=fun j=>bH (fun i=>f i*L (v i) j) n
 |0=>h.zero
 |n+1=>by have e:(fun j=>bH (fun i=>f i*v i j) (n+1))=fun j=>(fun j=>bH (fun i=>f i*v i j) n) j+(fun j=>f n*v n j) j:=rfl;rw[e,h.add,h.sum f v n,h.smul];rfl
theorem Lin.comp{L K:(Nat->Int)->Nat->Int}(h:Lin L)(k:Lin K):Lin fun a=>L (K a):=
 ⟨fun a b=>by rw[k.add,h.add],fun c a=>by rw[k.smul,h.smul]⟩
theorem Lin.id:Lin fun a=>a:=⟨fun _ _=>rfl,fun _ _=>rfl⟩
def Cg(p:Int)(a b:Nat->Int):Prop:=∀j,a j%p=b j%p
theorem Cg.refl(p:Int)(a:Nat->Int):Cg p a a:=fun _=>rfl
theorem Cg.symm{p:Int}{a b:Nat->Int}(h:Cg p a b):Cg p b a:=fun j=>(h j).symm
theorem Cg.trans{p:Int}{a b c:Nat->Int}(h:Cg p a b)(k:Cg p b c):Cg p a c:=fun j=>(h j).trans (k j)
theorem M8{p x y:Int}(h:x%p=y%p):x=y+p*((x-y)/p):=by have A:(x-y)%p=0:=Int.emod_eq_emod_iff_emod_sub_eq_zero.1 h;have B:=Int.emod_add_mul_ediv (x-y) p;omega
theorem Cg.lin{p:Int}{L:(Nat->Int)->Nat->Int}(A:Lin L){a b:Nat->Int}(h:Cg p a b):Cg p (L a) (L b):=by have e:a=fun j=>b j+p*((a j-b j)/p):=funext fun j=>M8 (h j);rw[e,A.add b (fun j=>p*((a j-b j)/p)),A.smul p fun j=>(a j-b j)/p];intro j;exact Int.add_mul_emod_self_left _ _ _
theorem Cg.add{p:Int}{a b c d:Nat->Int}(h:Cg p a b)(k:Cg p c d):Cg p (fun j=>a j+c j) (fun j=>b j+d j):=fun j=>by show(a j+c j)%p=(b j+d j)%p;rw[Int.add_emod,h j,k j,<-Int.add_emod]
theorem Cg.smul{p c d:Int}(e:c%p=d%p){a b:Nat->Int}(h:Cg p a b):Cg p (fun j=>c*a j) (fun j=>d*b j):=fun j=>by show(c*a j)%p=(d*b j)%p;rw[Int.mul_emod,e,h j,<-Int.mul_emod]
theorem Cg.sum{p:Int}{f g:Nat->Int}{v u:Nat->Nat->Int}:∀{n:Nat},(∀i,i<n->f i%p=g i%p)->(∀i,i<n->Cg p (v i) (u i))->Cg p (fun j=>bH (fun i=>f i*v i j) n) (fun j=>bH (fun i=>g i*u i j) n)
 |0,_,_=>Cg.refl _ _
 |n+1,h,k=>(Cg.sum (fun i hi=>h i (by omega)) fun i hi=>k i (by omega)).add (Cg.smul (h n (by omega)) (k n (by omega)))
section
variable (l:Nat->Int) (N:Nat)
def tX(a:Nat->Int):Nat->Int:=fun i=>if i<N then(if i=0 then 0 else a (i-1))-a (N-1)*l i else 0
def tP:Nat->(Nat->Int)->Nat->Int
 |0,a=>a
 |k+1,a=>tX l N (tP k a)
def aZ(f:Nat->Int)(n:Nat)(a:Nat->Int):Nat->Int:=fun j=>bH (fun i=>f i*tP l N i a j) n
def aL(k:Nat):Nat->Int:=fun j=>if j=k then 1 else 0
def eT(a b:Nat->Int):Nat->Int:=aZ l N b N a
def Sup(a:Nat->Int):Prop:=∀j,N<=j->a j=0
theorem tO:Lin (tX l N):=
 ⟨fun a b=>funext fun i=>by
   unfold tX;by_cases h:i<N
   . simp only[if_pos h];by_cases A:i=0
     . simp only[if_pos A,Int.add_mul];omega
     . simp only[if_neg A,Int.add_mul];omega
   . simp only[if_neg h];rfl,
  fun c a=>funext fun i=>by
   unfold tX;by_cases h:i<N
   . simp only[if_pos h];by_cases A:i=0
     . simp only[if_pos A,Int.mul_sub,aY8,Int.mul_zero]
     . simp only[if_neg A,Int.mul_sub,aY8]
   . simp only[if_neg h,Int.mul_zero]⟩
theorem pQ:∀k,Lin (tP l N k)
 |0=>Lin.id
 |k+1=>(tO l N).comp (pQ k)
theorem nO(a:Nat->Int)(j:Nat):∀i,tP l N i (tP l N j a)=tP l N (i+j) a
 |0=>by rw[Nat.zero_add];rfl
 |i+1=>by rw[tP,nO a j i,show i+1+j=(i+j)+1 by omega];rfl
theorem nR(f:Nat->Int)(n:Nat):Lin (aZ l N f n):=
 ⟨fun a b=>funext fun j=>by
   unfold aZ;rw[<-iC];exact bD fun i _=>by rw[(pQ l N i).add];exact Int.mul_add _ _ _,
  fun c a=>funext fun j=>by unfold aZ;rw[eV];exact bD fun i _=>by rw[(pQ l N i).smul];show f i*(c*_)=c*(f i*_);rw[<-aY8,Int.mul_comm (f i) c,aY8]⟩
theorem TM(a:Nat->Int):Sup N (tX l N a):=fun j A=>by unfold tX;rw[if_neg (by omega)]
theorem EV{a:Nat->Int}(h:Sup N a):∀k,Sup N (tP l N k a)
 |0=>h
 |k+1=>TM l N _
theorem yG{a:Nat->Int}(h:Sup N a)(f:Nat->Int)(n:Nat):Sup N (aZ l N f n a):=fun j A=>by unfold aZ;exact jC fun i _=>by rw[EV l N h i j A,Int.mul_zero]
theorem pP(f:Nat->Int)(n k:Nat)(a:Nat->Int):tP l N k (aZ l N f n a)=aZ l N f n (tP l N k a):=by unfold aZ;rw[(pQ l N k).sum f (fun i=>tP l N i a) n];funext j;exact bD fun i _=>by rw[nO,nO,Nat.add_comm]
theorem vN(f g:Nat->Int)(n m:Nat)(a:Nat->Int):aZ l N f n (aZ l N g m a)=aZ l N g m (aZ l N f n a):=by
 funext j;have A:aZ l N f n (aZ l N g m a) j=bH (fun i=>bH (fun k=>f i*(g k*tP l N (i+k) a j)) m) n:=by show bH (fun i=>f i*tP l N i (aZ l N g m a) j) n=_;refine bD fun i _=>?_;rw[pP];show f i*bH (fun k=>g k*tP l N k (tP l N i a) j) m=_;rw[eV];exact bD fun k _=>by rw[nO,Nat.add_comm]
 have B:aZ l N g m (aZ l N f n a) j=bH (fun k=>bH (fun i=>f i*(g k*tP l N (i+k) a j)) n) m:=by show bH (fun k=>g k*tP l N k (aZ l N f n a) j) m=_;refine bD fun k _=>?_;rw[pP];show g k*bH (fun i=>f i*tP l N i (tP l N k a) j) n=_;rw[eV];refine bD fun i _=>?_;rw[nO,<-aY8,Int.mul_comm (g k),aY8]
 rw[A,B,sC]
theorem lO:∀k,k<N->tP l N k (aL 0)=aL k
 |0,_=>rfl
 |k+1,h=>by
  rw[tP,lO k (by omega)];funext i;unfold tX aL;by_cases hi:i<N
  .rw[if_pos hi,if_neg (show ¬N-1=k by omega)];by_cases A:i=0
   .rw[if_pos A,if_neg (by omega)];omega
   .rw[if_neg A];by_cases e:i=k+1
    .rw[if_pos (by omega),if_pos e];omega
    .rw[if_neg (by omega),if_neg e];omega
  .rw[if_neg hi,if_neg (by omega)]
theorem rC{k:Nat}(h:k<N):Sup N (aL k):=fun j A=>by unfold aL;rw[if_neg (by omega)]
theorem lP{a:Nat->Int}(h:Sup N a):aZ l N a N (aL 0)=a:=by
 funext j;unfold aZ;by_cases A:j<N
 .rw[eN (k:=j) A fun i hi B=>by rw[lO l N i hi];unfold aL;rw[if_neg (fun e=>B e.symm)];exact Int.mul_zero _];rw[lO l N j A];unfold aL;rw[if_pos rfl,Int.mul_one]
 .rw[h j (by omega)];exact jC fun i hi=>by rw[lO l N i hi];unfold aL;rw[if_neg (by omega)];exact Int.mul_zero _
theorem gL{a b:Nat->Int}(C:Sup N a)(hb:Sup N b):eT l N a b=eT l N b a:=by
 have A:eT l N a b=aZ l N b N (aZ l N a N (aL 0)):=by unfold eT;rw[lP l N C]
 have B:eT l N b a=aZ l N a N (aZ l N b N (aL 0)):=by unfold eT;rw[lP l N hb]
 rw[A,B,vN]
theorem zU{a:Nat->Int}(A:Sup N a)(b:Nat->Int):Sup N (eT l N a b):=yG l N A b N
theorem zT{a b c:Nat->Int}(A:Sup N a)(hb:Sup N b)(B:Sup N c):eT l N (eT l N a b) c=eT l N a (eT l N b c):=by rw[gL l N A (zU l N hb c)];show aZ l N c N (aZ l N b N a)=aZ l N a N (aZ l N c N b);rw[vN l N a c];congr 1;exact gL l N A hb
theorem R0(a b c:Nat->Int):eT l N a (fun i=>b i+c i)=fun i=>eT l N a b i+eT l N a c i:=by funext j;show bH (fun i=>(b i+c i)*_) N=bH (fun i=>b i*_) N+bH (fun i=>c i*_) N;rw[<-iC];exact bD fun i _=>Int.add_mul _ _ _
theorem GN{a:Nat->Int}(A:0<N):eT l N a (aL 0)=a:=by funext j;show bH (fun i=>aL 0 i*tP l N i a j) N=a j;rw[eN (k:=0) A fun i _ B=>by unfold aL;rw[if_neg B,Int.zero_mul]];unfold aL;rw[if_pos rfl,Int.one_mul];rfl
theorem uW{p:Int}{a b c d:Nat->Int}(h:Cg p a b)(k:∀j,c j%p=d j%p):Cg p (eT l N a c) (eT l N b d):=fun j=>by refine(Cg.sum (v:=fun i=>tP l N i a) (u:=fun i=>tP l N i b) (fun i _=>k i) (fun i _=>h.lin (pQ l N i))) j
theorem KH(B:0<N):tP l N N (aL 0)=fun j=>if j<N then-l j else 0:=by
 obtain⟨n,rfl⟩:∃n,N=n+1:=⟨N-1,by omega⟩
 show tX l (n+1) (tP l (n+1) n (aL 0))=_;rw[lO l (n+1) n (by omega)];funext i;unfold tX aL;by_cases hi:i<n+1
 .rw[if_pos hi,if_pos hi,if_pos (show n+1-1=n by omega)];by_cases A:i=0
  .rw[if_pos A];omega
  .rw[if_neg A,if_neg (by omega)];omega
 .rw[if_neg hi,if_neg hi]
end
def fn(c:LI):Nat->Int:=fun i=>c.getD i 0
section
variable (l:Nat->Int) (N:Nat)
def iE(c:LI)(n:Nat):Nat->Int:=aZ l N (fn c) n (aL 0)
theorem TT{c:LI}{k:Nat}(B:k<c.length)(x:Int){n:Nat}(C:k<n):iE l N (c.set k x) n=fun j=>iE l N c n j+(x-fn c k)*tP l N k (aL 0) j:=by
 funext j;have e:∀i,fn (c.set k x) i*tP l N i (aL 0) j=fn c i*tP l N i (aL 0) j+(if i=k then(x-fn c k)*tP l N k (aL 0) j else 0):=fun i=>by
  unfold fn;rw[kN];by_cases h:k=i
  .subst h;rw[if_pos ⟨rfl,B⟩,if_pos rfl,Int.sub_mul];omega
  .rw[if_neg (fun A=>h A.1),if_neg (fun A=>h A.symm)];omega
 show bH (fun i=>fn (c.set k x) i*tP l N i (aL 0) j) n=bH (fun i=>fn c i*tP l N i (aL 0) j) n+_;rw[bD fun i _=>e i,iC];congr 1;rw[eN (k:=k) C fun i _ D=>if_neg D,if_pos rfl]
theorem pS{p:Int}{c:LI}{k:Nat}(A:k<c.length)(y:Int){n:Nat}(B:k<n):Cg p (iE l N (c.set k ((fn c k+y)%p)) n) (fun j=>iE l N c n j+y*tP l N k (aL 0) j):=by rw[TT l N A _ B];refine Cg.add (Cg.refl _ _) (Cg.smul ?_ (Cg.refl _ _));rw[Int.emod_sub_emod];congr 1;omega
theorem wQ{p:Int}(a b:LI){i:Nat}{n:Nat}:∀J (c:LI),i+J<=c.length->i+J<=n->Cg p (iE l N (iG p a b i J c) n) (fun j=>iE l N c n j+fn a i*aZ l N (fn b) J (tP l N i (aL 0)) j)
 |0,c,_,_=>fun j=>by show _=(iE l N c n j+fn a i*0)%p;rw[Int.mul_zero,Int.add_zero];rfl
 |J+1,c,h1,h2=>by
  have A:=wQ (p:=p) (i:=i) (n:=n) a b J c (by omega) (by omega);rw[iG,qG];refine(pS l N (k:=i+J) (by rw[mS];omega) _ (by omega)).trans ?_;refine(A.add (Cg.refl p _)).trans fun j=>?_;dsimp only;congr 1;have e:aZ l N (fn b) (J+1) (tP l N i (aL 0)) j=aZ l N (fn b) J (tP l N i (aL 0)) j+fn b J*tP l N (i+J) (aL 0) j:=by show _+fn b J*tP l N J (tP l N i (aL 0)) j=_;rw[nO,Nat.add_comm J i];rfl
  rw[e,Int.mul_add,<-aY8];show _+fn a i*fn b J*_=_;omega
theorem FJ{p:Int}(a b:LI){M:Nat}(A:0<M):∀I,I<=M->Cg p (iE l N (conv p a b M I) (2*M-1)) (aZ l N (fn a) I (aZ l N (fn b) M (aL 0)))
 |0,_=>fun j=>by
  have e:iE l N (conv p a b M 0) (2*M-1) j=0:=jC fun i _=>by
   have:fn (conv p a b M 0) i=0:=by show(List.replicate (2*M-1) (0:Int)).getD i 0=0;by_cases h:i<2*M-1<;>simp[List.getD,h]
   rw[this,Int.zero_mul]
  rw[e];rfl
 |I+1,h=>by have B:=FJ (p:=p) a b A I (by omega);rw[conv];refine(wQ l N a b M _ (by rw[kI];omega) (by omega)).trans ?_;refine(B.add (Cg.refl p _)).trans fun j=>?_;dsimp only;congr 1;show _=aZ l N (fn a) I (aZ l N (fn b) M (aL 0)) j+fn a I*tP l N I (aZ l N (fn b) M (aL 0)) j;rw[pP]
end
section
variable {p:Int} {low:LI} {N:Nat}
theorem AI{i n:Nat}(hi:N<=i)(hn:n<=i):∀J (c:LI),J<=N->i<c.length->i-N+J<=n->
  Cg p (iE (fn low) N (iQ p low N i J c) n) (fun j=>iE (fn low) N c n j+(-fn c i)*aZ (fn low) N (fn low) J (tP (fn low) N (i-N) (aL 0)) j)
 |0,c,_,_,_=>fun j=>by show _=(iE (fn low) N c n j+(-fn c i)*0)%p;rw[Int.mul_zero,Int.add_zero];rfl
 |J+1,c,hJ,hl,hb=>by
  have B:=AI hi hn J c (by omega) hl (by omega);rw[iQ,rY];refine(pS (fn low) N (k:=i-N+J) (by rw[pK];omega) _ (by omega)).trans ?_;refine(B.add (Cg.refl p _)).trans fun j=>?_;dsimp only;rw[AH p low hi J c (by omega)];have e:aZ (fn low) N (fn low) (J+1) (tP (fn low) N (i-N) (aL 0)) j=aZ (fn low) N (fn low) J (tP (fn low) N (i-N) (aL 0)) j+fn low J*tP (fn low) N (i-N+J) (aL 0) j:=by show _+fn low J*tP (fn low) N J (tP (fn low) N (i-N) (aL 0)) j=_;rw[nO,Nat.add_comm J];rfl
  rw[e,Int.mul_add];generalize aZ (fn low) N (fn low) J (tP (fn low) N (i-N) (aL 0)) j=A;show(_+(p-fn c i)*fn low J*_)%p=_;generalize tP (fn low) N (i-N+J) (aL 0) j=t;rw[Int.sub_mul,Int.sub_mul,aY8 p,Int.neg_mul,Int.neg_mul,aY8 (fn c i)];generalize iE (fn low) N c n j=V;generalize fn c i*A=X;generalize fn c i*(fn low J*t)=Y;rw[show V+ -X+(p*(fn low J*t)-Y)=(V+(-X+ -Y))+p*(fn low J*t) by omega];exact Int.add_mul_emod_self_left _ _ _
theorem J5{i:Nat}(D:0<N)(hi:N<=i){c:LI}(E:i<c.length)(A:Sup N (fn low)):Cg p (iE (fn low) N (iQ p low N i N c) i) (iE (fn low) N c (i+1)):=by
 refine(AI (n:=i) hi zr N c zr E (by omega)).trans fun j=>?_;dsimp only;congr 1;show _=iE (fn low) N c i j+fn c i*tP (fn low) N i (aL 0) j;congr 1;have B:aZ (fn low) N (fn low) N (tP (fn low) N (i-N) (aL 0))=tP (fn low) N (i-N) (fn low):=by rw[<-pP,lP _ _ A]
 have C:tP (fn low) N i (aL 0)=fun j=>(-1)*tP (fn low) N (i-N) (fn low) j:=by
  rw[show tP (fn low) N i (aL 0)=tP (fn low) N (i-N) (tP (fn low) N N (aL 0)) by rw[nO];congr 1;omega,KH _ _ D,<-(pQ (fn low) N (i-N)).smul];congr 1;funext j;by_cases h:j<N
  .rw[if_pos h];omega
  .rw[if_neg h,A j (by omega)];rfl
 rw[B,C];dsimp only;rw[Int.neg_mul,Int.neg_mul,Int.one_mul,Int.mul_neg]
theorem C9(A:0<N)(B:Sup N (fn low)){c:LI}(C:c.length=2*N-1):∀t,t<=N-1->Cg p (iE (fn low) N (jL p low N c t) (2*N-1-t)) (iE (fn low) N c (2*N-1))
 |0,_=>Cg.refl _ _
 |t+1,ht=>by have D:=C9 A B C t (by omega);rw[jL,show 2*N-1-(t+1)=2*N-2-t by omega];refine(J5 A (by omega) (by rw[jZ];omega) B).trans ?_;rw[show 2*N-2-t+1=2*N-1-t by omega];exact D
theorem CT(E:2<=p)(D:0<N)(K:Sup N (fn low)){a b:LI}(J:Sup N (fn a))(hb:Sup N (fn b)){j:Nat}(B:j<N):(mY p low a b N).getD j 0=eT (fn low) N (fn a) (fn b) j%p:=by
 have C:=C9 (p:=p) D K (kI p a b N N) (N-1) zr;have G:=FJ (fn low) N (p:=p) a b D N zr;rw[show 2*N-1-(N-1)=N by omega] at C;have H:=C.trans G;have F:=oN E low N _ (qH E a b N N) (N-1);have e:fn (mY p low a b N) j=fn (jL p low N (conv p a b N N) (N-1)) j:=by unfold fn mY;simp[List.getD,List.getElem?_take,B]
 have A:=H j;rw[lP _ _ hb,show aZ (fn low) N (fn a) N (fn b)=eT (fn low) N (fn b) (fn a) from rfl,gL _ _ hb J] at A;have I:iE (fn low) N (jL p low N (conv p a b N N) (N-1)) N j=fn (jL p low N (conv p a b N N) (N-1)) j:=by show aZ _ _ _ _ _ j=_;unfold aZ;rw[eN (k:=j) B fun i hi L=>by rw[lO _ N i hi];unfold aL;rw[if_neg (fun e=>L e.symm)];exact Int.mul_zero _];rw[lO _ N j B];unfold aL;rw[if_pos rfl,Int.mul_one]
 rw[I] at A;show fn _ j=_;rw[e,<-A];exact(Int.emod_eq_of_lt (F j).1 (F j).2).symm
theorem GK(I:0<N){a:LI}(E:Sup N (fn a)):∀b:LI,Cg p (fn (fK p low a N b)) (aZ (fn low) N (fn b) b.length (fn a))
 |[]=>fun j=>by
   have:fn (fK p low a N []) j=0:=by show(List.replicate N (0:Int)).getD j 0=0;by_cases h:j<N<;>simp[List.getD,h]
   rw[this];rfl
 |x::b=>by
   have L:=GK I E b;have K:=L.lin (tO (fn low) N);intro j;have e:aZ (fn low) N (fn (x::b)) (x::b).length (fn a) j=tX (fn low) N (aZ (fn low) N (fn b) b.length (fn a)) j+x*fn a j:=by
     show bH (fun i=>fn (x::b) i*tP (fn low) N i (fn a) j) (b.length+1)=_;rw[pO];have G:fn (x::b) 0*tP (fn low) N 0 (fn a) j=x*fn a j:=rfl;have H:tX (fn low) N (aZ (fn low) N (fn b) b.length (fn a)) j=bH (fun i=>fn (x::b) (i+1)*tP (fn low) N (i+1) (fn a) j) b.length:=by unfold aZ;rw[(tO (fn low) N).sum (fn b) (fun i=>tP (fn low) N i (fn a)) b.length];exact bD fun i _=>rfl
     rw[G,H];omega
   rw[e];by_cases F:j<N
   . have D:fn (fK p low a N (x::b)) j=kT p low a (fK p low a N b) N x j:=by
       show(kD p low a (fK p low a N b) N x).getD j 0=_;simp[kD,List.getD,F]
     have J:=K j;rw[D];unfold kT;rw[Int.emod_emod_of_dvd _ (Int.dvd_refl p)];show _=(_+x*fn a j)%p;rw[Int.add_emod (tX (fn low) N (aZ (fn low) N (fn b) b.length (fn a)) j),<-J,<-Int.add_emod];unfold tX;rw[if_pos F];show((if j=0 then 0 else fn (fK p low a N b) (j-1))+(p-fn (fK p low a N b) (N-1))*fn low j+x*fn a j)%p=_;rw[Int.sub_mul];generalize (if j=0 then(0:Int) else fn (fK p low a N b) (j-1))=A;generalize fn (fK p low a N b) (N-1)*fn low j=B;generalize x*fn a j=C;rw[show A+(p*fn low j-B)+C=(A-B+C)+p*fn low j by omega];exact Int.add_mul_emod_self_left _ _ _
   . have D:fn (fK p low a N (x::b)) j=0:=aW (by rw[oG];omega);rw[D,show tX (fn low) N (aZ (fn low) N (fn b) b.length (fn a)) j=0 from TM _ _ _ j (by omega),E j (by omega),Int.mul_zero];rfl
end
end Go.Proofs.YtpfhoemohibniaaGreatDoor
