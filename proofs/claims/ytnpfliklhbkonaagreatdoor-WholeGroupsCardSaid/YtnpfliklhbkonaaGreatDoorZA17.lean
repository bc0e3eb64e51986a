/- Parts. -/
import Derived.Test.YtnpfliklhbkonaaGreatDoorZA14
import Derived.Test.YtnpfliklhbkonaaGreatDoorZA16
import Derived.Lib.Builder
import Derived.Lib.AppendStr
import Derived.Lib.Strings
set_option maxRecDepth 99999
set_option maxHeartbeats 0
set_option linter.unusedVariables false
namespace Go.Proofs.YtnpfliklhbkonaaGreatDoor
open Go.Proofs.Tryz
section
def fC(gen:LL)(S:List Nat):LL:=
 (List.range gen).map fun i=>aT (gen.length+gen.length) fun j=>if j<gen then ent gen i (S j 0) else if j=gen.length+i then 1 else 0
theorem fD(gen:LL)(S:List Nat):(fC gen S).length=gen.length:=by simp[fC]
theorem rF{gen:LL}{S:List Nat}{i j:Nat}(hi:i<gen)(A:j<gen.length+gen.length):
 ent (fC gen S) i j=if j<gen then ent gen i (S j 0) else if j=gen.length+i then 1 else 0:=by
 unfold ent;rw[show(fC gen S).getD i []=aT (gen.length+gen.length) fun j=>if j<gen then ent gen i (S j 0) else if j=gen.length+i then 1 else 0 by simp[fC,List.getD,hi],aK A];rfl
section
variable {O:aQ} {q:Int} (hO:O.Fld q) {n:Nat} {gen:LL} {p:LI}
include hO
theorem qC(hq:jS q gen)(S:List Nat):Rows q (gen.length+gen.length) (fC gen S):=fun i hi=>by
 have B:(1:Int)<q:=hO.lt.pos;rw[fD] at hi;rw[show(fC gen S).getD i []=aT (gen.length+gen.length) fun j=>if j<gen then ent gen i (S j 0) else if j=gen.length+i then 1 else 0 by simp[fC,List.getD,hi]];refine⟨aW _ _,fun j=>?_⟩;by_cases A:j<gen.length+gen.length
 .rw[aK A];split
  .exact hq _ _
  .split<;>omega
 .have e : (aT (gen.length + gen.length) fun j => if j < gen.length then ent gen i (S j 0) else if j = gen.length + i then (1 : Int) else 0).getD j 0 = 0 := by
   rw[aZ4,aY4 (by rw[aW];omega)];rfl
  rw[e];omega
theorem VK {S : List Nat} {b : Nat -> Int} (A : ∀ i, 0 <= b i /\ b i < q) {y : Nat -> Int} (C : ∀ j, y j = aX O (fun i => O.mul (b i) (ent (fC gen S) i j)) (fC gen S).length) {l : Nat} (B : l < gen.length) :
 y (gen.length+l)=b l:=by
 rw[C,fD,cO hO (k:=l) (hO.lt.mul _ _) B fun i hi D=>by rw[rF hi om,iN om,iN om,hO.mul_zero],rF B om,iN om,iP rfl,hO.mul_one _ (A l).1 (A l).2]
omit hO in
theorem VM {S : List Nat} {b : Nat -> Int} {y : Nat -> Int} (B : ∀ j, y j = aX O (fun i => O.mul (b i) (ent (fC gen S) i j)) (fC gen S).length) {j : Nat} (A : j < gen.length) :
 y j=aX O (fun i=>O.mul (b i) (ent gen i (S j 0))) gen.length:=by
 rw[B,fD];exact aO fun i hi=>by rw[rF hi om,iP A]
theorem MD (hA : gT O q n gen p) {S : List Nat} (D : ∀ i, i < n -> aZ O (dY gen S) fun t => (iL gen i).getD t 0) {a : Nat -> Int} (E : ∀ i, 0 <= a i /\ a i < q)
 (I:∀s,s∈S->aX O (fun i=>O.mul (a i) (ent gen i s)) gen.length=0):∀i,i<gen.length->a i=0:=by
 refine rZ hO hA a E fun j=>?_;by_cases G:j<n
 .obtain ⟨c, F⟩ := D j G;have H : ∀ t, t < gen.length -> O.mul (a t) (ent gen t j) = aX O (fun s => O.mul (c s) (O.mul (a t) (ent (dY gen S) s t))) (dY gen S).length := fun t B => by
   have h:=F t;dsimp only at h;rw[xF B] at h;rw[h,eY hO];refine aO fun s _=>?_;rw[<-hO.mul_assoc,hO.mul_comm (a t),hO.mul_assoc]
  rw[aO H,mE hO (fun t s=>O.mul (c s) (O.mul (a t) (ent (dY gen S) s t)))];refine bR hO fun s A=>?_;rw[lS] at A;have C:aX O (fun t=>O.mul (c s) (O.mul (a t) (ent (dY gen S) s t))) gen.length=O.mul (c s) (aX O (fun t=>O.mul (a t) (ent gen t S[s])) gen):=by rw[eY hO];refine aO fun t B=>?_;rw[show ent (dY gen S) s t=ent gen t S[s] by unfold ent;rw[qD A];exact xF B]
  rw[C,I _ (aY6 A),hO.mul_zero]
 .exact bR hO fun i _=>by rw[tJ hA.rows om,hO.mul_zero]
theorem JA (hA : gT O q n gen p) {S : List Nat} (X : S.length = gen.length) (J : ∀ i, i < n -> aZ O (dY gen S) fun t => (iL gen i).getD t 0) :
 (aJ O (fC gen S) gen).2.length=gen.length:=by
 have hq:0<q:=by have:=hO.lt.pos;omega
 have hR:=qC hO (hA.rows.r hq) S;obtain⟨E,F⟩:=xM hO hR gen;have C:(aJ O (fC gen S) gen).1.length=gen.length:=(gK O _ _).trans (fD _ _);have H:=E.len;rw[C] at H;refine aY0 fun Z=>?_
 --the row behind the X6 is 0
 let r:=(aJ O (fC gen S) gen).2.length
 have U:r<gen:=by have:r=(aJ O (fC gen S) gen).2.length:=rfl;omega
 obtain⟨b,M,G⟩:=uC hO (hR.r hq) (F.1 r (by rw[C];exact U));have N:∀i,i<gen.length->b i=0:=MD hO hA J M fun s V=>by obtain⟨j,R,rfl⟩:=List.getElem_of_mem V;have A:=VM G (j:=j) om;rw[E.rest r zr j om] at A;rw[show S j 0=S[j] by simp[List.getD,R]] at A;exact A.symm
 have W:∀j,ent (aJ O (fC gen S) gen).1 r j=0:=fun j=>by rw[G j,fD];exact bR hO fun i hi=>by rw[N i hi,hO.zero_mul]
 --the rows beside the unit matrix are independent
 have hI:wV O q (ent (fC gen S)) gen.length:=fun c P Q i hi=>by have A:=VK hO (S:=S) P (y:=fun j=>aX O (fun i=>O.mul (c i) (ent (fC gen S) i j)) (fC gen S).length) (fun j=>rfl) hi;rw[<-A,fD];exact Q _
 obtain⟨m,T⟩:∃m,gen.length=m+1:=⟨gen.length-1,om⟩
 have B:∀i,∃a:Nat->Int,(∀l,0<=a l/\a l<q)/\(i<gen.length->∀j,ent (fC gen S) i j=aX O (fun l=>O.mul (a l) (ent (aJ O (fC gen S) gen).1 l j)) gen):=fun i=>by
  by_cases hi:i<gen
  .have I:jS q (aJ O (fC gen S) gen).1:=(Rows.elim hO.lt hR gen).r hq;obtain⟨a,K,L⟩:=uC hO I (F.2 i (by rw[fD];exact hi));exact⟨a,K,fun _ j=>by rw[L j,C]⟩
  .exact⟨fun _=>0,fun _=>⟨Int.le_refl _,hq⟩,fun h=>aB h hi⟩
 have Y:=tO hO m gen (ent (fC gen S)) (fun l=>ent (aJ O (fC gen S) gen).1 (if l<r then l else l+1)) (fun i l=>(B i).choose (if l<r then l else l+1))
  (fun i l=>(B i).choose_spec.1 _) (fun i j hi=>by rw[(B i).choose_spec.2 hi j];have A:=wS hO (fun l=>O.mul ((B i).choose l) (ent (aJ O (fC gen S) gen).1 l j)) (fun l=>hO.lt.mul _ _) (m:=m) (k:=r) om;rw[<-T] at A;rw[A,W j,hO.mul_zero];have D:=dS hO (fun l=>O.mul ((B i).choose (if l<r then l else l+1)) (ent (aJ O (fC gen S) gen).1 (if l<r then l else l+1) j)) m;rw[hO.add_zero _ D.1 D.2]) hI
 omega
theorem az (hA : gT O q n gen p) {S : List Nat} (A : S.length = gen.length) (T : ∀ i, i < n -> aZ O (dY gen S) fun t => (iL gen i).getD t 0) {G : LL} (hGl : G.length = gen.length)
 (Q:∀l,l<gen.length->∀j,ent G l j=aX O (fun m=>O.mul (ent (aJ O (fC gen S) gen).1 l (gen.length+m)) (ent gen m j)) gen):ED O n gen S G:=by
 have hq:0<q:=by have:=hO.lt.pos;omega
 have hR:=qC hO (hA.rows.r hq) S;obtain⟨B,U⟩:=xM hO hR gen;have C:=JA hO hA A T;have P:(aJ O (fC gen S) gen).1.length=gen.length:=(gK O _ _).trans (fD _ _);have N:jS q (aJ O (fC gen S) gen).1:=(Rows.elim hO.lt hR gen).r hq
 --the X6 are all columns on the left
 have W:∀i,i<gen.length->i<=pvt (aJ O (fC gen S) gen).2 i:=fun i=>by
  induction i with
  |zero=>exact fun _=>aZ5 _
  |succ i ih=>intro hi;have:=ih om;have:=B.inc i (i+1) om (by rw[C];exact hi);omega
 have X:∀t i,i+t+1=gen.length->pvt (aJ O (fC gen S) gen).2 i<=i:=fun t=>by
  induction t with
  |zero=>intro i hi;have:=B.lt i (by rw[C];omega);omega
  |succ t ih=>intro i hi;have:=ih (i+1) om;have:=B.inc i (i+1) om (by rw[C];omega);omega
 have J:∀i,i<gen.length->pvt (aJ O (fC gen S) gen).2 i=i:=fun i hi=>Nat.le_antisymm (X (gen.length-1-i) i om) (W i hi);have Z:∀i,i<gen.length->ent (aJ O (fC gen S) gen).1 i i=1:=fun i hi=>by have h:=B.one i (by rw[C];exact hi);rwa[J i hi] at h
 have Y:∀i,i<gen.length->∀k,k≠i->ent (aJ O (fC gen S) gen).1 k i=0:=fun i hi k hk=>by have h:=B.off i (by rw[C];exact hi) k hk;rwa[J i hi] at h
 --the product of the columns and the inverse
 have R:∀i,i<gen.length->∀m,m<gen.length->aX O (fun l=>O.mul (ent gen i (S l 0)) (ent (aJ O (fC gen S) gen).1 l (gen.length+m))) gen=if m=i then 1 else 0:=fun i hi m I=>by
  obtain⟨c,H,D⟩:=uC hO N (U.2 i (by rw[fD];exact hi));rw[P] at D;have V:∀l,l<gen.length->c l=ent gen i (S l 0):=fun l A=>by have h:=D l;rw[rF hi om,iP A,cO hO (k:=l) (hO.lt.mul _ _) A fun t _ E=>by rw[Y l A t E,hO.mul_zero],Z l A,hO.mul_one _ (H l).1 (H l).2] at h;exact h.symm
  have h:=D (gen.length+m);rw[rF hi om,iN om] at h;refine Eq.trans (aO fun l A=>?_) (Eq.trans h.symm ?_)
  .rw[V l A]
  by_cases e:m=i
  .rw[iP e,iP om]
  .rw[iN e,iN om]
 refine⟨hGl,A,fun x b j=>?_⟩;obtain⟨a,d,F⟩:=uC hO (hA.rows.r hq) b;rw[hGl];have K:∀l,l<gen.length->O.mul (x (S l 0)) (ent G l j)=aX O (fun i=>O.mul (a i) (O.mul (ent gen i (S l 0)) (ent G l j))) gen.length:=fun l _=>by rw[F (S l 0),uU hO];exact aO fun i _=>hO.mul_assoc _ _ _
 rw[aO K,mE hO (fun l i=>O.mul (a i) (O.mul (ent gen i (S l 0)) (ent G l j))),F j];refine aO fun i hi=>?_;rw[<-eY hO];congr 1;have L:∀l,l<gen.length->O.mul (ent gen i (S l 0)) (ent G l j)=aX O (fun m=>O.mul (O.mul (ent gen i (S l 0)) (ent (aJ O (fC gen S) gen).1 l (gen.length+m))) (ent gen m j)) gen.length:=fun l A=>by rw[Q l A j,eY hO];exact aO fun m _=>(hO.mul_assoc _ _ _).symm
 rw[aO L,mE hO (fun l m=>O.mul (O.mul (ent gen i (S l 0)) (ent (aJ O (fC gen S) gen).1 l (gen.length+m))) (ent gen m j))];have M:∀m,m<gen.length->aX O (fun l=>O.mul (O.mul (ent gen i (S l 0)) (ent (aJ O (fC gen S) gen).1 l (gen.length+m))) (ent gen m j)) gen=if m=i then ent gen m j else 0:=fun m I=>by
  rw[<-uU hO,R i hi m I];by_cases e:m=i
  .rw[iP e,iP e];have h:=hA.rows.r hq m j;exact hO.one_mul h.1 h.2
  .rw[iN e,iN e,hO.zero_mul]
 rw[aO M,cO hO (k:=i) (by rw[iP rfl];exact hA.rows.r hq i j) hi fun m _ E=>iN E,iP rfl]
end
end
section
open Go.RowKit
theorem infoBld:(prog.info? 197).map (fun i=>(i.zero,i.size,i.bytes))=some (some (.agg #[.pointer none,()]),2,32):=by kernel_rfl
theorem infoByte:(prog.info? 5).map (fun i=>(i.zero,i.size,i.bytes))=some (some (.int .u8 0),1,1):=by kernel_rfl
theorem liesBld:liesAt prog prog.depth 197 (2/prog.cellsOf 197) 0 197 1=true:=by kernel_rfl
def BL(B b n:Nat)(w:Wo):Prop:=∃bs:List Va,bs=n/\Lib.IsBuilder 197 5 B b bs w
structure iQ(b:Nat)(w w':Wo):Prop where
 os:w'.os=w.os
 tape:w'.tape=w.tape
 output:w'.output=w.output
 size:w.heap.size<=w'.heap.size
 keep:∀k,k<w.heap.size->k≠b->(∀cs fr,w.heap[k]?≠some (.cells cs 5 fr))->w'.heap[k]?=w.heap[k]?
theorem iQ.refl(b:Nat)(w:Wo):iQ b w w:=⟨rfl,rfl,rfl,zr,fun _ _ _ _=>rfl⟩
theorem iQ.trans{b:Nat}{w w1 w2:Wo}(h:iQ b w w1)(k:iQ b w1 w2):iQ b w w2:=
 ⟨k.os.trans h.os,k.tape.trans h.tape,k.output.trans h.output,aZ6 h.size k.size,fun i hi A B=>by have e:=h.keep i hi A B;rw[k.keep i (aY1 hi h.size) A (by rw[e];exact B),e]⟩
theorem iQ.of_below{b:Nat}{w w':Wo}(h:Below w w w'):iQ b w w':=⟨h.os,h.tape,h.output,h.size,fun k hk _ _=>h.block k hk⟩
theorem iQ.of_gr{b:Nat}{w w':Wo}(h:w.grownBy w' (some b)):iQ b w w':=⟨h.os,h.tape,h.output,h.size,fun k hk A _=>h.block k hk fun e=>A (aZ0 e)⟩
theorem iQ.of_row{B b n:Nat}{v:Va}{bs:List Va}{w w':Wo}(D:w.ownsRow B 5 1 v n bs)(h:w.grownBy w' v.ownBlock):iQ b w w':=⟨h.os,h.tape,h.output,h.size,fun k hk _ A=>h.block k hk fun e=>by
 rcases D.2 with⟨rfl,_⟩|⟨g,E,F,rfl,_,C,_⟩
 .simp[Value.ownBlock] at e
 .simp[Value.ownBlock] at e;subst e;exact A _ _ C⟩
theorem iQ.blk{b g:Nat}{t:TypeId}{cs:List Va}{w w':Wo}(h:iQ b w w')(A:Blk w g t cs)(B:g≠b)(C:t≠5):Blk w' g t cs:=
 (h.keep g A.lt B fun D fr e=>by unfold Blk at A;rw[A] at e;simp at e;exact C e.2.1).trans A
theorem BL.on{B b n:Nat}{w w':Wo}(h:BL B b n w)(A:Below w w w'):BL B b n w':=by
 obtain⟨bs,hn,h⟩:=h;have C:∀p,Lib.BuilderAt 197 5 B b p bs w->Lib.BuilderAt 197 5 B b p bs w':=fun p h=>by have E:=h.lt;obtain⟨hB,v,D,G,F⟩:=h;exact⟨hB,v,(A.block b E).trans D,World.ownsRow.kept G (aP A none) (by cases v.ownBlock<;>simp),F⟩
 exact⟨bs,hn,h.elim (fun h=>.inl (C _ h)) (fun h=>.inr (C _ h))⟩
theorem BL.lt{B b n:Nat}{w:Wo}(h:BL B b n w):B<=b/\b<w.heap.size:=by obtain⟨bs,hn,h⟩:=h;rcases h with h|h<;>exact⟨h.1,h.lt⟩
theorem I9(b:Nat)(w:Wo)(B:w.cell? b=some (.pointer b)):
 Calls prog 281 #[.pointer b] w fun e w'=>e=.returned (.tuple #[])/\w'=w:=by
 obtain⟨G,hi,D,E,F⟩:=info_parts infoBld;have C:=fun A=>Lib.run_neq_ptr_same (P:=prog) A (tp:=194) (b:aA) underlying194 hi;go_enter func281,ntmps281
 go_wp2
 go_end0
 exact⟨rfl,rfl⟩
theorem GP(b:Nat)(w:Wo)(C:w.cell? b=some (.pointer none))(A:w.shape? b=some (197,2))(G:w.frozen? b=false):
 Calls prog 281 #[.pointer b] w fun e w'=>e=.returned (.tuple #[])/\w'=w.setCell b (.pointer b):=by
 obtain⟨J,hi,H,B,I⟩:=info_parts infoBld;have D:=Lib.run_to_unsafe (P:=prog) w (src:=194) (dst:=374) (b:aA) underlying194 underlying374 hi (by rw[B];decide) A (Nat.zero_lt_succ 1);have E:(callFunc 358 #[.pointer b]).run prog w=.ok (.value (.pointer b)) w:=by rw[run_callFunc_extern func358 kr kr kr (e:=Extern.AbiNoEscape.same) kr,Lib.run_noEscape];rfl
 have F:=Lib.run_from_unsafe (P:=prog) w (src:=374) (dst:=194) (b:aA) underlying374 underlying194 hi A liesBld;go_enter func281,ntmps281
 go_wp2
 go_end0
 exact⟨rfl,rfl⟩
theorem BY(B b:Nat)(bs:List Va)(w:Wo)(h:Lib.IsBuilder 197 5 B b bs w):
 Calls prog 281 #[.pointer b] w fun e w'=>e=.returned (.tuple #[])/\(Lib.BuilderAt 197 5 B b (.pointer b) bs w'/\Below B w w'/\iQ b w w'):=by
 rcases h with h|h
 .apply(GP b w h.cell0 h.shape h.frozen0).mono;rintro e w'⟨rfl,rfl⟩;exact⟨rfl,h.used _,(Below.refl B w).setCell (p:=(b:aA)) h.1 _,.of_gr (aU w b 0 _)⟩
 .apply(I9 b w h.cell0).mono;rintro e w'⟨rfl,rfl⟩;exact⟨rfl,h,Below.refl B _,.refl b _⟩
theorem BZ(B b n:Nat)(w:Wo)(h:BL B b n w):Calls prog 119 #[.pointer b] w fun e w'=>e=.returned (n:aV)/\w=w':=by
 obtain⟨bs,hn,h⟩:=h;obtain⟨p,hB,v,E,F,I⟩:∃p,Lib.BuilderAt 197 5 B b p bs w:=by
  rcases h with h|h
  .exact⟨_,h⟩
  .exact⟨_,h⟩
 obtain⟨C,A,rfl⟩:∃C A,v=.slice C bs A:=by
  rcases F.2 with⟨D,H⟩|⟨g,A,J,D,_⟩
  .exact⟨none,0,by rw[D,H]⟩
  .exact⟨_,_,D⟩
 have G:w.cell? (b 1 none)=some (.slice C bs A):=by rw[Lib.cell_of_heap E];rfl
 rw[hn] at G;clear E F I h hn;go_enter func119,ntmps119;go_wp2;go_ret;exact⟨rfl,rfl⟩
theorem QC(B b n:Nat)(c:Int)(w:Wo)(h:BL B b n w)(d:n+1<=100000000)(a:B<=w):
 Calls prog 167 #[.pointer b,.int .u8 c] w fun e w'=>e=.returned .nilIface/\BL B b (n+1) w'/\Below B w w'/\iQ b w w':=by
 obtain⟨R,hi,O,P,Q⟩:=info_parts infoByte;obtain⟨bs,rfl,h⟩:=h;go_enter func167,ntmps167;go_wp2_with fail;apply(BY B b bs _ h).mono;rintro e w1⟨rfl,J,C,M⟩;obtain⟨hB,v,E,H,L⟩:=J;have S:w1.cell? b=some (.pointer b):=by rw[Lib.cell_of_heap E];rfl
 have U:w1.cell? (b 1 none)=some v:=by rw[Lib.cell_of_heap E];rfl
 have K:b<w1.heap.size:=by
  rcases Nat.lt_or_ge b w1 with F|F
  .exact F
  .simp[Array.getElem?_eq_none F] at E
 go_wp2_with (
  at_builtin;refine wpList_append_own _ rfl _ _ 195 rfl B 5 R (.int .u8 0) 1 1 underlying195 hi O P Q rfl dC _ _ _ rfl (H.alloc _) (w1.heap.size:aA) 1 1 [.int .u8 c] rfl rfl (cell_one_new _ _ _) (ints_oneCell .u8 [c]) (by unfold maxLen;omega) om (by have:=C.size;simp;omega) ?_;intro v' w2 I G _;have D:w2.heap[b]?=some (.cells #[.pointer b,v] 197 (0,0)):=by rw[G.block b (by simp;omega) (fun e=>L e.symm),Lib.alloc_old w1 _ b K];exact E
  have W:w2.cell? b=some (.pointer b):=by rw[Lib.cell_of_heap D];rfl
  have X:w2.cell? (b 1 none)=some v:=by rw[Lib.cell_of_heap D];rfl
  have Y:w2.frozen? (b 1 none)=false:=Lib.frozen_of_heap D 1;obtain⟨g,A,rfl⟩:∃g A,v'=.slice (some ⟨g,0,none⟩) (bs.length+1) A:=by
   rcases I.2 with⟨_,Z⟩|⟨g,A,V,N,_⟩
   .omega
   .exact⟨g,A,N⟩)
 go_ret;refine⟨rfl,⟨bs++[.int .u8 c],by simp,.inr (Lib.BuilderAt.put (T:=197) (e:=5) hB D (bs':=bs++[.int .u8 c]) (by simpa using I) dC)⟩,?_,((M.trans (.of_below (aH w1 _))).trans (.of_row (H.alloc _) G)).trans (.of_gr (aU w2 b 1 _))⟩;exact((C.alloc (oA C.size) _).grown G (by have:=C.size;simp;omega) (fun k hk=>(H.lt k hk).1)).setCell (p:=(b 1 none)) hB _
theorem B0(B b n:Nat)(s:By)(w:Wo)(h:BL B b n w)(d:n+s.size<=100000000)(c:B<=w):
 Calls prog 165 #[.pointer b,.string s] w fun e w'=>e=.returned (.tuple #[.int .i64 s.size,.nilIface])/\BL B b (n+s.size) w'/\Below B w w'/\iQ b w w':=by
 obtain⟨U,hi,Q,R,S⟩:=info_parts infoByte;obtain⟨bs,rfl,h⟩:=h;go_enter func165,ntmps165;go_wp2_with fail;apply(BY B b bs _ h).mono;rintro e w1⟨rfl,M,F,P⟩;obtain⟨hB,v,C,H,O⟩:=M;have V:w1.cell? b=some (.pointer b):=by rw[Lib.cell_of_heap C];rfl
 have W:w1.cell? (b 1 none)=some v:=by rw[Lib.cell_of_heap C];rfl
 have N:b<w1.heap.size:=by
  rcases Nat.lt_or_ge b w1 with E|E
  .exact E
  .simp[Array.getElem?_eq_none E] at C
 go_wp2_with (
  at_builtin;refine Lib.wpList_append_own_string _ rfl _ _ 195 9 rfl B 5 U underlying195 underlying9 hi Q R S _ _ _ rfl H s rfl (by unfold maxLen;omega) om (oA F.size) ?_;intro v' w2 K G _;have A:w2.heap[b]?=some (.cells #[.pointer b,v] 197 (0,0)):=by rw[G.block b N (fun e=>O e.symm)];exact C
  have Y:w2.cell? b=some (.pointer b):=by rw[Lib.cell_of_heap A];rfl
  have Z:w2.cell? (b 1 none)=some v:=by rw[Lib.cell_of_heap A];rfl
  have a:w2.frozen? (b 1 none)=false:=Lib.frozen_of_heap A 1;obtain⟨J,L,D,rfl⟩:∃J L D,v'=.slice J L D:=by
   rcases K.2 with⟨I,_⟩|⟨g,D,X,I,_⟩
   .exact⟨_,_,_,I⟩
   .exact⟨_,_,_,I⟩)
 go_ret2;refine⟨rfl,⟨bs++Lib.strCells s,by simp[Lib.strCells_length],.inr (Lib.BuilderAt.put (T:=197) (e:=5) hB A (bs':=bs++Lib.strCells s) (by simpa[Lib.strCells_length] using K) dC)⟩,?_,(P.trans (.of_row H G)).trans (.of_gr (aU w2 b 1 _))⟩;exact(F.grown G (oA F.size) (fun k hk=>(H.lt k hk).1)).setCell (p:=(b 1 none)) hB _
def GU(x:Nat):By:=ByteArray.extract ⟨#[48,49,50,51,52,53,54,55,56,57,97,98,99,100,101,102,103,104,105,106,107,108,109,110,111,112,113,114,115,116,117,118,119,120,121,122]⟩ x (x+1)
theorem JK:∀x,x<10->(GU x).size=1:=by decide
theorem MZ(w:Wo)(x:Nat)(L:x<10):Calls prog 166 #[x] w (fun e w'=>e=.returned (.string (GU x))/\w=w'):=by
 obtain⟨u,B⟩:=xE (GU x);have F:=fun A=>BM (s:=⟨#[48,49,50,51,52,53,54,55,56,57,97,98,99,100,101,102,103,104,105,106,107,108,109,110,111,112,113,114,115,116,117,118,119,120,121,122]⟩) (i:=x) (j:=x+1) om (by show x+1<=36;omega) (u:=u) (by rw[B];rfl) A;rw[show((x+1:Nat):Int)=(x:Int)+1 from om] at F;rw[<-B];clear B;have C:∀A:Wo,Calls prog 401 #[x] A (fun e w'=>e=.returned (.string u)/\A=w'):=fun A=>by have J:decide ((x:Int)<10)=true:=dE om;have K:decide (x<10)=true:=dE L;go_enter func401,ntmps401;go_wp2;go_ret;exact⟨rfl,rfl⟩
 have G:=zh C;clear C F;have D:∀A:Wo,Calls prog 359 #[x,.int .i64 10] A (fun e w'=>e=.returned (.string u)/\A=w'):=fun A=>by have J:decide ((0:Int)<=(x:Int))=true:=dE om;have K:decide ((x:Int)<100)=true:=dE om;have M:decide (x<100)=true:=dE om;go_enter func359,ntmps359;go_wp2_with fail;apply(G _).mono;rintro e w1⟨rfl,rfl⟩;go_wp2;go_ret;exact⟨rfl,rfl⟩
 have H:=zh D;clear D;have E:∀A:Wo,Calls prog 282 #[x] A (fun e w'=>e=.returned (.string u)/\A=w'):=fun A=>by go_enter func282,ntmps282;go_wp2_with fail;apply(H _).mono;rintro e w1⟨rfl,rfl⟩;go_wp2;go_ret;exact⟨rfl,rfl⟩
 have I:=zh E;clear E;go_enter func166,ntmps166;go_wp2_with fail;apply(I _).mono;rintro e w1⟨rfl,rfl⟩;go_wp2;go_ret;exact⟨rfl,rfl⟩
def UY(B b n:Nat)(w:Wo)(e:Ending)(w':Wo):Prop:=e=.returned (.tuple #[])/\BL B b n w'/\Below B w w'/\iQ b w w'
theorem oL(w:Wo)(B t2:TypeId)(A C:List Va):∃w0,(w.alloc (.cells A.toArray B)).alloc (.cells C.toArray t2)=w0/\Blk w0 w B A/\Blk w0 (w.heap.size+1) t2 C/\Below w w w0:=by
 have F:(w.alloc (.cells A.toArray B)).heap.size=w.heap.size+1:=by show(w.heap.push _).size=_;rw[Array.size_push]
 have E:=Blk.new w B A;have D:=Blk.new (w.alloc (.cells A.toArray B)) t2 C;rw[F] at D;exact⟨_,rfl,E.alloc _,D,aC (aH _ _) (aH _ _)⟩
theorem VO{B:Nat}{w w':Wo}(h:Below w w w')(hB:B<=w):Below B w w':=h.mono hB
theorem UP(w:Wo)(B b n x:Nat)(T:x<10)(h:BL B b n w)(hn:n<=60000)(hB:B<=w):
 Calls prog 118 #[.pointer b,.agg #[.int .i64 1,.string {data:=#[]},x,(),()]] w (UY B b (n+1) w):=by
 obtain⟨w0,F,S,hq,C⟩:=oL w 194 50 [.pointer b] (iZ x);unfold iZ at F hq;have o:=h.lt;have g:B<=w0.heap.size:=aZ6 hB C.size;have X:=zh (fun A (h:BL B b n A)=>BZ B b n A h);have J:=zh (fun A=>MZ A x T);obtain⟨u,H⟩:∃u,GU x=u:=⟨_,rfl⟩
 have k:u.size=1:=by rw[<-H];exact JK x T
 rw[H] at J;have M:=zh (fun A (h:BL B b n A) (j:B<=A)=>B0 B b n u A h om j);rw[k] at M;have I:=zh (h.on C);have L:=zh S;have E:=zh hq;have d:=zh (VO C hB);have a:Hid (iQ b w w0):=aG (.of_below C);clear h C H S hq;have l:decide ((65536:Int)<(n:Int))=false:=dG om;have m:decide (65536<n)=false:=dG om;have p:∀(fn:Fn) (P O:Array Va) (w:Wo),(Instr.makeFunc fn P O).run prog w=.ok (.func fn P O) w:=fun _ _ _ _=>rfl;go_enter func118,ntmps118;go_upto_region 1 with fail;try rw[F]
 clear F;have N:w0.cell? w.heap.size=some (.pointer b):=L.cell 0;have q:w0.cell? ⟨w.heap.size+1,0,none⟩=some (.int .i64 1):=E.cell 0;have U:w0.cell? ⟨w.heap.size+1,2,none⟩=some (x:aV):=E.cell 2;have V:=zh (I.on (aI w0));go_wp2_with fail;apply(X.out w0 I).mono;rintro e w1⟨rfl,rfl⟩;go_wp2_with fail;refine tb 5 N U fun G=>?_;refine tq 0 ?_;refine tq 1 ?_;refine tq 2 ?_;try simp only[tz]
 refine tn 3 fun K hK=>?_;go_simp;apply(J _).mono;rintro e r⟨rfl,rfl⟩;refine hK.out _ _ (⟨N,U⟩) ?_;clear hK K G;intro G;try simp only[tz]
 refine tn 4 fun K hK=>?_;go_simp;apply(M.out w0.drew V g).mono;rintro e s⟨rfl,R,Q,D⟩;have Y:=zh (D.blk (L.belowS (aI w0)) om dC);have Z:=zh (D.blk (E.belowS (aI w0)) om dC);have W:=zh R;have f:=zh ((d.drew).trans Q);have c:=zh ((a.trans (.of_below (aI w0))).trans D);clear R Q D;refine hK.out _ _ (⟨Y.cell 0,Z.cell 2⟩) fun _=>?_;refine tw ?_;try simp only[tz]
 clear G;go_wp2;refine bodyPost_end (results_none rfl _ _ _) rfl ?_;exact⟨rfl,W.out,f.out,c.out⟩
structure BS(w0:Wo)(kd:Int)(nm:By)(x:Int)(A:OA)(n c ln:Nat):Prop where
 run:∀(w':Wo) (B b cnt:Nat),Below w0 w0 w'->w0<=B->BL B b cnt w'->B<=w'.heap.size->cnt+ln<=60000->
  Calls prog 118 #[.pointer b,.agg #[kd,.string nm,x,(),.slice A n c]] w' (UY B b (cnt+ln) w')
theorem BS.num(w0:Wo)(x:Nat)(E:x<10):BS w0 1 {data:=#[]} (x:Int) none 0 0 1:=⟨fun w' B b A _ _ C D F=>UP w' B b A x E C om D⟩
structure EE(w0:Wo)(A:OA)(m c:Nat)(vs:List (List Va))(B b p q cnt:Nat)(w:Wo):Prop where
 bel:Below w0 w0 w
 hB:w0<=B/\B<=w
 bl:BL B b cnt w
 bp:Blk w p 194 [.pointer b]
 bq:∃x0 x1 x2 x3,Blk w q 50 [x0,x1,x2,x3,.slice A m c]
 ne:p≠b/\q≠b
theorem EE.step{w0:Wo}{A:OA}{m c:Nat}{E:List (List Va)}{B b p q F D:Nat}{w w':Wo}(h:EE w0 A m c E B b p q F w)(H:BL B b D w')(G:Below B w w')(C:iQ b w w'):EE w0 A m c E B b p q D w':=
 ⟨h.bel.trans (G.mono h.hB.1),⟨h.hB.1,aZ6 h.hB.2 C.size⟩,H,C.blk h.bp h.ne.1 dC,by obtain⟨x0,x1,x2,x3,hq⟩:=h.bq;exact⟨x0,x1,x2,x3,C.blk hq h.ne.2 dC⟩,h.ne⟩
theorem jt(w0 w:Wo)(A:OA)(m c:Nat)(F:List (List Va))(B b p q D k S:Nat)(h:EE w0 A m c F B b p q D w)(Y:RG 5 w0 (.slice A m c) F)(δ:F=m)(ι:m<=100)(hk:k<m)
 (ε:∃R T x H n c',F k []=XC R T x H n c'/\BS w0 R T x H n c' S)(z:D+S<=60000):
 Calls prog 169 #[k,.pointer p,.pointer q] w (UY B b (D+S) w):=by
 obtain⟨R,T,x,H,n,c',X,W⟩:=ε;obtain⟨V,rfl,I,J,L,M,N⟩:=Y.xc (k:=k) om X;have t0:=aE h.bel I;have ζ:=aE h.bel J;have t2:=aE h.bel L;have t3:=aE h.bel M;have η:=aE h.bel N;have g:=zh I;have i:=zh J;have j:=zh L;have l:=zh M;have o:=zh N;clear I J L M N;have E:EE w0 (some V) m c F B b p q D w.drew:=h.step (h.bl.on (aI w)) ((aI w).mono h.hB.2) (.of_below (aI w));have r:=zh (W.run w.drew B b D E.bel E.hB.1 E.bl E.hB.2 z);obtain⟨x0,x1,x2,x3,hq⟩:=h.bq;have s:w.cell? p=some (.pointer b):=h.bp.cell 0;have t:w.cell? (q 4 none)=some (.slice (some V) m c):=hq.cell 4;have G:=zh h;have d:=zh hq;have u:(k:Int)<(m:Int):=om;have θ:decide ((k:Int)<(m:Int))=true:=dE u;clear h E W X Y δ hq;go_enter func169,ntmps169;refine tg 7 s t t0 ζ t2 t3 η fun v=>?_;refine tq 0 ?_;refine tq 1 ?_;refine tq 2 ?_;refine tq 3 ?_;refine tq 4 ?_;refine tq 5 ?_;try simp only[tz]
 refine tn 6 fun K hK=>?_;go_simp;apply r.mono;rintro e κ⟨rfl,P,O,Q⟩;have C:=zh (G.step P (((aI w).mono G.hB.2).trans O) ((iQ.of_below (aI w)).trans Q));have a:=zh P;have Z:=zh (((aI w).mono G.hB.2).trans O);have U:=zh ((iQ.of_below (aI w)).trans Q);have f:=zh (U.blk d G.ne.2 dC);clear P O Q;refine hK.out _ _ (⟨C.bp.cell 0,f.cell 4,aE C.bel g,aE C.bel i,aE C.bel j,aE C.bel l,aE C.bel o⟩) fun _=>?_;refine tw ?_;try simp only[tz]
 clear v;go_wp2;refine bodyPost_end (results_none rfl _ _ _) rfl ?_;exact⟨rfl,a.out,Z.out,U.out⟩
def qZ(A:Nat->Nat):Nat->Nat
 |0=>0
 |k+1=>qZ A k+(if k=0 then 0 else 2)+A k
theorem UG(A:Nat->Nat):∀{k m},k<=m->qZ A k<=qZ A m:=fun{k m} h=>by
 induction h with
 |refl=>exact zr
 |step _ ih=>exact aZ6 ih (by simp only[qZ];omega)
theorem bh(w0 w:Wo)(A:OA)(m c:Nat)(J:List (List Va))(B b p q M:Nat)(D:Nat->Nat)(h:EE w0 A m c J B b p q M w)(f:RG 5 w0 (.slice A m c) J)(g:J=m)(z:m<=100)
 (j:∀k,k<m->∃l o x W n c',J k []=XC l o x W n c'/\BS w0 l o x W n c' (D k))(N:M+qZ D m<=60000):
 Calls prog 164 #[m,.func (.func 169) #[] #[.pointer p,.pointer q],.pointer p] w (UY B b (M+qZ D m) w):=by
 have Y:=zh (fun(L:Wo) (k F:Nat) (h:EE w0 A m c J B b p q F L) (hk:k<m) (N:F+D k<=60000)=>jt w0 L A m c J B b p q F k (D k) h f g z hk (j k hk) N);have a:=zh (fun(L:Wo) (F:Nat) (h:BL B b F L) (N:F<=60000) (C:B<=L)=>B0 B b F ⟨#[44,32]⟩ L h (by show F+2<=_;omega) C);have d:(⟨#[44,32]⟩:By).size=2:=rfl;rw[d] at a;have X:=zh h;have s:=zh (fun k (hk:k<=m)=>aZ6 (Nat.add_le_add_left (UG D hk) M) N);clear h j f g N d;go_enter func164,ntmps164;go_wp2;go_loopw [7] (fun i wr=>∃k:Nat,k<=m/\i=(k:aV)/\Hid (EE w0 A m c J B b p q (M+qZ D k) wr)/\Hid (Below B w wr)/\Hid (iQ b w wr)) (fun i _=>m-(intOf i).toNat)
 .exact⟨0,aZ5 _,rfl,X,aG (Below.refl _ _),aG (.refl _ _)⟩
 .
  clear X;obtain⟨k,hk,rfl,H,T,Q⟩:=hrel;by_cases V:k<m
  .have I:=s.out (k+1) V;simp only[qZ] at I;by_cases K:k=0
   .have v:decide ((0:Int)<(k:Int))=false:=dG om;have y:decide (0<k)=false:=dG om;have S:Hid (qZ D (k+1)=qZ D k+D k):=aG (by show _=_;simp only[qZ];rw[iP K];omega);rw[iP K] at I;have O:=zh I;clear I K;go_wp2_with fail;apply(Y wr k _ H V (oA O.out)).mono;rintro e w2⟨rfl,G,C,E⟩;have P:=zh (H.step G C E);have U:=zh (T.trans C);have R:=zh (Q.trans E);clear G C E;go_wp2;exact⟨⟨k+1,om,pC,by rw[S.out,<-Nat.add_assoc];exact P,U,R⟩,oI⟩
   .have v:decide ((0:Int)<(k:Int))=true:=dE om;have y:decide (0<k)=true:=dE om;have S:Hid (qZ D (k+1)=qZ D k+2+D k):=aG (by show _=_;simp only[qZ];rw[iN K]);rw[iN K] at I;have O:=zh I;clear I K;have u:wr.cell? p=some (.pointer b):=H.bp.cell 0;go_wp2_with fail;apply(a wr _ H.bl (oA O.out) H.hB.2).mono;rintro e w1⟨rfl,G,C,E⟩;have Z:=zh (H.step G C E);have t:=zh (T.trans C);have r:=zh (Q.trans E);clear G C E u;go_wp2_with fail;apply(Y.out w1 k _ Z V (oA O.out)).mono;rintro e w2⟨rfl,G,C,E⟩;have P:=zh (Z.step G C E);have U:=zh (t.trans C);have R:=zh (r.trans E);clear G C E;go_wp2;exact⟨⟨k+1,om,pC,by rw[S.out,<-Nat.add_assoc,<-Nat.add_assoc];exact P,U,R⟩,oI⟩
  .obtain rfl:m=k:=om
   go_wp2;refine bodyPost_end (results_none rfl _ _ _) rfl ?_;exact⟨rfl,H.bl,T.out,Q.out⟩
theorem OD(w0 w:Wo)(nm:By)(A:OA)(m c:Nat)(M:List (List Va))(B b F:Nat)(L:Nat->Nat)(g:Below w0 w0 w)(φ:w0<=B)(U:BL B b F w)(hB:B<=w)(o:RG 5 w0 (.slice A m c) M)(p:M=m)(τ:m<=100)
 (q:∀k,k<m->∃r s x V n c',M k []=XC r s x V n c'/\BS w0 r s x V n c' (L k))(I:F+(nm.size+1+qZ L m+1)<=60000):
 Calls prog 118 #[.pointer b,.agg #[.int .i64 3,.string nm,z0,(),.slice A m c]] w (UY B b (F+(nm.size+1+qZ L m+1)) w):=by
 obtain⟨w1,T,i,hq,K⟩:=oL w 194 50 [.pointer b] (XBk nm (.slice A m c));unfold XBk at T hq;have Ac:=U.lt;have f:EE w0 A m c M B b w (w.heap.size+1) F w1:=⟨aC g K,⟨φ,aZ6 hB K.size⟩,U.on K,i,⟨_,_,_,_,hq⟩,om,om⟩
 have J:=zh f;have R:=zh hq;have μ:=zh (VO K hB);have ζ:Hid (iQ b w w1):=aG (.of_below K);obtain⟨Q,j⟩:=xE nm.size;obtain⟨tw,l⟩:=xE (qZ L m);have z:=zh (fun E (h:BL B b F E)=>BZ B b F E h);have Y:=zh (fun E (h:BL B b F E) (C:B<=E)=>B0 B b F nm E h om C);have W:=zh (fun E (H:Nat) (σ:Int) (h:BL B b H E) (I:H<=60000) (C:B<=E)=>QC B b H σ E h om C);have X:=zh (fun(E:Wo) (H:Nat) (h:EE w0 A m c M B b w (w.heap.size+1) H E) (I:H+qZ L m<=60000)=>bh w0 E A m c M B b w (w.heap.size+1) H L h o p τ q I);rw[<-j] at Y I|-;rw[<-l] at X I|-;have N:=zh I;clear g U o p q I i hq K f j l;have Aa:decide ((65536:Int)<(F:Int))=false:=dG (oA N.out);have Ab:decide (65536<F)=false:=dG (oA N.out);have Ad:∀(fn:Fn) (d a:Array Va) (w:Wo),(Instr.makeFunc fn d a).run prog w=.ok (.func fn d a) w:=fun _ _ _ _=>rfl;go_enter func118,ntmps118;go_upto_region 1 with fail;try rw[T]
 clear T;have P:w1.cell? w.heap.size=some (.pointer b):=J.bp.cell 0;have χ:w1.cell? ⟨w.heap.size+1,0,none⟩=some (.int .i64 3):=R.cell 0;have ψ:w1.cell? ⟨w.heap.size+1,1,none⟩=some (.string nm):=R.cell 1;go_wp2_with fail;apply(z.out w1 J.bl).mono;rintro e w2⟨rfl,rfl⟩;go_wp2_with fail;apply(Y.out w1 J.bl J.hB.2).mono;rintro e t⟨rfl,G,C,D⟩;have O:=zh (J.step G C D);have δ:=zh (D.blk R J.ne.2 dC);have ν:=zh (μ.trans C);have η:=zh (ζ.trans D);clear G C D P χ ψ;have P:t.cell? w.heap.size=some (.pointer b):=O.bp.cell 0;go_wp2_with fail;apply(W.out t _ _ O.bl (oA N.out) O.hB.2).mono;rintro e u⟨rfl,G,C,D⟩;have Z:=zh (O.step G C D);have ε:=zh (D.blk δ O.ne.2 dC);have ξ:=zh (ν.trans C);have θ:=zh (η.trans D);clear G C D P;have ω:u.cell? ⟨w.heap.size+1,4,none⟩=some (.slice A m c):=ε.cell 4;go_wp2_with fail;apply(X.out u _ Z (oA N.out)).mono;rintro e v⟨rfl,G,C,D⟩;have S:=zh (Z.step G C D);have π:=zh (ξ.trans C);have ι:=zh (θ.trans D);clear G C D ω;have P:v.cell? w.heap.size=some (.pointer b):=S.bp.cell 0;go_wp2_with fail;apply(W.out v _ _ S.bl (oA N.out) S.hB.2).mono;rintro e Ae⟨rfl,G,C,D⟩;have y:=zh G;have ρ:=zh (π.trans C);have κ:=zh (ι.trans D);clear G C D P;go_wp2;refine bodyPost_end (results_none rfl _ _ _) rfl ?_;refine⟨rfl,?_,ρ.out,κ.out⟩;have:=y.out;rw[show F+Q+1+tw+1=F+(Q+1+tw+1) from om] at this;exact this
theorem BS.call(w0:Wo)(nm:By)(A:OA)(m c:Nat)(C:List (List Va))(D:Nat->Nat)(O:RG 5 w0 (.slice A m c) C)(P:C=m)(N:m<=100)
 (Q:∀k,k<m->∃F G x E n c',C k []=XC F G x E n c'/\BS w0 F G x E n c' (D k)):BS w0 3 nm 0 A m c (nm.size+1+qZ D m+1):=
 ⟨fun w' B b H I J K L M=>OD w0 w' nm A m c C B b H D I J K L O P N Q M⟩
