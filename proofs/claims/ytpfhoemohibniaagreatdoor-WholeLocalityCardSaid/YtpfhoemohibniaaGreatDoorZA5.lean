/- Texts of a claim, merged. -/
import Derived.Test.YtpfhoemohibniaaGreatDoorZA3
import Derived.ArgAppend
import Derived.Deep.Upon
import Derived.Lib.AppendZeros
import Derived.Maps.RangeRun
import Derived.MapKept
import Derived.Deep.Cut
set_option maxRecDepth 100000
set_option linter.unusedSimpArgs false
set_option linter.unusedVariables false
set_option maxHeartbeats 32000000
namespace Go.Proofs.YtpfhoemohibniaaGreatDoor
open Go.RowKit
def Sep(B:Nat)(w:World)(Φ:World->Prop):Prop:=∀w2:World,(∀p:Addr,B<=p.block->p.block<w.heap.size->w2.cell? p=w.cell? p)->Φ w2
section
variable {B B':Nat} {w w':World} {Φ Ψ:World->Prop}
theorem Sep.out(h:Sep B w Φ):Φ w:=h w fun _ _ _=>rfl
theorem Sep.mono(h:Sep B w Φ)(hB:B'<=B):Sep B' w Φ:=fun w2 A=>h w2 fun p D C=>A p (by omega) C
theorem Sep.of(h:Sep B w Φ)(F:w.heap.size<=w'.heap.size)(E:∀p:Addr,B<=p.block->p.block<w.heap.size->w'.cell? p=w.cell? p):Sep B w' Φ:=fun w2 D=>h w2 fun p A C=>(D p A (aY1 C F)).trans (E p A C)
theorem Sep.on(h:Sep B w Φ)(hb:Below w.heap.size w w'):Sep B w' Φ:=h.of hb.size fun p _ A=>hb.cell A
theorem Sep.grown{row:Option Nat}(h:Sep B w Φ)(hg:w.grownBy w' row)(C:∀g,row=some g->g<B):Sep B w' Φ:=h.of hg.size fun p D A=>World.cell?_of_block (hg.block _ A fun e=>by have:=C _ e.symm;omega)
theorem Sep.setCell(h:Sep B w Φ){a:Addr}(D:a.block<B)(u:Value):Sep B (w.setCell a u) Φ:=h.of (by simp[World.setCell]) fun p A C=>World.cell?_of_block (Below.heap_setCell w a u p.block (by omega))
theorem Sep.imp(h:Sep B w Φ)(k:∀w2,Φ w2->Ψ w2):Sep B w Ψ:=fun w2 A=>k w2 (h w2 A)
theorem Sep.and(h:Sep B w Φ)(k:Sep B w Ψ):Sep B w fun w2=>Φ w2/\Ψ w2:=fun w2 A=>⟨h w2 A,k w2 A⟩
end
theorem SI.wfs{w:World}{v:Value}{xs:LI}(h:SI w v xs)(k:Nat):I64 (xs.getD k 0):=by obtain⟨_,_,_,h⟩:=h;exact h.wf k
theorem SI.len'{w:World}{v:Value}{xs:LI}(h:SI w v xs):xs.length<=17592186044416:=by obtain⟨_,_,_,h⟩:=h;exact h.len
theorem SS.len'{w:World}{v:Value}{xs:LL}(h:SS w v xs):xs.length<=17592186044416:=by obtain⟨_,_,_,h⟩:=h;exact h.len
theorem SI.moved{w w':World}{v:Value}{xs:LI}(h:SI w v xs)(D:∀p:Addr,v.ownBlock=some p.block->p.block<w.heap.size->w'.cell? p=w.cell? p):SI w' v xs:=by obtain⟨A,c,rfl,h⟩:=h;refine⟨A,c,rfl,h.len,h.cap,fun k E=>?_,h.wf⟩;obtain⟨B,e,C⟩:=h.cell k E;refine⟨B,e,?_⟩;subst e;rw[D (B.add k) (by rw[bS];rfl) (World.block_lt_of_cell? _ _ C)];exact C
theorem SI.sep{B:Nat}{w:World}{v:Value}{xs:LI}(h:SI w v xs)(hn:0<xs.length->∀g,v.ownBlock=some g->B<=g):Sep B w fun w2=>SI w2 v xs:=fun w2 D=>by
 by_cases C:0<xs.length
 .exact h.moved fun p G F=>D p (hn C _ G) F
 .obtain⟨A,c,rfl,h⟩:=h;exact⟨A,c,rfl,h.len,h.cap,fun k E=>absurd E (by omega),h.wf⟩
theorem OI.sep{B:Nat}{w:World}{v:Value}{xs:LI}(h:OI B w v xs)(A:xs.length<=17592186044416)(C:∀k,I64 (xs.getD k 0)):Sep B w fun w2=>SI w2 v xs:=
 (h.si A C).sep fun _ g hg=>(h.lt hg).1
theorem SI.nilSep(B:Nat)(w:World):Sep B w fun w2=>SI w2 (.slice none 0 0) []:=fun w2 _=>SI.none_ w2
theorem SS.nilSep(B:Nat)(w:World):Sep B w fun w2=>SS w2 (.slice none 0 0) []:=fun w2 _=>SS.none_ w2
theorem OS.sep{B:Nat}{X:Nat->Prop}{w:World}{v:Value}{l:LL}(h:OS B X w v l)(G:∀g,g<B->X g)(L:l.length<=17592186044416):Sep B w fun w2=>SS w2 v l:=fun w2 D=>by
 obtain⟨us,E,hi⟩:=h;have H:=E.2;rcases H with⟨rfl,A⟩|⟨g,F,P,rfl,hB,hg,hn,_,_,_⟩
 .obtain rfl:l=[]:=List.eq_nil_of_length_eq_zero A;exact SS.none_ w2
 .have J:=(Array.getElem?_eq_some_iff.1 hg).1;refine⟨some ⟨g,0,none⟩,F,rfl,L,hn,fun k K=>?_⟩;obtain⟨u,N,M,O⟩:=hi k K;refine⟨_,u,rfl,?_,(M.sep (B:=B) fun A C I=>?_) w2 D⟩
  .rw[D _ (by rw[bS];exact hB) (by rw[bS];exact J)];exact World.ownsRow.cells E (g:=g) rfl k u N
  .refine Decidable.byContradiction fun Q=>(O A C I).2 (G C (by omega))
structure KX(B:Nat)(X:Nat->Prop)(w w':World):Prop where
 bel:Below B w w'
 box:∀b,X b->b<w.heap.size->w'.heap[b]?=w.heap[b]?
theorem KX.size{B:Nat}{X:Nat->Prop}{w w':World}(h:KX B X w w'):w.heap.size<=w'.heap.size:=h.bel.size
theorem KX.of{B:Nat}{X:Nat->Prop}{w w':World}(h:Below w.heap.size w w')(hB:B<=w.heap.size):KX B X w w':=⟨h.mono hB,fun b _ hb=>h.block b hb⟩
theorem KX.trans{B:Nat}{X:Nat->Prop}{w w1 w2:World}(h:KX B X w w1)(k:KX B X w1 w2):KX B X w w2:=
 ⟨h.bel.trans k.bel,fun b A hb=>(k.box b A (aY1 hb h.size)).trans (h.box b A hb)⟩
theorem KX.gr{B:Nat}{X:Nat->Prop}{w w':World}{row:Option Nat}(h:w.grownBy w' row)(hB:B<=w.heap.size)(A:∀g,row=some g->B<=g/\¬X g):KX B X w w':=
 ⟨(Below.refl B w).grown h hB fun g hg=>(A g hg).1,fun b C hb=>h.block b hb fun e=>(A b e.symm).2 C⟩
theorem KX.blk{B:Nat}{X:Nat->Prop}{w w':World}(h:KX B X w w'){b:Nat}{t:TypeId}{cs:List Value}(hb:Blk w b t cs)(A:X b):Blk w' b t cs:=hb.keep (h.box b A hb.lt)
theorem KX.oi{B B':Nat}{X:Nat->Prop}{w w':World}(h:KX B X w w'){u:Value}{xs:LI}(A:OI B' w u xs)(C:∀g,u.ownBlock=some g->X g):OI B' w' u xs:=
 A.keep fun g hg=>h.box g (C g hg) (A.lt hg).2
theorem KX.less{B:Nat}{X Y:Nat->Prop}{w w':World}(h:KX B X w w')(A:∀g,Y g->X g):KX B Y w w':=⟨h.bel,fun b hb=>h.box b (A b hb)⟩
def nI(B:Nat)(X:Nat->Prop)(w:World)(v:Value)(us:Nat->Value)(xss:LL):Prop:=
 w.ownsRow B 22 1 v xss.length ((List.range xss.length).map us)/\
 (∀i,i<xss.length->OI B w (us i) (xss.getD i [])/\∀g,(us i).ownBlock=some g->v.ownBlock≠some g/\¬X g)/\
 (∀i j,i<xss.length->j<xss.length->i≠j->∀g,(us i).ownBlock=some g->(us j).ownBlock≠some g)/\∀g,v.ownBlock=some g->¬X g
def OM(B:Nat)(X:Nat->Prop)(w:World)(v:Value)(xss:LL):Prop:=∃us,nI B X w v us xss
section
variable {B:Nat} {X:Nat->Prop} {w w':World} {v:Value} {xss:LL}
theorem OM.lt(h:OM B X w v xss){g:Nat}(hg:v.ownBlock=some g):B<=g/\g<w.heap.size:=by obtain⟨us,h,_⟩:=h;exact World.ownsRow.lt h g hg
theorem OM.notX(h:OM B X w v xss){g:Nat}(hg:v.ownBlock=some g):¬X g:=by obtain⟨us,_,_,_,h⟩:=h;exact h g hg
theorem nI.grown{us:Nat->Value}(h:nI B X w v us xss){row:Option Nat}(hg:w.grownBy w' row)(E:∀g,row=some g->X g):nI B X w' v us xss:=by
 obtain⟨G,C,hi,D⟩:=h;refine⟨World.ownsRow.kept G hg ?_,fun i A=>⟨(C i A).1.grown hg fun g F e=>((C i A).2 g F).2 (E g e),(C i A).2⟩,hi,D⟩;cases row with
 |none=>cases D:v.ownBlock<;>simp
 |some g=>exact .inr fun e=>D g e (E g rfl)
theorem OM.grown(h:OM B X w v xss){row:Option Nat}(hg:w.grownBy w' row)(A:∀g,row=some g->X g):OM B X w' v xss:=by obtain⟨us,h⟩:=h;exact⟨us,h.grown hg A⟩
theorem OM.below(h:OM B X w v xss)(hb:Below w.heap.size w w'):OM B X w' v xss:=h.grown (aN hb none) fun g hg=>by cases hg
theorem OM.names{Y:Nat->Prop}(h:OM B X w v xss)(E:∀g,g<w.heap.size->Y g->X g):OM B Y w v xss:=by have H:=fun g=>h.lt (g:=g);obtain⟨us,F,C,hi,G⟩:=h;exact⟨us,F,fun i A=>⟨(C i A).1,fun g hg=>⟨((C i A).2 g hg).1,fun D=>((C i A).2 g hg).2 (E g ((C i A).1.lt hg).2 D)⟩⟩,hi,fun g hg D=>G g hg (E g (H g hg).2 D)⟩
theorem OM.mono{B':Nat}(h:OM B X w v xss)(hB:B'<=B):OM B' X w v xss:=by
 obtain⟨us,C,D,hi,H⟩:=h;refine⟨us,⟨C.1,?_⟩,fun i A=>⟨(D i A).1.mono hB,(D i A).2⟩,hi,H⟩;rcases C.2 with hn|⟨g,E,F,rfl,hb,G,rest⟩
 .exact .inl hn
 .exact .inr ⟨g,E,F,rfl,by omega,G,rest⟩
theorem OM.form(h:OM B X w v xss):∃A c,v=.slice A xss.length c:=by
 obtain⟨us,D,_⟩:=h;rcases D.2 with⟨rfl,C⟩|⟨g,E,F,rfl,_⟩
 .exact⟨none,0,by rw[C]⟩
 .exact⟨_,_,rfl⟩
theorem OM.formP(h:OM B X w v xss)(F:0<xss.length):∃g c,v=.slice (some ⟨g,0,none⟩) xss.length c/\B<=g/\g<w.heap.size:=by
 obtain⟨us,C,_⟩:=h;rcases C.2 with⟨rfl,E⟩|⟨g,A,D,rfl,hb,hg,_⟩
 .omega
 .exact⟨g,A,rfl,hb,(Array.getElem?_eq_some_iff.1 hg).1⟩
theorem OM.os(h:OM B X w v xss)(C:∀j,j<xss.length->(xss.getD j []).length<=17592186044416/\∀k,I64 ((xss.getD j []).getD k 0)):OS B X w v xss:=by obtain⟨us,E,D,hi,F⟩:=h;exact⟨_,E,fun i A=>⟨us i,by simp[A],(D i A).1.si (C i A).1 (C i A).2,fun _ g hg=>(D i A).2 g hg⟩⟩
end
section
variable {B g n c:Nat} {X:Nat->Prop} {w:World} {l:LL}
theorem nI.lenEq{us:Nat->Value}{A:Option Addr}(h:nI B X w (.slice A n c) us l):n=l.length:=by
 obtain⟨C,_⟩:=h;rcases C.2 with⟨e,F⟩|⟨g,D,E,e,_⟩
 .injection e with e1 e2 e3;omega
 .injection e with e1 e2 e3
theorem nI.hd{us:Nat->Value}(h:nI B X w (.slice (some ⟨g,0,none⟩) n c) us l){k:Nat}(D:k<l.length):w.cell? ⟨g,k,none⟩=some (us k):=by
 have hn:=h.lenEq;subst hn;have:=World.ownsRow.cells h.1 (g:=g) rfl k (us k) (by simp[D]);have A:(⟨g,0,none⟩:Addr).add k=⟨g,k,none⟩:=by unfold Addr.add;by_cases C:k=0<;>simp[C]
 rw[A] at this;exact this
theorem OM.row(h:OM B X w (.slice (some ⟨g,0,none⟩) n c) l){k:Nat}(C:k<l.length):∃u,w.cell? ⟨g,k,none⟩=some u/\OI B w u (l.getD k [])/\∀A,u.ownBlock=some A->A≠g/\¬X A:=by obtain⟨us,h⟩:=h;exact⟨us k,h.hd C,(h.2.1 k C).1,fun A D=>⟨fun e=>((h.2.1 k C).2 A D).1 (by rw[e];rfl),((h.2.1 k C).2 A D).2⟩⟩
theorem OM.apart(h:OM B X w (.slice (some ⟨g,0,none⟩) n c) l){i k:Nat}(hi:i<l.length)(C:k<l.length)(F:i≠k){u y:Value}(D:w.cell? ⟨g,i,none⟩=some u)(E:w.cell? ⟨g,k,none⟩=some y):
  ∀A,u.ownBlock=some A->y.ownBlock≠some A:=by
 obtain⟨us,h⟩:=h;rw[h.hd hi] at D;rw[h.hd C] at E;obtain rfl:=aZ0 D;obtain rfl:=aZ0 E;exact h.2.2.1 i k hi C F
theorem OM.frozen(h:OM B X w (.slice (some ⟨g,0,none⟩) n c) l)(k:Nat):w.frozen? ⟨g,k,none⟩=false:=by obtain⟨us,h⟩:=h;have hn:=h.lenEq;subst hn;exact World.ownsRow.frozenAt h.1 k
theorem OM.write{w':World}(h:OM B X w (.slice (some ⟨g,0,none⟩) n c) l){i:Nat}(hi:i<l.length){u:Value}(E:w.cell? ⟨g,i,none⟩=some u)(hg:w.grownBy w' u.ownBlock){ys:LI}(J:OI B w' u ys):
  OM B X w' (.slice (some ⟨g,0,none⟩) n c) (l.set i ys):=by
 obtain⟨us,h⟩:=h;rw[h.hd hi] at E;obtain rfl:=aZ0 E;have hn:=h.lenEq;subst hn;obtain⟨H,C,D,K⟩:=h;refine⟨us,?_,fun j A=>?_,fun a b I hb=>D a b (by simpa using I) (by simpa using hb),K⟩
 .rw[aZ9];refine World.ownsRow.kept H hg ?_;cases hb:(us i).ownBlock with
  |none=>exact .inr (by intro e;cases e)
  |some b=>exact .inr ((C i hi).2 b hb).1
 .rw[aZ9] at A;rw[cE];by_cases e:i=j
  .subst e;rw[if_pos ⟨rfl,hi⟩];exact⟨J,(C i hi).2⟩
  .rw[if_neg (fun h=>e h.1)];exact⟨(C j A).1.grown hg fun b hb F=>D j i A hi (fun G=>e G.symm) b hb F,(C j A).2⟩
theorem OM.put{w1:World}(h:OM B X w (.slice (some ⟨g,0,none⟩) n c) l)(hb:Below w.heap.size w w1)(S:∀g,X g->g<w.heap.size){i:Nat}(hi:i<l.length){u:Value}{ys:LI}(F:OI w.heap.size w1 u ys):
   OM B X (w1.setCell ⟨g,i,none⟩ u) (.slice (some ⟨g,0,none⟩) n c) (l.set i ys):=by
 have N:=h.lt (g:=g) rfl;obtain⟨us,h⟩:=h;have hn:=h.lenEq;subst hn;have M:∀j,j<l.length->∀b,(us j).ownBlock=some b->b<w.heap.size:=fun j E b A=>((h.2.1 j E).1.lt A).2;have H:=h.grown (aN hb none) (fun g hg=>by cases hg);obtain⟨H,J,T,W⟩:=H;have V:=(World.ownsRow.stored H i u).1;have O:=bF w1 g i u;refine⟨fun j=>if i=j then u else us j,?_,fun j E=>?_,fun a b I A U G D=>?_,W⟩
 . have e : ((List.range l.length).map us).set i u = (List.range (l.set i ys).length).map fun j => if i = j then u else us j := by
     rw[aZ9];refine List.ext_getElem (by simp) fun k Z L=>?_;simp only[List.getElem_set,List.getElem_map,List.getElem_range]
   rw[<-e,aZ9];exact V
 . rw[aZ9] at E;rw[cE];by_cases e:i=j
   . subst e;rw[if_pos ⟨rfl,hi⟩];dsimp only;rw[if_pos rfl];refine⟨(F.grown O fun b A C=>?_).mono (by omega),fun b A=>⟨fun C=>?_,fun Y=>?_⟩⟩
     . have L:=(F.lt A).1;have Q:g=b:=aZ0 C;have R:g<w.heap.size:=N.2;omega
     . have L:=(F.lt A).1;have Q:g=b:=aZ0 C;have R:g<w.heap.size:=N.2;omega
     . have:=(F.lt A).1;have:=S b Y;omega
   . rw[if_neg (fun h=>e h.1)];dsimp only;rw[if_neg e];exact⟨(J j E).1.grown O fun b A C=>((J j E).2 b A).1 C,(J j E).2⟩
 . rw[aZ9] at I A;dsimp only at D|-;by_cases K:i=a
   . rw[if_pos K] at D;rw[if_neg (by omega)];intro C;have:=M b A G C;have:=(F.lt D).1;omega
   . rw[if_neg K] at D;by_cases C:i=b
     . rw[if_pos C];intro P;have:=M a I G D;have:=(F.lt P).1;omega
     . rw[if_neg C];exact T a b I A U G D
theorem OM.swap(h:OM B X w (.slice (some ⟨g,0,none⟩) n c) l){a k:Nat}(E:a<l.length)(F:k<l.length)(V:a≠k){K L:Value}(I:w.cell? ⟨g,a,none⟩=some K)(J:w.cell? ⟨g,k,none⟩=some L):
   OM B X ((w.setCell ⟨g,a,none⟩ L).setCell ⟨g,k,none⟩ K) (.slice (some ⟨g,0,none⟩) n c) (cF l a k):=by
 obtain⟨us,h⟩:=h;rw[h.hd E] at I;rw[h.hd F] at J;obtain rfl:=aZ0 I;obtain rfl:=aZ0 J;have hn:=h.lenEq;subst hn;obtain⟨M,D,P,R⟩:=h;have Q:=(World.ownsRow.stored (World.ownsRow.stored M a (us k)).1 k (us a)).1;have O:=iI w g a k (us k) (us a);have G:(cF l a k).length=l.length:=eH l a k;have N:∀j,(cF l a k).getD j []=if k=j then l.getD a [] else if a=j then l.getD k [] else l.getD j []:=fun j=>by
   unfold cF;rw[cE,aZ9,cE];by_cases e:k=j
   . rw[if_pos ⟨e,F⟩,if_pos e]
   . rw[if_neg (fun h=>e h.1),if_neg e];by_cases A:a=j
     . rw[if_pos ⟨A,E⟩,if_pos A]
     . rw[if_neg (fun h=>A h.1),if_neg A]
 have H:∀j,j<l.length->OI B ((w.setCell ⟨g,a,none⟩ (us k)).setCell ⟨g,k,none⟩ (us a)) (us j) (l.getD j []):=fun j C=>(D j C).1.grown O fun b hb e=>((D j C).2 b hb).1 e;refine⟨fun j=>if k=j then us a else if a=j then us k else us j,?_,fun j C=>?_,fun i j hi C U b hb=>?_,R⟩
 . have e : (((List.range l.length).map us).set a (us k)).set k (us a) = (List.range (cF l a k).length).map fun j => if k = j then us a else if a = j then us k else us j := by
     rw[G];refine List.ext_getElem (by simp) fun j S T=>?_;simp only[List.getElem_set,List.getElem_map,List.getElem_range]
   rw[<-e,G];exact Q
 . rw[G] at C;rw[N j];dsimp only;by_cases e:k=j
   . rw[if_pos e,if_pos e];exact⟨H a E,(D a E).2⟩
   . rw[if_neg e,if_neg e];by_cases A:a=j
     . rw[if_pos A,if_pos A];exact⟨H k F,(D k F).2⟩
     . rw[if_neg A,if_neg A];exact⟨H j C,(D j C).2⟩
 . rw [G] at hi C;dsimp only at hb |-;have key : ∀ j, (if k = j then us a else if a = j then us k else us j) = us (if k = j then a else if a = j then k else j) := fun j => by
     by_cases e:k=j
     . rw[if_pos e,if_pos e]
     . rw[if_neg e,if_neg e];by_cases A:a=j
       . rw[if_pos A,if_pos A]
       . rw[if_neg A,if_neg A]
   rw[key] at hb|-;refine P _ _ ?_ ?_ ?_ b hb<;>(repeat' split)<;>omega
theorem DH(l:LL)(a:Nat):cF l a a=l:=by
 unfold cF;rw[List.set_set];by_cases h:a<l.length
 .refine List.ext_getElem (by simp) fun j A B=>?_;rw[List.getElem_set];split
  .rename_i e;subst e;rw[aZ4,aZ3 h];rfl
  .rfl
 .exact List.set_eq_of_length_le (by omega)
end
def SSb(P:Nat->Prop)(w:World)(v:Value)(xss:LL):Prop:=
 ∃A c,v=.slice A xss.length c/\xss.length<=17592186044416/\xss.length<=c/\∀k,k<xss.length->∃B u,A=some B/\P B.block/\w.cell? (B.add k)=some u/\SI w u (xss.getD k [])/\(0<(xss.getD k []).length->∀g,u.ownBlock=some g->P g)
section
variable {P Q:Nat->Prop} {w w':World} {v:Value} {xss:LL}
theorem SSb.imp(h:SSb P w v xss)(k:∀g,P g->g<w.heap.size->Q g):SSb Q w v xss:=by obtain⟨A,c,rfl,G,H,I⟩:=h;refine⟨A,c,rfl,G,H,fun j J=>?_⟩;obtain⟨F,u,e,K,C,E,L⟩:=I j J;have D:=World.block_lt_of_cell? _ _ C;rw[bS] at D;exact⟨F,u,e,k _ K D,C,E,fun B g hg=>k g (L B g hg) (E.lt B hg)⟩
theorem SSb.nil:SSb P w (.slice none 0 0) []:=⟨none,0,rfl,by simp,by simp,fun k A=>absurd A (by simp)⟩
theorem SSb.grown{row:Option Nat}(h:SSb P w v xss)(hg:w.grownBy w' row)(hn:∀g,row=some g->¬P g):SSb P w' v xss:=by obtain⟨A,c,rfl,H,I,J⟩:=h;refine⟨A,c,rfl,H,I,fun j L=>?_⟩;obtain⟨F,u,e,D,C,N,E⟩:=J j L;have M:=World.block_lt_of_cell? _ _ C;refine⟨F,u,e,D,?_,N.grown hg (fun G g K B=>hn g B (E G g K)),E⟩;rw[World.cell?_of_block (w:=w) (hg.block _ M (fun B=>hn _ B.symm (by rw[bS];exact D)))];exact C
theorem OS.ssb{B:Nat}{X:Nat->Prop}(h:OS B X w v xss)(J:xss.length<=17592186044416)(G:∀g,g<B->X g):SSb (fun g=>B<=g) w v xss:=by
 have P:=fun g=>h.lt (g:=g);obtain⟨us,E,hi⟩:=h;rcases E.2 with⟨rfl,C⟩|⟨g,F,N,rfl,hb,O,hn,_,_,_⟩
 .obtain rfl:xss=[]:=List.eq_nil_of_length_eq_zero C;exact SSb.nil
 .refine⟨some ⟨g,0,none⟩,F,rfl,J,hn,fun k I=>?_⟩;obtain⟨u,L,K,M⟩:=hi k I;refine⟨_,u,rfl,hb,World.ownsRow.cells E (g:=g) rfl k u L,K,fun C A H=>?_⟩;rcases Nat.lt_or_ge A B with D|D
  .exact absurd (G A D) (M C A H).2
  .exact D
theorem SSb.sep{B:Nat}(h:SSb P w v xss)(F:∀g,P g->B<=g):Sep B w fun w2=>SS w2 v xss:=fun w2 E=>by
 obtain⟨A,c,rfl,J,K,L⟩:=h;refine⟨A,c,rfl,J,K,fun j M=>?_⟩;obtain⟨I,u,e,Q,G,C,T⟩:=L j M;have O:=World.block_lt_of_cell? _ _ G;refine⟨I,u,e,(E _ (by rw[bS];exact F _ Q) O).trans G,?_⟩;rcases Nat.eq_zero_or_pos (xss.getD j []).length with D|D
 .obtain⟨H,c',rfl,C⟩:=C;exact⟨H,c',rfl,C.len,C.cap,fun k N=>absurd N (by omega),C.wf⟩
 .exact C.moved fun p R S=>E p (F _ (T D _ R)) S
theorem SSb.takeC{A:Option Addr}{n c:Nat}(h:SSb P w (.slice A n c) xss){k:Nat}(I:k<=xss.length):SSb P w (.slice A k k) (xss.take k):=by
 obtain⟨F,c',e,G,H,E⟩:=h;injection e with e1 e2 e3;subst e1;have C:(xss.take k).length=k:=by rw[aY3];omega
 refine⟨A,k,by rw[C],by omega,by omega,fun j B=>?_⟩;rw[C] at B;have D:(xss.take k).getD j []=xss.getD j []:=by simp[List.getD,List.getElem?_take,B]
 rw[D];exact E j (by omega)
end
theorem sM{a b:LL}{i:Nat}(h:i<a.length):(a++b).getD i []=a.getD i []:=by simp[List.getD,aY2 h]
theorem qN{a b:LL}{i:Nat}(h:a.length<=i):(a++b).getD i []=b.getD (i-a.length) []:=by simp[List.getD,List.getElem?_append_right h]
section
variable {ops:Array Oper} {rest:List Oper} {o:Oper} {a:Act} {w:World} {K:Act->World->Prop} {Q:Exit->Act->World->Prop} {E:Prop}
end
theorem K6{s:Nat}:∀{l:List (List Value)},(∀k,k<l.length->(l.getD k []).length=s)->∀{k j:Nat},k<l.length->j<s->l.flatten[k*s+j]?=(l.getD k [])[j]?
 |[],_,k,j,A,_=>absurd A (by simp)
 |x::l,h,0,j,A,hj=>by
  have B:x.length=s:=by simpa using h 0 (by simp)
  rw[List.flatten_cons,Nat.zero_mul,Nat.zero_add,aY2 (by omega)];rfl
 |x::l,h,k+1,j,A,hj=>by
  have B:x.length=s:=by simpa using h 0 (by simp)
  have C:=K6 (l:=l) (fun k A=>by simpa using h (k+1) (by simpa using A)) (k:=k) (by simpa using A) hj;rw[List.flatten_cons,List.getElem?_append_right (by rw[B,Nat.add_mul,Nat.one_mul];omega),B,show(k+1)*s+j-s=k*s+j by rw[Nat.add_mul,Nat.one_mul];omega,C];simp
def RO(B:Nat)(t:TypeId)(s:Nat)(w:World)(v:Value)(l:List (List Value)):Prop:=w.ownsRow B t s v l.length l.flatten/\∀k,k<l.length->(l.getD k []).length=s
def RG(s:Nat)(w:World)(v:Value)(l:List (List Value)):Prop:=
 ∃A c,v=.slice A l.length c/\∀k,k<l.length->∃B,A=some B/\∀j u,(l.getD k [])[j]?=some u->w.cell? (B.add (k*s+j))=some u
section
variable {B s:Nat} {t:TypeId} {w w':World} {v:Value} {l:List (List Value)}
theorem RO.nil(B:Nat)(t:TypeId)(s:Nat)(w:World):RO B t s w (.slice none 0 0) []:=⟨World.ownsRow_nil w B t s,fun k A=>absurd A (by simp)⟩
theorem RO.lt(h:RO B t s w v l){g:Nat}(hg:v.ownBlock=some g):B<=g/\g<w.heap.size:=World.ownsRow.lt h.1 g hg
theorem RO.form'(h:RO B t s w v l):∃A c,v=.slice A l.length c:=by
 rcases h.1.2 with⟨rfl,C⟩|⟨g,D,E,rfl,_⟩
 .exact⟨none,0,by rw[C]⟩
 .exact⟨_,_,rfl⟩
theorem RO.keep(h:RO B t s w v l)(E:∀g,v.ownBlock=some g->w'.heap[g]?=w.heap[g]?):RO B t s w' v l:=by
 refine⟨⟨h.1.1,?_⟩,h.2⟩;rcases h.1.2 with hn|⟨g,A,C,rfl,hb,D,rest⟩
 .exact .inl hn
 .exact .inr ⟨g,A,C,rfl,hb,(E g rfl).trans D,rest⟩
theorem RO.grown{row:Option Nat}(h:RO B t s w v l)(hg:w.grownBy w' row)(C:∀g,v.ownBlock=some g->row≠some g):RO B t s w' v l:=
 h.keep fun g A=>hg.block g (h.lt A).2 (fun e=>C g A e.symm)
theorem RO.below{B':Nat}(h:RO B t s w v l)(hb:Below B' w w')(hB:w.heap.size<=B'):RO B t s w' v l:=
 h.keep fun g hg=>hb.block g (by have:=h.lt hg;omega)
theorem RO.alloc(h:RO B t s w v l)(o:Obj):RO B t s (w.alloc o) v l:=⟨World.ownsRow.alloc h.1 o,h.2⟩
theorem RO.bgrown{w0:World}(h:RO B t s w v l)(hb:Below B w0 w)(hB:B<=w.heap.size)(hg:w.grownBy w' v.ownBlock):Below B w0 w':=
 hb.grown hg hB fun k A=>(h.lt A).1
theorem RO.rg(h:RO B t s w v l):RG s w v l:=by
 rcases h.1.2 with⟨rfl,E⟩|⟨g,D,G,rfl,hb,hg,hn,_,_,_⟩
 .obtain rfl:l=[]:=List.eq_nil_of_length_eq_zero E;exact⟨none,0,rfl,fun k A=>absurd A (by simp)⟩
 .refine⟨some ⟨g,0,none⟩,D,rfl,fun k A=>⟨_,rfl,fun j u C=>?_⟩⟩;have F:j<s:=by
   have:=(List.getElem?_eq_some_iff.1 C).1;rw[h.2 k A] at this;exact this
  exact World.ownsRow.cells h.1 (g:=g) rfl (k*s+j) _ ((K6 h.2 A F).trans C)
theorem RG.keep(h:RG s w v l)(E:∀p:Addr,p.block<w.heap.size->w'.cell? p=w.cell? p):RG s w' v l:=by obtain⟨A,c,rfl,h⟩:=h;refine⟨A,c,rfl,fun k F=>?_⟩;obtain⟨D,e,B⟩:=h k F;exact⟨D,e,fun j u C=>(E _ (World.block_lt_of_cell? _ _ (B j u C))).trans (B j u C)⟩
theorem RG.below{B':Nat}(h:RG s w v l)(hb:Below B' w w')(hB:w.heap.size<=B'):RG s w' v l:=h.keep fun _ A=>hb.cell (aY1 A hB)
theorem RG.elt{A:Option Addr}{n c:Nat}(h:RG s w (.slice A n c) l){k:Nat}(F:k<l.length):∃B,A=some B/\
  (∀u,(l.getD k [])[0]?=some u->w.cell? (B.add (k*s))=some u)/\
  (∀j u,(l.getD k [])[j+1]?=some u->w.cell? ⟨(B.add (k*s)).block,(B.add (k*s)).off+(j+1),none⟩=some u):=by
 obtain⟨G,c',e,h⟩:=h;injection e with e1 D e3;subst e1;obtain⟨B,e,E⟩:=h k F;refine⟨B,e,fun u C=>E 0 u C,fun j u C=>?_⟩;have D:B.add (k*s+(j+1))=⟨(B.add (k*s)).block,(B.add (k*s)).off+(j+1),none⟩:=by rw[<-yH];simp[Addr.add]
 rw[<-D];exact E _ u C
theorem RG.len{A:Option Addr}{n c:Nat}(h:RG s w (.slice A n c) l):n=l.length:=by obtain⟨B,c',e,h⟩:=h;injection e
end
section
variable {ops:Array Oper} {rest:List Oper} {o:Oper} {a:Act} {w:World} {K:Act->World->Prop} {Q:Exit->Act->World->Prop} {E:Prop}
theorem IL (t T : TypeId) (s A : Nat) (z : Value) (Z : Tryz.prog.underlying T = some (.slice t)) (R : (Tryz.prog.info? t).map (fun i => (i.zero, i.size, i.bytes)) = some (some z, s, A)) (p : z.cells.size = s) (Y : 0 < s) (M : A <= 1000)
   (D x:Operand)(W:o.op=.call {callee:=.builtin .append,args:=#[D,x],argTypes:=#[T,T]})
   (B:Nat)(v:Value)(l:List (List Value))(O:a.eval D=v)(C:RO B t s w v l)(g c:Nat)(y:List Value)(b:a.eval x=.slice (some ⟨g,0,none⟩) 1 c)(d:y.length=s)(N:∀j u,y[j]?=some u->w.cell? ⟨g,j,none⟩=some u)(G:∀u∈y,u.oneCell'=true)
   (V:l.length+1<=100000000)(hB:B<=w.heap.size)
   (h:∀v' w',RO B t s w' v' (l++[y])->w.grownBy w' v.ownBlock->(v'.ownBlock=v.ownBlock\/v'.ownBlock=some w.heap.size)->K (a.put o.dst v') w'):o.wp Tryz.prog a w K Q:=by
 obtain ⟨q, hi, f, m, n⟩ := info_parts R;have L : (l.length + 1) * A <= 140737488355328 := aZ6 (Nat.mul_le_mul V M) (by decide);obtain ⟨v', w', X, H, I, _, J⟩ := run_append_own_at (P := Tryz.prog) w B T o.type t q z s A Z hi f m n p Y v l.length _ C.1 ⟨g, 0, none⟩ 1 c y (by omega) (by
     intro j u S;have E:(⟨g,0,none⟩:Addr).add j=⟨g,j,none⟩:=by unfold Addr.add;by_cases F:j=0<;>simp[F]
     rw[E];exact N j u S) G (by unfold maxLen;omega) L hB
 unfold Oper.wp execOp;simp only[W,resolve,invoke,builtin,Sem.run_bind,Sem.run_pure,Result.andThen_ok,List.map_toArray,List.map_cons,List.map_nil,O,b,X];refine h v' w' ⟨by simpa using H,fun k U=>?_⟩ I J;rw[aZ1,aZ2] at U;by_cases e:k<l.length
 . rw[show(l++[y]).getD k []=l.getD k [] by simp[List.getD,aY2 e]];exact C.2 k e
 . rw[show k=l.length by omega,show(l++[y]).getD l.length []=y by simp[List.getD]];exact d
theorem fE (hg : o.guard = none) (t T : TypeId) (s A : Nat) (z : Value) (P : Tryz.prog.underlying T = some (.slice t)) (J : (Tryz.prog.info? t).map (fun i => (i.zero, i.size, i.bytes)) = some (some z, s, A)) (U : z.cells.size = s) (O : 0 < s) (G : A <= 1000)
   (D x:Operand)(M:o.op=.call {callee:=.builtin .append,args:=#[D,x],argTypes:=#[T,T]})
   (B:Nat)(v:Value)(l:List (List Value))(I:a.eval D=v)(N:RO B t s w v l)(g c:Nat)(y:List Value)(R:a.eval x=.slice (some ⟨g,0,none⟩) 1 c)(S:y.length=s)(H:∀j u,y[j]?=some u->w.cell? ⟨g,j,none⟩=some u)(C:∀u∈y,u.oneCell'=true)
   (L:l.length+1<=100000000)(hB:B<=w.heap.size)
   (h:∀v' w',RO B t s w' v' (l++[y])->w.grownBy w' v.ownBlock->(v'.ownBlock=v.ownBlock\/v'.ownBlock=some w.heap.size)->wpList Tryz.prog ops Q rest (a.put o.dst v') w'):wpList Tryz.prog ops Q (o::rest) a w:=
 wpList_plain hg fun K hK=>IL t T s A z P J U O G D x M B v l I N g c y R S H C L hB fun v' w' C E F=>hK _ _ (h v' w' C E F)
theorem nE (hg : o.guard = none) (t T : TypeId) (s A : Nat) (z : Value) (O : Tryz.prog.underlying T = some (.slice t)) (I : (Tryz.prog.info? t).map (fun i => (i.zero, i.size, i.bytes)) = some (some z, s, A)) (S : z.cells.size = s) (N : 0 < s) (F : A <= 1000)
   (C x:Operand)(L:o.op=.call {callee:=.builtin .append,args:=#[C,x],argTypes:=#[T,T]})
   (B:Nat)(v:Value)(l:List (List Value))(H:a.eval C=v)(M:RO B t s w v l)(g c:Nat)(y:List Value)(P:a.eval x=.slice (some ⟨g,0,none⟩) 1 c)(R:y.length=s)(G:∀j u,y[j]?=some u->w.cell? ⟨g,j,none⟩=some u)(D:∀u∈y,u.oneCell'=true)
   (J:l.length+1<=100000000)(hB:B<=w.heap.size)
   (h:∀v' w',RO B t s w' v' (l++[y])->w.grownBy w' v.ownBlock->(v'.ownBlock=v.ownBlock\/v'.ownBlock=some w.heap.size)->K (a.put o.dst v') w'):
   if Region.wanted o (yielded ops a.tmps)=true then Oper.wp Tryz.prog o a w K Q else E:=by
 rw[if_pos (by simp[Region.wanted,hg])];exact IL t T s A z O I S N F C x L B v l H M g c y P R G D J hB h
end
theorem oH(w:World)(t:TypeId)(cs:List Value):∀j u,cs[j]?=some u->(w.alloc (.cells cs.toArray t)).cell? ⟨w.heap.size,j,none⟩=some u:=fun j u A=>by rw[(Blk.new w t cs).cell j];exact A
theorem Q5(w:World)(n:Nat)(K:1<=n)(L:n<=1000):Calls Tryz.prog 109 #[.slice none 0 0,.int .i64 (n:Int)] w (pX w []):=by
 obtain⟨J,hi,D,E,F⟩:=info_parts Tryz.infoInt;have B:=Lib.run_append_nil_zeros (P:=Tryz.prog) w 22 3 22 3 J (.int .i64 0) .i64 .i64 Tryz.underlying22 Tryz.underlying3 hi D n (by omega) (by rw[E];decide) (by omega) (by rw[F];omega);generalize hcap:grownCap w n 0 3=A at B;have M:n<=A:=by rw[<-hcap];exact grownCap_ge w _ 0 _
 have C:A<=maxLen:=by rw[<-hcap];exact grownCap_le_maxLen w _ 0 _ (by unfold maxLen;omega)
 generalize hZ:(Builtin.zeroCells (Value.int .i64 0).cells n++Builtin.zeroCells (Value.int .i64 0).cells (A-n))=Z at B;have I:Z.size=A:=by rw[<-hZ];simp[size_zeroCells,Value.cells];omega
 have G:Hid (Below w.heap.size w (w.drew.alloc (.cells Z 3))):=aD (aA (aH w) (aF w.drew _));have H:Hid (OI w.heap.size (w.drew.alloc (.cells Z 3)) (.slice (some ⟨w.heap.size,0,none⟩) 0 A) []):=aD (World.ownsRow_made w.drew Z A zr C (by omega));have N:¬(n:Int)<0:=by omega
 have hn1:(0:Int)<(n:Int):=by omega
 have O:decide ((0:Int)<(n:Int))=true:=decide_eq_true hn1;clear hcap hZ I C hi D E F;go_enter Tryz.func109,Tryz.ntmps109;go_wp2_with (at_builtin;refine Lib.wpList_append_run _ rfl _ _ _ _ rfl _ _ rfl rfl _ _ B ?_)
 go_ret;exact⟨_,rfl,H.out,G.out⟩
def kM(l:LL)(k:Nat):LI:=(l.take k).flatten
theorem I6(l:LL):kM l l.length=l.flatten:=by unfold kM;rw[List.take_length]
theorem I7{l:LL}{k:Nat}(h:k<l.length):kM l (k+1)=kM l k++l.getD k []:=by unfold kM;rw[List.take_succ_eq_append_getElem h,List.flatten_append];simp[List.getD,h]
theorem QX{l:LL}{k:Nat}:(kM l k).length<=l.flatten.length:=by
 unfold kM;conv=>rhs;rw[<-List.take_append_drop k l,List.flatten_append,aZ1]
 omega
end Go.Proofs.YtpfhoemohibniaaGreatDoor
namespace Go.Proofs.YtpfhoemohibniaaGreatDoor
open Go.RowKit Go.ChangeMaps Go.MapKept
def iN:List (ByteArray×Value)->Nat->List MapEntry
 |[],_=>[]
 |p::l,i=>{key:=.string p.1,val:=p.2,born:=i}::iN l (i+1)
theorem CQ:∀(l:List (ByteArray×Value)) (i:Nat) (p:ByteArray×Value),iN (l++[p]) i=iN l i++[{key:=.string p.1,val:=p.2,born:=i+l.length}]
 |[],i,p=>rfl
 |q::l,i,p=>by rw[List.cons_append,iN,CQ l (i+1) p,iN,List.cons_append,List.length_cons,show i+1+l.length=i+(l.length+1) by omega]
theorem zN:∀{l:List (ByteArray×Value)} {i:Nat} {e:MapEntry},e∈iN l i->∃j,j<l.length/\e={key:=.string (l.getD j (ByteArray.empty,.nilFunc)).1,val:=(l.getD j (ByteArray.empty,.nilFunc)).2,born:=i+j}
 |[],i,e,h=>by simp[iN] at h
 |q::l,i,e,h=>by
  rw[iN,List.mem_cons] at h;rcases h with rfl|h
  .exact⟨0,by simp,rfl⟩
  .obtain⟨j,B,A⟩:=zN h;exact⟨j+1,by simpa using B,by rw[A,show i+1+j=i+(j+1) by omega];rfl⟩
theorem CP:∀(l:List (ByteArray×Value)) (i:Nat),(iN l i).map (·.born)=List.range' i l.length
 |[],i=>rfl
 |q::l,i=>by rw[iN,List.map_cons,CP l (i+1),List.length_cons,List.range'_succ]
def eX(w:World)(b:Nat)(l:List (ByteArray×Value)):Prop:=w.heap[b]?=some (.map (iN l 0).toArray l.length)
theorem eX.lt{w:World}{b:Nat}{l:List (ByteArray×Value)}(h:eX w b l):b<w.heap.size:=by
 unfold eX at h;rcases Nat.lt_or_ge b w.heap.size with A|A
 .exact A
 .rw[Array.getElem?_eq_none A] at h;cases h
theorem eX.grown{w w':World}{b:Nat}{l:List (ByteArray×Value)}{row:Option Nat}(h:eX w b l)(hg:w.grownBy w' row)(A:some b≠row):eX w' b l:=(hg.block b h.lt A).trans h
theorem eX.on{w w':World}{b:Nat}{l:List (ByteArray×Value)}(h:eX w b l)(hb:Below w.heap.size w w'):eX w' b l:=(hb.block b h.lt).trans h
theorem wU{w:World}{b:Nat}(o:Obj):w.grownBy (setBlock w b o) (some b):=⟨rfl,rfl,rfl,by simp[setBlock],fun k B A=>by have:b≠k:=fun e=>A (by rw[e]);simp[setBlock,this]⟩
theorem FC{a b:ByteArray}(h:a≠b):(a==b)=false:=by
 cases e:a==b with
 |false=>rfl
 |true=>exact absurd ((bytes_beq a b).1 e) h
theorem vY:∀(l:List (ByteArray×Value)) (i j:Nat) (s:ByteArray),(∀p∈l,p.1≠s)->Instr.findNow .string (.string s) (iN l i) j=some none
 |[],i,j,s,_=>rfl
 |q::l,i,j,s,h=>by have A:(s==q.1)=false:=FC fun e=>h q (by simp) e.symm;simp only[iN,Instr.findNow,Instr.sameNow,A];exact vY l (i+1) (j+1) s fun p B=>h p (by simp[B])
theorem CN:∀(l:List (ByteArray×Value)) (i j:Nat) (s:ByteArray) (v:Value),l.Pairwise (fun p q=>p.1≠q.1)->(s,v)∈l->∃k,Instr.findNow .string (.string s) (iN l i) j=some (some (k,v))
 |[],i,j,s,v,_,h=>by simp at h
 |q::l,i,j,s,v,hp,h=>by
  rw[List.pairwise_cons] at hp;rw[List.mem_cons] at h;rcases h with h|h
  .subst h;refine⟨j,?_⟩;simp only[iN,Instr.findNow,Instr.sameNow,(bytes_beq s s).2 rfl]
  .have A:(s==q.1)=false:=FC fun e=>hp.1 _ h e.symm;obtain⟨k,B⟩:=CN l (i+1) (j+1) s v hp.2 h;refine⟨k,?_⟩;simp only[iN,Instr.findNow,Instr.sameNow,A];exact B
section
variable {P:Program} {T K E:TypeId} (hT:P.underlying T=some (.map K E)) (hK:P.underlying K=some .string)
include hT hK
theorem bM{w:World}{b:Nat}{l:List (ByteArray×Value)}(h:eX w b l)(s:ByteArray)(v:Value)(E:∀p∈l,p.1≠s):
  ∃w',(Instr.mapUpdate T (.map (some b)) (.string s) v).run P w=.ok () w'/\eX w' b (l++[(s,v)])/\w.grownBy w' (some b)/\w'.heap.size=w.heap.size:=by
 have D:=h.lt;unfold eX at h;refine⟨setBlock w b (.map (iN (l++[(s,v)]) 0).toArray (l.length+1)),?_,?_,wU _,by simp[setBlock]⟩
 .have B:(Instr.checkKey false 10000 K (.string s)).run P w=.ok () w:=Go.MapKept.run_checkKey (P:=P) (w:=w) (k:=.string s) hK (by simp[IsKey]) false 9999;have C:=Go.MapKept.run_findKey (P:=P) (w:=w) hK (vY l 0 0 s E);have hg:=Go.MapKept.run_getObj_map (P:=P) h;have A:=Go.MapKept.run_setObj_map (P:=P) (.map (iN (l++[(s,v)]) 0).toArray (l.length+1)) h;rw[CQ,Nat.zero_add] at A|-;simp only[Instr.mapUpdate,Sem.run_bind,run_underlying hT,Result.andThen,hg,B,C];simp only[List.push_toArray];exact A
 .unfold eX setBlock;simp[D]
theorem O0{w:World}{b:Nat}{l:List (ByteArray×Value)}(h:eX w b l)(s:ByteArray)(C:∀p∈l,p.1≠s){z:Value}(D:(zeroValue E).run P w=.ok z w):
  (Instr.lookup T (.map (some b)) (.string s) false).run P w=.ok z w:=by
 unfold eX at h;have A:∀e,(Instr.checkKey e 10000 K (.string s)).run P w=.ok () w:=fun e=>Go.MapKept.run_checkKey (P:=P) (w:=w) (k:=.string s) hK (by simp[IsKey]) e 9999;have B:=Go.MapKept.run_findKey (P:=P) (w:=w) hK (vY l 0 0 s C);have hg:=Go.MapKept.run_getObj_map (P:=P) h;simp only[Instr.lookup,Sem.run_bind,run_underlying hT,Result.andThen,hg,Sem.run_pure,A,B,D];rfl
theorem DB {w : World} {b : Nat} {l : List (ByteArray × Value)} (h : eX w b l) (s : ByteArray) (v : Value) (D : l.Pairwise (fun p q => p.1 ≠ q.1)) (E : (s, v) ∈ l) :
   (Instr.lookup T (.map (some b)) (.string s) false).run P w=.ok v w:=by
 unfold eX at h;obtain⟨k,C⟩:=CN l 0 0 s v D E;have A:∀e,(Instr.checkKey e 10000 K (.string s)).run P w=.ok () w:=fun e=>Go.MapKept.run_checkKey (P:=P) (w:=w) (k:=.string s) hK (by simp[IsKey]) e 9999;have B:=Go.MapKept.run_findKey (P:=P) (w:=w) hK C;have hg:=Go.MapKept.run_getObj_map (P:=P) h;simp only[Instr.lookup,Sem.run_bind,run_underlying hT,Result.andThen,hg,Sem.run_pure,A,B];rfl
end
end Go.Proofs.YtpfhoemohibniaaGreatDoor
namespace Go.Proofs.YtpfhoemohibniaaGreatDoor
open Go.RowKit
structure PS(w:World)(g:Nat)(lv:Value)(toks:List (List Value))(i n k:Nat):Prop where
 blk:Blk w g 75 [lv,.int .i64 (i:Int),.int .i64 (n:Int),.int .i64 (k:Int)]
 tok:RG 4 w lv toks
 sep:∀b,lv.ownBlock=some b->b<g
 small:toks.length<=1000/\i<=1000/\n<=100000/\k<=1000
def XS(w:World)(v:Value)(e:Ending)(w':World):Prop:=e=.returned v/\∃m,w'=w.drewN m
section
variable {w w':World} {g:Nat} {lv:Value} {toks:List (List Value)} {i n k:Nat}
theorem RG.moved{s:Nat}{l:List (List Value)}(h:RG s w lv l)(D:∀p:Addr,lv.ownBlock=some p.block->p.block<w.heap.size->w'.cell? p=w.cell? p):RG s w' lv l:=by obtain⟨A,c,rfl,h⟩:=h;refine⟨A,c,rfl,fun k E=>?_⟩;obtain⟨B,e,C⟩:=h k E;subst e;exact⟨B,rfl,fun j u F=>by have:=C j u F;rw[D _ (by rw[bS];rfl) (World.block_lt_of_cell? _ _ this)];exact this⟩
theorem PS.kept(h:PS w g lv toks i n k){A C B:Nat}(hg:w.grownBy w' (some g))(hb:Blk w' g 75 [lv,.int .i64 (A:Int),.int .i64 (C:Int),.int .i64 (B:Int)])(F:A<=1000/\C<=100000/\B<=1000):PS w' g lv toks A C B:=
 ⟨hb,h.tok.moved fun p E D=>World.cell?_of_block (hg.block _ D fun e=>by have:=h.sep _ E;injection e with e;omega),h.sep,h.small.1,F⟩
theorem PS.grown(h:PS w g lv toks i n k){row:Option Nat}(hg:w.grownBy w' row)(A:∀b,row=some b->g<b):PS w' g lv toks i n k:=
 ⟨h.blk.grown hg (fun e=>by have:=A g e.symm;omega),h.tok.moved fun p C B=>World.cell?_of_block (hg.block _ B fun e=>by have:=h.sep _ C;have:=A _ e.symm;omega),h.sep,h.small⟩
theorem PS.drewN(h:PS w g lv toks i n k)(m:Nat):PS (w.drewN m) g lv toks i n k:=h.grown (row:=none) (aN (bI w m) none) (fun b e=>by cases e)
end
theorem qU(w:World)(g:Nat)(lv:Value)(toks:List (List Value))(i n k:Nat)(h:PS w g lv toks i n k)(hi:i<toks.length)(D:Int)(B:(toks.getD i [])[0]?=some (.int .i64 D)):
  Calls Tryz.prog 71 #[.pointer (some ⟨g,0,none⟩)] w (XS w (.int .i64 D)):=by
 have L:=h.small;obtain⟨A,c,rfl,_⟩:=id h.tok;obtain⟨E,rfl,C,G⟩:=h.tok.elt hi;have H:w.cell? ⟨g,0,none⟩=some (.slice (some E) toks.length c):=h.blk.cell 0;have I:w.cell? ⟨g,1,none⟩=some (.int .i64 (i:Int)):=h.blk.cell 1;have J:=C _ B;have F:(i:Int)<(toks.length:Int):=by omega
 have K:decide ((i:Int)<(toks.length:Int))=true:=decide_eq_true F;clear h B C G;generalize toks.length=l at*;go_enter Tryz.func71,Tryz.ntmps71;go_wp2_with fail
 go_quiet (fail)
 go_wp2_with fail
 go_quiet (fail)
 go_wp2_with fail;go_ret;exact⟨rfl,_,World.drewN_drewN _ _ _⟩
theorem SH(w:World)(g:Nat)(lv:Value)(toks:List (List Value))(i n k:Nat)(h:PS w g lv toks i n k)(hi:i<toks.length)(C:Int)(D:(toks.getD i [])[3]?=some (.int .i64 C)):
  Calls Tryz.prog 34 #[.pointer (some ⟨g,0,none⟩)] w (XS w (.int .i64 C)):=by
 have L:=h.small;obtain⟨A,c,rfl,_⟩:=id h.tok;obtain⟨B,rfl,G,E⟩:=h.tok.elt hi;have H:w.cell? ⟨g,0,none⟩=some (.slice (some B) toks.length c):=h.blk.cell 0;have I:w.cell? ⟨g,1,none⟩=some (.int .i64 (i:Int)):=h.blk.cell 1;have J:w.cell? ⟨(B.add (i*4)).block,(B.add (i*4)).off+3,none⟩=some (.int .i64 C):=E 2 _ D;have F:(i:Int)<(toks.length:Int):=by omega
 have K:decide ((i:Int)<(toks.length:Int))=true:=decide_eq_true F;clear h D G E;generalize toks.length=l at*;go_enter Tryz.func34,Tryz.ntmps34;go_wp2_with fail
 go_quiet (fail)
 go_wp2_with fail
 go_quiet (fail)
 go_wp2_with fail;go_ret;exact⟨rfl,_,World.drewN_drewN _ _ _⟩
theorem AF(w:World)(g:Nat)(lv:Value)(toks:List (List Value))(i n k:Nat)(h:PS w g lv toks i n k)(t:ByteArray)(hi:i<toks.length)(tx:ByteArray)(H:(toks.getD i [])[0]?=some (.int .i64 3))(I:(toks.getD i [])[1]?=some (.string tx))(hb:(tx.toList==t.toList)=true):
  Calls Tryz.prog 70 #[.pointer (some ⟨g,0,none⟩),.string t] w (fun e w'=>e=.returned (.bool true)/\w.grownBy w' (some g)/\PS w' g lv toks (i+1) n k):=by
 have X:=h.small;have R:PS w.drew g lv toks i n k:=h.grown (row:=none) (aN (aH w) none) (fun b e=>by cases e);obtain⟨A,c,rfl,_⟩:=id h.tok;obtain⟨B,rfl,T,M⟩:=h.tok.elt hi;have N:=zh (qU w.drew g _ toks i n k R hi _ H);have G:w.cell? ⟨(B.add (i*4)).block,(B.add (i*4)).off+1,none⟩=some (.string tx):=M 0 _ I;have O:(i:Int)<(toks.length:Int):=by omega
 have V:decide ((i:Int)<(toks.length:Int))=true:=decide_eq_true O;clear T M H I;have E:w.cell? ⟨g,0,none⟩=some (.slice (some B) toks.length c):=h.blk.cell 0;have F:w.cell? ⟨g,1,none⟩=some (.int .i64 (i:Int)):=h.blk.cell 1;have W:w.frozen? ⟨g,1,none⟩=false:=h.blk.frozen 1;have D:=zh h;clear h;generalize hL:toks.length=L at*;have U:=zh hL;clear hL;go_enter Tryz.func70,Tryz.ntmps70;go_wp2_with fail;refine aG.start (S:=fun w'=>w'.cell? ⟨g,0,none⟩=some (.slice (some B) L c)/\w'.cell? ⟨g,1,none⟩=some (.int .i64 (i:Int))/\w'.cell? ⟨(B.add (i*4)).block,(B.add (i*4)).off+1,none⟩=some (.string tx)) (by kernel_rfl) (⟨E,F,G⟩) (fun C=>?_);change aG _ _ _ _ 18 _ _ _;refine tq 0 ?_;try simp only[tz]
 refine aG.only (i:=1) (by kernel_rfl) rfl (fun K hK=>?_);go_simp;refine(N.out).mono ?_;rintro e Y ⟨rfl,m,rfl⟩;refine hK.out _ _ (⟨E,F,G⟩) ?_;clear hK K C;intro C;try simp only[tz]
 refine tq 2 ?_;refine tq 3 ?_;refine tq 4 ?_;refine tq 5 ?_;refine tq 6 ?_;refine tq 7 ?_;refine tq 8 ?_;refine tq 9 ?_;refine tq 10 ?_;refine tq 11 ?_;refine tq 12 ?_;refine tq 13 ?_;refine tq 14 ?_;refine tq 15 ?_;refine tq 16 ?_;try simp only[tz]
 refine aG.only (i:=17) (by kernel_rfl) rfl (fun K hK=>?_);go_simp;refine hK.out _ _ C (fun P=>?_);clear hK K;clear P;refine aG.done (by kernel_rfl) ?_;try simp only[tz]
 clear C;go_wp2_with fail;go_ret;have hg:=aN (bI w (1+m)) (some g);have hb:=D.blk.belowS (bI w (1+m));have Q:=hb.set_ 1 (.int .i64 ((i:Int)+1));have J:=aX hg (aP (p:=⟨g,1,none⟩) (World.grownBy.refl _ _) (.inl rfl) (.int .i64 ((i:Int)+1)));exact⟨rfl,J,D.kept J (by simpa using Q) ⟨by omega,by omega,by omega⟩⟩
theorem SJ(w:World)(g:Nat)(lv:Value)(toks:List (List Value))(i n k:Nat)(h:PS w g lv toks i n k)(t:ByteArray)(hi:i<toks.length)(tx:ByteArray)(H:(toks.getD i [])[0]?=some (.int .i64 3))(I:(toks.getD i [])[1]?=some (.string tx))(hb:(tx.toList==t.toList)=false):
  Calls Tryz.prog 70 #[.pointer (some ⟨g,0,none⟩),.string t] w (fun e w'=>e=.returned (.bool false)/\w.grownBy w' (some g)/\PS w' g lv toks i n k):=by
 have V:=h.small;have P:PS w.drew g lv toks i n k:=h.grown (row:=none) (aN (aH w) none) (fun b e=>by cases e);obtain⟨A,c,rfl,_⟩:=id h.tok;obtain⟨B,rfl,Q,J⟩:=h.tok.elt hi;have M:=zh (qU w.drew g _ toks i n k P hi _ H);have G:w.cell? ⟨(B.add (i*4)).block,(B.add (i*4)).off+1,none⟩=some (.string tx):=J 0 _ I;have N:(i:Int)<(toks.length:Int):=by omega
 have T:decide ((i:Int)<(toks.length:Int))=true:=decide_eq_true N;clear Q J H I;have E:w.cell? ⟨g,0,none⟩=some (.slice (some B) toks.length c):=h.blk.cell 0;have F:w.cell? ⟨g,1,none⟩=some (.int .i64 (i:Int)):=h.blk.cell 1;have U:w.frozen? ⟨g,1,none⟩=false:=h.blk.frozen 1;have D:=zh h;clear h;generalize hL:toks.length=L at*;have R:=zh hL;clear hL;go_enter Tryz.func70,Tryz.ntmps70;go_wp2_with fail;refine aG.start (S:=fun w'=>w'.cell? ⟨g,0,none⟩=some (.slice (some B) L c)/\w'.cell? ⟨g,1,none⟩=some (.int .i64 (i:Int))/\w'.cell? ⟨(B.add (i*4)).block,(B.add (i*4)).off+1,none⟩=some (.string tx)) (by kernel_rfl) (⟨E,F,G⟩) (fun C=>?_);change aG _ _ _ _ 18 _ _ _;refine tq 0 ?_;try simp only[tz]
 refine aG.only (i:=1) (by kernel_rfl) rfl (fun K hK=>?_);go_simp;refine(M.out).mono ?_;rintro e W ⟨rfl,m,rfl⟩;refine hK.out _ _ (⟨E,F,G⟩) ?_;clear hK K C;intro C;try simp only[tz]
 refine tq 2 ?_;refine tq 3 ?_;refine tq 4 ?_;refine tq 5 ?_;refine tq 6 ?_;refine tq 7 ?_;refine tq 8 ?_;refine tq 9 ?_;refine tq 10 ?_;refine tq 11 ?_;refine tq 12 ?_;refine tq 13 ?_;refine tq 14 ?_;refine tq 15 ?_;refine tq 16 ?_;try simp only[tz]
 refine aG.only (i:=17) (by kernel_rfl) rfl (fun K hK=>?_);go_simp;refine hK.out _ _ C (fun O=>?_);clear hK K;clear O;refine aG.done (by kernel_rfl) ?_;try simp only[tz]
 clear C;go_wp2_with fail;go_ret;have hg:=aN (bI w (1+m)) (some g);exact⟨rfl,hg,D.kept hg (D.blk.belowS (bI w (1+m))) ⟨by omega,by omega,by omega⟩⟩
theorem AE(w:World)(g:Nat)(lv:Value)(toks:List (List Value))(i n k:Nat)(h:PS w g lv toks i n k)(t:ByteArray)(hi:i<toks.length)(G:Int)(F:(toks.getD i [])[0]?=some (.int .i64 G))(hb:(G==3)=false):
  Calls Tryz.prog 70 #[.pointer (some ⟨g,0,none⟩),.string t] w (fun e w'=>e=.returned (.bool false)/\w.grownBy w' (some g)/\PS w' g lv toks i n k):=by
 have O:=h.small;have J:PS w.drew g lv toks i n k:=h.grown (row:=none) (aN (aH w) none) (fun b e=>by cases e);obtain⟨A,c,rfl,_⟩:=id h.tok;have H:=zh (qU w.drew g _ toks i n k J hi _ F);clear F;have D:w.cell? ⟨g,0,none⟩=some (.slice A toks.length c):=h.blk.cell 0;have E:w.cell? ⟨g,1,none⟩=some (.int .i64 (i:Int)):=h.blk.cell 1;have N:w.frozen? ⟨g,1,none⟩=false:=h.blk.frozen 1;have C:=zh h;clear h;generalize hL:toks.length=L at*;have M:=zh hL;clear hL;go_enter Tryz.func70,Tryz.ntmps70;go_wp2_with fail;refine aG.start (S:=fun w'=>w'.cell? ⟨g,0,none⟩=some (.slice A L c)/\w'.cell? ⟨g,1,none⟩=some (.int .i64 (i:Int))) (by kernel_rfl) (⟨D,E⟩) (fun B=>?_);change aG _ _ _ _ 18 _ _ _;refine tq 0 ?_;try simp only[tz]
 refine aG.only (i:=1) (by kernel_rfl) rfl (fun K hK=>?_);go_simp;refine(H.out).mono ?_;rintro e P ⟨rfl,m,rfl⟩;refine hK.out _ _ (⟨D,E⟩) ?_;clear hK K B;intro B;try simp only[tz]
 refine tq 2 ?_;refine tq 3 ?_;try simp only[tz]
 refine aG.take (i:=4) (v:=undef) rfl (by kernel_rfl) (by kernel_rfl) (by kernel_rfl) (fun _ _ _ h=>h) (Or.inr ⟨by kernel_rfl,rfl⟩) B ?_;try simp only[tz]
 refine aG.take (i:=5) (v:=undef) rfl (by kernel_rfl) (by kernel_rfl) (by kernel_rfl) (fun _ _ _ h=>h) (Or.inr ⟨by kernel_rfl,rfl⟩) B ?_;try simp only[tz]
 refine aG.take (i:=6) (v:=undef) rfl (by kernel_rfl) (by kernel_rfl) (by kernel_rfl) (fun _ _ _ h=>h) (Or.inr ⟨by kernel_rfl,rfl⟩) B ?_;try simp only[tz]
 refine aG.take (i:=7) (v:=undef) rfl (by kernel_rfl) (by kernel_rfl) (by kernel_rfl) (fun _ _ _ h=>h) (Or.inr ⟨by kernel_rfl,rfl⟩) B ?_;try simp only[tz]
 refine aG.take (i:=8) (v:=undef) rfl (by kernel_rfl) (by kernel_rfl) (by kernel_rfl) (fun _ _ _ h=>h) (Or.inr ⟨by kernel_rfl,rfl⟩) B ?_;try simp only[tz]
 refine aG.take (i:=9) (v:=undef) rfl (by kernel_rfl) (by kernel_rfl) (by kernel_rfl) (fun _ _ _ h=>h) (Or.inr ⟨by kernel_rfl,rfl⟩) B ?_;try simp only[tz]
 refine aG.take (i:=10) (v:=undef) rfl (by kernel_rfl) (by kernel_rfl) (by kernel_rfl) (fun _ _ _ h=>h) (Or.inr ⟨by kernel_rfl,rfl⟩) B ?_;try simp only[tz]
 refine aG.take (i:=11) (v:=undef) rfl (by kernel_rfl) (by kernel_rfl) (by kernel_rfl) (fun _ _ _ h=>h) (Or.inr ⟨by kernel_rfl,rfl⟩) B ?_;try simp only[tz]
 refine aG.take (i:=12) (v:=undef) rfl (by kernel_rfl) (by kernel_rfl) (by kernel_rfl) (fun _ _ _ h=>h) (Or.inr ⟨by kernel_rfl,rfl⟩) B ?_;try simp only[tz]
 refine aG.take (i:=13) (v:=undef) rfl (by kernel_rfl) (by kernel_rfl) (by kernel_rfl) (fun _ _ _ h=>h) (Or.inr ⟨by kernel_rfl,rfl⟩) B ?_;try simp only[tz]
 refine aG.take (i:=14) (v:=undef) rfl (by kernel_rfl) (by kernel_rfl) (by kernel_rfl) (fun _ _ _ h=>h) (Or.inr ⟨by kernel_rfl,rfl⟩) B ?_;try simp only[tz]
 refine aG.take (i:=15) (v:=undef) rfl (by kernel_rfl) (by kernel_rfl) (by kernel_rfl) (fun _ _ _ h=>h) (Or.inr ⟨by kernel_rfl,rfl⟩) B ?_;try simp only[tz]
 refine aG.take (i:=16) (v:=undef) rfl (by kernel_rfl) (by kernel_rfl) (by kernel_rfl) (fun _ _ _ h=>h) (Or.inr ⟨by kernel_rfl,rfl⟩) B ?_;try simp only[tz]
 refine aG.only (i:=17) (by kernel_rfl) rfl (fun K hK=>?_);go_simp;refine hK.out _ _ B (fun I=>?_);clear hK K;clear I;refine aG.done (by kernel_rfl) ?_;try simp only[tz]
 clear B;go_wp2_with fail;go_ret;have hg:=aN (bI w (1+m)) (some g);exact⟨rfl,hg,C.kept hg (C.blk.belowS (bI w (1+m))) ⟨by omega,by omega,by omega⟩⟩
theorem OM.app{B:Nat}{X:Nat->Prop}{w w1:World}{g n c:Nat}{l:LL}(h:OM B X w (.slice (some ⟨g,0,none⟩) n c) l)(Y:∀g,X g->g<w.heap.size){i:Nat}(hi:i<l.length){u E:Value}(T:w.cell? ⟨g,i,none⟩=some u)
   (hg:w.grownBy w1 u.ownBlock){ys:LI}(Z:OI B w1 E ys)(m:E.ownBlock=u.ownBlock\/E.ownBlock=some w.heap.size):
   OM B X (w1.setCell ⟨g,i,none⟩ E) (.slice (some ⟨g,0,none⟩) n c) (l.set i ys):=by
 have R:=h.lt (g:=g) rfl;obtain⟨us,h⟩:=h;rw[h.hd hi] at T;obtain rfl:=aZ0 T;have hn:=h.lenEq;subst hn;have Q:∀j,j<l.length->∀b,(us j).ownBlock=some b->b<w.heap.size:=fun j H b D=>((h.2.1 j H).1.lt D).2;obtain⟨V,I,L,f⟩:=h;have W:w1.ownsRow B 22 1 (.slice (some ⟨g,0,none⟩) l.length c) l.length ((List.range l.length).map us):=by
   refine World.ownsRow.kept V hg ?_;cases hb:(us i).ownBlock with
   |none=>exact .inr (by intro e;cases e)
   |some b=>exact .inr ((I i hi).2 b hb).1
 have d:=(World.ownsRow.stored W i E).1;have S:=bF w1 g i E;have K:∀b,E.ownBlock=some b->(us i).ownBlock=some b\/b=w.heap.size:=fun b hb=>by
   rcases m with e|e
   . exact .inl (e.symm.trans hb)
   . exact .inr (aZ0 (hb.symm.trans e))
 refine⟨fun j=>if i=j then E else us j,?_,fun j H=>?_,fun a b J D P F G=>?_,f⟩
 . have e : ((List.range l.length).map us).set i E = (List.range (l.set i ys).length).map fun j => if i = j then E else us j := by
     rw[aZ9];refine List.ext_getElem (by simp) fun k o p=>?_;simp only[List.getElem_set,List.getElem_map,List.getElem_range]
   rw[<-e,aZ9];exact d
 . rw[aZ9] at H;rw[cE];by_cases e:i=j
   . subst e;rw[if_pos ⟨rfl,hi⟩];dsimp only;rw[if_pos rfl];refine⟨Z.grown S fun b D A=>?_,fun b D=>⟨fun A=>?_,fun U=>?_⟩⟩
     . have O:g=b:=aZ0 A;rcases K b D with C|C
       . exact((I i hi).2 b C).1 (by rw[O.symm];rfl)
       . have:=R.2;omega
     . have O:g=b:=aZ0 A;rcases K b D with C|C
       . exact((I i hi).2 b C).1 (by rw[O.symm];rfl)
       . have:=R.2;omega
     . rcases K b D with C|C
       . exact((I i hi).2 b C).2 U
       . have:=Y b U;omega
   . rw[if_neg (fun h=>e h.1)];dsimp only;rw[if_neg e];exact⟨((I j H).1.grown hg fun b hb A=>L j i H hi (fun N=>e N.symm) b hb A).grown S fun b D A=>((I j H).2 b D).1 A,(I j H).2⟩
 . rw[aZ9] at J D;dsimp only at G|-;by_cases M:i=a
   . rw[if_pos M] at G;rw[if_neg (by omega)];intro A;rcases K F G with C|C
     . exact L a b J D P F (by rw[<-M];exact C) A
     . have:=Q b D F A;omega
   . rw[if_neg M] at G;by_cases A:i=b
     . rw[if_pos A];intro N;rcases K F N with C|C
       . exact L a b J D P F G (by rw[<-A];exact C)
       . have:=Q a J F G;omega
     . rw[if_neg A];exact L a b J D P F G
end Go.Proofs.YtpfhoemohibniaaGreatDoor
