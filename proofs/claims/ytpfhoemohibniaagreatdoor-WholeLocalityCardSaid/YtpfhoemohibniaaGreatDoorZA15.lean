/- Texts of a claim, merged. -/
import Derived.Test.YtpfhoemohibniaaGreatDoorZA10
import Derived.Test.YtpfhoemohibniaaGreatDoorZA11
import Derived.Test.YtpfhoemohibniaaGreatDoorZA12
set_option maxRecDepth 100000
set_option linter.unusedSimpArgs false
set_option linter.unusedVariables false
set_option linter.unusedSectionVars false
set_option maxHeartbeats 32000000
namespace Go.Proofs.YtpfhoemohibniaaGreatDoor
open Go.RowKit
def XP(w:World)(xss:LL)(ys:LI)(e:Ending)(w':World):Prop:=∃A B,e=.returned (.tuple #[A,B])/\Sep w.heap.size w' (fun w2=>SS w2 A xss)/\OS w.heap.size (fun g=>g<w.heap.size) w' A xss/\OI w.heap.size w' B ys/\Below w.heap.size w w'
theorem OS.takeN{B:Nat}{X:Nat->Prop}{w:World}{A:Option Addr}{n c:Nat}{l:LL}(h:OS B X w (.slice A n c) l){k:Nat}(R:k<=l.length):OS B X w (.slice A k c) (l.take k):=by
 obtain⟨us,I,hi⟩:=h;have S:us.length=l.length:=by have:=I.1;omega
 have C:(l.take k).length=k:=by rw[aY3];omega
 have N:∀g,(Value.slice A k c).ownBlock=some g->(Value.slice A n c).ownBlock=some g:=fun g hg=>by
  cases A with
  |none=>simp[Value.ownBlock] at hg
  |some ad=>simpa[Value.ownBlock] using hg
 refine⟨us.take k,⟨by rw[C,aY3];omega,?_⟩,fun i F=>?_⟩
 .rcases I.2 with⟨e,E⟩|⟨g,Q,K,e,hg,L,hn,hm,G,O⟩
  .injection e with e1 e2 e3
   subst e1 e3;refine .inl ⟨?_,by rw[C];omega⟩;rw[show k=0 by omega]
  .injection e with e1 e2 e3
   subst e1 e3;refine .inr ⟨g,c,K,by rw[C],hg,L,by rw[C];omega,hm,G,?_⟩;rw[<-O,List.take_take,C,Nat.min_eq_left (by omega),Nat.mul_one]
 .rw[C] at F;obtain⟨y,P,G,J⟩:=hi i (by omega);have M:(l.take k).getD i []=l.getD i []:=by simp[List.getD,List.getElem?_take,F]
  rw[M];exact⟨y,by rw[List.getElem?_take,if_pos F];exact P,G,fun E D H=>⟨fun e=>(J E D H).1 (N D e),(J E D H).2⟩⟩
theorem SS.takeN{w:World}{A:Option Addr}{n c:Nat}{xss:LL}(h:SS w (.slice A n c) xss){k:Nat}(H:k<=xss.length):SS w (.slice A k c) (xss.take k):=by
 obtain⟨G,c',e,h⟩:=h;injection e with e1 e2 e3;subst e1 e3;have C:(xss.take k).length=k:=by rw[aY3];omega
 refine⟨A,c,by rw[C],by have:=h.len;omega,by have:=h.cap;omega,fun j B=>?_⟩;rw[C] at B;obtain⟨D,u,e,E,F⟩:=h.cell j (by omega);exact⟨D,u,e,E,by rw[show(xss.take k).getD j []=xss.getD j [] by simp[List.getD,List.getElem?_take,B]];exact F⟩
theorem J2(w:World)(P M:Int)(A L:Nat)(mv v:Value)(Mod:LI)(rows:LL)(hm:SI w mv Mod)(a:SS w v rows)(W:aC P M≠0)(U:pW P M Mod)
  (hR:Rows (aC P M) L rows)(S:A<=L)(Q:L<=100000)(hn:rows.length<=100000):
  Calls Tryz.prog 80 #[.agg #[.int .i64 P,.int .i64 M,mv],v,.int .i64 (A:Int)] w (XP w (bC (aB P M Mod) rows A) (jX (aB P M Mod) rows A)):=by
 have f:=zh (fun w' (hb:Below w.heap.size w w')=>OL w' P M A L mv v Mod rows (hm.below hb zr) (a.below hb zr) W U hR S Q hn);have X:=jT (aB P M Mod) rows A;have T:=eQ (aB P M Mod) rows A;have C:Hid (bC (aB P M Mod) rows A=(aI (aB P M Mod) rows A).1.take (aI (aB P M Mod) rows A).2.length/\jX (aB P M Mod) rows A=(aI (aB P M Mod) rows A).2):=⟨rfl,rfl⟩
 obtain⟨l,H⟩:∃l,l=(aI (aB P M Mod) rows A).1:=⟨_,rfl⟩
 obtain⟨piv,J⟩:∃piv,piv=(aI (aB P M Mod) rows A).2:=⟨_,rfl⟩
 rw[<-H] at T C;rw[<-J] at X C;have i:=zh H;have k:=zh J;clear H J;obtain⟨n,V⟩:∃n,n=l.length:=⟨_,rfl⟩
 obtain⟨r,Z⟩:∃r,r=piv.length:=⟨_,rfl⟩
 have Y:r<=n:=by omega
 have t:n<=100000:=by omega
 have D:=zh V;have G:=zh Z;clear V Z T X hm a W U hR S Q hn;go_enter Tryz.func80,Tryz.ntmps80;go_wp2_with fail;refine(f _ (aF _ _)).mono ?_;rintro e w1 ⟨x,y,rfl,B,E,R⟩;rw[<-i.out] at B;rw[<-k.out] at E;obtain⟨O,F,rfl⟩:=B.form;obtain⟨b,o,rfl⟩:=E.form';have I:OS w.heap.size (fun g=>g<w.heap.size) w1 (.slice O l.length F) l:=(B.names (fun g _ hg=>by rw[World.size_alloc];omega)).mono (by rw[World.size_alloc];omega);have N:=B.ss (by rw[<-D.out];omega);have K:=(B.sep (fun g hg=>hg) (by rw[<-D.out];omega)).mono (B':=w.heap.size) (by rw[World.size_alloc];omega);have p:l.length<=F:=by obtain⟨_,_,e,q⟩:=N;injection e with e1 e2 e3;rw[e3];exact q.cap
 rw[<-D.out] at N K I p|-;rw[<-G.out] at E|-;have m:=zh K;have j:=zh I;have c:=zh E;have d:=zh (aA (aF _ _) R);clear N K I B E R;have u:r<=F:=by omega
 go_wp2_with fail;go_ret2;have s:w.heap.size<=(w.alloc (.cells #[.int .i64 P,.int .i64 M,mv] 24)).heap.size:=by rw[World.size_alloc];omega
 rw[C.out.2];refine⟨.slice O r F,.slice b r o,rfl,?_,?_,c.mono s,d.out⟩
 .rw[C.out.1,<-G.out];exact m.imp fun w2 h=>h.takeN (by rw[<-D.out];exact Y)
 .rw[C.out.1,<-G.out];exact j.takeN (by rw[<-D.out];exact Y)
noncomputable def spaceE(P M:Int)(Mod:LI)(A:Int)(rows:LL):Int:=
 if dK P M Mod A rows≠0 then dK P M Mod A rows else if bC (aB P M Mod) rows A.toNat=rows then 0 else 5
theorem FH{P M:Int}{Mod:LI}(h:cN P M Mod=0):cK P M Mod:=by
 unfold cN at h;split at h
 .assumption
 .cases h
theorem A8{q:Int}{l:LI}(h:cM q l=0):∀k,k<l.length->0<=l.getD k 0/\l.getD k 0<q:=by
 unfold cM at h;split at h
 .assumption
 .cases h
theorem dE{P M:Int}{Mod:LI}{A:Int}{rows:LL}(h:dK P M Mod A rows=0):
  cK P M Mod/\0<=A/\A<=256/\rows.length<=256/\Rows (aC P M) A.toNat rows:=by
 unfold dK at h;split at h
 .rename_i h1;exact absurd h h1
 rename_i h1;split at h
 .cases h
 rename_i h2;split at h
 case isFalse=>cases h
 rename_i h3;split at h
 case isFalse=>cases h
 rename_i h4;have B:=FH (Decidable.not_not.1 h1);have hq:=(bN B.1).2.2.2.2.1;refine⟨B,by omega,by omega,by omega,fun k E=>?_⟩;rw[qP,List.all_eq_true] at h3;rw[vT,List.all_eq_true] at h4;have hm:rows.getD k []∈rows:=by simp[List.getD,E]
 have D:=h3 _ hm;have C:=h4 _ hm;rw[beq_iff_eq] at D C;refine⟨by omega,fun i=>?_⟩;by_cases hi:i<(rows.getD k []).length
 .exact A8 C i hi
 .rw[aW (by omega)];have:=aK P M;have:=B.1;omega
theorem G0(w:World)(P M D:Int)(mv X:Value)(Mod:LI)(rows:LL)(hm:SI w mv Mod)(K:SS w X rows):
  Calls Tryz.prog 37 #[.agg #[.int .i64 P,.int .i64 M,mv],.agg #[.int .i64 D,X]] w (iJ w (spaceE P M Mod D rows)):=by
 obtain⟨A,c,rfl,K⟩:=K;have N:=zh hm;have I:=zh (show SS w (.slice A rows.length c) rows from⟨A,c,rfl,K⟩);clear K hm;obtain⟨n,hn⟩:∃n,n=rows.length:=⟨_,rfl⟩
 have B:=zh (fU.mk' w P M mv D (.slice A n c));rw[<-hn] at I|-;have S:=zh hn;clear hn;by_cases F:dK P M Mod D rows=0
 case neg=>
  have Z:Hid (spaceE P M Mod D rows=dK P M Mod D rows):=by show _=_;unfold spaceE;rw[if_pos F]
  have hb:(dK P M Mod D rows !=0)=true:=by rw[bne_iff_ne];exact F
  clear F;go_enter Tryz.func37,Tryz.ntmps37;go_wp2_with fail;generalize hw0:(w.alloc (.cells #[.int .i64 P,.int .i64 M,mv] 24)).alloc (.cells #[.int .i64 D,.slice A n c] 86)=w0 at*;have c0:=B.fb.c0;have c1:=B.fb.c1;have c2:=B.fb.c2;have d0:=B.d0;have d1:=B.d1;go_wp2_with fail;refine(xD _ P M D mv _ Mod rows (N.below B.fb.bel zr) (I.below B.fb.bel zr)).mono ?_;rintro e w1 ⟨rfl,J⟩;have Y:=zh (aA B.fb.bel J);clear J;go_wp2_with fail;go_ret;exact⟨by rw[Z.out];rfl,Y.out⟩
 obtain⟨V,g,h,f,O⟩:=dE F;have H:Hid (spaceE P M Mod D rows=if bC (aB P M Mod) rows D.toNat=rows then 0 else 5):=by show _=_;unfold spaceE;rw[if_neg (by simpa using F)]
 obtain⟨C,hC⟩:∃C:Nat,D=(C:Int):=⟨D.toNat,by omega⟩
 subst hC;rw[aZ8] at O H;have a:=zh F;have R:=zh V;have b:=zh O;rw[S.out.symm] at f;clear F V O;go_enter Tryz.func37,Tryz.ntmps37;go_wp2_with fail;generalize hw0:(w.alloc (.cells #[.int .i64 P,.int .i64 M,mv] 24)).alloc (.cells #[.int .i64 (C:Int),.slice A n c] 86)=w0 at*;have c0:=B.fb.c0;have c1:=B.fb.c1;have c2:=B.fb.c2;have d0:=B.d0;have d1:=B.d1;go_wp2_with fail;refine(xD _ P M C mv _ Mod rows (N.below B.fb.bel zr) (I.below B.fb.bel zr)).mono ?_;rintro e w1 ⟨rfl,J⟩;rw[a.out];have E:=zh (B.on J);clear J c0 c1 c2 d0 d1;have c0:=E.fb.c0;have c1:=E.fb.c1;have c2:=E.fb.c2;have d0:=E.d0;have d1:=E.d1;go_wp2_with fail;refine(J2 _ P M C C mv _ Mod rows (N.below E.fb.bel zr) (I.below E.fb.bel zr) R.1 R.2.2.1 b zr (by omega) (by rw[<-S.out];omega)).mono ?_;rintro e w2 ⟨i,j,rfl,W,_,_,T⟩;have d:=zh W.out;have L:=zh (E.on T);clear T W c0 c1 c2 d0 d1;have d1:=L.d1;go_wp2_with fail;refine(BN _ _ _ (bC (aB P M Mod) rows C) rows d (I.below L.fb.bel zr)).mono ?_;rintro e k ⟨rfl,U⟩;have Q:=zh (aA L.fb.bel U);clear U;by_cases G:bC (aB P M Mod) rows C=rows
 .rw[show decide (bC (aB P M Mod) rows C=rows)=true from decide_eq_true G];rw[if_pos G] at H;clear G;go_wp2_with fail;go_ret;exact⟨by rw[H.out];rfl,Q.out⟩
 .rw[show decide (bC (aB P M Mod) rows C=rows)=false from decide_eq_false G];rw[if_neg G] at H;clear G;go_wp2_with fail;go_ret;exact⟨by rw[H.out];rfl,Q.out⟩
def LK(n:Nat):Nat->LI
 |0=>List.replicate n 0
 |k+1=>(LK n k).set k (-1)
theorem N2(n:Nat):∀k,(LK n k).length=n
 |0=>by simp[LK]
 |k+1=>by rw[LK,aZ9,N2 n k]
theorem tH(O:aO)(l:LL)(p:LI)(n:Nat):∀c,(bQ O l p n c).length<=c
 |0=>Nat.le_refl _
 |c+1=>by
  have:=tH O l p n c;rw[bQ];split
  .omega
  .rw[aZ1,aZ2];omega
end Go.Proofs.YtpfhoemohibniaaGreatDoor
namespace Go.Proofs.YtpfhoemohibniaaGreatDoor
section
variable {O:aO} {q:Int} (hO:O.Fld q)
include hO
omit hO in
theorem dP.fst{n:Nat}{A:LL}{p:LI}(hA:dP O q n A p){i:Nat}(hi:i<A.length):CC (A.getD i [])=pvt p i:=by have B:=(hA.rows i hi).1;have C:=hA.lt i hi;exact Q0 (by omega) (hA.low i hi) (fun _=>by rw[show(A.getD i []).getD (pvt p i) 0=1 from hA.one i hi];decide)
theorem G4{n:Nat}{A:LL}{p:LI}(hA:dP O q n A p){x:LI}(B:Rng q x)(C:x.length=n)(j:Nat):∀i,i<=A.length->
  (qW O A x i).getD j 0=O.add (x.getD j 0) (aR O (fun k=>O.mul (O.neg (x.getD (pvt p k) 0)) (ent A k j)) i)
 |0,_=>(hO.add_zero _ (B j).1 (B j).2).symm
 |i+1,hi=>by rw[qW,qC hO _ (AK hO.lt A B i) (by rw[AJ,C,(hA.rows i (by omega)).1];exact Nat.le_refl _),G4 hA B C j i (by omega),hA.fst (by omega),aR,hO.add_assoc];rfl
theorem qE{n:Nat}{rows:LL}(hR:Rows q n rows)(x:LI)(j:Nat):∀i,i<=rows.length->(eG O x rows n i).getD j 0=aR O (fun k=>O.mul (x.getD k 0) (ent rows k j)) i
 |0,_=>by simp[eG,aR,List.getD,List.getElem?_replicate];split<;>rfl
 |i+1,hi=>by
  rw[eG,aR];by_cases e:x.getD i 0=0
  .rw[if_neg (by simpa using e),qE hR x j i (by omega),e,hO.zero_mul,hO.add_zero _ (cW hO _ _).1 (cW hO _ _).2]
  .rw[if_pos e,qC hO _ (jR hO.lt x rows n i) (by rw[fX,(hR i (by omega)).1];exact Nat.le_refl _),qE hR x j i (by omega)];rfl
theorem mC{n:Nat}{rows:LL}(hR:Rows q n rows){x:LI}(A:x.length=rows.length)(j:Nat):(gP O x rows n).getD j 0=aR O (fun k=>O.mul (x.getD k 0) (ent rows k j)) rows.length:=by unfold gP;rw[A,Nat.min_self,qE hO hR x j _ zr]
theorem yU{n:Nat}{rows:LL}(hR:Rows q n rows){x:LI}(A:x.length=rows.length):aV O rows fun j=>(gP O x rows n).getD j 0:=⟨fun k=>x.getD k 0,mC hO hR A⟩
end
theorem zE{a b:LI}(C:a.length=b.length)(h:∀j,j<a.length->a.getD j 0=b.getD j 0):a=b:=by refine List.ext_getElem C fun j A B=>?_;have:=h j A;rwa[aZ4,aZ4,aZ3 A,aZ3 B] at this
section
variable {O:aO} {q:Int} (hO:O.Fld q)
include hO
variable {n:Nat} {A:LL} {p:LI} (hA:dP O q n A p)
include hA
end
def XB(O:aO)(A B:LL):LL:=B.map (SX O A)
section
variable {O:aO} {q:Int} (hO:O.Fld q)
include hO
variable {n:Nat} {A B:LL} {p:LI} (hA:dP O q n A p) (hB:Rows q n B)
include hA hB
end
section
variable {O:aO} {q:Int} (hO:O.Fld q)
include hO
end
def nB(v set:LI):LI:=aQ set.length fun k=>v.getD (set.getD k 0).toNat 0
def dH(rows:LL)(set:LI):LL:=rows.map fun r=>nB r set
def gU(rows:LL)(m:Nat):LL:=(List.range m).map fun j=>aQ rows.length fun i=>ent rows i j
def mmL(O:aO)(C rows:LL)(n:Nat):LL:=C.map fun c=>gP O c rows n
def bT(set:LI)(n:Nat):LI:=((List.range n).filter fun(i:Nat)=>!(set.any fun x=>x==(i:Int))).map fun(i:Nat)=>(i:Int)
def sQ(n p:Nat):LI:=(List.replicate n (0:Int)).set p 1
def KF(O:aO)(rows:LL)(n:Nat)(A:LI):LL:=bC O (mmL O (cA O (gU (dH rows A) A.length) rows.length) rows n) n
theorem jA(v set:LI):(nB v set).length=set.length:=aT _ _
theorem dX(rows:LL)(set:LI):(dH rows set).length=rows.length:=by simp[dH]
theorem iD(rows:LL)(m:Nat):(gU rows m).length=m:=by simp[gU]
theorem mX(O:aO)(C rows:LL)(n:Nat):(mmL O C rows n).length=C.length:=by simp[mmL]
theorem lR{α:Type}(f:LI->α)(d:α)(l:LL){k:Nat}(A:k<l.length):(l.map f).getD k d=f (l.getD k []):=by simp[List.getD,A]
theorem QR(rows:LL)(set:LI){i j:Nat}(hi:i<rows.length)(A:j<set.length):ent (dH rows set) i j=ent rows i (set.getD j 0).toNat:=by unfold ent dH;rw[lR _ _ _ hi,nB,aS A]
theorem rE(rows:LL){m j:Nat}(A:j<m):(gU rows m).getD j []=aQ rows.length fun i=>ent rows i j:=by simp[gU,List.getD,A]
theorem QT(rows:LL){m i j:Nat}(A:j<m)(hi:i<rows.length):ent (gU rows m) j i=ent rows i j:=by show((gU rows m).getD j []).getD i 0=_;rw[rE rows A,aS hi]
theorem rP{q:Int}(hq:0<q){n:Nat}{rows:LL}(h:Rows q n rows)(set:LI):Rows q set.length (dH rows set):=fun k A=>by
 rw[dX] at A;unfold dH;rw[lR _ _ _ A];refine⟨jA _ _,fun i=>?_⟩;by_cases hi:i<set.length
 .rw[nB,aS hi];exact(h k A).2 _
 .rw[aW (by rw[jA];omega)];omega
theorem sE{q:Int}(hq:0<q){n:Nat}{rows:LL}(h:Rows q n rows)(m:Nat):Rows q rows.length (gU rows m):=fun k A=>by
 rw[iD] at A;rw[rE rows A];refine⟨aT _ _,fun i=>?_⟩;by_cases hi:i<rows.length
 .rw[aS hi];exact(h i hi).2 _
 .rw[aW (by rw[aT];omega)];omega
theorem JP{set:LI}{n:Nat}{x:Int}:x∈bT set n↔0<=x/\x<n/\x∉set:=by
 unfold bT;rw[List.mem_map];constructor
 .rintro ⟨i,hi,rfl⟩;rw[List.mem_filter,List.mem_range] at hi;refine⟨by omega,by omega,fun hm=>?_⟩;have A:=hi.2;rw[Bool.not_eq_true',List.any_eq_false] at A;exact A _ hm (by simp)
 .rintro ⟨C,D,A⟩;refine⟨x.toNat,?_,by omega⟩;rw[List.mem_filter,List.mem_range];refine⟨by omega,?_⟩;rw[Bool.not_eq_true',List.any_eq_false];intro y B e;rw[beq_iff_eq] at e;exact A (by rw[show x=y by omega];exact B)
theorem F1{l:LI}{k:Nat}(A:k<l.length):l.getD k 0∈l:=by rw[aZ4,aZ3 A];exact aY6 A
theorem RV{l:LI}{x:Int}(h:x∈l):∃k,k<l.length/\l.getD k 0=x:=by obtain⟨k,A,rfl⟩:=List.mem_iff_getElem.1 h;exact⟨k,A,by rw[aZ4,aZ3 A];rfl⟩
section
variable {O:aO} {q:Int} (hO:O.Fld q)
include hO
theorem qS{n:Nat}{C rows:LL}:Rows q n (mmL O C rows n):=fun k A=>by rw[mX] at A;unfold mmL;rw[lR _ _ _ A];exact⟨fX _ _ _ _ _,jR hO.lt _ _ _ _⟩
theorem xQ{n:Nat}{C rows:LL}(hR:Rows q n rows)(hC:Rows q rows.length C){l:Nat}(A:l<C.length)(j:Nat):ent (mmL O C rows n) l j=aR O (fun i=>O.mul (ent C l i) (ent rows i j)) rows.length:=by show((mmL O C rows n).getD l []).getD j 0=_;unfold mmL;rw[lR _ _ _ A,mC hO hR (hC l A).1];rfl
theorem R1{n:Nat}{C rows:LL}(hR:Rows q n rows)(hC:Rows q rows.length C)(x:Nat->Int):
  aV O (mmL O C rows n) x↔∃c,aV O C c/\∀j,x j=aR O (fun i=>O.mul (c i) (ent rows i j)) rows.length:=by
 constructor
 .rintro ⟨b,hb⟩;rw[mX] at hb;refine⟨_,⟨b,fun _=>rfl⟩,fun j=>?_⟩;rw[hb j,B4 hO b (ent C) (ent (mmL O C rows n)) (fun i hi j=>xQ hO hR hC hi j)]
 .rintro ⟨c,⟨b,hb⟩,A⟩;refine⟨b,fun j=>?_⟩;rw[mX,A j,B4 hO b (ent C) (ent (mmL O C rows n)) (fun i hi j=>xQ hO hR hC hi j)];exact aJ fun i _=>by rw[hb i]
variable {n:Nat} {A:LL} {p:LI} (hA:dP O q n A p)
include hA
theorem B0{C:LI}{c:Nat->Int}:dC O q (gU (dH A C) C.length) A.length c↔(∀k,k<C.length->aR O (fun i=>O.mul (c i) (ent A i (C.getD k 0).toNat)) A.length=0)/\(∀j,A.length<=j->c j=0)/\∀j,0<=c j/\c j<q:=by
 have e:∀k,k<C.length->aR O (fun j=>O.mul (ent (gU (dH A C) C.length) k j) (c j)) A.length=aR O (fun i=>O.mul (c i) (ent A i (C.getD k 0).toNat)) A.length:=fun k B=>aJ fun i hi=>by rw[QT _ B (by rw[dX];exact hi),QR A C hi B,hO.mul_comm]
 constructor
 .rintro ⟨D,E,F⟩;refine⟨fun k B=>?_,E,F⟩;rw[<-e k B];exact D k (by rw[iD];exact B)
 .rintro ⟨D,E,F⟩;refine⟨fun k B=>?_,E,F⟩;rw[iD] at B;rw[e k B];exact D k B
theorem rF(B:LI):Rows q A.length (gU (dH A B) B.length):=by
 have hq:0<q:=by have:=hO.lt.pos;omega
 have:=sE hq (rP hq hA.rows B) B.length;rwa[dX] at this
theorem PD(C:LI)(x:Nat->Int):aV O (mmL O (cA O (gU (dH A C) C.length) A.length) A n) x↔aV O A x/\∀p,p∈C->x p.toNat=0:=by
 have hT:=rF hO hA C;have F:=iZ hO hT;rw[R1 hO hA.rows F.rows];constructor
 .rintro ⟨c,G,B⟩;have h:=(B0 hO hA).1 ((fO hO hT c).1 G);refine⟨⟨c,B⟩,fun p I=>?_⟩;obtain⟨k,D,rfl⟩:=RV I;rw[B];exact h.1 k D
 .rintro ⟨B,E⟩;have hm:=(hA.mem hO).1 B;have H:=B.lt hO;refine⟨fun i=>if i<A.length then x (pvt p i) else 0,(fO hO hT _).2 ((B0 hO hA).2 ⟨fun k D=>?_,fun j J=>if_neg (by omega),fun j=>?_⟩),fun j=>?_⟩
  .rw[aJ (g:=fun i=>O.mul (x (pvt p i)) (ent A i (C.getD k 0).toNat)) fun i hi=>by rw[if_pos hi],<-hm];exact E _ (F1 D)
  .split
   .exact H _
   .have:=hO.lt.pos;omega
  .rw[hm j];exact aJ fun i hi=>by dsimp only;rw[if_pos hi]
end
def ZF(O:aO)(A B:LL)(n:Nat):LL:=bC O (A++B) n
def X9(O:aO)(A B:LL)(n:Nat):LL:=cA O (cA O A n++cA O B n) n
def ZE(O:aO)(A B:LL)(n:Nat):LL:=bC O (XB O A B) n
section
variable {O:aO} {q:Int} (hO:O.Fld q)
include hO
variable {n:Nat}
def Cn(O:aO)(q:Int)(n:Nat)(A:LL):Prop:=∃p,dP O q n A p
omit hO in
theorem Cn.rows{A:LL}(h:Cn O q n A):Rows q n A:=by obtain⟨p,h⟩:=h;exact h.rows
theorem Cn.canon{A:LL}(h:Rows q n A):Cn O q n (bC O A n):=⟨_,(bX hO h).1⟩
theorem Cn.null{A:LL}(h:Rows q n A):Cn O q n (cA O A n):=⟨_,iZ hO h⟩
theorem Cn.self{A:LL}(h:Cn O q n A):bC O A n=A:=by obtain⟨p,h⟩:=h;exact yM hO h
theorem IU{A:LL}(h:Rows q n A)(x:Nat->Int):aV O (bC O A n) x↔aV O A x:=(bX hO h).2.span hO x
omit hO in
theorem Cn.le{A:LL}(hA:Cn O q n A):A.length<=n:=by
 obtain⟨p,hA⟩:=hA;have key:∀i,i<A.length->i<=pvt p i:=fun i=>by
  induction i with
  |zero=>intro _;omega
  |succ i ih=>intro h;have:=ih (by omega);have:=hA.inc i (i+1) (by omega) h;omega
 rcases Nat.eq_zero_or_pos A.length with B|B
 .omega
 .have C:=key (A.length-1) (by omega);have D:=hA.lt (A.length-1) (by omega);omega
section
variable {A B:LL} (hA:Rows q n A) (hB:Rows q n B)
include hA hB
end
end
section
variable {O:aO} {q:Int} (hO:O.Fld q)
include hO
end
def cC(T:Nat->Bool):Nat->Nat
 |0=>0
 |n+1=>cC T n+if T n=true then 1 else 0
theorem xP(T:Nat->Bool):∀n,cC T n<=n
 |0=>Nat.le_refl _
 |n+1=>by have:=xP T n;simp only[cC];split<;>omega
theorem mA(T:Nat->Bool):∀n,((List.range n).filter T).length=cC T n
 |0=>rfl
 |n+1=>by rw[List.range_succ,List.filter_append,aZ1,mA T n,cC];cases h:T n<;>simp[h]
theorem nT{T L U:Nat->Bool}{i:Nat}(D:∀j,T j=true->U j=true)(B:∀j,L j=true->U j=true/\T j=false/\j≠i)(C:U i=true/\T i=false):
   ∀n,cC T n+cC L n+(if i<n then 1 else 0)<=cC U n
 |0=>by simp[cC]
 |n+1=>by
   have E:=nT D B C n;simp only[cC];by_cases e:n=i
   . subst e;have A:L n≠true:=fun h=>(B n h).2.2 rfl;rw[if_neg (Nat.lt_irrefl _)] at E;rw[if_pos (Nat.lt_succ_self _),C.1,C.2,if_neg A];simp;omega
   . have hi:(if i<n+1 then 1 else 0)=if i<n then 1 else 0:=by
       by_cases h:i<n
       . rw[if_pos h,if_pos (by omega)]
       . rw[if_neg h,if_neg (by omega)]
     rw[hi];cases hT:T n
     . cases A:L n
       . simp;omega
       . rw[(B n A).1];simp;omega
     . have A:L n=false:=by
         cases A:L n
         . rfl
         . rw[(B n A).2.1] at hT;exact absurd hT (by simp)
       rw[D n hT,A];simp;omega
theorem oZ{T L:Nat->Bool}(h:∀j,T j=true->L j=false):∀n,cC T n+cC L n<=n
 |0=>Nat.le_refl _
 |n+1=>by
  have A:=oZ h n;simp only[cC];cases hT:T n
  .simp;split<;>omega
  .rw[h n hT];simp;omega
theorem rO{T U:Nat->Bool}:∀{n},(∀j,j<n->T j=true->U j=true)->cC T n<=cC U n
 |0,_=>Nat.le_refl _
 |n+1,h=>by
  have B:=rO (n:=n) fun j A=>h j (by omega);simp only[cC];cases hT:T n
  .simp;omega
  .rw[h n (by omega) hT];simp;omega
section
variable {O:aO} {q:Int} (hO:O.Fld q) {n:Nat} {gen:LL} {p:LI}
include hO
theorem O6(hA:Rows q n gen){x:Nat->Int}(C:aV O gen x){j:Nat}(B:n<=j):x j=0:=by obtain⟨a,A⟩:=C;rw[A];exact bK hO fun i _=>by rw[kK hA B,hO.mul_zero]
theorem EZ(hA:dP O q n gen p){S:List Nat}(R:S.length<gen.length):
  ∃x,aV O gen x/\(∃j,j<n/\x j≠0)/\∀s,s∈S->x s=0:=by
 have hq:0<q:=by have:=hO.lt.pos;omega
 let k:=gen.length
 let B:LL:=S.map fun s=>(List.range k).map fun i=>ent gen i s
 have E:B.length=S.length:=by simp[B]
 have H:∀m,(hm:m<S.length)->∀i,i<k->ent B m i=ent gen i S[m]:=fun m hm i hi=>by simp[ent,B,List.getD,hm,hi]
 have hR:=hA.rows.r hq;have hB:Rows q k B:=fun m hm=>by
  rw[E] at hm;have e:B.getD m []=(List.range k).map fun i=>ent gen i S[m]:=by simp[B,List.getD,hm]
  rw[e];refine⟨by simp,fun i=>?_⟩;by_cases hi:i<k
  .have A:((List.range k).map fun i=>ent gen i S[m]).getD i 0=ent gen i S[m]:=by simp[List.getD,hi]
   rw[A];exact hR i _
  .have A:((List.range k).map fun i=>ent gen i S[m]).getD i 0=0:=by simp[List.getD,hi]
   rw[A];exact⟨Int.le_refl _,hq⟩
 have T:=GQ hO hB;obtain⟨hC,I⟩:=bX hO hB;have K:=pG hO (pM hO hC) I.1;have F:=iZ hO hB;have C:0<(cA O B k).length:=by have D:k=gen.length:=rfl;rw[E] at K;omega
 have G:=F.rows.r hq;have P:aV O (cA O B k) (ent (cA O B k) 0):=aV.row hO C (G 0);obtain⟨M,U,V⟩:=(fO hO hB _).1 P;refine⟨fun j=>aR O (fun i=>O.mul (ent (cA O B k) 0 i) (ent gen i j)) gen.length,⟨_,fun j=>rfl⟩,?_,fun s N=>?_⟩
 .refine aY0 fun L=>?_;have Q:∀j,aR O (fun i=>O.mul (ent (cA O B k) 0 i) (ent gen i j)) gen.length=0:=fun j=>by
   by_cases J:j<n
   .exact aY0 fun h=>L ⟨j,J,h⟩
   .exact bK hO fun i _=>by rw[kK hA.rows (by omega),hO.mul_zero]
  have D:=pM hO hA _ (G 0) Q _ (F.lt 0 C);rw[F.one 0 C] at D;exact absurd D (by decide)
 .obtain⟨m,hm,rfl⟩:=List.getElem_of_mem N;have h:=M m (by rw[E];exact hm);refine Eq.trans (aJ fun i hi=>?_) h;rw[hO.mul_comm,H m hm i hi]
def DO(O:aO)(n:Nat)(gen:LL)(S:List Nat)(T:Nat->Bool)(s:Nat):Prop:=
 (∀x,aV O gen x->(∀p,p∈S->x p=0)->∀p,T p=true->x p=0)/\S.length+s<=cC T n
theorem LD(hA:dP O q n gen p){S:List Nat}{T:Nat->Bool}{s:Nat}(hI:DO O n gen S T s)(B:S.length<gen.length):
  ∃i,i<n/\T i=false:=by
 obtain⟨x,D,⟨j,C,A⟩,E⟩:=EZ hO hA B;refine⟨j,C,?_⟩;cases hT:T j
 .rfl
 .exact absurd (hI.1 x D E j hT) A
theorem LE(hA:dP O q n gen p){s:Nat}:∀m {S:List Nat} {T:Nat->Bool},DO O n gen S T s->S.length+m<gen.length->
  ∃B C,DO O n gen B C s/\B.length=S.length+m
 |0,S,T,hI,_=>⟨S,T,hI,rfl⟩
 |m+1,S,T,hI,h=>by
  obtain⟨i,hi,hT⟩:=LD hO hA hI (by omega);obtain⟨B,C,E,G⟩:=LE hA m (S:=i::S) (T:=fun j=>T j||j==i) (s:=s) ⟨fun x I D j F=>by
   rcases Bool.or_eq_true _ _▸F with A|A
   .exact hI.1 x I (fun p H=>D p (List.mem_cons_of_mem _ H)) j A
   .have e:j=i:=by simpa using A
    rw[e];exact D i List.mem_cons_self,by
   have A:=nT (T:=T) (L:=fun _=>false) (U:=fun j=>T j||j==i) (i:=i) (fun j h=>by simp[h]) (fun j h=>by simp at h) ⟨by simp,hT⟩ n;rw[if_pos hi] at A;have J:=hI.2;simp only[List.length_cons];omega⟩ (by simp only[List.length_cons];omega)
  exact⟨B,C,E,by rw[G];simp only[List.length_cons];omega⟩
theorem CO (hA : dP O q n gen p) {r : Nat} (J : ∀ i, i < n -> ∃ h, dC O q gen n h /\ h i ≠ 0 /\ cC (fun j => decide (j ≠ i) && decide (h j ≠ 0)) n <= r) :
   ∀s,s*r<gen.length->∃S T,DO O n gen S T s/\S.length<=s*r
 |0,_=>⟨[],fun _=>false,⟨fun x C E j A=>absurd A (by simp),by simp⟩,by simp⟩
 |s+1,hs=>by
   rw[Nat.succ_mul] at hs;obtain⟨S,T,hI,Y⟩:=CO hA J s (by omega);obtain⟨i,hi,hT⟩:=LD hO hA hI (by omega);obtain⟨h,K,P,Q⟩:=J i hi
   let L:Nat->Bool:=fun j=>(decide (j≠i)&&decide (h j≠0))&&!T j
   have X:cC L n<=r:=aZ6 (rO fun j _ A=>by simp only[L,aY9] at A|-;exact A.1) Q;refine⟨S++(List.range n).filter L,fun j=>T j||decide (h j≠0),⟨fun x C E j A=>?_,?_⟩,?_⟩
   . have M : ∀ j, T j = true -> x j = 0 := hI.1 x C fun p W => E p (List.mem_append_left _ W);have N : ∀ j, j ≠ i -> j < n -> h j ≠ 0 -> x j = 0 := fun j B F D => by
       cases hTj:T j
       . exact E j (List.mem_append_right _ (List.mem_filter.2 ⟨List.mem_range.2 F,by simp[L,B,D,hTj]⟩))
       . exact M j hTj
     rcases Bool.or_eq_true _ _▸A with B|B
     . exact M j B
     have D:h j≠0:=by simpa using B
     by_cases R:n<=j
     . exact O6 hO hA.rows C R
     by_cases I:j=i
     . subst I;have G := nX hO K.1 C;rw [bP hO (k := j) (hO.lt.mul _ _) (by omega) fun m hm V => by
         by_cases H:h m=0
         . rw[H,hO.mul_zero]
         . rw[N m V hm H,hO.zero_mul]] at G
       rcases hO.mul_eq_zero (C.lt hO j) (K.2.2 j) G with e|e
       . exact e
       . exact absurd e D
     . exact N j I (by omega) D
   . rw [aZ1, mA];have B := nT (T := T) (L := L) (U := fun j => T j || decide (h j ≠ 0)) (i := i) (fun j h => by simp [h]) (fun j A => by
       simp only[L,aY9,decide_eq_true_eq,Bool.not_eq_true'] at A;exact⟨by simp[A.1.2],A.2,A.1.1⟩) ⟨by simp[P],hT⟩ n
     rw[if_pos hi] at B;have F:=hI.2;omega
   . rw[aZ1,mA,Nat.succ_mul];omega
theorem RT (hA : dP O q n gen p) (K : 0 < gen.length) {r : Nat} (P : 0 < r) (G : ∀ i, i < n -> ∃ h, dC O q gen n h /\ h i ≠ 0 /\ cC (fun j => decide (j ≠ i) && decide (h j ≠ 0)) n <= r) :
   ∃x,aV O gen x/\(∃j,j<n/\x j≠0)/\cC (fun j=>decide (x j≠0)) n+(gen.length-1)+(gen.length-1)/r<=n:=by
 have Q:(gen.length-1)/r*r<=gen.length-1:=Nat.div_mul_le_self _ _;obtain⟨S,T,hI,M⟩:=CO hO hA G ((gen.length-1)/r) (by omega);obtain⟨D,A,B,N⟩:=LE hO hA (gen.length-1-S.length) hI (by omega);obtain⟨x,C,E,H⟩:=EZ hO hA (S:=D) (by omega);refine⟨x,C,E,?_⟩;have I:=oZ (T:=fun j=>decide (x j≠0)) (L:=A) (fun j F=>by
   cases hT:A j
   . rfl
   . exact absurd (B.1 x C H j hT) (by simpa using F)) n
 have J:=B.2;omega
end
end Go.Proofs.YtpfhoemohibniaaGreatDoor
namespace Go.Proofs.YtpfhoemohibniaaGreatDoor
open Go.RowKit
def XL(w:World)(P M:Int)(Mod:LI)(e:Ending)(w':World):Prop:=∃u,e=.returned (.agg #[.int .i64 P,.int .i64 M,u])/\OI w.heap.size w' u Mod/\Below w.heap.size w w'
structure dD(w w0:World)(P M:Int)(mv:Value)(n:Int)(gv:Value):Prop where
 blk:Blk w0 w.heap.size 27 [.int .i64 P,.int .i64 M,mv,.int .i64 n,gv]
 bel:Below w.heap.size w w0
section
variable {w w0 w1:World} {P M n:Int} {mv gv:Value}
theorem dD.mk'(w:World)(P M:Int)(mv:Value)(n:Int)(gv:Value):dD w (w.alloc (.cells #[.int .i64 P,.int .i64 M,mv,.int .i64 n,gv] 27)) P M mv n gv:=⟨Blk.new w 27 [.int .i64 P,.int .i64 M,mv,.int .i64 n,gv],aF w _⟩
theorem dD.on(h:dD w w0 P M mv n gv)(hb:Below w0.heap.size w0 w1):dD w w1 P M mv n gv:=⟨h.blk.belowS hb,aA h.bel hb⟩
theorem dD.c0(h:dD w w0 P M mv n gv):w0.cell? ⟨w.heap.size,0,none⟩=some (.int .i64 P):=h.blk.cell 0
theorem dD.c1(h:dD w w0 P M mv n gv):w0.cell? ⟨w.heap.size,1,none⟩=some (.int .i64 M):=h.blk.cell 1
theorem dD.c2(h:dD w w0 P M mv n gv):w0.cell? ⟨w.heap.size,2,none⟩=some mv:=h.blk.cell 2
theorem dD.c3(h:dD w w0 P M mv n gv):w0.cell? ⟨w.heap.size,3,none⟩=some (.int .i64 n):=h.blk.cell 3
theorem dD.c4(h:dD w w0 P M mv n gv):w0.cell? ⟨w.heap.size,4,none⟩=some gv:=h.blk.cell 4
end
noncomputable def cS(P M:Int)(Mod:LI)(n:Int)(gen:LL):Int:=
 if cN P M Mod≠0 then cN P M Mod else if 1<=n/\n<=64 then spaceE P M Mod n gen else 4
theorem MX{P M:Int}{Mod:LI}{A:Int}{rows:LL}(h:spaceE P M Mod A rows=0):dK P M Mod A rows=0/\bC (aB P M Mod) rows A.toNat=rows:=by
 unfold spaceE at h;split at h
 .rename_i h1;exact absurd h h1
 rename_i h1;split at h
 .rename_i h2;exact⟨Decidable.not_not.1 h1,h2⟩
 .cases h
theorem iL{P M:Int}{Mod:LI}{n:Int}{gen:LL}(h:cS P M Mod n gen=0):
  cK P M Mod/\1<=n/\n<=64/\gen.length<=256/\Rows (aC P M) n.toNat gen/\bC (aB P M Mod) gen n.toNat=gen:=by
 unfold cS at h;split at h
 .rename_i h1;exact absurd h h1
 rename_i h1;split at h
 case isFalse=>cases h
 rename_i h2;obtain⟨D,E⟩:=MX h;obtain⟨A,F,G,B,C⟩:=dE D;exact⟨A,h2.1,h2.2,B,C,E⟩
theorem GZ(w:World)(P M n:Int)(mv gv:Value)(Mod:LI)(gen:LL)(hm:SI w mv Mod)(hg:SS w gv gen):
  Calls Tryz.prog 13 #[.agg #[.int .i64 P,.int .i64 M,mv,.int .i64 n,gv]] w (iJ w (cS P M Mod n gen)):=by
 obtain⟨A,c,rfl,hg⟩:=hg;have G:=zh hm;have J:=zh (show SS w (.slice A gen.length c) gen from⟨A,c,rfl,hg⟩);clear hg hm;obtain⟨k,H⟩:∃k,k=gen.length:=⟨_,rfl⟩
 rw[<-H] at J|-;have Q:=zh H;clear H;have B:=zh (dD.mk' w P M mv n (.slice A k c));by_cases E:cN P M Mod=0
 case neg=>
  have F:Hid (cS P M Mod n gen=cN P M Mod):=by show _=_;unfold cS;rw[if_pos E]
  have hb:(cN P M Mod !=0)=true:=by rw[bne_iff_ne];exact E
  clear E;go_enter Tryz.func13,Tryz.ntmps13;go_wp2_with fail;generalize hw0:w.alloc (.cells #[.int .i64 P,.int .i64 M,mv,.int .i64 n,.slice A k c] 27)=w0 at*;have c0:=B.c0;have c1:=B.c1;have c2:=B.c2;have c3:=B.c3;have c4:=B.c4;go_wp2_with fail;refine(jY _ P M mv Mod (G.below B.bel zr)).mono ?_;rintro e w1 ⟨rfl,D⟩;have L:=zh (aA B.bel D);clear D;go_wp2_with fail;go_ret;exact⟨by rw[F.out];rfl,L.out⟩
 have I:=zh E;by_cases hn:1<=n/\n<=64
 .have F:Hid (cS P M Mod n gen=spaceE P M Mod n gen):=by show _=_;unfold cS;rw[if_neg (by simpa using E),if_pos hn]
  obtain⟨hn1,R⟩:=hn;clear E;go_enter Tryz.func13,Tryz.ntmps13;go_wp2_with fail;generalize hw0:w.alloc (.cells #[.int .i64 P,.int .i64 M,mv,.int .i64 n,.slice A k c] 27)=w0 at*;have c0:=B.c0;have c1:=B.c1;have c2:=B.c2;have c3:=B.c3;have c4:=B.c4;go_wp2_with fail;refine(jY _ P M mv Mod (G.below B.bel zr)).mono ?_;rintro e w1 ⟨rfl,D⟩;rw[I.out];have C:=zh (B.on D);clear D c0 c1 c2 c3 c4;have c0:=C.c0;have c1:=C.c1;have c2:=C.c2;have c3:=C.c3;have c4:=C.c4;go_wp2_with fail;refine(G0 _ P M n mv _ Mod gen (G.below C.bel zr) (J.below C.bel zr)).mono ?_;rintro e w2 ⟨rfl,K⟩;have N:=zh (aA C.bel K);clear K;go_wp2_with fail;go_ret;exact⟨by rw[F.out];rfl,N.out⟩
 .have F:Hid (cS P M Mod n gen=4):=by show _=_;unfold cS;rw[if_neg (by simpa using E),if_neg hn]
  have O:n<1\/64<n:=by omega
  clear E hn;rcases O with hn|hn
  case' inr=>have hn1:¬n<1:=by omega
  all_goals
   go_enter Tryz.func13,Tryz.ntmps13;go_wp2_with fail;generalize hw0:w.alloc (.cells #[.int .i64 P,.int .i64 M,mv,.int .i64 n,.slice A k c] 27)=w0 at*;have c0:=B.c0;have c1:=B.c1;have c2:=B.c2;have c3:=B.c3;have c4:=B.c4;go_wp2_with fail;refine(jY _ P M mv Mod (G.below B.bel zr)).mono ?_;rintro e w1 ⟨rfl,D⟩;rw[I.out];have C:=zh (B.on D);clear D c0 c1 c2 c3 c4;have c0:=C.c0;have c1:=C.c1;have c2:=C.c2;have c3:=C.c3;have c4:=C.c4;go_wp2_with fail;go_ret;exact⟨by rw[F.out];rfl,C.bel⟩
def gO(w:World)(P M:Int)(Mod:LI)(n:Int)(gen:LL)(A:Int)(e:Ending)(w':World):Prop:=
 ∃u g,e=.returned (.tuple #[.agg #[.int .i64 P,.int .i64 M,u,.int .i64 n,g],.int .i64 A])/\Sep w.heap.size w' (fun w2=>SI w2 u Mod/\SS w2 g gen)/\Below w.heap.size w w'
theorem J9(f:Nat->Int)(k:Nat):aQ (k+1) f=aQ k f++[f k]:=by unfold aQ;rw[List.range_succ,List.map_append];rfl
theorem J8(f:Nat->Int):aQ 0 f=[]:=rfl
theorem OV{N:Nat}{f:Nat->Int}(h:∀i,i<N->I64 (f i))(k:Nat):I64 ((aQ N f).getD k 0):=by
 by_cases A:k<N
 .rw[aS A];exact h k A
 .rw[aW (by rw[aT];omega)];exact I64.zero
end Go.Proofs.YtpfhoemohibniaaGreatDoor
namespace Go.Proofs.YtpfhoemohibniaaGreatDoor
theorem vF(q r:Nat):(tJ q r).length=eB q r:=by unfold tJ;rw[aY7,oK]
theorem OH{q r j:Nat}(A:j<eB q r):(tJ q r).getD j []=cI q r ((pJ q r).getD j 0):=by
 have h:j<(pJ q r).length:=by rw[oK];exact A
 simp[tJ,List.getD,h]
theorem C6{q r:Nat}(hq:0<q):Rows (q:Int) r (tJ q r):=fun k A=>by
 rw[vF] at A;rw[OH A];refine⟨jD _ _ _,fun i=>?_⟩;by_cases hi:i<r
 .unfold cI;rw[aS hi];have:=Nat.mod_lt ((pJ q r).getD k 0/q^(r-1-i)) hq;omega
 .rw[aW (by rw[jD];omega)];omega
end Go.Proofs.YtpfhoemohibniaaGreatDoor
namespace Go.Proofs.YtpfhoemohibniaaGreatDoor
open Go.RowKit
theorem TV(w:World)(P M n:Int)(mv gv:Value)(Mod:LI)(gen:LL)(κ:SS w gv gen)(hn:I64 n)
  (f:∀w',Below w.heap.size w w'->Calls Tryz.prog 13 #[.agg #[.int .i64 P,.int .i64 M,mv,.int .i64 n,gv]] w' (iJ w' (cS P M Mod n gen)))(hq:cS P M Mod n gen=0->2<=aC P M/\aC P M<=256/\0<=n/\gen.length<=64/\(gen.length:Int)<=n):
  Calls Tryz.prog 5 #[.agg #[.int .i64 P,.int .i64 M,mv,.int .i64 n,gv],.int .i64 7,.int .i64 256] w (fun e w'=>∃r,e=.returned (.bool r)/\Below w.heap.size w w'/\(r=true->cS P M Mod n gen=0/\n<=7/\aC P M^gen.length<=256/\aC P M^(n.toNat-gen.length)<=256)):=by
 have u:=zh f;have N:=zh hq;have L:=zh (dD.mk' w P M mv n gv);obtain⟨t,ε,rfl,_⟩:=κ;clear f hq;go_enter Tryz.func5,Tryz.ntmps5;go_upto_region 1 with fail;generalize w.alloc (.cells #[.int .i64 P,.int .i64 M,mv,.int .i64 n,.slice t gen.length ε] 27)=w0 at*;obtain⟨H,I,J,K,E,_,_,_,_,_⟩:=L.blk.five;go_wp2_with fail;refine(u.out w0 L.bel).mono ?_;rintro e w1 ⟨rfl,c⟩;have F:=zh (L.on c);clear c H I J K E;obtain⟨H,I,J,K,E,_,_,_,_,_⟩:=F.blk.five;obtain⟨G,Q⟩:∃G,G=cS P M Mod n gen:=⟨_,rfl⟩
 have v:=zh Q;rw[<-Q] at N|-;clear Q;by_cases b:G=0
 .subst b;obtain⟨ι,S,ψ,hg,ζ⟩:=N.out rfl;obtain⟨A,rfl⟩:∃A:Nat,n=(A:Int):=⟨n.toNat,by omega⟩
  by_cases ρ:A<=7
  .have x:decide (7<A)=false:=decide_eq_false (by omega);have o:¬(7:Int)<(A:Int):=by omega
   have π:decide ((7:Int)<(A:Int))=false:=decide_eq_false o;go_wp2_with fail;refine(lS _ P M mv).mono ?_;rintro e w2 ⟨rfl,d⟩;have D:=zh (F.on d);clear d H I J K E;obtain⟨H,I,J,K,E,_,_,_,_,_⟩:=D.blk.five;obtain⟨g,R⟩:∃g,g=gen.length:=⟨_,rfl⟩
   have X:=zh R;rw[<-R] at E hg ζ|-;obtain⟨q,T⟩:∃q,q=aC P M:=⟨_,rfl⟩
   have a:=zh T;rw[<-T] at ι S|-;clear R N T;go_wp2_with fail;go_loopw [8,25] (fun s i wr=>∃(k:Nat) (p:Int),k<=g/\i=.int .i64 (k:Int)/\s=.int .i64 p/\Hid (p=q^k)/\0<=p/\p<=256/\w2=wr) (fun _ i _=>g-(intOf i).toNat)
   case atStart=>exact⟨0,1,aZ5 _,rfl,rfl,aD (by show _=_;simp),by decide,by decide,rfl⟩
   case round=>
    obtain⟨k,p,φ,rfl,rfl,Y,η,l,rfl⟩:=hrel;by_cases χ:k<g
    .obtain⟨z,B⟩:∃z,z=p*q:=⟨_,rfl⟩
     have U:0<=z:=by rw[B];exact Int.mul_nonneg η (by omega)
     have ν:z<=65536:=by rw[B];exact Int.le_trans (Int.mul_le_mul l S (by omega) (by decide)) (by decide)
     have μ:IntKind.i64.wrap (p*q)=z:=by rw[<-B,IntWalk.i64_in _ (by omega)]
     have O:Hid (z=q^(k+1)):=aD (by show _=_;rw[B,Y.out,Int.pow_succ]);by_cases V:z<=256
     .have W:¬(256:Int)<z:=by omega
      go_wp2_with fail;exact⟨⟨k+1,z,by omega,by push_cast;rfl,by rw[B],O,U,V,trivial⟩,by simp only[intOf];omega⟩
     .have W:(256:Int)<z:=by omega
      go_wp2_with fail;go_ret
      first|exact⟨false,rfl,D.bel,fun h=>by cases h⟩|exact .inl ⟨rfl,D.bel⟩
    .obtain rfl:k=g:=by omega
     go_wp2_with fail;go_loopw [9,40] (fun s i wr=>∃(j:Nat) (C:Int),j<=A-k/\i=.int .i64 (j:Int)/\s=.int .i64 C/\Hid (C=q^j)/\0<=C/\C<=256/\w2=wr) (fun _ i _=>(A-k)-(intOf i).toNat)
     case atStart=>exact⟨0,1,aZ5 _,rfl,rfl,aD (by show _=_;simp),by decide,by decide,rfl⟩
     case round=>
      obtain⟨j,C,σ,rfl,rfl,Z,θ,m,rfl⟩:=hrel;by_cases τ:j<A-k
      .obtain⟨z,B⟩:∃z,z=C*q:=⟨_,rfl⟩
       have U:0<=z:=by rw[B];exact Int.mul_nonneg θ (by omega)
       have ν:z<=65536:=by rw[B];exact Int.le_trans (Int.mul_le_mul m S (by omega) (by decide)) (by decide)
       have μ:IntKind.i64.wrap (C*q)=z:=by rw[<-B,IntWalk.i64_in _ (by omega)]
       have O:Hid (z=q^(j+1)):=aD (by show _=_;rw[B,Z.out,Int.pow_succ]);have ξ:(j:Int)<(A:Int)-(k:Int):=by omega
       by_cases V:z<=256
       .have W:¬(256:Int)<z:=by omega
        go_wp2_with fail;exact⟨⟨j+1,z,by omega,by push_cast;rfl,by rw[B],O,U,V,trivial⟩,by simp only[intOf];omega⟩
       .have W:(256:Int)<z:=by omega
        go_wp2_with fail;go_ret
        first|exact⟨false,rfl,D.bel,fun h=>by cases h⟩|exact .inl ⟨rfl,D.bel⟩
      .obtain rfl:j=A-k:=by omega
       have ξ:¬((A-k:Nat):Int)<(A:Int)-(k:Int):=by omega
       go_wp2_with fail;go_ret;have y:aC P M^gen.length<=256:=by rw[<-a.out,<-X.out,<-Y.out];exact l
       have δ:aC P M^(A-gen.length)<=256:=by rw[<-a.out,<-X.out,<-Z.out];exact m
       exact .inr ⟨rfl,D.bel,v.symm,y,δ⟩
  .have x:decide (7<A)=true:=decide_eq_true (by omega);have o:(7:Int)<(A:Int):=by omega
   go_wp2_with fail;go_ret;exact⟨false,rfl,F.bel,fun h=>by cases h⟩
 .have hb:(G !=0)=true:=by rw[bne_iff_ne];exact b
  go_wp2_with fail;go_ret;exact⟨false,rfl,F.bel,fun h=>by cases h⟩
end Go.Proofs.YtpfhoemohibniaaGreatDoor
