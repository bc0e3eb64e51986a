/- Parts. -/
import Derived.Test.YtnpfliklhbkonaaGreatDoorZA7
import Derived.Test.YtnpfliklhbkonaaGreatDoorZA11
import Derived.Test.YtnpfliklhbkonaaGreatDoorZA12
set_option maxRecDepth 99999
set_option maxHeartbeats 0
set_option linter.unusedSimpArgs false
set_option linter.unusedVariables false
namespace Go.Proofs.YtnpfliklhbkonaaGreatDoor
open Go.Proofs.Tryz
section
open Go.RowKit
def ko(w:Wo)(xss:LL)(ys:LI)(e:Ending)(w':Wo):Prop:=∃A B,e=.returned (.tuple #[A,B])/\Sep w w' (fun w2=>SS w2 A xss)/\OS w (fun g=>g<w) w' A xss/\OI w w' B ys/\Below w w w'
theorem OS.takeN{B:Nat}{X:Nat->Prop}{w:Wo}{A:OA}{n c:Nat}{l:LL}(h:OS B X w (.slice A n c) l){k:Nat}(hk:k<=l):OS B X w (.slice A k c) (l.take k):=by
 obtain⟨us,J,hi⟩:=h;have T:us.length=l.length:=by have:=J.1;omega
 have C:(l.take k).length=k:=by rw[aY3];omega
 have P:∀g,(Value.slice A k c).ownBlock=some g->(Value.slice A n c).ownBlock=some g:=fun g D=>by
  cases A with
  |none=>simp[Value.ownBlock] at D
  |some ad=>simpa[Value.ownBlock] using D
 refine⟨us.take k,⟨by rw[C,aY3];omega,?_⟩,fun i G=>?_⟩
 .rcases J.2 with⟨e,F⟩|⟨g,S,L,e,D,M,hn,O,H,Q⟩
  .injection e with e1 e2 e3
   subst e1 e3;refine .inl ⟨?_,by rw[C];omega⟩;rw[show k=0 from om]
  .injection e with e1 e2 e3
   subst e1 e3;refine .inr ⟨g,c,L,by rw[C],D,M,by rw[C];omega,O,H,?_⟩;rw[<-Q,List.take_take,C,Nat.min_eq_left om,Nat.mul_one]
 .rw[C] at G;obtain⟨y,R,H,K⟩:=hi i om;have N:(l.take k).getD i []=l i []:=by simp[List.getD,List.getElem?_take,G]
  rw[N];exact⟨y,by rw[List.getElem?_take,iP G];exact R,H,fun F E I=>⟨fun e=>(K F E I).1 (P E e),(K F E I).2⟩⟩
theorem SS.takeN{w:Wo}{A:OA}{n c:Nat}{xss:LL}(h:SS w (.slice A n c) xss){k:Nat}(hk:k<=xss):SS w (.slice A k c) (xss.take k):=by
 obtain⟨G,c',e,h⟩:=h;injection e with e1 e2 e3;subst e1 e3;have C:(xss.take k).length=k:=by rw[aY3];omega
 refine⟨A,c,by rw[C],oA h.len,oA h.cap,fun j B=>?_⟩;rw[C] at B;obtain⟨D,u,e,E,F⟩:=h.cell j om;exact⟨D,u,e,E,by rw[show(xss.take k).getD j []=xss j [] by simp[List.getD,List.getElem?_take,B]];exact F⟩
theorem NO(w:Wo)(P M:Int)(A L:Nat)(mv v:Va)(Mq:LI)(rows:LL)(W:SI w mv Mq)(d:SS w v rows)(Z:aF P M≠0)(X:sL P M Mq)
 (hR:Rows (aF P M) L rows)(T:A<=L)(Q:L<=100000)(hn:rows.length<=100000):
 Calls prog 87 #[.agg #[P,M,mv],v,A] w (ko w (bC (aD P M Mq) rows A) (oS (aD P M Mq) rows A)):=by
 have k:=zh (fun w' (R:Below w w w')=>TK w' P M A L mv v Mq rows (W.below R zr) (d.below R zr) Z X hR T Q hn);have a:=lW (aD P M Mq) rows A;have V:=gK (aD P M Mq) rows A;have C:Hid (bC (aD P M Mq) rows A=(aJ (aD P M Mq) rows A).1.take (aJ (aD P M Mq) rows A).2.length/\oS (aD P M Mq) rows A=(aJ (aD P M Mq) rows A).2):=⟨rfl,rfl⟩
 obtain⟨l,H⟩:=xE ((aJ (aD P M Mq) rows A).1);obtain⟨piv,J⟩:=xE ((aJ (aD P M Mq) rows A).2);rw[<-H] at V C;rw[<-J] at a C;have m:=zh H;have p:=zh J;clear H J;obtain⟨n,Y⟩:=xE l.length;obtain⟨r,c⟩:=xE piv.length;have b:r<=n:=om;have y:n<=100000:=om;have D:=zh Y;have G:=zh c;clear Y c V a W d Z X hR T Q hn;go_enter func87,ntmps87;go_wp2_with fail;apply(k _ (aH _ _)).mono;rintro e w1⟨δ,ε,rfl,B,E,S⟩;rw[<-m.out] at B;rw[<-p.out] at E;obtain⟨O,F,rfl⟩:=B.form;obtain⟨f,s,rfl⟩:=E.form';have I:OS w (fun g=>g<w) w1 (.slice O l F) l:=(B.names (fun g _ U=>by rw[World.size_alloc];omega)).mono (by rw[World.size_alloc];omega);have N:=B.ss (oA D.out);have K:=(B.sep (fun g U=>U) (oA D.out)).mono (B':=w.heap.size) (by rw[World.size_alloc];omega);have t:l<=F:=by obtain⟨_,_,e,u⟩:=N;injection e with e1 e2 e3;rw[e3];exact u.cap
 rw[<-D.out] at N K I t|-;rw[<-G.out] at E|-;have q:=zh K;have o:=zh I;have i:=zh E;have j:=zh (aC (aH _ _) S);clear N K I B E S;have z:r<=F:=om
 go_wp2;go_ret2;have x:w.heap.size<=(w.alloc (.cells #[P,M,mv] 24)).heap.size:=by rw[World.size_alloc];omega
 rw[C.out.2];refine⟨.slice O r F,.slice f r s,rfl,?_,?_,i.mono x,j.out⟩
 .rw[C.out.1,<-G.out];exact q.imp fun w2 h=>h.takeN (D.out▸b)
 .rw[C.out.1,<-G.out];exact o.takeN (D.out▸b)
noncomputable def spaceE(P M:Int)(Mq:LI)(A:Int)(rows:LL):Int:=
 if fB P M Mq A rows≠0 then fB P M Mq A rows else if bC (aD P M Mq) rows A.toNat=rows then 0 else 5
theorem JG{P M:Int}{Mq:LI}(h:dI P M Mq=0):cZ P M Mq:=by
 unfold dI at h;split at h
 .assumption
 .cases h
theorem EH{q:Int}{l:LI}(h:dH q l=0):∀k,k<l.length->0<=l k 0/\l k 0<q:=by
 unfold dH at h;split at h
 .assumption
 .cases h
theorem fM{P M:Int}{Mq:LI}{A:Int}{rows:LL}(h:fB P M Mq A rows=0):
 cZ P M Mq/\0<=A/\A<=256/\rows.length<=256/\Rows (aF P M) A.toNat rows:=by
 unfold fB at h;split at h
 .rename_i h1;exact aB h h1
 rename_i h1;split at h
 .cases h
 rename_i h2;split at h
 case isFalse=>cases h
 rename_i h3;split at h
 case isFalse=>cases h
 rename_i h4;have B:=JG (Decidable.not_not.1 h1);have hq:=(bO B.1).2.2.2.2.1;refine⟨B,om,om,om,fun k hk=>?_⟩;rw[tS,List.all_eq_true] at h3;rw[zH,List.all_eq_true] at h4;have D:rows k []∈rows:=by simp[List.getD,hk]
 have E:=h3 _ D;have C:=h4 _ D;rw[eD] at E C;refine⟨om,fun i=>?_⟩;by_cases hi:i<(rows k []).length
 .exact EH C i hi
 .rw[bG om];have:=aM P M;have:=B.1;omega
theorem K4(w:Wo)(P M D:Int)(mv rv:Va)(Mq:LI)(rows:LL)(W:SI w mv Mq)(K:SS w rv rows):
 Calls prog 41 #[.agg #[P,M,mv],.agg #[D,rv]] w (kV w (spaceE P M Mq D rows)):=by
 obtain⟨A,c,rfl,K⟩:=K;have N:=zh W;have I:=zh (show SS w (.slice A rows c) rows from⟨A,c,rfl,K⟩);clear K W;obtain⟨n,hn⟩:=xE rows.length;have B:=zh (jQ.mk' w P M mv D (.slice A n c));rw[<-hn] at I|-;have S:=zh hn;clear hn;by_cases F:fB P M Mq D rows=0
 case neg=>
  have Z:Hid (spaceE P M Mq D rows=fB P M Mq D rows):=by show _=_;unfold spaceE;rw[iP F]
  have h:(fB P M Mq D rows !=0)=true:=by rw[eC];exact F
  clear F;go_enter func41,ntmps41;go_wp2_with fail;generalize hw0:(w.alloc (.cells #[P,M,mv] 24)).alloc (.cells #[D,.slice A n c] 74)=w0 at*;have c0:=B.fb.c0;have c1:=B.fb.c1;have c2:=B.fb.c2;have d0:=B.d0;have d1:=B.d1;go_wp2_with fail;refine(AS _ P M D mv _ Mq rows (N.below B.fb.bel zr) (I.below B.fb.bel zr)).mono ?_;rintro e w1 ⟨rfl,J⟩;have Y:=zh (aC B.fb.bel J);clear J;go_wp2_with fail;go_ret;exact⟨by rw[Z.out];rfl,Y.out⟩
 obtain⟨V,i,j,g,O⟩:=fM F;have H:Hid (spaceE P M Mq D rows=if bC (aD P M Mq) rows D.toNat=rows then 0 else 5):=by show _=_;unfold spaceE;rw[iN (by simpa using F)]
 obtain⟨C,f⟩:∃C:Nat,D=(C:Int):=⟨D.toNat,om⟩
 subst f;rw[aZ8] at O H;have a:=zh F;have R:=zh V;have b:=zh O;rw[S.out.symm] at g;clear F V O;go_enter func41,ntmps41;go_wp2_with fail;generalize hw0:(w.alloc (.cells #[P,M,mv] 24)).alloc (.cells #[C,.slice A n c] 74)=w0 at*;have c0:=B.fb.c0;have c1:=B.fb.c1;have c2:=B.fb.c2;have d0:=B.d0;have d1:=B.d1;go_wp2_with fail;refine(AS _ P M C mv _ Mq rows (N.below B.fb.bel zr) (I.below B.fb.bel zr)).mono ?_;rintro e w1 ⟨rfl,J⟩;rw[a.out];have E:=zh (B.on J);clear J c0 c1 c2 d0 d1;have c0:=E.fb.c0;have c1:=E.fb.c1;have c2:=E.fb.c2;have d0:=E.d0;have d1:=E.d1;go_wp2_with fail;refine(NO _ P M C C mv _ Mq rows (N.below E.fb.bel zr) (I.below E.fb.bel zr) R.1 R.2.2.1 b zr om (oA S.out)).mono ?_;rintro e w2 ⟨k,l,rfl,X,_,_,T⟩;have d:=zh X.out;have L:=zh (E.on T);clear T X c0 c1 c2 d0 d1;have d1:=L.d1;go_wp2_with fail;refine(vK _ _ _ (bC (aD P M Mq) rows C) rows d (I.below L.fb.bel zr)).mono ?_;rintro e m ⟨rfl,U⟩;have Q:=zh (aC L.fb.bel U);clear U;by_cases G:bC (aD P M Mq) rows C=rows
 .rw[show decide (bC (aD P M Mq) rows C=rows)=true from dE G];rw[iP G] at H;clear G;go_wp2_with fail;go_ret;exact⟨by rw[H.out];rfl,Q.out⟩
 .rw[show decide (bC (aD P M Mq) rows C=rows)=false from dG G];rw[iN G] at H;clear G;go_wp2_with fail;go_ret;exact⟨by rw[H.out];rfl,Q.out⟩
def PC(n:Nat):Nat->LI
 |0=>List.replicate n 0
 |k+1=>(PC n k).set k (-1)
theorem ST(n:Nat):∀k,(PC n k).length=n
 |0=>by simp[PC]
 |k+1=>by rw[PC,aZ9,ST n k]
theorem wL(O:aQ)(l:LL)(p:LI)(n:Nat):∀c,(bT O l p n c).length<=c
 |0=>zr
 |c+1=>by
  have:=wL O l p n c;rw[bT];split
  .omega
  .rw[aZ1,aZ2];omega
end
section
section
variable {O:aQ} {q:Int} (hO:O.Fld q)
include hO
omit hO in
theorem gT.fst{n:Nat}{A:LL}{p:LI}(hA:gT O q n A p){i:Nat}(hi:i<A):FC (A i [])=pvt p i:=by have B:=(hA.rows i hi).1;have C:=hA.lt i hi;exact WI om (hA.low i hi) (fun _=>by rw[show(A i []).getD (pvt p i) 0=1 from hA.one i hi];decide)
theorem K5{n:Nat}{A:LL}{p:LI}(hA:gT O q n A p){x:LI}(B:Rng q x)(C:x=n)(j:Nat):∀i,i<=A.length->
 (tY O A x i).getD j 0=O.add (x j 0) (aX O (fun k=>O.mul (O.neg (x (pvt p k) 0)) (ent A k j)) i)
 |0,_=>(hO.add_zero _ (B j).1 (B j).2).symm
 |i+1,hi=>by rw[tY,sY hO _ (DZ hO.lt A B i) (by rw[DY,C,(hA.rows i om).1];exact zr),K5 hA B C j i om,hA.fst om,aX,hO.add_assoc];rfl
theorem tD{n:Nat}{rows:LL}(hR:Rows q n rows)(x:LI)(j:Nat):∀i,i<=rows.length->(fX O x rows n i).getD j 0=aX O (fun k=>O.mul (x k 0) (ent rows k j)) i
 |0,_=>by simp[fX,aX,List.getD,List.getElem?_replicate];split<;>rfl
 |i+1,hi=>by
  rw[fX,aX];by_cases e:x i 0=0
  .rw[iN (by simpa using e),tD hR x j i om,e,hO.zero_mul,hO.add_zero _ (dS hO _ _).1 (dS hO _ _).2]
  .rw[iP e,sY hO _ (lU hO.lt x rows n i) (by rw[lT,(hR i om).1];exact zr),tD hR x j i om];rfl
theorem vW{n:Nat}{rows:LL}(hR:Rows q n rows){x:LI}(A:x.length=rows.length)(j:Nat):(kZ O x rows n).getD j 0=aX O (fun k=>O.mul (x k 0) (ent rows k j)) rows.length:=by unfold kZ;rw[A,Nat.min_self,tD hO hR x j _ zr]
theorem MC{n:Nat}{rows:LL}(hR:Rows q n rows){x:LI}(A:x.length=rows.length):aZ O rows fun j=>(kZ O x rows n).getD j 0:=⟨fun k=>x k 0,vW hO hR A⟩
end
theorem WF{a b:LI}(C:a.length=b.length)(h:∀j,j<a.length->a j 0=b j 0):a=b:=by refine eK C fun j A B=>?_;have:=h j A;rwa[aZ4,aZ4,aZ3 A,aZ3 B] at this
section
variable {O:aQ} {q:Int} (hO:O.Fld q)
include hO
variable {n:Nat} {A:LL} {p:LI} (hA:gT O q n A p)
include hA
end
def jw(O:aQ)(A B:LL):LL:=B.map (YM O A)
section
variable {O:aQ} {q:Int} (hO:O.Fld q)
include hO
variable {n:Nat} {A B:LL} {p:LI} (hA:gT O q n A p) (hB:Rows q n B)
include hA hB
end
section
variable {O:aQ} {q:Int} (hO:O.Fld q)
include hO
end
def qQ(v set:LI):LI:=aT set fun k=>v (set k 0).toNat 0
def nF(rows:LL)(set:LI):LL:=rows.map fun r=>qQ r set
def sS(rows:LL)(m:Nat):LL:=(List.range m).map fun j=>aT rows fun i=>ent rows i j
def mmL(O:aQ)(C rows:LL)(n:Nat):LL:=C.map fun c=>kZ O c rows n
def ef(set:LI)(n:Nat):LI:=((List.range n).filter fun(i:Nat)=>!(set.any fun x=>x==(i:Int))).map fun(i:Nat)=>(i:Int)
def vN(n p:Nat):LI:=(List.replicate n (0:Int)).set p 1
def oh(O:aQ)(rows:LL)(n:Nat)(A:LI):LL:=bC O (mmL O (iT O (sS (nF rows A) A) rows) rows n) n
theorem kP(v set:LI):(qQ v set).length=set.length:=aW _ _
theorem nR(rows:LL)(set:LI):(nF rows set).length=rows.length:=by simp[nF]
theorem yV(rows:LL)(m:Nat):(sS rows m).length=m:=by simp[sS]
theorem yI(O:aQ)(C rows:LL)(n:Nat):(mmL O C rows n).length=C.length:=by simp[mmL]
theorem qI{α:Type}(f:LI->α)(d:α)(l:LL){k:Nat}(hk:k<l):(l.map f).getD k d=f (l k []):=by simp[List.getD,hk]
theorem LK(rows:LL){m j:Nat}(A:j<m):(sS rows m).getD j []=aT rows fun i=>ent rows i j:=by simp[sS,List.getD,A]
theorem QT{q:Int}(hq:0<q){n:Nat}{rows:LL}(h:Rows q n rows)(set:LI):Rows q set (nF rows set):=fun k hk=>by
 rw[nR] at hk;unfold nF;rw[qI _ _ _ hk];refine⟨kP _ _,fun i=>?_⟩;by_cases hi:i<set
 .rw[qQ,aK hi];exact(h k hk).2 _
 .rw[bG (by rw[kP];omega)];omega
theorem zW{q:Int}(hq:0<q){n:Nat}{rows:LL}(h:Rows q n rows)(m:Nat):Rows q rows (sS rows m):=fun k hk=>by
 rw[yV] at hk;rw[LK rows hk];refine⟨aW _ _,fun i=>?_⟩;by_cases hi:i<rows
 .rw[aK hi];exact(h i hi).2 _
 .rw[bG (by rw[aW];omega)];omega
section
variable {O:aQ} {q:Int} (hO:O.Fld q)
include hO
theorem XM{n:Nat}{C rows:LL}:Rows q n (mmL O C rows n):=fun k hk=>by rw[yI] at hk;unfold mmL;rw[qI _ _ _ hk];exact⟨lT _ _ _ _ _,lU hO.lt _ _ _ _⟩
theorem OX{n:Nat}{C rows:LL}(hR:Rows q n rows)(B:Rows q rows C){l:Nat}(A:l<C)(j:Nat):ent (mmL O C rows n) l j=aX O (fun i=>O.mul (ent C l i) (ent rows i j)) rows.length:=by show((mmL O C rows n).getD l []).getD j 0=_;unfold mmL;rw[qI _ _ _ A,vW hO hR (B l A).1];rfl
variable {n:Nat} {A:LL} {p:LI} (hA:gT O q n A p)
include hA
end
def og(O:aQ)(A B:LL)(n:Nat):LL:=bC O (A++B) n
def lx(O:aQ)(A B:LL)(n:Nat):LL:=iT O (iT O A n++iT O B n) n
def oe(O:aQ)(A B:LL)(n:Nat):LL:=bC O (jw O A B) n
section
variable {O:aQ} {q:Int} (hO:O.Fld q)
include hO
variable {n:Nat}
def Cn(O:aQ)(q:Int)(n:Nat)(A:LL):Prop:=∃p,gT O q n A p
omit hO in
theorem Cn.rows{A:LL}(h:Cn O q n A):Rows q n A:=by obtain⟨p,h⟩:=h;exact h.rows
theorem Cn.canon{A:LL}(h:Rows q n A):Cn O q n (bC O A n):=⟨_,(cI hO h).1⟩
theorem Cn.null{A:LL}(h:Rows q n A):Cn O q n (iT O A n):=⟨_,FU hO h⟩
theorem Cn.self{A:LL}(h:Cn O q n A):bC O A n=A:=by obtain⟨p,h⟩:=h;exact L5 hO h
omit hO in
theorem Cn.le{A:LL}(hA:Cn O q n A):A<=n:=by
 obtain⟨p,hA⟩:=hA;have key:∀i,i<A.length->i<=pvt p i:=fun i=>by
  induction i with
  |zero=>intro _;omega
  |succ i ih=>intro h;have:=ih om;have:=hA.inc i (i+1) om h;omega
 rcases Nat.eq_zero_or_pos A with B|B
 .omega
 .have C:=key (A.length-1) om;have D:=hA.lt (A.length-1) om;omega
section
variable {A B:LL} (hA:Rows q n A) (hB:Rows q n B)
include hA hB
end
end
section
variable {O:aQ} {q:Int} (hO:O.Fld q)
include hO
end
def eO(T:Nat->Bool):Nat->Nat
 |0=>0
 |n+1=>eO T n+if T n=true then 1 else 0
theorem GQ(T:Nat->Bool):∀n,eO T n<=n
 |0=>zr
 |n+1=>by have:=GQ T n;simp only[eO];split<;>omega
theorem B9{T L U:Nat->Bool}{i:Nat}(D:∀j,T j=true->U j=true)(B:∀j,L j=true->U j=true/\T j=false/\j≠i)(C:U i=true/\T i=false):
 ∀n,eO T n+eO L n+(if i<n then 1 else 0)<=eO U n
 |0=>by simp[eO]
 |n+1=>by
  have E:=B9 D B C n;simp only[eO];by_cases e:n=i
  .subst e;have A:L n≠true:=fun h=>(B n h).2.2 rfl;rw[iN (Nat.lt_irrefl _)] at E;rw[iP (Nat.lt_succ_self _),C.1,C.2,iN A];simp;omega
  .have hi:(if i<n+1 then 1 else 0)=if i<n then 1 else 0:=by
    by_cases h:i<n
    .rw[iP h,iP om]
    .rw[iN h,iN om]
   rw[hi];cases hT:T n
   .cases A:L n
    .simp;omega
    .rw[(B n A).1];simp;omega
   .have A:L n=false:=by
     cases A:L n
     .rfl
     .rw[(B n A).2.1] at hT;exact aB hT sM
    rw[D n hT,A];simp;omega
theorem CB{T L:Nat->Bool}(h:∀j,T j=true->L j=false):∀n,eO T n+eO L n<=n
 |0=>zr
 |n+1=>by
  have A:=CB h n;simp only[eO];cases hT:T n
  .simp;split<;>omega
  .rw[h n hT];simp;omega
theorem zC{T U:Nat->Bool}:∀{n},(∀j,j<n->T j=true->U j=true)->eO T n<=eO U n
 |0,_=>zr
 |n+1,h=>by
  have B:=zC (n:=n) fun j A=>h j om;simp only[eO];cases hT:T n
  .simp;omega
  .rw[h n om hT];simp;omega
section
variable {O:aQ} {q:Int} (hO:O.Fld q) {n:Nat} {gen:LL} {p:LI}
include hO
theorem ZG(hA:gT O q n gen p){S:List Nat}(U:S.length<gen.length):
 ∃x,aZ O gen x/\(∃j,j<n/\x j≠0)/\∀s,s∈S->x s=0:=by
 have hq:0<q:=by have:=hO.lt.pos;omega
 let k:=gen.length
 let B:LL:=S.map fun s=>(List.range k).map fun i=>ent gen i s
 have F:B.length=S.length:=by simp[B]
 have I:∀m,(A:m<S.length)->∀i,i<k->ent B m i=ent gen i S[m]:=fun m A i hi=>by simp[ent,B,List.getD,A,hi]
 have hR:=hA.rows.r hq;have hB:Rows q k B:=fun m A=>by
  rw[F] at A;have e:B m []=(List.range k).map fun i=>ent gen i S[m]:=by simp[B,List.getD,A]
  rw[e];refine⟨by simp,fun i=>?_⟩;by_cases hi:i<k
  .have C:((List.range k).map fun i=>ent gen i S[m]).getD i 0=ent gen i S[m]:=by simp[List.getD,hi]
   rw[C];exact hR i _
  .have C:((List.range k).map fun i=>ent gen i S[m]).getD i 0=0:=by simp[List.getD,hi]
   rw[C];exact⟨Int.le_refl _,hq⟩
 have V:=XS hO hB;obtain⟨J,K⟩:=cI hO hB;have M:=rP hO (rZ hO J) K.1;have G:=FU hO hB;have D:0<(iT O B k).length:=by have E:k=gen:=rfl;rw[F] at M;omega
 have H:=G.rows.r hq;have R:aZ O (iT O B k) (ent (iT O B k) 0):=aZ.row hO D (H 0);obtain⟨P,W,X⟩:=(SW hO hB _).1 R;refine⟨fun j=>aX O (fun i=>O.mul (ent (iT O B k) 0 i) (ent gen i j)) gen,⟨_,fun j=>rfl⟩,?_,fun s Q=>?_⟩
 .refine aY0 fun N=>?_;have T:∀j,aX O (fun i=>O.mul (ent (iT O B k) 0 i) (ent gen i j)) gen.length=0:=fun j=>by
   by_cases L:j<n
   .exact aY0 fun h=>N ⟨j,L,h⟩
   .exact bR hO fun i _=>by rw[tJ hA.rows om,hO.mul_zero]
  have E:=rZ hO hA _ (H 0) T _ (G.lt 0 D);rw[G.one 0 D] at E;exact aB E dC
 .obtain⟨m,A,rfl⟩:=List.getElem_of_mem Q;have h:=P m (by rw[F];exact A);refine Eq.trans (aO fun i hi=>?_) h;rw[hO.mul_comm,I m A i hi]
end
def iL(gen:LL)(i:Nat):LI:=aT gen fun t=>ent gen t i
theorem oE(gen:LL)(i:Nat):(iL gen i).length=gen.length:=aW _ _
theorem xF{gen:LL}{i t:Nat}(h:t<gen):(iL gen i).getD t 0=ent gen t i:=aK h
theorem CC{gen:LL}{i t:Nat}(h:gen<=t):(iL gen i).getD t 0=0:=by simp[List.getD,aY4 (show(iL gen i).length<=t by rw[oE];omega)]
def dY(gen:LL)(S:List Nat):LL:=S.map (iL gen)
theorem lS(gen:LL)(S:List Nat):(dY gen S).length=S.length:=by simp[dY]
theorem qD{gen:LL}{S:List Nat}{s:Nat}(h:s<S):(dY gen S).getD s []=iL gen S[s]:=by simp[dY,List.getD,h]
theorem rI(gen:LL)(S:List Nat)(i:Nat):dY gen (S++[i])=dY gen S++[iL gen i]:=by simp[dY]
section
variable {O:aQ} {q:Int} (hO:O.Fld q) {n:Nat} {gen:LL} {p:LI}
include hO
theorem vV(hq:jS q gen)(S:List Nat):Rows q gen (dY gen S):=fun s A=>by
 rw[lS] at A;rw[qD A];refine⟨oE _ _,fun t=>?_⟩;by_cases B:t<gen
 .rw[xF B];exact hq _ _
 .rw[CC om];exact⟨Int.le_refl _,oA hO.lt.pos⟩
theorem MU {D : LL} (L : jS q D) (hI : wV O q (ent D) D) {v : LI} (F : ∀ j, 0 <= v j 0 /\ v j 0 < q) (hn : ¬ aZ O D fun j => v j 0) :
 wV O q (ent (D++[v])) (D++[v]).length:=fun c B G i hi=>by
 rw[aZ1,aZ2] at G hi;have H:∀j,O.add (aX O (fun i=>O.mul (c i) (ent D i j)) D) (O.mul (c D) (v j 0))=0:=fun j=>by have h:=G j;rw[aX,lD] at h;refine Eq.trans (congrArg (fun y=>O.add y _) (aO fun i hi=>?_)) h;rw[nJ hi]
 have C:c D.length=0:=by
  refine aY0 fun M=>hn ?_;have J:0<c D.length:=by have:=(B D).1;omega
  have I:=hO.mul_inv _ J (B _).2;have E:aZ O D fun j=>aX O (fun i=>O.mul (c i) (ent D i j)) D.length:=⟨c,fun j=>rfl⟩
  refine(aZ.smul hO (O.mul (O.inv (c D)) (O.neg 1)) E).congr fun j=>?_;have h:=H j;have A:=E.lt hO j;have e:O.mul (c D) (v j 0)=O.neg (aX O (fun i=>O.mul (c i) (ent D i j)) D):=hO.neg_unique (hO.lt.mul _ _) h;have K:(1:Int)<q:=hO.lt.pos;show v j 0=_
  calc v j 0=O.mul 1 (v j 0):=(hO.one_mul (F j).1 (F j).2).symm
   _=O.mul (O.mul (O.inv (c D)) (c D)) (v j 0):=by rw[hO.mul_comm (O.inv _),I]
   _=O.mul (O.inv (c D)) (O.neg (aX O (fun i=>O.mul (c i) (ent D i j)) D)):=by rw[hO.mul_assoc,e]
   _=_:=by rw[hO.mul_assoc,hO.neg_mul,hO.one_mul A.1 A.2]
 by_cases e:i=D
 .rw[e];exact C
 .refine hI c B (fun j=>?_) i om;have h:=H j;have A:=dS hO (fun i=>O.mul (c i) (ent D i j)) D;rw[C,hO.zero_mul,hO.add_zero _ A.1 A.2] at h;exact h
theorem JJ(hA:gT O q n gen p){S:List Nat}(E:∀i,i<n->aZ O (dY gen S) fun t=>(iL gen i).getD t 0):gen.length<=S.length:=by
 refine aY0 fun K=>?_;have hq:0<q:=by have:=hO.lt.pos;omega
 obtain⟨x,⟨a,F⟩,⟨j,H,C⟩,J⟩:=ZG hO hA (S:=S) om;obtain⟨c,G⟩:=E j H;refine C ?_;have e:∀i,x i=aX O (fun t=>O.mul (a t) ((iL gen i).getD t 0)) gen.length:=fun i=>by rw[F];exact aO fun t B=>by rw[xF B]
 have I:∀t,t<gen.length->O.mul (a t) ((iL gen j).getD t 0)=aX O (fun s=>O.mul (c s) (O.mul (a t) (ent (dY gen S) s t))) (dY gen S).length:=fun t B=>by have h:=G t;dsimp only at h;rw[h,eY hO];refine aO fun s _=>?_;rw[<-hO.mul_assoc,hO.mul_comm (a t),hO.mul_assoc]
 rw[e j,aO I,mE hO (fun t s=>O.mul (c s) (O.mul (a t) (ent (dY gen S) s t)))];refine bR hO fun s A=>?_;rw[lS] at A;have D:aX O (fun t=>O.mul (c s) (O.mul (a t) (ent (dY gen S) s t))) gen.length=O.mul (c s) (x S[s]):=by rw[e S[s],eY hO];refine aO fun t _=>?_;unfold ent;rw[qD A]
 rw[D,J _ (aY6 A),hO.mul_zero]
theorem EM(hq:jS q gen){S:List Nat}(hI:wV O q (ent (dY gen S)) (dY gen S).length):S.length<=gen.length:=by have hR:=vV hO hq S;obtain⟨A,C⟩:=cI hO hR;have D:=rP hO (B:=bC O (dY gen S) gen) hI C.2;have E:=Cn.le (O:=O) (q:=q) (n:=gen.length) ⟨_,A⟩;rw[lS] at D;omega
end
end
section
open Go.RowKit
def kh(w:Wo)(P M:Int)(Mq:LI)(e:Ending)(w':Wo):Prop:=∃u,e=.returned (.agg #[P,M,u])/\OI w w' u Mq/\Below w w w'
structure iC(w w0:Wo)(P M:Int)(mv:Va)(n:Int)(gv:Va):Prop where
 blk:Blk w0 w 27 [(P:aV),(M:aV),mv,(n:aV),gv]
 bel:Below w w w0
section
variable {w w0 w1:Wo} {P M n:Int} {mv gv:Va}
theorem iC.mk'(w:Wo)(P M:Int)(mv:Va)(n:Int)(gv:Va):iC w (w.alloc (.cells #[P,M,mv,n,gv] 27)) P M mv n gv:=⟨Blk.new w 27 [(P:aV),(M:aV),mv,(n:aV),gv],aH w _⟩
theorem iC.on(h:iC w w0 P M mv n gv)(A:Below w0 w0 w1):iC w w1 P M mv n gv:=⟨h.blk.belowS A,aC h.bel A⟩
theorem iC.c0(h:iC w w0 P M mv n gv):w0.cell? w.heap.size=some (P:aV):=h.blk.cell 0
theorem iC.c1(h:iC w w0 P M mv n gv):w0.cell? ⟨w.heap.size,1,none⟩=some (M:aV):=h.blk.cell 1
theorem iC.c2(h:iC w w0 P M mv n gv):w0.cell? ⟨w.heap.size,2,none⟩=some mv:=h.blk.cell 2
theorem iC.c3(h:iC w w0 P M mv n gv):w0.cell? ⟨w.heap.size,3,none⟩=some (n:aV):=h.blk.cell 3
theorem iC.c4(h:iC w w0 P M mv n gv):w0.cell? ⟨w.heap.size,4,none⟩=some gv:=h.blk.cell 4
end
noncomputable def fE(P M:Int)(Mq:LI)(n:Int)(gen:LL):Int:=
 if dI P M Mq≠0 then dI P M Mq else if 1<=n/\n<=64 then spaceE P M Mq n gen else 4
theorem QV{P M:Int}{Mq:LI}{A:Int}{rows:LL}(h:spaceE P M Mq A rows=0):fB P M Mq A rows=0/\bC (aD P M Mq) rows A.toNat=rows:=by
 unfold spaceE at h;split at h
 .rename_i h1;exact aB h h1
 rename_i h1;split at h
 .rename_i h2;exact⟨Decidable.not_not.1 h1,h2⟩
 .cases h
theorem fP{P M:Int}{Mq:LI}{n:Int}{gen:LL}(h:fE P M Mq n gen=0):
 cZ P M Mq/\1<=n/\n<=64/\gen.length<=256/\Rows (aF P M) n.toNat gen/\bC (aD P M Mq) gen n.toNat=gen:=by
 unfold fE at h;split at h
 .rename_i h1;exact aB h h1
 rename_i h1;split at h
 case isFalse=>cases h
 rename_i h2;obtain⟨D,E⟩:=QV h;obtain⟨A,F,G,B,C⟩:=fM D;exact⟨A,h2.1,h2.2,B,C,E⟩
theorem K2(w:Wo)(P M n:Int)(mv gv:Va)(Mq:LI)(gen:LL)(L:SI w mv Mq)(H:SS w gv gen):
 Calls prog 16 #[.agg #[P,M,mv,n,gv]] w (kV w (fE P M Mq n gen)):=by
 obtain⟨A,c,rfl,H⟩:=H;have G:=zh L;have J:=zh (show SS w (.slice A gen c) gen from⟨A,c,rfl,H⟩);clear H L;obtain⟨k,hk⟩:=xE gen.length;rw[<-hk] at J|-;have R:=zh hk;clear hk;have B:=zh (iC.mk' w P M mv n (.slice A k c));by_cases E:dI P M Mq=0
 case neg=>
  have F:Hid (fE P M Mq n gen=dI P M Mq):=by show _=_;unfold fE;rw[iP E]
  have S:(dI P M Mq !=0)=true:=by rw[eC];exact E
  clear E;go_enter func16,ntmps16;go_wp2_with fail;generalize hw0:w.alloc (.cells #[P,M,mv,n,.slice A k c] 27)=w0 at*;have c0:=B.c0;have c1:=B.c1;have c2:=B.c2;have c3:=B.c3;have c4:=B.c4;go_wp2_with fail;refine(mA _ P M mv Mq (G.below B.bel zr)).mono ?_;rintro e w1 ⟨rfl,D⟩;have N:=zh (aC B.bel D);clear D;go_wp2_with fail;go_ret;exact⟨by rw[F.out];rfl,N.out⟩
 have I:=zh E;by_cases hn:1<=n/\n<=64
 .have F:Hid (fE P M Mq n gen=spaceE P M Mq n gen):=by show _=_;unfold fE;rw[iN (by simpa using E),iP hn]
  obtain⟨hn1,T⟩:=hn;clear E;go_enter func16,ntmps16;go_wp2_with fail;generalize hw0:w.alloc (.cells #[P,M,mv,n,.slice A k c] 27)=w0 at*;have c0:=B.c0;have c1:=B.c1;have c2:=B.c2;have c3:=B.c3;have c4:=B.c4;go_wp2_with fail;refine(mA _ P M mv Mq (G.below B.bel zr)).mono ?_;rintro e w1 ⟨rfl,D⟩;rw[I.out];have C:=zh (B.on D);clear D c0 c1 c2 c3 c4;have c0:=C.c0;have c1:=C.c1;have c2:=C.c2;have c3:=C.c3;have c4:=C.c4;go_wp2_with fail;refine(K4 _ P M n mv _ Mq gen (G.below C.bel zr) (J.below C.bel zr)).mono ?_;rintro e w2 ⟨rfl,K⟩;have O:=zh (aC C.bel K);clear K;go_wp2_with fail;go_ret;exact⟨by rw[F.out];rfl,O.out⟩
 .have F:Hid (fE P M Mq n gen=4):=by show _=_;unfold fE;rw[iN (by simpa using E),iN hn]
  have Q:n<1\/64<n:=om;clear E hn;rcases Q with hn|hn
  case' inr=>have hn1:¬n<1:=om
  all_goals
   go_enter func16,ntmps16;go_wp2_with fail;generalize hw0:w.alloc (.cells #[P,M,mv,n,.slice A k c] 27)=w0 at*;have c0:=B.c0;have c1:=B.c1;have c2:=B.c2;have c3:=B.c3;have c4:=B.c4;go_wp2_with fail;refine(mA _ P M mv Mq (G.below B.bel zr)).mono ?_;rintro e w1 ⟨rfl,D⟩;rw[I.out];have C:=zh (B.on D);clear D c0 c1 c2 c3 c4;have c0:=C.c0;have c1:=C.c1;have c2:=C.c2;have c3:=C.c3;have c4:=C.c4;go_wp2_with fail;go_ret;exact⟨by rw[F.out];rfl,C.bel⟩
end
section
def cG(x:Nat->Int)(n:Nat):Nat:=eO (fun j=>decide (x j≠0)) n
inductive Cmb (O:aQ) (q:Int) (G:LL):Nat->Nat->Bool->(Nat->Int)->(Nat->Int)->Prop
 |nil (first:Nat) (alone:Bool) (v:Nat->Int):Cmb O q G first 0 alone v v
 |step {first left:Nat} {alone:Bool} {v x:Nat->Int} (i:Nat) (a:Int) (hi:first<=i) (hl:i+left<G.length) (ha:1<=a/\a<q) (h1:alone=true->a=1)
  (h:Cmb O q G (i+1) left false (fun j=>O.add (v j) (O.mul a (ent G i j))) x):Cmb O q G first (left+1) alone v x
def cmN(q:Nat):Nat->Nat->Nat
 |_,0=>1
 |0,_+1=>0
 |m+1,l+1=>(q-1)*cmN q m l+cmN q m (l+1)
theorem vU{T U:Nat->Bool}:∀{n},(∀j,j<n->T j=U j)->eO T n=eO U n
 |0,_=>rfl
 |n+1,h=>by simp only[eO,vU (n:=n) fun j A=>h j om,h n om]
theorem MB{q:Nat}(hq:0<q):∀m l,cmN q m l<=q^m
 |0,0=>zr
 |m+1,0=>by simp only[cmN];exact Nat.pow_pos hq
 |0,l+1=>by simp[cmN]
 |m+1,l+1=>by
  have A:=MB hq m l;have B:=MB hq m (l+1);have C:(q-1)*cmN q m l<=(q-1)*q^m:=Nat.mul_le_mul_left _ A;have D:q^(m+1)=(q-1)*q^m+q^m:=by
   obtain⟨r,rfl⟩:∃r,q=r+1:=⟨q-1,om⟩
   rw[Nat.pow_succ,Nat.add_sub_cancel,Nat.mul_comm,Nat.succ_mul]
  simp only[cmN];omega
section
variable {O:aQ} {q:Int} (hO:O.Fld q) {n:Nat} {gen:LL}
include hO
theorem VX {G : LL} : ∀ (left A : Nat) (D : Bool) (v x : Nat -> Int) (a : Nat -> Int), (∀ i, 0 <= a i /\ a i < q) -> (∀ i, i < A -> a i = 0) -> eO (fun i => decide (a i ≠ 0)) G = left ->
 (D=true->∀i,i<G.length->a i≠0->(∀k,k<i->a k=0)->a i=1)->
 (∀j,x j=O.add (v j) (aX O (fun i=>O.mul (a i) (ent G i j)) G))->(∀j,0<=v j/\v j<q)->Cmb O q G A left D v x
 |0,A,D,v,x,a,har,haf,hc,h1,hx,hv=>by
  have I:∀m,eO (fun i=>decide (a i≠0)) m=0->∀i,i<m->a i=0:=fun m=>by
   induction m with
   |zero=>exact fun _ i hi=>aB hi (aY5 _)
   |succ m ih=>
    intro h i hi;simp only[eO] at h;by_cases e:i=m
    .subst e;refine aY0 fun C=>?_;rw[iP (by simpa using C)] at h;omega
    .exact ih om i om
  have e:x=v:=funext fun j=>by rw[hx,bR hO fun i hi=>by rw[I _ hc i hi,hO.zero_mul]];exact hO.add_zero _ (hv j).1 (hv j).2
  rw[e];exact .nil _ _ _
 |left+1,A,D,v,x,a,har,haf,hc,h1,hx,hv=>by
  --the least place with a coefficient
  have S:∀m,eO (fun i=>decide (a i≠0)) m≠0->∃i,i<m/\a i≠0/\∀k,k<i->a k=0:=fun m=>by
   induction m with
   |zero=>exact fun h=>aB rfl h
   |succ m ih=>
    intro h;by_cases B:eO (fun i=>decide (a i≠0)) m=0
    .have I:∀i,i<m->a i=0:=by
      clear ih h
      induction m with
      |zero=>exact fun i hi=>aB hi (aY5 _)
      |succ m ih=>
       intro i hi;simp only[eO] at B;by_cases e:i=m
       .subst e;refine aY0 fun C=>?_;rw[iP (by simpa using C)] at B;omega
       .exact ih om i om
     refine⟨m,om,fun e=>h ?_,I⟩;simp only[eO,B];rw[iN (by simpa using e)]
    .obtain⟨i,hi,F⟩:=ih B;exact⟨i,om,F⟩
  obtain⟨i,hi,H,M⟩:=S G om;have V:A<=i:=by
   rcases Nat.lt_or_ge i A with h|h
   .exact aB (haf i h) H
   .exact h
  --the others
  let b:Nat->Int:=fun k=>if k=i then 0 else a k
  have Q:∀m,i<m->eO (fun k=>decide (b k≠0)) m+1=eO (fun k=>decide (a k≠0)) m:=fun m=>by
   induction m with
   |zero=>exact fun h=>aB h (aY5 _)
   |succ m ih=>
    intro h;simp only[eO];by_cases e:m=i
    .subst e;rw[vU (T:=fun k=>decide (b k≠0)) (U:=fun k=>decide (a k≠0)) fun t X=>by have e:b t=a t:=iN om;simp only[e],iN (by simp[b]),iP (by simpa using H)]
    .have N:b m=a m:=iN e;have:=ih om;simp only[N];omega
  have J:∀k,k<i+1->b k=0:=fun k hk=>by
   by_cases e:k=i
   .exact iP e
   .exact(iN e).trans (M k om)
  have R:eO (fun k=>decide (b k≠0)) G=left:=by have:=Q _ hi;omega
  have Y:eO (fun k=>decide (b k≠0)) G.length+(i+1)<=G.length:=by
   have h:=CB (T:=fun k=>decide (b k≠0)) (L:=fun k=>decide (k<i+1)) (fun j K=>by simp only[decide_eq_true_eq] at K;simp only[decide_eq_false_iff_not];exact fun h=>K (J j h)) G;have F:∀m,i+1<=m->i+1<=eO (fun k=>decide (k<i+1)) m:=fun m=>by
    have P:∀t,t<=i+1->eO (fun k=>decide (k<i+1)) t=t:=fun t=>by
     induction t with
     |zero=>exact fun _=>rfl
     |succ t ih=>intro X;simp only[eO];rw[ih om,iP (by simp;omega)]
    induction m with
    |zero=>exact fun h=>om
    |succ m ih=>
     intro h;by_cases e:m=i
     .subst e;rw[P _ zr];exact zr
     .simp only[eO];have:=ih om;omega
   have:=F G hi;omega
  have B:0<a i:=by have:=(har i).1;omega
  refine .step i (a i) V om ⟨om,(har i).2⟩ (fun e=>h1 e i hi H M) ?_;refine VX left (i+1) false _ x b (fun k=>?_) J R (fun e=>by simp at e) (fun j=>?_) (fun j=>hO.lt.add _ _)
  .by_cases e:k=i
   .have:b k=0:=iP e;rw[this];exact⟨Int.le_refl _,oA hO.lt.pos⟩
   .have:b k=a k:=iN e;rw[this];exact har k
  .rw [hx, hO.add_assoc];congr 1;have W : aX O (fun k => O.mul (a k) (ent G k j)) G = O.add (aX O (fun k => if k = i then O.mul (a i) (ent G i j) else 0) G) (aX O (fun k => O.mul (b k) (ent G k j)) G) := by
    rw[<-jJ hO];refine aO fun k _=>?_;have E:=hO.lt.mul (a k) (ent G k j);by_cases e:k=i
    .subst e;rw[iP rfl,show b k=0 from iP rfl,hO.zero_mul,hO.add_zero _ E.1 E.2]
    .rw[iN e,show b k=a k from iN e,hO.zero_add E.1 E.2]
   rw[W,cO hO (k:=i) (by rw[iP rfl];exact hO.lt.mul _ _) hi fun k _ C=>iN C,iP rfl]
theorem zY{c:Int}(B:0<=c/\c<q)(A:c≠0){x:Nat->Int}(C:∀j,0<=x j/\x j<q):∀n,cG (fun j=>O.mul c (x j)) n=cG x n
 |0=>rfl
 |n+1=>by
  have D:=zY B A C n;have e:decide (O.mul c (x n)≠0)=decide (x n≠0):=by
   by_cases h:x n=0
   .rw[h,hO.mul_zero]
   .rw[dE h,dE];intro e;rcases hO.mul_eq_zero B (C n) e with e|e
    .exact A e
    .exact h e
  unfold cG at D|-;simp only[eO,D,e]
structure ED(O:aQ)(n:Nat)(gen:LL)(set:List Nat)(G:LL):Prop where
 len:G.length=gen.length
 slen:set.length=gen.length
 row:∀x,aZ O gen x->∀j,x j=aX O (fun i=>O.mul (x (set i 0)) (ent G i j)) G.length
def zD(x:Nat->Int)(set:List Nat):Nat:=(set.filter fun i=>decide (x i≠0)).length
omit hO in
theorem QR(x:Nat->Int):∀set:List Nat,eO (fun i=>decide (x (set i 0)≠0)) set=zD x set:=fun set=>by
 have h:∀m,m<=set.length->eO (fun i=>decide (x (set i 0)≠0)) m=zD x (set.take m):=fun m=>by
  induction m with
  |zero=>exact fun _=>rfl
  |succ m ih=>
   intro B;have e:set.take (m+1)=set.take m++[set m 0]:=by rw[List.take_add_one,aZ3 om];simp[List.getD,aZ3 (show m<set from om)]
   simp only[eO,zD,e,List.filter_append,aZ1] at ih|-;rw[ih om];have key:∀y,(if decide (x y≠0)=true then 1 else 0)=(List.filter (fun i=>decide (x i≠0)) [y]).length:=fun y=>by by_cases A:x y=0<;>simp[A]
   exact congrArg _ (key _)
 rw[h _ zr,List.take_length]
theorem Y8{set:List Nat}{G:LL}(A:ED O n gen set G){x:Nat->Int}(F:aZ O gen x)(N:∃j,j<n/\x j≠0):
 0<zD x set/\∃y,Cmb O q G 0 (zD x set) true (fun _=>0) y/\cG y n=cG x n:=by
 have B:=F.lt hO;have hq:0<q:=by have:=hO.lt.pos;omega
 have C:=QR x set;rw[A.slen,<-A.len] at C
 --the first place with a coefficient
 have P:∀m,(∃i,i<m/\x (set i 0)≠0/\∀k,k<i->x (set k 0)=0)\/∀i,i<m->x (set i 0)=0:=fun m=>by
  induction m with
  |zero=>exact .inr fun i hi=>aB hi (aY5 _)
  |succ m ih=>
   rcases ih with⟨i,hi,h⟩|h
   .exact .inl ⟨i,om,h⟩
   .by_cases e:x (set m 0)=0
    .exact .inr fun i hi => by
      by_cases M:i=m
      .rw[M];exact e
      .exact h i om
    .exact .inl ⟨m,om,e,h⟩
 rcases P G with⟨i,hi,K,S⟩|Y
 .have V:0<zD x set:=by
   rw[<-C];have h:=B9 (T:=fun _=>false) (L:=fun _=>false) (U:=fun i=>decide (x (set i 0)≠0)) (i:=i) (fun j h=>by simp at h) (fun j h=>by simp at h) ⟨by simpa using K,rfl⟩ G;rw[iP hi] at h;omega
  refine⟨V,?_⟩;have W:0<x (set i 0):=by have:=(B (set i 0)).1;omega
  let c:=O.inv (x (set i 0))
  have I:0<=c/\c<q:=hO.inv_lt _;have D:O.mul (x (set i 0)) c=1:=hO.mul_inv _ W (B _).2;have H:c≠0:=fun e=>by rw[e,hO.mul_zero] at D;exact aB D dC
  refine⟨fun j=>O.mul c (x j),?_,zY hO I H B n⟩;have E:∀k,O.mul c (x (set k 0))≠0↔x (set k 0)≠0:=fun k=>by
   constructor
   .intro h e;exact h (by rw[e,hO.mul_zero])
   .intro h e;rcases hO.mul_eq_zero I (B _) e with e|e
    .exact H e
    .exact h e
  refine VX hO (zD x set) 0 true (fun _=>0) _ (fun k=>O.mul c (x (set k 0))) (fun k=>hO.lt.mul _ _) (fun k hk=>aB hk (aY5 _)) ?_ (fun _ k hk Q R=>?_) (fun j=>?_) (fun j=>⟨Int.le_refl _,hq⟩)
  .rw[<-C];congr 1;funext k;exact decide_eq_decide.2 (E k)
  .have e:k=i:=by
    rcases Nat.lt_trichotomy k i with h|h|h
    .exact aB (S k h) ((E k).1 Q)
    .exact h
    .exact aB (R i h) ((E i).2 K)
   rw[e,hO.mul_comm];exact D
  .have J:=dS hO (fun i=>O.mul (O.mul c (x (set i 0))) (ent G i j)) G;rw[hO.zero_add J.1 J.2,A.row x F j,eY hO];exact aO fun k _=>(hO.mul_assoc _ _ _).symm
 .obtain⟨j,Z,X⟩:=N;exact aB ((A.row x F j).trans (bR hO fun i hi=>by rw[Y i hi,hO.zero_mul])) X
end
def oN(used set:List Nat):Nat:=(set.filter fun i=>!used.contains i).length
def lX(k w:Nat):List Nat->List (List Nat)->Nat
 |_,[]=>0
 |used,S::F=>(w+1+oN used S-k)+lX k w (used++S) F
theorem FT{n:Nat}(T:Nat->Bool):∀{L:List Nat},L.Nodup->(∀i,i∈L->i<n)->(L.filter T).length<=eO (fun j=>T j&&L.contains j) n
 |[],_,_=>aZ5 _
 |a::L,hn,hl=>by
  obtain⟨B,hn⟩:=List.nodup_cons.1 hn;have C:=FT T hn fun i hi=>hl i (List.mem_cons_of_mem _ hi);have A:∀j,(T j&&L.contains j)=true->(T j&&(a::L).contains j)=true:=fun j h=>by simp only[aY9,List.contains_cons,Bool.or_eq_true] at h|-;exact⟨h.1,.inr h.2⟩
  cases hT:T a
  .rw[List.filter_cons_of_neg (by simp[hT])];exact aZ6 C (zC fun j _ h=>A j h)
  .rw[List.filter_cons_of_pos hT,List.length_cons]
   have h:=B9 (T:=fun j=>T j&&L.contains j) (L:=fun _=>false) (U:=fun j=>T j&&(a::L).contains j) (i:=a) A (fun j h=>by simp at h)
    ⟨by simp[hT],by simp[B]⟩ n
   rw[iP (hl a List.mem_cons_self)] at h;omega
theorem tM(P Q:Nat->Bool):∀L:List Nat,(L.filter P).length<=(L.filter fun i=>P i&&Q i).length+(L.filter fun i=>!Q i).length
 |[]=>aZ5 _
 |a::L=>by have A:=tM P Q L;cases hP:P a<;>cases hQ:Q a<;>simp[hP,hQ]<;>omega
theorem tN(Q:Nat->Bool):∀L:List Nat,(L.filter Q).length+(L.filter fun i=>!Q i).length=L.length
 |[]=>rfl
 |a::L=>by have A:=tN Q L;cases hQ:Q a<;>simp[hQ]<;>omega
theorem lg:∀A B C:Bool,(if((A&&!B)&&C)=true then 1 else 0)+(if(A&&!(B||C))=true then 1 else 0)<=(if(A&&!B)=true then 1 else 0):=by decide
theorem JZ{n k w:Nat}{x:Nat->Int}:∀{F:List (List Nat)} {used:List Nat},(∀S,S∈F->S.Nodup/\S.length=k/\(∀i,i∈S->i<n)/\w<zD x S)->
 lX k w used F<=eO (fun j=>decide (x j≠0)&&!used.contains j) n
 |[],used,_=>aZ5 _
 |S::F,used,h=>by
  obtain⟨hn,L,C,D⟩:=h S List.mem_cons_self;have E:=JZ (F:=F) (used:=used++S) fun S' B=>h S' (List.mem_cons_of_mem _ B);have G:=tM (fun i=>decide (x i≠0)) (fun i=>!used.contains i) S;have H:=tN (fun i=>!used.contains i) S;have I:=FT (n:=n) (fun i=>decide (x i≠0)&&!used.contains i) hn C;have A:∀m,eO (fun j=>(decide (x j≠0)&&!used.contains j)&&S.contains j) m+eO (fun j=>decide (x j≠0)&&!(used++S).contains j) m<=eO (fun j=>decide (x j≠0)&&!used.contains j) m:=fun m=>by
   induction m with
   |zero=>exact zr
   |succ m E=>
    simp only[eO];have e:(used++S).contains m=(used.contains m||S.contains m):=by simp
    have K:=lg (decide (x m≠0)) (used.contains m) (S.contains m);simp only[e];omega
  have J:=A n;unfold zD at D;simp only[lX,oN];omega
theorem LP{x:Nat->Int}{n:Nat}(h:∃j,j<n/\x j≠0):cG x n≠0:=by
 obtain⟨j,B,A⟩:=h;have key:∀m,j<m->cG x m≠0:=by
  intro m
  induction m with
  |zero=>intro h;omega
  |succ m ih=>
   intro C;unfold cG;simp only[eO,decide_eq_true_eq];by_cases e:j=m
   .subst e;rw[iP A];omega
   .have:=ih om;unfold cG at this;omega
 exact key n B
theorem L3{O:aQ}{q:Int}(hO:O.Fld q){n:Nat}{gen:LL}{F:List (List Nat)}{Gs:List (LL)}(W:F.length=Gs.length)
 (J:∀j,j<F.length->ED O n gen (F j []) (Gs j [])/\(F j []).Nodup/\∀i,i∈F j []->i<n){B w:Nat}
 (R:∀j,j<F.length->∀v,1<=v->v<=w->∀y,Cmb O q (Gs j []) 0 v true (fun _=>0) y->cG y n≠0->B<=cG y n)
 (P:0<F.length/\gen<=w\/B<lX gen w [] F){x:Nat->Int}(T:aZ O gen x)(G:∃j,j<n/\x j≠0):B<=cG x n:=by
 by_cases L:∃j,j<F.length/\zD x (F j [])<=w
 .obtain⟨j,A,N⟩:=L;obtain⟨C,y,U,E⟩:=Y8 hO (J j A).1 T G;rw[<-E];exact R j A _ C N y U (by rw[E];exact LP G)
 .have K : ∀ S, S ∈ F -> S.Nodup /\ S.length = gen.length /\ (∀ i, i ∈ S -> i < n) /\ w < zD x S := fun S M => by
   obtain⟨j,A,rfl⟩:=List.getElem_of_mem M;have e:F j []=F[j]:=by simp[List.getD,A]
   obtain⟨C,D,H⟩:=J j A;rw[e] at C D H;refine⟨D,C.slen,H,?_⟩;have I:¬zD x (F j [])<=w:=fun h=>L ⟨j,A,h⟩;rw[e] at I;exact Nat.lt_of_not_le I
  rcases P with⟨Q,E⟩|V
  .have D:=K _ (aY6 Q);have:zD x F[0]<=F[0].length:=List.length_filter_le _ _;omega
  .have h:=JZ (used:=[]) K;have e:eO (fun j=>decide (x j≠0)&&!([]:List Nat).contains j) n=cG x n:=by simp[cG]
   omega
structure GrP(O:aQ)(q:Int)(gen:LL)(order S:List Nat):Prop where
 sub:S.Sublist order
 ind:wV O q (ent (dY gen S)) (dY gen S).length
 cov:∀i,i∈order->aZ O (dY gen S) fun t=>(iL gen i).getD t 0
structure GrI(O:aQ)(q:Int)(gen:LL)(R:LL)(pl:LI)(order S:List Nat):Prop where
 bas:Bas q gen R pl
 spn:∀x,aZ O R x↔aZ O (dY gen S) x
 grp:GrP O q gen order S
 len:R.length=S.length
section
variable {O:aQ} {q:Int} (hO:O.Fld q) {gen:LL} (hq:jS q gen) {R:LL} {pl:LI} {order S:List Nat}
include hO
omit hO in
theorem GrI.nil(gen:LL):GrI O q gen [] [] [] []:=
 ⟨Bas.nil q _,fun x=>Iff.rfl,⟨List.Sublist.refl _,fun c _ _ i hi=>aB hi (aY5 _),fun i hi=>aB hi List.not_mem_nil⟩,rfl⟩
include hq
theorem CD(i j:Nat):0<=(iL gen i).getD j 0/\(iL gen i).getD j 0<q:=by
 by_cases h:j<gen
 .rw[xF h];exact hq _ _
 .rw[CC om];exact⟨Int.le_refl _,oA hO.lt.pos⟩
theorem GrI.skip(h:GrI O q gen R pl order S){i:Nat}(C:∀j,cF O R pl (fun t=>(iL gen i).getD t 0) R j=0):GrI O q gen R pl (order++[i]) S:=by
 have B:=(DT hO h.bas (CD hO hq i)).1 C;refine⟨h.bas,h.spn,⟨h.grp.sub.trans (List.sublist_append_left _ _),h.grp.ind,fun j A=>?_⟩,h.len⟩;rcases List.mem_append.1 A with e|e
 .exact h.grp.cov j e
 .rw[List.mem_singleton.1 e];exact(h.spn _).1 B
theorem GrI.take (h : GrI O q gen R pl order S) {i k : Nat} (hk : k < gen.length) (F : cF O R pl (fun t => (iL gen i).getD t 0) R k ≠ 0) {r : LI} (I : r.length = gen.length)
 (K:∀j,j<gen.length->r j 0=O.mul (O.inv (cF O R pl (fun t=>(iL gen i).getD t 0) R k)) (cF O R pl (fun t=>(iL gen i).getD t 0) R j)):
 GrI O q gen (R++[r]) (pl++[(k:Int)]) (order++[i]) (S++[i]):=by
 have J:0<q:=by have:=hO.lt.pos;omega
 have A:=CD hO hq i;obtain⟨hB,M⟩:=Bas.snoc hO h.bas A hk F I K fun j D=>CC D;have hn:¬aZ O (dY gen S) fun t=>(iL gen i).getD t 0:=fun L=>F ((DT hO h.bas A).2 ((h.spn _).2 L) k);have G:=(vV hO hq S).r J;have N:∀x,aZ O (R++[r]) x↔aZ O (dY gen (S++[i])) x:=fun x=>by
  rw[M,rI,qV hO];constructor
  .rintro⟨y,c,E,Q,C⟩;refine⟨y,fun j=>O.mul c ((iL gen i).getD j 0),(h.spn _).1 E,⟨fun _=>c,fun j=>?_⟩,C⟩;have B:=hO.lt.mul c ((iL gen i).getD j 0);show _=O.add 0 (O.mul c ((iL gen i).getD j 0));rw[hO.zero_add B.1 B.2]
  .rintro⟨y,z,E,⟨b,H⟩,C⟩;refine⟨y,O.mul 1 (b 0),(h.spn _).2 E,hO.lt.mul _ _,fun j=>?_⟩;have B:=hO.lt.mul (b 0) ((iL gen i).getD j 0);rw[C j,H j];congr 1;show O.add 0 (O.mul (b 0) ((iL gen i).getD j 0))=_;rw[hO.zero_add B.1 B.2,hO.mul_assoc,hO.one_mul B.1 B.2]
 have P:∀{x:Nat->Int},aZ O (dY gen S) x->aZ O (dY gen (S++[i])) x:=fun{x} C=>by rw[rI,qV hO];exact⟨x,_,C,aZ.zero hO _,fun j=>(hO.add_zero _ (C.lt hO j).1 (C.lt hO j).2).symm⟩
 refine⟨hB,N,⟨h.grp.sub.append (List.Sublist.refl _),?_,fun j D=>?_⟩,by simp[h.len]⟩
 .rw[rI];exact MU hO G h.grp.ind A hn
 .rcases List.mem_append.1 D with e|e
  .exact P (h.grp.cov j e)
  .rw[List.mem_singleton.1 e];rw[rI,qV hO];refine⟨fun _=>0,_,aZ.zero hO _,⟨fun _=>1,fun j=>rfl⟩,fun j=>?_⟩;show _=O.add 0 (O.add 0 (O.mul 1 ((iL gen i).getD j 0)));rw[hO.one_mul (A j).1 (A j).2,hO.zero_add (A j).1 (A j).2,hO.zero_add (A j).1 (A j).2]
end
section
variable {O:aQ} {q:Int} (hO:O.Fld q) {n:Nat} {gen:LL} {p:LI} {order S:List Nat}
include hO
theorem GrP.full(hA:gT O q n gen p)(h:GrP O q gen order S)(A:∀i,i<n->i∈order):S.length=gen.length:=
 Nat.le_antisymm (EM hO (hA.rows.r (oA hO.lt.pos)) h.ind) (JJ hO hA fun i hi=>h.cov i (A i hi))
theorem GrP.all(hA:gT O q n gen p)(h:GrP O q gen order S)(C:order.length=gen.length){S':List Nat}(B:∀i,i<n->aZ O (dY gen S') fun t=>(iL gen i).getD t 0)(D:∀i,i∈S'->i∈order):S=order:=by refine h.sub.eq_of_length (Nat.le_antisymm h.sub.length_le ?_);rw[C];refine JJ hO hA fun i hi=>(B i hi).trans hO fun s A=>?_;rw[lS] at A;have e:=h.cov S'[s] (D _ (aY6 A));unfold ent;rw[qD A];exact e
end
end
section
open Go.RowKit
def iV(w:Wo)(P M:Int)(Mq:LI)(n:Int)(gen:LL)(A:Int)(e:Ending)(w':Wo):Prop:=
 ∃u g,e=.returned (.tuple #[.agg #[P,M,u,n,g],A])/\Sep w w' (fun w2=>SI w2 u Mq/\SS w2 g gen)/\Below w w w'
theorem NW(f:Nat->Int)(k:Nat):aT (k+1) f=aT k f++[f k]:=by unfold aT;rw[List.range_succ,List.map_append];rfl
theorem NV(f:Nat->Int):aT 0 f=[]:=rfl
theorem TO{N:Nat}{f:Nat->Int}(h:∀i,i<N->I64 (f i))(k:Nat):I64 ((aT N f).getD k 0):=by
 by_cases hk:k<N
 .rw[aK hk];exact h k hk
 .rw[bG (by rw[aW];omega)];exact I64.zero
end
section
theorem yS(q r:Nat):(wO q r).length=fR q r:=by unfold wO;rw[aY7,qR]
theorem TH{q r j:Nat}(A:j<fR q r):(wO q r).getD j []=cS q r ((rV q r).getD j 0):=by
 have h:j<(rV q r).length:=by rw[qR];exact A
 simp[wO,List.getD,h]
theorem F3{q r:Nat}(hq:0<q):Rows (q:Int) r (wO q r):=fun k hk=>by
 rw[yS] at hk;rw[TH hk];refine⟨kS _ _ _,fun i=>?_⟩;by_cases hi:i<r
 .unfold cS;rw[aK hi];have:=Nat.mod_lt ((rV q r).getD k 0/q^(r-1-i)) hq;omega
 .rw[bG (by rw[kS];omega)];omega
end
section
open Go.RowKit
theorem X9{q:Int}(h:1<=q){a:Nat}:∀{b:Nat},a<=b->q^a<=q^b
 | 0, hb => by obtain rfl : a = 0 := by omega
               exact Int.le_refl _
 |b+1,hb=>by
   by_cases e:a=b+1
   . subst e;exact Int.le_refl _
   . have B:=X9 h (show a<=b from om);have A:0<=q^b:=Int.pow_nonneg om;rw[Int.pow_succ];exact Int.le_trans B (oA (Int.mul_le_mul_of_nonneg_left h A))
def RP(P M n:Int)(Mq:LI)(gen:LL):Prop:=fE P M Mq n gen=0/\n<=4/\aF P M^gen.length<=81/\aF P M^(n.toNat-gen.length)<=81
theorem ZH(w:Wo)(P M n:Int)(mv gv:Va)(Mq:LI)(gen:LL)(τ:SS w gv gen)(hn:I64 n)
 (b:Bool)(W:b=true↔RP P M n Mq gen)
 (t:∀w',Below w w w'->Calls prog 16 #[.agg #[P,M,mv,n,gv]] w' (kV w' (fE P M Mq n gen)))(hq:fE P M Mq n gen=0->2<=aF P M/\aF P M<=256/\0<=n/\gen.length<=64/\(gen.length:Int)<=n):
 Calls prog 5 #[.agg #[P,M,mv,n,gv],.int .i64 4,.int .i64 81] w (nX w b):=by
 have J:Hid (¬RP P M n Mq gen->b=false):=aG fun h=>by
  cases b
  .rfl
  .exact aB (W.1 rfl) h
 have ε:Hid (RP P M n Mq gen->b=true):=aG W.2;clear W;have δ:=zh t;have U:=zh hq;have T:=zh (iC.mk' w P M mv n gv);obtain⟨y,ι,rfl,_⟩:=τ;clear t hq;go_enter func5,ntmps5;go_upto_region 1 with fail;generalize w.alloc (.cells #[P,M,mv,n,.slice y gen ι] 27)=w0 at*;obtain⟨N,O,Q,R,F,_,_,_,_,_⟩:=T.blk.five;go_wp2_with fail;apply(δ.out w0 T.bel).mono;rintro e w1⟨rfl,o⟩;have G:=zh (T.on o);clear o N O Q R F;obtain⟨N,O,Q,R,F,_,_,_,_,_⟩:=G.blk.five;obtain⟨L,X⟩:=xE (fE P M Mq n gen);have f:=zh X;rw[<-X] at U|-;clear X;by_cases V:L=0
 .subst V;obtain⟨σ,Z,Ae,ν,ξ⟩:=U.out rfl;obtain⟨A,rfl⟩:∃A:Nat,n=(A:Int):=⟨n.toNat,om⟩
  by_cases ω:A<=4
  .have ζ:decide (4<A)=false:=dG om;have x:¬(4:Int)<(A:Int):=om;have ψ:decide ((4:Int)<(A:Int))=false:=dG x;go_wp2_with fail;apply(jH _ P M mv).mono;rintro e w2⟨rfl,r⟩;have H:=zh (G.on r);clear r N O Q R F;obtain⟨N,O,Q,R,F,_,_,_,_,_⟩:=H.blk.five;obtain⟨g,Y⟩:=xE gen.length;have I:=zh Y;rw[<-Y] at F ν ξ|-;obtain⟨q,a⟩:=xE (aF P M);have K:=zh a;rw[<-a] at σ Z|-;clear Y U a;go_wp2;go_loopw [8,25] (fun s i wr=>∃(k:Nat) (p:Int),k<=g/\i=(k:aV)/\s=(p:aV)/\Hid (p=q^k)/\0<=p/\p<=81/\w2=wr) (fun _ i _=>g-(intOf i).toNat)
   .exact⟨0,1,aZ5 _,rfl,rfl,aG (by show _=_;simp),dC,dC,rfl⟩
   .
    obtain⟨k,p,hk,rfl,rfl,l,π,u,rfl⟩:=hrel;by_cases Ad:k<g
    .obtain⟨z,B⟩:=xE (p*q);have c:0<=z:=by rw[B];exact Int.mul_nonneg π om
     have χ:z<=65536:=by rw[B];exact Int.le_trans (Int.mul_le_mul u Z om dC) dC
     have φ:IntKind.i64.wrap (p*q)=z:=by rw[<-B,IntWalk.i64_in _ om]
     have E:Hid (z=q^(k+1)):=aG (by show _=_;rw[B,l.out,Int.pow_succ]);by_cases d:z<=81
     .have t2:¬(81:Int)<z:=om
      go_wp2;exact⟨⟨k+1,z,om,pC,by rw[B],E,c,d,trivial⟩,oI⟩
     .have t2:(81:Int)<z:=om
      go_wp2;go_ret;have C:b=false:=J.out fun h=>by have S:=h.2.2.1;rw[<-K.out,<-I.out] at S;have κ:=X9 (show(1:Int)<=q from om) (show k+1<=g from om);have μ:=E.out;omega
      exact⟨by rw[C];rfl,H.bel⟩
    .obtain rfl:k=g:=om
     go_wp2;go_loopw [9,40] (fun s i wr=>∃(j:Nat) (D:Int),j<=A-k/\i=(j:aV)/\s=(D:aV)/\Hid (D=q^j)/\0<=D/\D<=81/\w2=wr) (fun _ i _=>(A-k)-(intOf i).toNat)
     .exact⟨0,1,aZ5 _,rfl,rfl,aG (by show _=_;simp),dC,dC,rfl⟩
     .
      obtain⟨j,D,Ab,rfl,rfl,m,ρ,v,rfl⟩:=hrel;by_cases Ac:j<A-k
      .obtain⟨z,B⟩:=xE (D*q);have c:0<=z:=by rw[B];exact Int.mul_nonneg ρ om
       have χ:z<=65536:=by rw[B];exact Int.le_trans (Int.mul_le_mul v Z om dC) dC
       have φ:IntKind.i64.wrap (D*q)=z:=by rw[<-B,IntWalk.i64_in _ om]
       have E:Hid (z=q^(j+1)):=aG (by show _=_;rw[B,m.out,Int.pow_succ]);have t3:(j:Int)<(A:Int)-(k:Int):=om;by_cases d:z<=81
       .have t2:¬(81:Int)<z:=om
        go_wp2;exact⟨⟨j+1,z,om,pC,by rw[B],E,c,d,trivial⟩,oI⟩
       .have t2:(81:Int)<z:=om
        go_wp2;go_ret;have C:b=false:=J.out fun h=>by have S:=h.2.2.2;rw[<-K.out,<-I.out,aZ8] at S;have κ:=X9 (show(1:Int)<=q from om) (show j+1<=A-k from om);have μ:=E.out;omega
        exact⟨by rw[C];rfl,H.bel⟩
      .obtain rfl:j=A-k:=om;have t3:¬((A-k:Nat):Int)<(A:Int)-(k:Int):=om
       go_wp2;go_ret;have η:aF P M^gen.length<=81:=by rw[<-K.out,<-I.out,<-l.out];exact u
       have θ:aF P M^(A-gen.length)<=81:=by rw[<-K.out,<-I.out,<-m.out];exact v
       have C:b=true:=ε.out ⟨f.symm,om,η,by rw[aZ8];exact θ⟩;exact⟨by rw[C];rfl,H.bel⟩
  .have ζ:decide (4<A)=true:=dE om;have x:(4:Int)<(A:Int):=om
   go_wp2;go_ret;have C:b=false:=J.out fun h=>by have S:=h.2.1;omega
   exact⟨by rw[C];rfl,G.bel⟩
 .have Aa:(L !=0)=true:=by rw[eC];exact V
  go_wp2;go_ret;have C:b=false:=J.out fun h=>V (f.trans h.1);exact⟨by rw[C];rfl,G.bel⟩
