/- Parts. -/
import Derived.Test.YtnpfliklhbkonaaGreatDoorZA27
set_option maxRecDepth 99999
set_option maxHeartbeats 0
set_option linter.unusedVariables false
namespace Go.Proofs.YtnpfliklhbkonaaGreatDoor
open Go.Proofs.Tryz
section
open Go.RowKit
theorem GY(w:Wo)(v u:Va)(xs ys:LI)(G:SI w v xs)(F:SI w u ys):Calls prog 25 #[v,u] w (nX w (decide (xs=ys))):=by
 obtain⟨A,c,rfl,G⟩:=G;obtain⟨B,d,rfl,F⟩:=F;have hn:=G.len;have X:=F.len;have U:=zh G;have T:=zh F;clear G F;by_cases I:xs.length=ys.length
 .have L:((xs.length:Int) !=(ys.length:Int))=false:=by rw[eB];omega
  have P:=zh I;obtain⟨n,N⟩:=xE xs.length;rw[<-N] at L hn|-;have J:=zh N;clear N;obtain⟨m,M⟩:=xE ys.length;rw[<-M] at L X|-;have Q:=zh M;clear M;have Y:m=n:=by rw[Q.out,J.out,P.out]
  subst Y;clear I;go_enter func25,ntmps25;go_wp2;go_loopw [13] (fun i wr=>∃k:Nat,k<=m/\i=(k:aV)/\Hid (∀j,j<k->xs j 0=ys j 0)/\Hid (Below w w wr)) (fun i _=>m-(intOf i).toNat)
  .exact⟨0,aZ5 _,rfl,aG fun j H=>aB H (aY5 _),bE _⟩
  .
   obtain⟨k,hk,rfl,O,D⟩:=hrel;by_cases S:k<m
   .obtain⟨Z,x,rfl,b,_,K⟩:=(U.below D zr).elt (k:=k) (J.out▸S);obtain⟨a,y,rfl,f,_,R⟩:=(T.below D zr).elt (k:=k) (Q.out▸S);by_cases C:x=y
    .have W:(x !=y)=false:=by rw[eB];exact C
     have V:=zh C;clear C;go_wp2_with fail
     go_quiet (fail)
     go_wp2;exact⟨⟨k+1,om,pC,aG (fun j H=>by
      by_cases e:j=k
      .subst e;rw[K.out,R.out,V.out]
      .exact O.out j om),aC D.out (aY _ _)⟩,oI⟩
    .have W:(x !=y)=true:=by rw[eC];exact C
     have E:Hid (decide (xs=ys)=false):=by show _=_;rw[decide_eq_false_iff_not];intro e;rw[e,R.out] at K;exact C K.symm
     clear C;go_wp2_with fail
     go_quiet (fail)
     go_wp2;go_ret;exact⟨by rw[E.out];rfl,aC D (aY _ _)⟩
   .obtain rfl:m=k:=om;have E:Hid (decide (xs=ys)=true):=by show _=_;rw[decide_eq_true_eq];exact WF P.out fun j H=>O.out j (J.out▸H)
    go_wp2;go_ret;exact⟨by rw[E.out];rfl,D.out⟩
 .have L:((xs.length:Int) !=(ys.length:Int))=true:=by rw[eC];omega
  have E:Hid (decide (xs=ys)=false):=by show _=_;rw[decide_eq_false_iff_not];intro e;exact I (by rw[e])
  clear I;go_enter func25,ntmps25;go_wp2;go_ret;exact⟨by rw[E.out];rfl,bE _⟩
theorem GX(w:Wo)(v u:Va)(xs ys:LL)(F:SS w v xs)(E:SS w u ys):
 Calls prog 105 #[v,u,.func (.func 25) #[] #[]] w (nX w (decide (xs=ys))):=by
 obtain⟨A,c,rfl,F⟩:=F;obtain⟨B,d,rfl,E⟩:=E;have hn:=F.len;have a:=E.len;have T:=zh (show SS w (.slice A xs c) xs from⟨A,c,rfl,F⟩);have S:=zh (show SS w (.slice B ys d) ys from⟨B,d,rfl,E⟩);clear F E;by_cases I:xs.length=ys.length
 .have L:((xs.length:Int) !=(ys.length:Int))=false:=by rw[eB];omega
  have Q:=zh I;obtain⟨n,N⟩:=xE xs.length;rw[<-N] at L hn T|-;have J:=zh N;clear N;obtain⟨m,M⟩:=xE ys.length;rw[<-M] at L a S|-;have R:=zh M;clear M;have b:m=n:=by rw[R.out,J.out,Q.out]
  subst b;clear I;go_enter func105,ntmps105;go_wp2;go_loopw [17] (fun i wr=>∃k:Nat,k<=m/\i=(k:aV)/\Hid (∀j,j<k->xs j []=ys j [])/\Hid (Below w w wr)) (fun i _=>m-(intOf i).toNat)
  .exact⟨0,aZ5 _,rfl,aG fun j H=>aB H (aY5 _),bE _⟩
  .
   obtain⟨k,hk,rfl,P,G⟩:=hrel;by_cases W:k<m
   .obtain⟨h,f,o,x,rfl,q,X,K⟩:=(T.below G zr).eltA (k:=k) (J.out▸W);obtain⟨l,g,p,y,rfl,r,Z,U⟩:=(S.below G zr).eltA (k:=k) (R.out▸W);go_wp2_with fail;apply(GY _ _ _ x y X.si Z.si).mono;rintro e w1⟨rfl,V⟩;have O:=zh (aC G V);clear V;by_cases C:x=y
    .rw[show decide (x=y)=true from dE C];have Y:=zh C;clear C;go_wp2;exact⟨⟨k+1,om,pC,aG (fun j H=>by
      by_cases e:j=k
      .subst e;rw[K.out,U.out,Y.out]
      .exact P.out j om),O⟩,oI⟩
    .rw[show decide (x=y)=false from dG C];have D:Hid (decide (xs=ys)=false):=by
      show _=_;rw[decide_eq_false_iff_not];intro e;rw[e,U.out] at K;exact C K.symm
     clear C;go_wp2;go_ret;exact⟨by rw[D.out];rfl,O.out⟩
   .obtain rfl:m=k:=om;have D:Hid (decide (xs=ys)=true):=by show _=_;rw[decide_eq_true_eq];exact oH Q.out fun j H=>P.out j (J.out▸H)
    go_wp2;go_ret;exact⟨by rw[D.out];rfl,G.out⟩
 .have L:((xs.length:Int) !=(ys.length:Int))=true:=by rw[eC];omega
  have D:Hid (decide (xs=ys)=false):=by show _=_;rw[decide_eq_false_iff_not];intro e;exact I (by rw[e])
  clear I;go_enter func105,ntmps105;go_wp2;go_ret;exact⟨by rw[D.out];rfl,bE _⟩
def mF(xs:LI)(z:Int):Prop:=(∃k:Nat,k<xs/\z=(k:Int)/\xs k 0≠0/\∀j,j<k->xs j 0=0)\/(z= -1/\∀j,xs j 0=0)
def im(F:Nat):Prop:=∀(w:Wo) (x:Int),Calls prog F #[x] w (fun e w'=>e=.returned (.bool (x !=0))/\w=w')
theorem ZR:im 335:=fun w x=>by go_enter func335,ntmps335;go_wp2;go_ret;exact⟨rfl,rfl⟩
theorem W8:im 257:=fun w x=>by go_enter func257,ntmps257;go_wp2;go_ret;exact⟨rfl,rfl⟩
theorem R5(w:Wo)(v:Va)(xs:LI)(C:SI w v xs):Calls prog 145 #[v,.func (.func 335) #[] #[]] w (fun e w'=>∃z,e=.returned (.int .i64 z)/\mF xs z/\w=w'):=by
 obtain⟨A,c,rfl,C⟩:=C;have hn:=C.len;have I:=zh C;clear C;go_enter func145,ntmps145;go_wp2;go_loop [8] (fun i=>∃k:Nat,k<=xs/\i=(k:aV)/\Hid (∀j,j<k->xs j 0=0)) (fun i=>xs.length-(intOf i).toNat)
 .exact⟨0,aZ5 _,rfl,aG fun j D=>aB D (aY5 _)⟩
 .
  obtain⟨k,hk,rfl,F⟩:=hrel;by_cases H:k<xs
  .obtain⟨K,x,rfl,L,_,G⟩:=I.elt H;go_wp2_with fail;apply(ZR _ x).mono;rintro e w1⟨rfl,rfl⟩;by_cases B:x=0
   .rw[show(x !=0)=false by rw[eB];exact B];have J:=zh B;clear B;go_wp2;go_round
    .exact⟨k+1,om,by go_num,aG fun j D=>by
     by_cases e:j=k
     .subst e;rw[G.out,J.out]
     .exact F.out j om⟩
    .simp[intOf];omega
   .rw[show(x !=0)=true by rw[eC];exact B];have E:Hid (mF xs (k:Int)):=aG (.inl ⟨k,H,rfl,G.out▸B,F.out⟩);clear B;go_wp2;go_ret;exact⟨_,rfl,E.out,rfl⟩
  .have E : Hid (mF xs (-1)) := aG (.inr ⟨rfl, fun j => by
    by_cases D:j<k
    .exact F.out j D
    .rw[aZ4,aY4 om];rfl⟩)
   go_wp2;go_ret;exact⟨_,rfl,E.out,rfl⟩
theorem CT(w:Wo)(v:Va)(xs:LI)(C:SI w v xs):Calls prog 145 #[v,.func (.func 257) #[] #[]] w (fun e w'=>∃z,e=.returned (.int .i64 z)/\mF xs z/\w=w'):=by
 obtain⟨A,c,rfl,C⟩:=C;have hn:=C.len;have I:=zh C;clear C;go_enter func145,ntmps145;go_wp2;go_loop [8] (fun i=>∃k:Nat,k<=xs/\i=(k:aV)/\Hid (∀j,j<k->xs j 0=0)) (fun i=>xs.length-(intOf i).toNat)
 .exact⟨0,aZ5 _,rfl,aG fun j D=>aB D (aY5 _)⟩
 .
  obtain⟨k,hk,rfl,F⟩:=hrel;by_cases H:k<xs
  .obtain⟨K,x,rfl,L,_,G⟩:=I.elt H;go_wp2_with fail;apply(W8 _ x).mono;rintro e w1⟨rfl,rfl⟩;by_cases B:x=0
   .rw[show(x !=0)=false by rw[eB];exact B];have J:=zh B;clear B;go_wp2;go_round
    .exact⟨k+1,om,by go_num,aG fun j D=>by
     by_cases e:j=k
     .subst e;rw[G.out,J.out]
     .exact F.out j om⟩
    .simp[intOf];omega
   .rw[show(x !=0)=true by rw[eC];exact B];have E:Hid (mF xs (k:Int)):=aG (.inl ⟨k,H,rfl,G.out▸B,F.out⟩);clear B;go_wp2;go_ret;exact⟨_,rfl,E.out,rfl⟩
  .have E : Hid (mF xs (-1)) := aG (.inr ⟨rfl, fun j => by
    by_cases D:j<k
    .exact F.out j D
    .rw[aZ4,aY4 om];rfl⟩)
   go_wp2;go_ret;exact⟨_,rfl,E.out,rfl⟩
def ku(w:Wo)(xs:LI)(e:Ending)(w':Wo):Prop:=∃g,e=.returned (.slice (some ⟨g,0,none⟩) xs xs)/\w.heap.size<=g/\RI w' g xs/\Below w w w'
theorem J5(w:Wo)(P M:Int)(n:Nat)(i:Nat)(mv gv:Va)(gen:LL)(V:SS w gv gen)(hR:∀k,k<gen.length->(gen k []).length=n)(hi:i<n)(h:gen.length<=1000000):
 Calls prog 248 #[.agg #[P,M,mv,n,gv],i] w (ku w (iL gen i)):=by
 have B:=zh (iC.mk' w P M mv n gv);have R:=zh V;have a:=zh hR;obtain⟨F,J,rfl,_⟩:=V;obtain⟨r,L⟩:=xE gen.length;have E:=zh L;rw[<-L] at R B h|-;clear hR L;have X:Hid (iL gen i=aT r fun t=>(gen t []).getD i 0):=aG (by rw[E.out];rfl);have j:=fun(w:Wo)=>dX r om w;go_enter func248,ntmps248;go_upto_region 1 with fail;generalize w.alloc (.cells #[P,M,mv,n,.slice F r J] 27)=w0 at*;have T:w0.cell? ⟨w.heap.size,4,none⟩=some (.slice F r J):=B.blk.cell 4;go_upto_region 2 with fail;clear j;have A:=zh (RI.made w0 r);have G:=zh (aH w0 (.cells (madeCells #[z0] r) 3));generalize w0.alloc (.cells (madeCells #[z0] r) 3)=w1 at*;have O:=zh (aC B.bel G);obtain⟨g,K⟩:=xE w0.heap.size;have Q:Hid (w<=g):=aG (by rw[K];exact B.bel.size);rw[<-K] at A|-;have d:w1.cell? ⟨w.heap.size,4,none⟩=some (.slice F r J):=aE G.out T;clear K G T B;go_wp2;go_loopw [15] (fun N wr=>∃k:Nat,k<=r/\N=(k:aV)/\Hid (RI wr g (bZ r (fun t=>(gen t []).getD i 0) (fun _=>0) k))/\Hid (Below w w wr)) (fun N _=>r-(intOf N).toNat)
 .exact⟨0,aZ5 _,rfl,by rw[eT,mC];exact A,O⟩
 .
  clear A O d;obtain⟨k,hk,rfl,A,D⟩:=hrel;by_cases C:k<r
  .have Y:=zh (fQ (f:=fun t=>(gen t []).getD i 0) (g:=fun _=>0) C);obtain⟨m,l,u,row,rfl,e,b,H⟩:=(R.below D zr).eltA (k:=k) (E.out▸C);have U:row=n:=by rw[<-H.out];exact a.out k (E.out▸C)
   obtain⟨o,x,rfl,s,_,S⟩:=b.elt (k:=i) om;rw[U] at e;have c:=A.cell k (by rw[fA];exact C);rw[fK C] at c;have q:=A.frozen k;have I:=zh (A.set k x);rw[<-S.out,<-H.out,Y.out] at I;have W:=zh (D.setCell (p:=⟨g,k,none⟩) Q (x:aV));rw[H.out,S.out] at I;clear A D U;go_wp2;exact⟨⟨k+1,om,pC,I,W⟩,oI⟩
  .obtain rfl:r=k:=om;rw[eR,<-X.out] at A;have Z:Hid ((iL gen i).length=r):=by show _=_;rw[oE,E.out]
   go_wp2;go_ret;exact⟨g,by rw[Z.out];rfl,Q.out,A.out,D.out⟩
theorem BN(x:Nat->Int)(n:Nat):cG x n<=n:=GQ _ n
theorem mT(w:Wo)(v:Va)(xs:LI)(B:SI w v xs)(hn:xs.length<=1000000):Calls prog 39 #[v] w (fun e w'=>e=.returned (.int .i64 (cG (fun j=>xs j 0) xs.length:Nat))/\w=w'):=by
 obtain⟨A,c,rfl,B⟩:=B;have K:=zh B;clear B;have F:=zh (BN fun j=>xs j 0);have G:Hid (∀k,cG (fun j=>xs j 0) (k+1)=cG (fun j=>xs j 0) k+if xs k 0≠0 then 1 else 0):=aG fun k=>by unfold cG;simp only[eO,decide_eq_true_eq]
 obtain⟨n,E⟩:=xE xs.length;have J:=zh E;rw[<-E] at hn|-;clear E;generalize hW:cG (fun j=>xs j 0)=W at*;clear hW;have M:Hid True:=aG trivial;go_enter func39,ntmps39;go_wp2;go_loopw [3,8] (fun s i wr=>∃k:Nat,k<=n/\i=(k:aV)/\s=.int .i64 (W k:Nat)/\w=wr) (fun _ i _=>n-(intOf i).toNat)
 .exact⟨0,aZ5 _,rfl,by have:=F.out 0;rw[Nat.le_zero.1 this];rfl,rfl⟩
 .
  obtain⟨k,hk,rfl,rfl,rfl⟩:=hrel;by_cases L:k<n
  .obtain⟨N,x,rfl,O,_,H⟩:=K.elt (k:=k) (J.out▸L);have I:=zh (F k);by_cases C:x=0
   .have D:Hid (W (k+1)=W k):=aG (by rw[G.out,H.out,iN (by simpa using C)];rfl);subst C;go_wp2;exact⟨⟨k+1,om,pC,by rw[D.out],trivial⟩,oI⟩
   .have D:Hid (W (k+1)=W k+1):=aG (by rw[G.out,H.out,iP (by simpa using C)]);have P:(x !=0)=true:=by rw[eC];exact C
    have Q:W k<=1000000:=by have:=I.out;omega
    go_wp2;exact⟨⟨k+1,om,pC,by rw[D.out];push_cast;rfl,trivial⟩,oI⟩
  .obtain rfl:n=k:=om
   go_wp2;go_ret;exact⟨rfl,rfl⟩
def sI(k w:Nat)(A:LI):Nat->Nat
 |0=>0
 |m+1=>sI k w A m+(w+1+(A m 0).toNat-k)
theorem JY{k w:Nat}{A:LI}(h:∀j,j<A.length->0<=A j 0/\A j 0<=k)(B:w<=k):∀m,m<=A.length->sI k w A m<=m*(w+1)
 |0,_=>aZ5 _
 |m+1,hm=>by have C:=JY h B m om;have D:=h m om;rw[sI,Nat.add_mul,Nat.one_mul];omega
theorem MR(w0:Wo)(k w:Nat)(v:Va)(B:LI)(D:SI w0 v B)(hk:k<=64)(R:w<=k)(Q:B.length<=64)(F:∀j,j<B.length->0<=B j 0/\B j 0<=k):
 Calls prog 83 #[k,v,w] w0 (fun e w'=>e=.returned (.tuple #[.int .i64 (sI k w B B.length:Nat),z0])/\w0=w'):=by
 obtain⟨A,c,rfl,D⟩:=D;have P:=zh D;clear D;have G:=zh (JY F R);have M:=zh F;have O:Hid (∀m,sI k w B (m+1)=sI k w B m+(w+1+(B m 0).toNat-k)):=aG fun m=>rfl;obtain⟨n,E⟩:=xE B.length;have H:=zh E;rw[<-E] at Q G|-;have L:Hid (sI k w B 0=0):=aG rfl;generalize hW:sI k w B=W at*;clear E F hW;have d:¬k>64:=om;have t2:¬w>k:=om;have t3:¬n>64:=om;have T:decide (64<k)=false:=dG om;have U:decide (k<w)=false:=dG om;have V:decide (64<n)=false:=dG om;go_enter func83,ntmps83;go_wp2;go_loopw [8,33] (fun s i wr=>∃m:Nat,m<=n/\i=(m:aV)/\s=.int .i64 (W m:Nat)/\w0=wr) (fun _ i _=>n-(intOf i).toNat)
 .exact⟨0,aZ5 _,rfl,by rw[L.out];rfl,rfl⟩
 .
  obtain⟨m,a,rfl,rfl,rfl⟩:=hrel;by_cases J:m<n
  .obtain⟨S,x,rfl,Z,_,I⟩:=P.elt (k:=m) (H.out▸J);have K:=M.out m (H.out▸J);rw[I.out] at K;obtain⟨C,rfl⟩:∃C:Nat,x=(C:Int):=⟨x.toNat,om⟩
   have N:Hid (W (m+1)=W m+(w+1+C-k)):=aG (by rw[O.out,I.out];simp);have b:C<=k:=om;have Y:W m<=64*65:=aZ6 (G.out m om) (Nat.mul_le_mul om om);have f:¬(k:Int)<(C:Int):=om;have X:decide (k<C)=false:=dG om;clear K;go_wp2_with fail;refine⟨⟨m+1,om,pC,?_,trivial⟩,oI⟩;rw[N.out];congr 1;split<;>(push_cast;omega)
  .obtain rfl:n=m:=om
   go_wp2;refine bodyPost_ret (v:=.tuple #[.int .i64 (W n:Nat),z0]) (by simp[results,results83,go_sem]) rfl ?_;exact⟨rfl,rfl⟩
def UZ(n:Nat)(set:LI):Prop:=∀k,k<set.length->0<=set k 0/\set k 0<n/\(0<k->set (k-1) 0<set k 0)
theorem W1(w:Wo)(P M:Int)(n:Nat)(mv gv sv:Va)(set:LI)(Q:SS w sv [set])(O:UZ n set)(N:set.length<=100000)(hn:n<=100000):
 Calls prog 347 #[.agg #[P,M,mv,n,gv],sv] w (kV w 0):=by
 have C:=zh (iC.mk' w P M mv n gv);have S:=zh Q;have F:=zh O;obtain⟨a,sc,rfl,_⟩:=Q;clear O;go_enter func347,ntmps347;go_upto_region 1 with fail;generalize w.alloc (.cells #[P,M,mv,n,gv] 27)=w0 at*;have f:w0.cell? ⟨w.heap.size,3,none⟩=some (n:aV):=C.blk.cell 3;simp only[List.length_cons,List.length_nil] at*;go_wp2;go_loopw [11] (fun i wr=>(i=.int .i64 0\/i=.int .i64 1)/\w0=wr) (fun i _=>1-(intOf i).toNat)
 .exact⟨.inl rfl,rfl⟩
 .
  obtain⟨hi,rfl⟩:=hrel;rcases hi with rfl|rfl
  .obtain⟨e,A,c,xs,rfl,I,H,G⟩:=(S.below C.bel zr).eltA (k:=0) sM;have R:set=xs:=G.out;rw[zB] at I;obtain⟨m,E⟩:=xE xs.length;rw[R] at F N;have D:=zh E;rw[<-E] at I N;clear R E G;go_wp2;go_loopw [17] (fun i wr=>∃k:Nat,k<=m/\i=(k:aV)/\w0=wr) (fun i _=>m-(intOf i).toNat)
   .exact⟨0,aZ5 _,rfl,rfl⟩
   .
    obtain⟨k,hk,rfl,rfl⟩:=hrel;by_cases L:k<m
    .obtain⟨b,x,rfl,Y,_,T⟩:=H.elt (k:=k) (D.out▸L);obtain⟨W,X,B⟩:=F.out k (D.out▸L);rw[T.out] at W X B;have q:¬x<0:=om;have g:decide (x<0)=false:=dG om;have t2:¬(n:Int)<=x:=om;have h:decide ((n:Int)<=x)=false:=dG t2;by_cases K:k=0
     .subst K;rw[zB] at Y;clear B;go_wp2;exact⟨⟨1,om,rfl,trivial⟩,oI⟩
     .obtain⟨j,J⟩:∃j,k=j+1:=⟨k-1,om⟩
      obtain⟨d,y,V,p,_,U⟩:=H.elt (k:=j) (oA D.out);obtain rfl:=aZ0 V;have o:y<x:=by have:=B om;rw[show k-1=j from om,U.out] at this;exact this
      have t3:¬x<=y:=om;have l:decide (x<=y)=false:=dG t3;have t5:0<k:=om;have r:(k:Int)-1=(j:Int):=om;have s:j<m:=om;have Z:=zh J;clear B J K;go_wp2;exact⟨⟨k+1,om,pC,trivial⟩,oI⟩
    .obtain rfl:m=k:=om
     go_wp2;exact⟨⟨.inr rfl,trivial⟩,dC⟩
  .go_wp2;go_ret;exact⟨rfl,C.bel⟩
section
variable {ops:Array Oper} {rest:List Oper} {o:Oper} {a:Act} {w:Wo} {K:Act->Wo->Prop} {Q:Exit->Act->Wo->Prop}
theorem AB(s x:Operand)
 (H:o.op=.call {callee:=.builtin .append,args:=#[s,x],argTypes:=#[22,22]})
 (B:Nat)(v:Va)(xs:LI)(L:a.eval s=v)(I:OI B w v xs)(g c:Nat)(y:Int)(M:a.eval x=.slice g 1 c)(G:w.cell? g=some (y:aV))
 (T:xs.length+1<=17592186044416)(hB:B<=w)
 (h:∀v' w',OI B w' v' (xs++[y])->w.grownBy w' v.ownBlock->(v'.ownBlock=v.ownBlock\/v'.ownBlock=some w.heap.size)->K (a.put o.dst v') w'):o.wp prog a w K Q:=by
 obtain ⟨S, hi, N, O, R⟩ := info_parts infoInt;obtain ⟨v', w', J, D, E, _, F⟩ := run_append_own_at (P := prog) w B 22 o.type 3 S (z0:aV) 1 8 underlying22 hi N O R rfl dC v xs (xs.map (Value.int .i64)) I ⟨g, 0, none⟩ 1 c [(y:aV)] rfl (by
  intro j u A
  match j,A with
  |0,A=>simp at A;subst A;simpa[Addr.add] using G) (by intro u C;simp at C;subst C;rfl) (by unfold maxLen;omega) om hB
 unfold Oper.wp execOp;simp only[H,resolve,invoke,builtin,Sem.run_bind,Sem.run_pure,Result.andThen_ok,List.map_toArray,List.map_cons,List.map_nil,L,M,J];refine h v' w' ?_ E F;unfold OI;simpa using D
theorem dP(F:o.guard=none)(s x:Operand)
 (H:o.op=.call {callee:=.builtin .append,args:=#[s,x],argTypes:=#[22,22]})
 (B:Nat)(v:Va)(xs:LI)(J:a.eval s=v)(I:OI B w v xs)(g c:Nat)(y:Int)(L:a.eval x=.slice g 1 c)(E:w.cell? g=some (y:aV))
 (G:xs.length+1<=17592186044416)(hB:B<=w)
 (h:∀v' w',OI B w' v' (xs++[y])->w.grownBy w' v.ownBlock->(v'.ownBlock=v.ownBlock\/v'.ownBlock=some w.heap.size)->wpList prog ops Q rest (a.put o.dst v') w'):wpList prog ops Q (o::rest) a w:=
 wpList_plain F fun K hK=>AB s x H B v xs J I g c y L E G hB fun v' w' A C D=>hK _ _ (h v' w' A C D)
end
def dJ(O:aQ)(R:LL)(pl xs:LI)(i:Nat):LI:=aT xs (cF O R pl (fun j=>xs j 0) i)
theorem iG(O:aQ)(R:LL)(pl xs:LI)(i:Nat):(dJ O R pl xs i).length=xs.length:=aW _ _
theorem F6(O:aQ)(R:LL)(pl xs:LI):dJ O R pl xs 0=xs:=by refine eK (by rw[iG]) fun i B A=>?_;simp[dJ,aT,cF,List.getD,A]
theorem F5{O:aQ}{q:Int}(hO:O.Fld q){R:LL}{pl xs:LI}(A:∀j,0<=xs j 0/\xs j 0<q){i:Nat}(B:cF O R pl (fun j=>xs j 0) i (pvt pl i)=0):dJ O R pl xs (i+1)=dJ O R pl xs i:=by unfold dJ;congr 1;funext j;simp only[cF];rw[B,hO.zero_mul,hO.neg_zero];exact hO.add_zero _ (jV hO A i j).1 (jV hO A i j).2
theorem zT{O:aQ}{q:Int}(hO:O.Fld q){R:LL}{pl xs:LI}(hR:Rows q xs R){j:Nat}(A:xs<=j):∀i,cF O R pl (fun j=>xs j 0) i j=0
 |0=>by simp only[cF];rw[aZ4,aY4 A];rfl
 |i+1=>by simp only[cF];rw[zT hO hR A i,tJ hR A,hO.mul_zero,hO.neg_zero];have:=hO.lt.pos;exact hO.add_zero _ (Int.le_refl _) om
theorem VH(w:Wo)(Z:Nat->Prop)(B a b gv m:Nat)(Dl:∀g,Z g->g<w.heap.size/\g≠b/\g≠gv)(P M:Int)(Mq:LI)(rv pv:Va)(R:LL)(pl xs:LI)
 (Dh:∀D,Below B w D->GF D a P M Mq)(Dm:Blk w b 287 [.pointer a,rv,pv])(Dn:B<=b)(ν:B<=gv)(Fv:b≠gv)
 (hR:OS B (fun g=>g=b\/g=gv\/pv.ownBlock=some g\/Z g) w rv R)(Dj:∀g,rv.ownBlock=some g->¬(g=b\/g=gv\/pv.ownBlock=some g\/Z g))(Bu:OI B w pv pl)(Di:∀g,pv.ownBlock=some g->g≠b/\g≠gv/\¬Z g)
 (Bi:RI w gv xs)(Bx:xs=m)(Gt:m<=1000)(hO:(aD P M Mq).Fld (aF P M))(Cf:∀j,0<=xs j 0/\xs j 0<aF P M)(hB:Bas (aF P M) m R pl)(Fs:R.length<=1000):
 Calls prog 247 #[.pointer b,.slice gv m m] w (fun e w'=>∃r,e=.returned (.bool r)/\KX B Z w w'/\
  ((r=false/\(∀j,cF (aD P M Mq) R pl (fun j=>xs j 0) R j=0)/\Blk w' b 287 [.pointer a,rv,pv]/\OS B (fun g=>g=b\/g=gv\/pv.ownBlock=some g\/Z g) w' rv R/\OI B w' pv pl)\/
   (r = true /\ ∃ (k : Nat) (rv' pv' : Va), k < m /\ cF (aD P M Mq) R pl (fun j => xs j 0) R k ≠ 0 /\
    Blk w' b 287 [.pointer a,rv',pv']/\OS B (fun g=>g=b\/g=gv\/pv'.ownBlock=some g\/Z g) w' rv' (R++[bN (aD P M Mq) ((aD P M Mq).inv (cF (aD P M Mq) R pl (fun j=>xs j 0) R k)) (dJ (aD P M Mq) R pl xs R)])/\
    OI B w' pv' (pl++[(k:Int)])/\(∀g,rv'.ownBlock=some g->¬(g=b\/g=gv\/pv'.ownBlock=some g\/Z g))/\(∀g,pv'.ownBlock=some g->g≠b/\g≠gv/\¬Z g)))):=by
 have Dz:=zh Dh;have Aq:=zh Dm;have Ag:=zh hR;have Ct:=zh Bu;have Bq:=zh Bi;have o:=zh Dj;have ψ:=zh Di;have Af:=zh hB;have Ar:=zh hO;have Cw:=zh Cf;obtain⟨κ,ρ,rfl⟩:=hR.form;obtain⟨Q,L,rfl⟩:=Bu.form';have Am:=hB.len;obtain⟨r,Ce⟩:=xE R.length;have c:=zh Ce;rw[<-Ce] at Ag Aq o Fs Am;rw[Am] at Ct Aq Ag o ψ;have Dp:∀(i j:Nat),I64 ((dJ (aD P M Mq) R pl xs i).getD j 0):=fun i j=>by
  by_cases Ac:j<xs
  .rw[dJ,aK Ac];have A:=jV hO (R:=R) (pl:=pl) Cf i j;have G:=aM P M;exact I64.of_small om om
  .rw[aZ4,aY4 (by rw[iG];omega)];exact I64.of_small dC dC
 have Ef:=zh Dp;have Cy:Hid (RI w gv (dJ (aD P M Mq) R pl xs 0)):=aG (by rw[F6];exact Bi);have O:Hid (∀D,w.grownBy D (some gv)->Blk D b 287 [.pointer a,.slice κ r ρ,.slice Q r L]/\OS B (fun g=>g=b\/g=gv\/(Value.slice Q r L).ownBlock=some g\/Z g) D (.slice κ r ρ) R/\OI B D (.slice Q r L) pl/\GF D a P M Mq):=aG fun D F=>⟨Aq.grown F (fun e=>Fv (aZ0 e)),Ag.grown F (fun g e=>by have:=aZ0 e;subst this;exact⟨fun h=>o.out _ h (.inr (.inl rfl)),.inr (.inl rfl)⟩),Ct.grown F (fun g h e=>(ψ.out g h).2.1 (aZ0 e).symm),Dz.out D ((Below.refl B w).grown F (aZ6 ν (Nat.le_of_lt Bi.lt)) (fun k e=>oA (aZ0 e)))⟩
 have Et:Hid (∀k,k<r->∃g τ Ab,κ=some ⟨g,0,none⟩/\∀D,w.grownBy D (some gv)->D.cell? ⟨g,k,none⟩=some (.slice τ m Ab)/\SI D (.slice τ m Ab) (R k [])):=aG fun k hk=>by
  obtain⟨g,c',e,_,_⟩:=Ag.formP (oA c.out);injection e with Aw Bs e3;subst Aw;obtain⟨u,Bc,⟨τ,Ab,rfl,Gb⟩,Dr⟩:=Ag.row (k:=k) (c.out▸hk);have Cc:(R k []).length=m:=(Af.rows k (c.out▸hk)).1;rw[Cc] at Bc Dr;refine⟨g,τ,Ab,rfl,fun D F=>⟨rN F Bc (fun e=>o.out g rfl (.inr (.inl e))),?_⟩⟩;have Ga:SI w (.slice τ m Ab) (R k []):=by rw[<-Cc];exact Gb.si
  exact Ga.grown F (fun Df Fk Fw e=>(Dr (by rw[<-Cc];exact Df) Fk Fw).2 (.inr (.inl (aZ0 e).symm)))
 have θ:=zh Dl;clear Dl Dh Dm hR Dj Bu Di Bi hB hO Cf Ce Dp;have Aa:w.cell? (b 1 none)=some (.slice κ r ρ):=Aq.cell 1;go_enter func247,ntmps247;go_wp2_with fail;clear Aa;go_loopw [18] (fun i wr=>∃k:Nat,k<=r/\i=(k:aV)/\Hid (RI wr gv (dJ (aD P M Mq) R pl xs k))/\Hid (w.grownBy wr (some gv))) (fun i _=>r-(intOf i).toNat)
 .exact⟨0,aZ5 _,rfl,Cy,aG (aP (bE w) _)⟩
 .
  clear Cy;obtain⟨k,hk,rfl,T,I⟩:=hrel;obtain⟨E,δ,d,Az⟩:=O.out wr I.out;by_cases Bv:k<r
  .obtain ⟨Fl, τ, Ab, rfl, Cd⟩ := Et.out k Bv;have Es := zh Cd;have Bc := (Cd wr I).1;clear Cd;obtain ⟨Dq, Cb⟩ := Af.lt k (by rw [<- c.out]; exact Bv);have Eo : Hid (∀ j, I64 (pl j 0)) := aG fun j => by
    by_cases Ac:j<r
    .obtain⟨A,G⟩:=Af.lt j (c.out▸Ac);unfold pvt at G;exact I64.of_small om om
    .rw[aZ4,aY4 om];exact I64.of_small dC dC
   obtain⟨Gg,Gh,rfl,Fy,_,Ep⟩:=(d.si om Eo).elt (k:=k) om;obtain⟨Ad,Bh⟩:=xE (pvt pl k);have Fz:Gh=(Ad:Int):=by rw[Bh];unfold pvt;rw[Ep.out] at Dq|-;omega
   subst Fz;rw[<-Bh] at Cb;have Cs:=zh Bh;obtain⟨z,An⟩:=xE ((dJ (aD P M Mq) R pl xs k).getD Ad 0);have Ds:=T.cell Ad (by rw[iG];omega);rw[<-An] at Ds;have Db:=zh An;have Aa:wr.cell? (b 1 none)=some (.slice Fl r ρ):=E.cell 1;have Fg:wr.cell? (b 2 none)=some (.slice (some Gg) r L):=E.cell 2;have s:wr.cell? b=some (.pointer a):=E.cell 0;have Gu:Ad<m:=Cb;clear Bh An Dq Cb;by_cases Cl:z=0
   .have Ew:Hid (dJ (aD P M Mq) R pl xs (k+1)=dJ (aD P M Mq) R pl xs k):=aG (F5 Ar Cw (by
     have h:=Db.out;rw[Cl,dJ,aK om] at h;rw[<-Cs.out];exact h.symm))
    subst Cl;go_wp2;exact⟨⟨k+1,om,pC,Ew.out▸T,I⟩,oI⟩
   .have Gv:(z !=0)=true:=by rw[eC];exact Cl
    have Cz:Hid (RI wr gv (bZ xs (cF (aD P M Mq) R pl (fun j=>xs j 0) (k+1)) (cF (aD P M Mq) R pl (fun j=>xs j 0) k) 0)):=aG (by rw[eT];exact T.out);have Fe:Hid (z=cF (aD P M Mq) R pl (fun j=>xs j 0) k (pvt pl k)):=aG (by have h:=Db.out;rw[dJ,aK om] at h;rw[<-Cs.out];exact h);clear E δ d Az T s;go_wp2_with fail;clear Bc Fy Ds Aa Fg;go_loopw [37] (fun i wr=>∃j:Nat,j<=m/\i=(j:aV)/\Hid (RI wr gv (bZ xs (cF (aD P M Mq) R pl (fun j=>xs j 0) (k+1)) (cF (aD P M Mq) R pl (fun j=>xs j 0) k) j))/\Hid (w.grownBy wr (some gv))) (fun i _=>m-(intOf i).toNat)
    .exact⟨0,aZ5 _,rfl,Cz,I⟩
    .
     clear Cz I;obtain⟨j,Ac,rfl,T,I⟩:=hrel;by_cases Fx:j<m
     .obtain⟨E,_,_,Az⟩:=O.out wr I.out;obtain⟨Gy,y,rfl,Gc,_,Fc⟩:=(Es wr I).2.elt (k:=j) (by rw[(Af.out.rows k (c.out▸Bv)).1];exact Fx);have Dx:=zh (fQ (f:=cF (aD P M Mq) R pl (fun j=>xs j 0) (k+1)) (g:=cF (aD P M Mq) R pl (fun j=>xs j 0) k) (N:=xs.length) (k:=j) om);obtain⟨x,Ck⟩:=xE (cF (aD P M Mq) R pl (fun j=>xs j 0) k j);have t:=T.cell j (by rw[fA];omega);rw[fK om,<-Ck] at t;have Fa:=zh Ck;have s:wr.cell? b=some (.pointer a):=E.cell 0;have Ah:=zh (bB I (aP (aI wr) (some gv)));have Br:=zh (T.belowS (aI wr));have Bm:=zh (O _ Ah).2.2.2;clear E Az Ck;go_upto_region 9 with fail;clear Gc;refine db 20 s t fun J=>?_;refine dq 0 ?_;refine dq 1 ?_;refine dq 2 ?_;refine dq 3 ?_;refine dq 4 ?_;refine dq 5 ?_;refine dq 6 ?_;refine dq 7 ?_;refine dq 8 ?_;refine dq 9 ?_;refine dq 10 ?_;refine dq 11 ?_;refine dq 12 ?_;refine dq 13 ?_;refine dq 14 ?_;refine dq 15 ?_;try simp only[tz]
      refine dn 16 fun K hK=>?_;go_simp;apply(lE _ a P M z y Mq Bm).mono;rintro e H⟨rfl,V⟩;have ω:=zh (bB Ah (aP V (some gv)));have Au:=zh (Br.belowS V);have Ea:=zh (O _ ω).2.2.2;have b4:=aE V s;have Ai:=aE V t;clear V;refine hK.out _ _ (fun _=>⟨b4,Ai⟩) (fun C=>?_);replace J:=C dC;clear C;try simp only[tz]
      refine dn 17 fun K hK=>?_;go_simp;apply(J3 _ a P M x _ Mq Ea).mono;rintro e σ⟨rfl,W⟩;have q:=zh (bB ω (aP W (some gv)));have Da:=zh (Au.belowS W);have b5:=aE W b4;have Fj:=aE W Ai;have Gp:=Da.frozen j;clear W;refine hK.out _ _ (fun _=>⟨b5,Fj⟩) (fun C=>?_);replace J:=C dC;clear C;try simp only[tz]
      refine dq 18 ?_;try simp only[tz]
      refine dn 19 fun K hK=>?_;go_simp;refine hK.out _ _ (fun h=>aB rfl h) fun _=>?_;refine dw ?_;try simp only[tz]
      clear J;have Av:=zh (Da.set j (fW P M x (iO P M (bM P M Mq z y))));have Co:Hid (fW P M x (iO P M (bM P M Mq z y))=cF (aD P M Mq) R pl (fun j=>xs j 0) (k+1) j):=aG (by simp only[cF];rw[<-Fa.out,<-Fe.out];show _=fW P M x (iO P M (bM P M Mq z (ent R k j)));rw[show ent R k j=y from Fc.out]);rw[Co.out,Dx.out] at Av;have Ez:=zh (aS (p:=⟨gv,j,none⟩) q (.inl rfl) (.int .i64 (cF (aD P M Mq) R pl (fun j=>xs j 0) (k+1) j)));rw[Co.out];go_wp2;exact⟨⟨j+1,om,pC,Av,Ez⟩,oI⟩
     .obtain rfl:m=j:=om;have Dy:Hid (RI wr gv (dJ (aD P M Mq) R pl xs (k+1))):=aG (by have:=T.out;rw[show bZ xs (cF (aD P M Mq) R pl (fun j=>xs j 0) (k+1)) (cF (aD P M Mq) R pl (fun j=>xs j 0) k) m=dJ (aD P M Mq) R pl xs (k+1) by rw[<-Bx,eR];rfl] at this;exact this);go_wp2;exact⟨⟨k+1,om,pC,Dy,I⟩,oI⟩
  .obtain rfl:r=k:=om;have φ:Hid ((dJ (aD P M Mq) R pl xs r).length=m):=aG (by rw[iG];exact Bx);have Cu:Hid (∀D,Blk D gv 3 ((dJ (aD P M Mq) R pl xs r).map (Value.int .i64))->SI D (.slice gv m m) (dJ (aD P M Mq) R pl xs r)):=aG fun D h=>by have G:RI D gv (dJ (aD P M Mq) R pl xs r):=h;have:=G.si (oA φ.out) (Ef.out r);rwa[φ.out] at this
   clear E δ d Az;go_wp2_with fail;apply(R5 wr _ _ (Cu wr T)).mono;rintro e w1⟨Gz,rfl,An,rfl⟩;rcases An with⟨S,Bw,rfl,Bz,_⟩|⟨rfl,Ge⟩
   .rw[φ.out] at Bw;have Gs:¬(S:Int)<0:=om;go_upto_region 15 with fail;obtain⟨ζ,ξ⟩:=xE ((dJ (aD P M Mq) R pl xs r).getD S 0);have t:=T.cell S (φ.out▸Bw);rw[<-ξ] at t Bz;have Ff:=zh ξ;obtain⟨E,_,_,_⟩:=O.out wr I.out;have s:wr.cell? b=some (.pointer a):=E.cell 0;have Ah:=zh (bB I (aP (aI wr) (some gv)));have Br:=zh (T.belowS (aI wr));have Bm:=zh (O _ Ah).2.2.2;have Gd:0<=ζ/\ζ<aF P M:=by rw[ξ,dJ,aK om];exact jV Ar.out Cw.out _ _
    have Do:inQ (aF P M) ζ≠0:=by unfold inQ;rw[iP Gd];exact Bz
    have Ed:=zh Do;clear E ξ Do;refine tb 14 s t fun J=>?_;refine tq 0 ?_;refine tq 1 ?_;refine tq 2 ?_;refine tq 3 ?_;refine tq 4 ?_;refine tq 5 ?_;refine tq 6 ?_;refine tq 7 ?_;try simp only[tz]
    refine tn 8 fun K hK=>?_;go_simp;apply(qJ _ a P M ζ Mq Bm Ed).mono;rintro e H⟨rfl,V⟩;have ω:=zh (bB Ah (aP V (some gv)));have Au:=zh (Br.belowS V);have b4:=aE V s;have Ai:=aE V t;clear V;refine hK.out _ _ (⟨b4,Ai⟩) ?_;clear hK K J;intro J;try simp only[tz]
    refine tq 9 ?_;refine tq 10 ?_;refine tq 11 ?_;refine tq 12 ?_;try simp only[tz]
    refine tn 13 fun K hK=>?_;go_simp;refine hK.out _ _ J fun _=>?_;refine tw ?_;try simp only[tz]
    clear J;go_upto_region 16 with fail;obtain⟨E,δ,d,_⟩:=O.out H ω.out;have Gi:=zh E;have Gk:=zh δ;have Gj:=zh d;have Aa:H.cell? (b 1 none)=some (.slice κ r ρ):=E.cell 1;have Cx:=zh (bB ω (aP (aI H) (some gv)));have Fb:=zh (Au.belowS (aI H));have Ec:=zh (O _ Cx).2.2.2;have Ev:=zh (Cu _ Fb);have Bo:Hid (w.heap.size<=H.heap.size):=aG ω.size;obtain⟨ε,Al⟩:=xE (lY P M Mq ζ)
    rw[<-Al];have Ee:=zh Al;have Eu:Hid (∀j,I64 ((bN (aD P M Mq) ε (dJ (aD P M Mq) R pl xs r)).getD j 0)):=aG fun j=>by have A:=(Rows.scale Ar.lt ε (dJ (aD P M Mq) R pl xs r)).2 j;have G:=aM P M;exact I64.of_small om om
    have Cv:Hid ((bN (aD P M Mq) ε (dJ (aD P M Mq) R pl xs r)).length=m):=aG (by show _=_;rw[gL];exact φ.out);have χ:Hid (b<H/\gv<H/\(∀g,(Value.slice κ r ρ).ownBlock=some g->g<H.heap.size)/\(∀g,(Value.slice Q r L).ownBlock=some g->g<H.heap.size)):=aG ⟨E.lt,Au.lt,fun g h=>(δ.lt h).2,fun g h=>(d.lt h).2⟩;clear E δ d t s Ai Al;refine db 17 b4 Aa fun J=>?_;refine dq 0 ?_;refine dq 1 ?_;refine dq 2 ?_;refine dq 3 ?_;refine dq 4 ?_;refine dq 5 ?_;refine dq 6 ?_;refine dq 7 ?_;refine dq 8 ?_;refine dq 9 ?_;refine dq 10 ?_;try simp only[tz]
    refine dn 11 fun K hK=>?_;go_simp;apply(oK _ a P M ε Mq _ _ Ec Ev (oA φ.out)).mono;rintro e σ⟨u,rfl,Ca,W⟩;have q:=zh (bB Cx (aP W (some gv)));have b5:=aE W b4;have Dd:=aE W Aa;have Bp:=zh Ca;have Bn:Hid (H.heap.size<=σ.heap.size):=aG W.size;obtain⟨Dc,Dv,rfl⟩:=Ca.form';rw[Cv.out] at Bp|-;clear W Ca;refine hK.out _ _ (fun _=>⟨b5,Dd⟩) (fun C=>?_);replace J:=C dC;clear C;try simp only[tz]
    refine dp 12 fun K hK=>?_;go_simp;obtain⟨Bk,Fm,Aw,Bs,Dk,Bb⟩:=aR σ 22 [.slice Dc m Dv];rw[Aw,Bs];have Av:=zh Dk;have n:=zh Bb;have Fh:=aE Bb b5;have Fi:=aE Bb Dd;clear Aw Bs Dk Bb;refine hK.out _ _ (fun _=>⟨Fh,Fi⟩) (fun C=>?_);replace J:=C dC;clear C;try simp only[tz]
    refine dp 13 fun K hK=>?_;have Er:=zh ((O.out σ q).2.1.below n);refine sB rfl _ _ rfl B (fun g=>g=b\/g=gv\/(Value.slice Q r L).ownBlock=some g\/Z g) _ R rfl Er.out Fm 1 (.slice Dc m Dv) (bN (aD P M Mq) ε (dJ (aD P M Mq) R pl xs r)) rfl (Av.cell 0) ((Bp.si (oA Cv.out) Eu).below n zr) (fun Df g F=>(by have A:=(Bp.lt F).1;have G:H.drew.heap.size=H.heap.size:=rfl;obtain⟨Dt,Du,Cm,Bj⟩:=χ.out;exact⟨fun h=>(oA (Cm g h)),fun h=>(by rcases h with h|h|h|h;omega;omega;have:=Bj g h;omega;have:=(θ.out g h).1;have:=Bo.out;omega)⟩)) (oA c.out) (by have A:=n.size;have G:=Bn.out;have Ay:=χ.2.1;omega) ?_;intro Gx Ae Bf Bd Ci;obtain⟨U,X,rfl⟩:=Bf.form;rw[aZ1,aZ2,<-c.out] at Bf Ci|-;have Ao:=zh (((O.out σ q).1.belowS n).grown Bd (fun e=>o.out b e.symm (.inl rfl)));have El:=zh (((O.out σ q).2.2.1.below n zr).grown Bd (fun g h e=>o.out g e (.inr (.inr (.inl h)))));have Eh:=zh Bf;have Cp:=zh Bd;have Ex:=zh Ci;have b7:=Ao.cell 0;have De:=Ao.cell 1;have Gq:=Ao.frozen 1;simp only[eE,eF] at b7 De;clear Bf Bd Ci;refine hK.out _ _ (fun _=>⟨b7,De⟩) (fun C=>?_);replace J:=C dC;clear C;try simp only[tz]
    refine dn 14 fun K hK=>?_;go_simp;refine hK.out _ _ (fun _=>J) fun _=>?_;try simp only[tz]
    refine dq 15 ?_;try simp only[tz]
    refine dn 16 fun K hK=>?_;go_simp;refine hK.out _ _ (fun h=>aB rfl h) fun _=>?_;refine dw ?_;try simp only[tz]
    clear J;have Ax:=aU Ae b 1 (.slice U (r+1) X);have Ap:=zh (Ao.set_ 1 (.slice U (r+1) X));change Hid (Blk _ b 287 [.pointer a,.slice U (r+1) X,.slice Q r L]) at Ap;have η:Hid (∀g,(Value.slice U (r+1) X).ownBlock=some g->g≠b/\g≠gv/\(Value.slice Q r L).ownBlock≠some g/\¬Z g):=aG fun g F=>by
     obtain⟨Dt,Du,Cm,Bj⟩:=χ.out;have Gf:H.heap.size<=Bk.heap.size:=aZ6 Bn.out n.size;rcases Ex.out with e|e
     .have v:(Value.slice U (r+1) X).ownBlock=(Value.slice κ r ρ).ownBlock:=e;have A:=o.out g (by rw[<-v];exact F);exact⟨fun h=>A (.inl h),fun h=>A (.inr (.inl h)),fun h=>A (.inr (.inr (.inl h))),fun h=>A (.inr (.inr (.inr h)))⟩
     .have v:(Value.slice U (r+1) X).ownBlock=some Bk.heap.size:=e;have A:g=Bk.heap.size:=by rw[v] at F;exact(aZ0 F).symm
      exact⟨om,om,fun h=>oA (Bj g h),fun h=>oB ((θ.out g h).1) Bo.out⟩
    have Cq:=zh (Eh.grown Ax (fun g e=>by have:=aZ0 e;subst this;exact⟨fun h=>(η _ h).1 rfl,.inl rfl⟩));have Em:=zh (El.grown Ax (fun g h e=>(ψ.out g h).1 (aZ0 e).symm));have As:Hid (KX B Z w (Ae.setCell (b 1 none) (.slice U (r+1) X))/\H.heap.size<=(Ae.setCell (b 1 none) (.slice U (r+1) X)).heap.size):=aG (by have μ:B<=w.heap.size:=aZ6 ν (Nat.le_of_lt Bq.lt);have Fu:¬Z gv:=fun h=>(θ gv h).2.2 rfl;have Ft:¬Z b:=fun h=>(θ.out b h).2.1 rfl;have A:KX B Z w Bk:=(KX.gr q μ (fun k e=>by have:=aZ0 e;subst this;exact⟨ν,Fu⟩)).trans (KX.of n (aZ6 μ q.size));have G:KX B Z w Ae:=A.trans (KX.gr Cp (aZ6 μ A.size) (fun k e=>⟨((O.out σ q).2.1.lt e).1,fun h=>o.out k e (.inr (.inr (.inr h)))⟩));have Ay:KX B Z w (Ae.setCell (b 1 none) (.slice U (r+1) X)):=G.trans (KX.gr Ax (aZ6 μ G.size) (fun k e=>by have:=aZ0 e;subst this;exact⟨Dn,Ft⟩));exact⟨Ay,aZ6 (aZ6 (aZ6 Bn n.size) Cp.size) Ax.size⟩);generalize Ae.setCell (b 1 none) (.slice U (r+1) X)=l at*;have Gl:l.cell? b=some (.pointer a):=Ap.cell 0;have Gm:l.cell? (b 2 none)=some (.slice Q r L):=Ap.cell 2;have Ek:=zh (Cq.names (Y:=fun g=>(g=b\/g=gv\/(Value.slice Q r L).ownBlock=some g\/Z g)\/l.heap.size<=g) (fun g A G=>G.resolve_right om));have Aj:=aH l (.cells #[S] 3);have Cr:=zh (Em.alloc (.cells #[S] 3));have Eg:=zh (Blk.new l 3 [(S:aV)]);have Dw:=zh (Ap.belowS Aj);have Ej:=zh (Ek.below Aj);have At:=zh (And.intro (As.1.trans (KX.of Aj (aZ6 (aZ6 (aZ6 ν (Nat.le_of_lt χ.2.1)) As.2) zr))) Aj.size);clear Aj;go_wp2_with (
     at_builtin;refine dP rfl _ _ rfl B (.slice Q r L) pl rfl Cr.out l 1 (S:Int) rfl (Eg.cell 0) om (by have A:=χ.2.1;have G:=As.2;have Ay:=At.2;omega) ?_;intro v9 w9 Bg Be Cj;obtain⟨ι,π,rfl⟩:=Bg.form';rw[aZ1,aZ2,Am] at Bg Cj|-;have Bl:=zh (Dw.grown Be (fun e=>(ψ.out b e.symm).1 rfl));have Ei:=zh (Ej.grown Be (fun g e=>⟨fun h=>(η.out g h).2.2.1 e,.inl (.inr (.inr (.inl e)))⟩));have En:=zh Bg;have Eb:=zh Be;have Ey:=zh Cj;have Gn:w9.cell? (b 2 none)=some (.slice Q r L):=Bl.cell 2;have Gr:=Bl.frozen 2;clear Bg Be Cj)
    go_ret;have Ba:∀g,(Value.slice ι (r+1) π).ownBlock=some g->(g≠b/\g≠gv/\¬Z g)/\((Value.slice Q r L).ownBlock=some g\/l.heap.size<=g):=fun g F=>by
     rcases Ey.out with e|e
     .have v:(Value.slice ι (r+1) π).ownBlock=(Value.slice Q r L).ownBlock:=e;exact⟨ψ.out g (by rw[<-v];exact F),.inl (by rw[<-v];exact F)⟩
     .have v:(Value.slice ι (r+1) π).ownBlock=some (l.alloc (.cells #[S] 3)).heap.size:=e;have A:g=(l.alloc (.cells #[S] 3)).heap.size:=by rw[v] at F;exact(aZ0 F).symm
      obtain⟨Dt,Du,Cm,Bj⟩:=χ.out;have Gf:=As.2;have Gw:=At.2;exact⟨⟨om,om,fun h=>oB ((θ.out g h).1) Bo.out⟩,.inr om⟩
    have Bt:=aU w9 b 2 (.slice ι (r+1) π);have Fp:=Bl.set_ 2 (.slice ι (r+1) π);have Fq:=(Ei.grown Bt (fun g e=>by
     have:=aZ0 e;subst this;exact⟨fun h=>(η _ h).1 rfl,.inl (.inl rfl)⟩)).names (Y:=fun g=>g=b\/g=gv\/(Value.slice ι (r+1) π).ownBlock=some g\/Z g) (fun g _ h=>by
      rcases h with h|h|h|h
      .exact .inl (.inl h)
      .exact .inl (.inr (.inl h))
      .rcases(Ba g h).2 with A|A
       .exact .inl (.inr (.inr (.inl A)))
       .exact .inr A
      .exact .inl (.inr (.inr (.inr h))))
    have Fr:=En.grown Bt (fun g h e=>(Ba g h).1.1 (aZ0 e).symm);have μ:B<=w.heap.size:=aZ6 ν (Nat.le_of_lt Bq.lt);have Dg:KX B Z w w9:=At.1.trans (KX.gr Eb (aZ6 μ At.1.size) (fun k e=>⟨(Cr.lt e).1,(ψ k e).2.2⟩));have Fo:=Dg.trans (KX.gr Bt (aZ6 μ Dg.size) (fun k e=>by have:=aZ0 e;subst this;exact⟨Dn,fun h=>(θ.out b h).2.1 rfl⟩));have ξ:ζ=cF (aD P M Mq) R pl (fun j=>xs j 0) r S:=by have:=Ff.out;rwa[dJ,aK om] at this
    have Al:ε=(aD P M Mq).inv (cF (aD P M Mq) R pl (fun j=>xs j 0) r S):=by rw[<-ξ];exact Ee.out
    rw[Am,<-c.out];refine⟨true,rfl,Fo,.inr ⟨rfl,S,.slice U (r+1) X,.slice ι (r+1) π,Bw,by rw[<-ξ];exact Bz,Fp,by rw[<-Al];exact Fq,Fr,fun g h=>?_,fun g h=>(Ba g h).1⟩⟩;rintro (A|A|A|A)
    .exact(η.out g h).1 A
    .exact(η.out g h).2.1 A
    .rcases(Ba g A).2 with G|G
     .exact(η.out g h).2.2.1 G
     .have Ay:=(Cq.lt h).2;omega
    .exact(η.out g h).2.2.2 A
   .go_wp2;go_ret;obtain⟨E,δ,d,_⟩:=O.out wr I.out;rw[Am,<-c.out];refine⟨false,rfl,KX.gr I (aZ6 ν (Nat.le_of_lt Bq.lt)) (fun k e=>by have:=aZ0 e;subst this;exact⟨ν,fun h=>(θ _ h).2.2 rfl⟩),.inl ⟨rfl,fun j=>?_,E,δ,d⟩⟩;by_cases Ac:j<xs
    .have:=Ge j;rwa[dJ,aK Ac] at this
    .exact zT Ar.out (by rw[Bx];exact Af.rows) om _
theorem uB{P M:Int}{Mq:LI}{A:Int}{rows:LL}(h:spaceE P M Mq A rows=0):fB P M Mq A rows=0/\bC (aD P M Mq) rows A.toNat=rows:=by
 unfold spaceE at h;split at h
 .rename_i h1;exact aB h h1
 .rename_i h1;split at h
  .rename_i h2;exact⟨Decidable.not_not.1 h1,h2⟩
  .cases h
theorem T5{P M:Int}{Mq:LI}{A:Int}{rows:LL}(h:fB P M Mq A rows≠0):spaceE P M Mq A rows=fB P M Mq A rows:=by unfold spaceE;rw[iP h]
theorem LG{P M:Int}{Mq:LI}{A:Int}{rows:LL}(h:fB P M Mq A rows=0)(k:bC (aD P M Mq) rows A.toNat≠rows):spaceE P M Mq A rows=5:=by unfold spaceE;rw[iN (by rw[h];decide),iN k]
theorem GB{P M:Int}{Mq:LI}{A:Int}{rows:LL}(h:fB P M Mq A rows=0)(k:bC (aD P M Mq) rows A.toNat=rows):spaceE P M Mq A rows=0:=by unfold spaceE;rw[iN (by rw[h];decide),iP k]
structure SpP(P M:Int)(Mq:LI)(n:Nat)(rows:LL):Prop where
 fld:cZ P M Mq
 n256:n<=256
 r256:rows.length<=256
 rref:gT (aD P M Mq) (aF P M) n rows (oS (aD P M Mq) rows n)
theorem SpP.of{P M:Int}{Mq:LI}{n:Nat}{rows:LL}(h:spaceE P M Mq n rows=0):SpP P M Mq n rows:=by obtain⟨C,A⟩:=uB h;obtain⟨B,_,hn,D,hR⟩:=fM C;rw[aZ8] at hR A;have:=(cI (dR B) hR).1;rw[A] at this;exact⟨B,om,D,this⟩
def VW(w:Wo)(v:Va)(P M:Int)(Mq:LI)(n:Nat)(rv:Va)(rows:LL):Prop:=
 ∃a A c,v=.agg #[.pointer (some ⟨a,0,none⟩),n,rv,.slice A rows c]/\GF w a P M Mq/\SI w (.slice A rows c) (oS (aD P M Mq) rows n)
def kv(w:Wo)(P M:Int)(Mq:LI)(n:Nat)(rv:Va)(rows:LL)(e:Ending)(w':Wo):Prop:=
 ∃a A c,e=.returned (.tuple #[.agg #[.pointer (some ⟨a,0,none⟩),n,rv,.slice A rows c],z0])/\Sep w w' (fun w2=>VW w2 (.agg #[.pointer (some ⟨a,0,none⟩),n,rv,.slice A rows c]) P M Mq n rv rows)/\Below w w w'
theorem jp{w:Wo}{g:Nat}{t:TypeId}{a b c d x y z u:Va}(h:Blk w g t [a,b,c,d]):∃w',(((w.setCell g x).setCell (g 1 none) y).setCell (g 2 none) z).setCell (g 3 none) u=w'/\oW w w' g t [x,y,z,u]:=
 ⟨_,rfl,(((h.set_ 0 x).set_ 1 y).set_ 2 z).set_ 3 u,aS (p:=(g 3 none)) (aS (p:=(g 2 none)) (lF w g 0 1 x y) (.inl rfl) _) (.inl rfl) _⟩
theorem Blk.four8{w:Wo}{g:Nat}{t:TypeId}{a b c d:Va}(h:Blk w g t [a,b,c,d]):
 w.cell? g=some a/\w.cell? (g 1 none)=some b/\w.cell? (g 2 none)=some c/\w.cell? (g 3 none)=some d/\w.frozen? g=false/\w.frozen? (g 1 none)=false/\w.frozen? (g 2 none)=false/\w.frozen? (g 3 none)=false:=
 ⟨h.cell 0,h.cell 1,h.cell 2,h.cell 3,h.frozen 0,h.frozen 1,h.frozen 2,h.frozen 3⟩
structure FMV(w w1:Wo)(P M:Int)(mv:Va)(cols:Int)(rv:Va):Prop where
 fm:jQ w w1 P M mv cols rv
 q:Blk w1 (w.heap.size+1+1) 182 [.pointer none,.int .i64 0,.slice none 0 0,.slice none 0 0]
theorem FMV.on{w w1 w2:Wo}{P M:Int}{mv:Va}{A:Int}{rv:Va}(h:FMV w w1 P M mv A rv)(B:Below w1 w1 w2):FMV w w2 P M mv A rv:=⟨h.fm.on B,h.q.belowS B⟩
theorem FMV.mk'(w:Wo)(P M:Int)(mv:Va)(A:Int)(rv:Va):∃w1,((w.alloc (.cells #[P,M,mv] 24)).alloc (.cells #[A,rv] 74)).alloc (.cells #[.pointer none,z0,(),()] 182)=w1/\
 FMV w w1 P M mv A rv/\w1.heap.size=w.heap.size+1+1+1:=by
 refine⟨_,rfl,⟨(jQ.mk' w P M mv A rv).on (aH _ _),?_⟩,?_⟩
 .have:=Blk.new ((w.alloc (.cells #[P,M,mv] 24)).alloc (.cells #[A,rv] 74)) 182 [.pointer none,.int .i64 0,.slice none 0 0,.slice none 0 0];rw[World.size_alloc,World.size_alloc] at this;exact this
 .rw[World.size_alloc,World.size_alloc,World.size_alloc]
theorem YZ(w:Wo)(P M:Int)(n:Nat)(mv rv:Va)(Mq:LI)(rows:LL)(f:SI w mv Mq)(i:SS w rv rows)(S:spaceE P M Mq n rows=0):
 Calls prog 107 #[.agg #[P,M,mv],.agg #[n,rv]] w (kv w P M Mq n rv rows):=by
 have Y:=zh f;have H:=zh i;clear f i;obtain⟨c,J⟩:=uB S;rw[aZ8] at J;have b:=zh (SpP.of S);have l:=zh c;have k:=zh J;have ξ:Hid (decide (bC (aD P M Mq) rows n=rows)=true):=dE J;clear c J S;have T:=b.rref.len;obtain⟨Q,W,rfl,_⟩:=H.out;obtain⟨r,V⟩:=xE rows.length;rw[<-V] at H T|-;have G:=zh V;have o:=zh T;clear V T;obtain⟨w1,I,hq,χ⟩:=FMV.mk' w P M mv n (.slice Q r W);have A:=zh hq;have X:=zh I;clear hq I;go_enter func107,ntmps107;go_wp2_with fail;rw[X.out];clear X;have c0:=A.fm.fb.c0;have c1:=A.fm.fb.c1;have c2:=A.fm.fb.c2;have d0:=A.fm.d0;have d1:=A.fm.d1;go_wp2_with fail;apply(pW w1 P M n mv _ Mq rows (Y.below A.fm.fb.bel zr) (H.below A.fm.fb.bel zr) l).mono;rintro e w2⟨D,U,O,rfl,N,_,K⟩;rw[k.out,o.out] at N|-;rw[<-G.out] at N|-;have s:=zh N;have p:=zh (A.on K);have ν:=zh K;have ψ:=K.size;clear N K c0 c1 c2 d0 d1;have Z:=zh (s.on (aH w2 (.cells #[n,.slice D r r] 74)));have B:=zh (p.on (aH w2 (.cells #[n,.slice D r r] 74)));have j:=zh (Blk.new w2 74 [(n:aV),.slice D r r]);have φ:(w2.alloc (.cells #[n,.slice D r r] 74)).heap.size=w2.heap.size+1:=World.size_alloc _ _;go_upto_region 4 with fail;generalize w2.alloc (.cells #[n,.slice D r r] 74)=μ at*;have c0:=B.fm.fb.c0;have c1:=B.fm.fb.c1;have c2:=B.fm.fb.c2;have d0:=B.fm.d0;have d1:=B.fm.d1;have I:μ.cell? ⟨w2.heap.size,1,none⟩=some (.slice D r r):=j.cell 1;go_wp2_with fail;apply(GX _ _ _ rows rows Z.out.out.1 (H.below B.fm.fb.bel zr)).mono;rintro e Ae⟨rfl,L⟩;rw[show decide (rows=rows)=true from dE rfl];have t:=zh (Z.on L);have C:=zh (B.on L);have ω:=L.size;clear L c0 c1 c2 d0 d1 I;have c0:=C.fm.fb.c0;have c1:=C.fm.fb.c1;have c2:=C.fm.fb.c2;have d0:=C.fm.d0;have d1:=C.fm.d1;go_wp2_with fail;apply(oO _ P M mv Mq (Y.below C.fm.fb.bel zr) b.fld).mono;rintro e Af⟨a,rfl,d,R⟩;have δ:=zh ((t.on R).mono (B':=w1.heap.size) zr);have m:=zh (d.mono (B':=w1.heap.size) om);have F:=zh (C.on R);clear d R c0 c1 c2 d0 d1;have d0:=F.fm.d0;have d1:=F.fm.d1;obtain⟨Aa,Ab,Ac,Ad,π,ρ,σ,τ⟩:=F.q.four8;go_wp2_with fail;obtain⟨Ag,ε,E⟩:=jp (x:=.pointer a) (y:=(n:aV)) (z:=.slice Q r W) (u:=.slice U r O) F.q;rw[ε];have η:=E.c0;have θ:=E.c1;have ι:=E.c2;have κ:=E.c3;refine bodyPost_ret (v:=.tuple #[.agg #[.pointer a,n,.slice Q r W,.slice U r O],z0]) (by simp[results,results107,go_sem,η,θ,ι,κ]) rfl ?_;refine⟨a,U,O,by rw[<-G.out],?_,E.below F.fm.fb.bel F.fm.fb.bel.size om⟩;rw[<-G.out];have ζ:=((m.and δ).grown E.gr (by rintro g e;cases e;omega)).mono (B':=w.heap.size) om;exact ζ.imp fun Ah h=>⟨a,U,O,by rw[<-G.out],h.1,by rw[<-G.out];exact h.2.2⟩
theorem YY(w:Wo)(P M D:Int)(mv rv:Va)(Mq:LI)(rows:LL)(f:SI w mv Mq)(h:SS w rv rows)(V:spaceE P M Mq D rows≠0):
 Calls prog 107 #[.agg #[P,M,mv],.agg #[D,rv]] w (fun e w'=>e=.returned (.tuple #[.agg #[.pointer none,z0,(),()],.int .i64 (spaceE P M Mq D rows)])/\Below w w w'):=by
 have b:=zh f;have G:=zh h;clear f h;obtain⟨p,μ,rfl,_⟩:=G.out;obtain⟨r,g⟩:=xE rows.length;rw[<-g] at G|-;clear g;obtain⟨w1,N,hq,ρ⟩:=FMV.mk' w P M mv D (.slice p r μ);have A:=zh hq;have I:=zh N;clear hq N;by_cases E:fB P M Mq D rows=0
 .have O:bC (aD P M Mq) rows D.toNat≠rows:=fun e=>V (GB E e);have L:=zh (LG E O);obtain⟨_,ξ,π,_,_⟩:=fM E;obtain⟨n,rfl⟩:∃n:Nat,D=(n:Int):=⟨D.toNat,om⟩
  rw[aZ8] at O;have l:=zh O;have J:=zh E;clear V O E;go_enter func107,ntmps107;go_wp2_with fail;rw[I.out];clear I;have c0:=A.fm.fb.c0;have c1:=A.fm.fb.c1;have c2:=A.fm.fb.c2;have d0:=A.fm.d0;have d1:=A.fm.d1;go_wp2_with fail;apply(pW w1 P M n mv _ Mq rows (b.below A.fm.fb.bel zr) (G.below A.fm.fb.bel zr) J).mono;rintro e w2⟨F,U,σ,rfl,W,_,H⟩;generalize bC (aD P M Mq) rows n=R at*;obtain⟨k,hk⟩:=xE R.length;rw[<-hk] at W|-;clear hk;have Q:=zh (A.on H);have m:=zh W.out.1;clear W H c0 c1 c2 d0 d1;have o:=zh (m.below (aH w2 (.cells #[n,.slice F k k] 74)) zr);have B:=zh (Q.on (aH w2 (.cells #[n,.slice F k k] 74)));have j:=zh (Blk.new w2 74 [(n:aV),.slice F k k]);go_upto_region 4 with fail;generalize w2.alloc (.cells #[n,.slice F k k] 74)=i at*;have c0:=B.fm.fb.c0;have c1:=B.fm.fb.c1;have c2:=B.fm.fb.c2;have d0:=B.fm.d0;have d1:=B.fm.d1;have N:i.cell? ⟨w2.heap.size,1,none⟩=some (.slice F k k):=j.cell 1;go_wp2_with fail;apply(GX _ _ _ R rows o (G.below B.fm.fb.bel zr)).mono;rintro e τ⟨rfl,c⟩;rw[show decide (R=rows)=false from dG l.out];have K:=zh (B.on c);clear c c0 c1 c2 d0 d1 N;obtain⟨η,θ,ι,κ,s,t,δ,ε⟩:=K.q.four8;go_wp2_with fail;obtain⟨ν,T,C⟩:=jp (x:=.pointer none) (y:=.int .i64 0) (z:=.slice none 0 0) (u:=.slice none 0 0) K.q;rw[T];have X:=C.c0;have Y:=C.c1;have Z:=C.c2;have a:=C.c3;refine bodyPost_ret (v:=.tuple #[.agg #[.pointer none,z0,(),()],.int .i64 5]) (by simp[results,results107,go_sem,X,Y,Z,a]) rfl ?_;exact⟨by rw[L.out],C.below K.fm.fb.bel K.fm.fb.bel.size om⟩
 .have L:=zh (T5 E);have J:=zh E;have ζ:(fB P M Mq D rows !=0)=true:=by rw[eC];exact E
  clear V E;go_enter func107,ntmps107;go_wp2_with fail;rw[I.out];clear I;have c0:=A.fm.fb.c0;have c1:=A.fm.fb.c1;have c2:=A.fm.fb.c2;have d0:=A.fm.d0;have d1:=A.fm.d1;go_wp2_with fail;apply(EN w1 P M D mv _ Mq rows (b.below A.fm.fb.bel zr) (G.below A.fm.fb.bel zr) J).mono;rintro e w2⟨rfl,H⟩;have Q:=zh (A.on H);clear H c0 c1 c2 d0 d1;have B:=zh (Q.on (aH w2 (.cells #[z0,()] 74)));obtain⟨S,d⟩:=xE (fB P M Mq D rows);rw[<-d] at ζ L|-;clear d J;go_upto_region 3 with fail;generalize w2.alloc (.cells #[z0,()] 74)=i at*;obtain⟨η,θ,ι,κ,s,t,δ,ε⟩:=B.q.four8;go_wp2_with fail;obtain⟨ν,T,C⟩:=jp (x:=.pointer none) (y:=.int .i64 0) (z:=.slice none 0 0) (u:=.slice none 0 0) B.q;rw[T];have X:=C.c0;have Y:=C.c1;have Z:=C.c2;have a:=C.c3;refine bodyPost_ret (v:=.tuple #[.agg #[.pointer none,z0,(),()],S]) (by simp[results,results107,go_sem,X,Y,Z,a]) rfl ?_;exact⟨by rw[L.out],C.below B.fm.fb.bel B.fm.fb.bel.size om⟩
def ld(v:Va):Prop:=∃p i A n c B m d,v=.agg #[.pointer p,.int .i64 i,.slice A n c,.slice B m d]
theorem TZ(w:Wo)(P M A:Int)(mv rv:Va)(Mq:LI)(rows:LL)(E:SI w mv Mq)(D:SS w rv rows):
 Calls prog 107 #[.agg #[P,M,mv],.agg #[A,rv]] w (fun e w'=>∃v,e=.returned (.tuple #[v,.int .i64 (spaceE P M Mq A rows)])/\ld v/\Below w w w'):=by
 by_cases B:spaceE P M Mq A rows=0
 .obtain⟨F,_⟩:=uB B;obtain⟨_,I,_,_,_⟩:=fM F;obtain⟨n,rfl⟩:∃n:Nat,A=(n:Int):=⟨A.toNat,om⟩
  apply(YZ w P M n mv rv Mq rows E D B).mono;rintro e w'⟨a,G,c,rfl,_,C⟩;obtain⟨H,J,rfl,_⟩:=D;rw[B];exact⟨_,rfl,⟨_,_,_,_,_,_,_,_,rfl⟩,C⟩
 .apply(YY w P M A mv rv Mq rows E D B).mono;rintro e w'⟨rfl,C⟩;exact⟨_,rfl,⟨_,_,_,_,_,_,_,_,rfl⟩,C⟩
theorem NY(w:Wo)(P M D:Int)(mv rv:Va)(Mq:LI)(rows:LL)(H:SI w mv Mq)(I:SS w rv rows):
 Calls prog 60 #[.agg #[P,M,mv],.agg #[D,rv]] w (kV w (spaceE P M Mq D rows)):=by
 have L:=zh H;have E:=zh I;clear H I;obtain⟨F,J,rfl,_⟩:=E.out;generalize rows.length=r at*;have C:=zh (jQ.mk' w P M mv D (.slice F r J));go_enter func60,ntmps60;go_wp2_with fail;generalize (w.alloc (.cells #[P,M,mv] 24)).alloc (.cells #[D,.slice F r J] 74)=w0 at*;have c0:=C.fb.c0;have c1:=C.fb.c1;have c2:=C.fb.c2;have d0:=C.d0;have d1:=C.d1;go_wp2_with fail;refine(TZ w0 P M D mv _ Mq rows (L.below C.fb.bel zr) (E.below C.fb.bel zr)).mono ?_;rintro e w1 ⟨v,rfl,⟨p,i,A,N,c,B,O,d,rfl⟩,G⟩;have K:=zh (aC (aC C.fb.bel G) (aH w1 (.cells #[.pointer p,i,.slice A N c,.slice B O d] 182)));clear G c0 c1 c2 d0 d1;go_wp2_with fail;go_ret;exact⟨rfl,K.out⟩
structure FPP(w w1:Wo)(P M:Int)(mv:Va)(c1:Int)(r1:Va)(c2:Int)(r2:Va):Prop where
 fb:dM w w1 P M mv
 m1:Blk w1 (w.heap.size+1) 74 [(c1:aV),r1]
 m2:Blk w1 (w.heap.size+1+1) 74 [(c2:aV),r2]
theorem FPP.on{w w1 w2:Wo}{P M B C:Int}{mv D E:Va}(h:FPP w w1 P M mv B D C E)(A:Below w1 w1 w2):FPP w w2 P M mv B D C E:=⟨h.fb.on A,h.m1.belowS A,h.m2.belowS A⟩
theorem FPP.gr{w w1 w2:Wo}{P M B C:Int}{mv D E:Va}(h:FPP w w1 P M mv B D C E){g:Nat}(A:w1.grownBy w2 (some g))(hn:w.heap.size+1+1<g):FPP w w2 P M mv B D C E:=
 ⟨⟨h.fb.blk.grown A (by intro e;have:=aZ0 e;omega),h.fb.bel.grown A h.fb.bel.size (fun k e=>oA (aZ0 e))⟩,h.m1.grown A (by intro e;have:=aZ0 e;omega),h.m2.grown A (by intro e;have:=aZ0 e;omega)⟩
theorem FPP.mk'(w:Wo)(P M:Int)(mv:Va)(A:Int)(B:Va)(C:Int)(D:Va):∃w1,((w.alloc (.cells #[P,M,mv] 24)).alloc (.cells #[A,B] 74)).alloc (.cells #[C,D] 74)=w1/\
 FPP w w1 P M mv A B C D/\w1.heap.size=w.heap.size+1+1+1:=by
 have h:=jQ.mk' w P M mv A B;have E:=aH ((w.alloc (.cells #[P,M,mv] 24)).alloc (.cells #[A,B] 74)) (.cells #[C,D] 74);refine⟨_,rfl,⟨h.fb.on E,h.mb.belowS E,?_⟩,?_⟩
 .have:=Blk.new ((w.alloc (.cells #[P,M,mv] 24)).alloc (.cells #[A,B] 74)) 74 [(C:aV),D];rw[World.size_alloc,World.size_alloc] at this;exact this
 .rw[World.size_alloc,World.size_alloc,World.size_alloc]
theorem MJ(w:Wo)(P M:Int)(mv:Va)(Mq:LI)(h:SI w mv Mq):
 Calls prog 58 #[.agg #[P,M,mv]] w (kV w (dI P M Mq)):=by
 have S:=zh h;clear h;have C:=zh (dM.mk' w P M mv);have J:=zh (fun(w':Wo) (O:Below w w w')=>uT w' P M mv Mq (S.below O zr));by_cases F:nY P M Mq
 case neg=>
  have N:Hid (hY P M Mq=false):=iA F;have I:Hid (dI P M Mq=1):=fO fun h=>F ⟨h.1,h.2.1,h.2.2.1⟩;rw[N.out] at J;clear F;go_enter func58,ntmps58;go_upto_region 1 with fail;generalize w.alloc (.cells #[P,M,mv] 24)=w0 at*;have c0:=C.c0;have c1:=C.c1;have c2:=C.c2;refine tc 13 c0 c1 c2 fun A=>?_;refine tq 0 ?_;try simp only[tz]
  refine tn 1 fun K hK=>?_;go_simp;refine(J _ (aC C.bel (aI w0))).mono ?_;rintro e w1 ⟨rfl,G⟩;have B:=zh (C.on (aC (aI w0) G));clear G;refine hK.out _ _ (⟨B.c0,B.c1,B.c2⟩) ?_;clear hK K A;intro A;try simp only[tz]
  refine tq 2 ?_;refine tq 3 ?_;try simp only[tz]
  refine tu 4 ?_;try simp only[tz]
  refine tu 5 ?_;try simp only[tz]
  refine tu 6 ?_;try simp only[tz]
  refine tu 7 ?_;try simp only[tz]
  refine tu 8 ?_;try simp only[tz]
  refine tn 9 fun K hK=>?_;go_simp;refine hK.out _ _ A fun _=>?_;clear hK K;try simp only[tz]
  refine tn 10 fun K hK=>?_;go_simp;refine hK.out _ _ A fun _=>?_;clear hK K;try simp only[tz]
  refine tu 11 ?_;try simp only[tz]
  refine tn 12 fun K hK=>?_;go_simp;refine hK.out _ _ A fun _=>?_;clear hK K;refine tw ?_;try simp only[tz]
  clear A;clear c0 c1 c2;go_wp2_with fail;go_ret;exact⟨by rw[I.out];rfl,B.bel⟩
 have N:Hid (hY P M Mq=true):=mW F;rw[N.out] at J;have R:=zh (fun(w':Wo) (O:Below w w w')=>pU w' P M mv Mq (S.below O zr) F);by_cases H:cZ P M Mq
 .have I:Hid (dI P M Mq=0):=nQ H;obtain⟨x,a,Y,T⟩:=FD (dR H);have Z:=dB F.1;have W:Hid (0<(wD (aD P M Mq) (aF P M)).length):=aG (by rw[T,aY7,List.length_range];omega);clear F H a Y T Z x;go_enter func58,ntmps58;go_upto_region 1 with fail;generalize w.alloc (.cells #[P,M,mv] 24)=w0 at*;have c0:=C.c0;have c1:=C.c1;have c2:=C.c2;refine tc 13 c0 c1 c2 fun A=>?_;refine tq 0 ?_;try simp only[tz]
  refine tn 1 fun K hK=>?_;go_simp;refine(J _ (aC C.bel (aI w0))).mono ?_;rintro e w1 ⟨rfl,G⟩;have B:=zh (C.on (aC (aI w0) G));clear G;refine hK.out _ _ (⟨B.c0,B.c1,B.c2⟩) ?_;clear hK K A;intro A;try simp only[tz]
  refine tq 2 ?_;refine tq 3 ?_;refine tq 4 ?_;refine tq 5 ?_;refine tq 6 ?_;refine tq 7 ?_;refine tq 8 ?_;try simp only[tz]
  refine tn 9 fun K hK=>?_;go_simp;refine(gY _ _ _).mono ?_;rintro e w2 ⟨rfl,rfl⟩;refine hK.out _ _ (⟨B.c0,B.c1,B.c2⟩) ?_;clear hK K A;intro A;try simp only[tz]
  refine tn 10 fun K hK=>?_;go_simp;refine(R _ B.bel).mono ?_;rintro e b ⟨u,rfl,U,_,L⟩;obtain⟨X,d,rfl,_,_⟩:=U.form W.out;have D:=zh (B.on L);clear U L;have Q:=fun(w:Wo) (l c:Nat)=>run_eql_slice_nil (P:=prog) w 22 3 (some (X:aA)) l c underlying22;refine hK.out _ _ (⟨D.c0,D.c1,D.c2⟩) ?_;clear hK K A;intro A;try simp only[tz]
  refine tq 11 ?_;try simp only[tz]
  refine tn 12 fun K hK=>?_;go_simp;refine hK.out _ _ A fun _=>?_;clear hK K;refine tw ?_;try simp only[tz]
  clear A;clear c0 c1 c2 Q;go_wp2_with fail;go_ret;exact⟨by rw[I.out];rfl,D.bel⟩
 .have I:Hid (dI P M Mq=1):=fO H;have V:Hid (wD (aD P M Mq) (aF P M)=[]):=J1 F H;clear F H;go_enter func58,ntmps58;go_upto_region 1 with fail;generalize w.alloc (.cells #[P,M,mv] 24)=w0 at*;have c0:=C.c0;have c1:=C.c1;have c2:=C.c2;refine tc 13 c0 c1 c2 fun A=>?_;refine tq 0 ?_;try simp only[tz]
  refine tn 1 fun K hK=>?_;go_simp;refine(J _ (aC C.bel (aI w0))).mono ?_;rintro e w1 ⟨rfl,G⟩;have B:=zh (C.on (aC (aI w0) G));clear G;refine hK.out _ _ (⟨B.c0,B.c1,B.c2⟩) ?_;clear hK K A;intro A;try simp only[tz]
  refine tq 2 ?_;refine tq 3 ?_;refine tq 4 ?_;refine tq 5 ?_;refine tq 6 ?_;refine tq 7 ?_;refine tq 8 ?_;try simp only[tz]
  refine tn 9 fun K hK=>?_;go_simp;refine(gY _ _ _).mono ?_;rintro e w2 ⟨rfl,rfl⟩;refine hK.out _ _ (⟨B.c0,B.c1,B.c2⟩) ?_;clear hK K A;intro A;try simp only[tz]
  refine tn 10 fun K hK=>?_;go_simp;refine(R _ B.bel).mono ?_;rintro e b ⟨u,rfl,_,hn,L⟩;obtain rfl:=hn V.out;have D:=zh (B.on L);clear hn L;have Q:=fun(w:Wo) (l c:Nat)=>run_eql_slice_nil (P:=prog) w 22 3 none l c underlying22;refine hK.out _ _ (⟨D.c0,D.c1,D.c2⟩) ?_;clear hK K A;intro A;try simp only[tz]
  refine tq 11 ?_;try simp only[tz]
  refine tn 12 fun K hK=>?_;go_simp;refine hK.out _ _ A fun _=>?_;clear hK K;refine tw ?_;try simp only[tz]
  clear A;clear c0 c1 c2 Q;go_wp2_with fail;go_ret;exact⟨by rw[I.out];rfl,D.bel⟩
def zM(n:Int):Int:=if 1<=n/\n<=64 then 0 else 4
theorem B8(w:Wo)(n:Int):Calls prog 59 #[n] w (fun e w'=>e=.returned (.int .i64 (zM n))/\w=w'):=by
 by_cases B:n<1
 .have A:Hid (zM n=4):=by show _=_;unfold zM;rw[iN om]
  go_enter func59,ntmps59;go_wp2;go_ret;exact⟨by rw[A.out];rfl,rfl⟩
 .by_cases C:64<n
  .have A:Hid (zM n=4):=by show _=_;unfold zM;rw[iN om]
   go_enter func59,ntmps59;go_wp2;go_ret;exact⟨by rw[A.out];rfl,rfl⟩
  .have A:Hid (zM n=0):=by show _=_;unfold zM;rw[iP om]
   go_enter func59,ntmps59;go_wp2;go_ret;exact⟨by rw[A.out];rfl,rfl⟩
structure CMQ(w w1:Wo)(P M:Int)(mv:Va)(n:Int)(gv:Va):Prop where
 cb:iC w w1 P M mv n gv
 q:Blk w1 (w.heap.size+1) 74 [.int .i64 0,.slice none 0 0]
theorem CMQ.mk'(w:Wo)(P M:Int)(mv:Va)(n:Int)(gv:Va):∃w1,(w.alloc (.cells #[P,M,mv,n,gv] 27)).alloc (.cells #[z0,()] 74)=w1/\CMQ w w1 P M mv n gv:=by refine⟨_,rfl,(iC.mk' w P M mv n gv).on (aH _ _),?_⟩;have:=Blk.new (w.alloc (.cells #[P,M,mv,n,gv] 27)) 74 [.int .i64 0,.slice none 0 0];rw[World.size_alloc] at this;exact this
theorem B4(w:Wo)(P M n:Int)(mv:Va)(B:OA)(gl C:Nat):Calls prog 61 #[.agg #[P,M,mv,n,.slice B gl C]] w (fun e w'=>e=.returned (.agg #[n,.slice B gl C])/\Below w w w'):=by obtain⟨w1,F,hq⟩:=CMQ.mk' w P M mv n (.slice B gl C);have A:=zh hq;have E:=zh F;clear hq F;go_enter func61,ntmps61;go_upto_region 1 with fail;rw[E.out];clear E;have c3:=A.cb.c3;have c4:=A.cb.c4;obtain⟨N,O,J,K⟩:=A.q.two;go_wp2_with fail;obtain⟨L,G,D⟩:=sQ (x:=(n:aV)) (y:=(.slice B gl C)) A.q;rw[G];have H:=D.c0;have I:=D.c1;refine bodyPost_ret (v:=.agg #[n,.slice B gl C]) (by simp[results,results61,go_sem,H,I]) rfl ?_;exact⟨rfl,D.below A.cb.bel A.cb.bel.size om⟩
theorem kG(w:Wo)(P M n:Int)(mv gv:Va)(Mq:LI)(gen:LL)(R:SI w mv Mq)(U:SS w gv gen):
 Calls prog 27 #[.agg #[P,M,mv,n,gv]] w (kV w (fE P M Mq n gen)):=by
 have J:=zh (fun(w':Wo) (N:Below w.heap.size w w')=>MJ w' P M mv Mq (R.below N zr));have V:=zh (fun(w':Wo) (N:Below w.heap.size w w')=>NY w' P M n mv gv Mq gen (R.below N zr) (U.below N zr));obtain⟨H,L,rfl,_⟩:=U;generalize gen.length=gl at*;have A:=zh (iC.mk' w P M mv n (.slice H gl L));clear R;by_cases D:dI P M Mq=0
 case neg=>
  have Q:dI P M Mq=1:=by unfold dI at D|-;split<;>simp_all
  have I:Hid (fE P M Mq n gen=1):=by show _=_;unfold fE;rw[iP D,Q]
  rw[Q] at J;clear D Q;go_enter func27,ntmps27;go_upto_region 1 with fail;generalize w.alloc (.cells #[P,M,mv,n,.slice H gl L] 27)=w0 at*;have c0:=A.c0;have c1:=A.c1;have c2:=A.c2;go_wp2_with fail;refine(J.out w0 A.bel).mono ?_;rintro e w1 ⟨rfl,C⟩;have B:=zh (A.on C);clear C c0 c1 c2;go_wp2_with fail;go_ret;exact⟨by rw[I.out];rfl,B.bel⟩
 rw[D] at J;by_cases hn:1<=n/\n<=64
 .have I:Hid (fE P M Mq n gen=spaceE P M Mq n gen):=by show _=_;unfold fE;rw[iN (by simpa using D),iP hn]
  have O:Hid (zM n=0):=by show _=_;unfold zM;rw[iP hn]
  clear D hn;go_enter func27,ntmps27;go_upto_region 1 with fail;generalize w.alloc (.cells #[P,M,mv,n,.slice H gl L] 27)=w0 at*;have c0:=A.c0;have c1:=A.c1;have c2:=A.c2;go_wp2_with fail;refine(J.out w0 A.bel).mono ?_;rintro e w1 ⟨rfl,C⟩;have B:=zh (A.on C);clear C c0 c1 c2;have c3:=B.c3;go_wp2_with fail;refine(B8 _ n).mono ?_;rintro e w2 ⟨rfl,rfl⟩;rw[O.out];clear c3;have c0:=B.c0;have c1:=B.c1;have c2:=B.c2;have c3:=B.c3;have c4:=B.c4;go_upto_region 6 with fail;refine te 6 c0 c1 c2 c3 c4 fun G=>?_;refine tq 0 ?_;refine tq 1 ?_;refine tq 2 ?_;try simp only[tz]
  refine tn 3 fun K hK=>?_;go_simp;refine(B4 _ P M n mv H gl L).mono ?_;rintro e X ⟨rfl,S⟩;have E:=zh (B.on (aC (aI w1) S));clear S;refine hK.out _ _ (⟨E.c0,E.c1,E.c2,E.c3,E.c4⟩) ?_;clear hK K G;intro G;try simp only[tz]
  refine tn 4 fun K hK=>?_;go_simp;refine(V.out X E.bel).mono ?_;rintro e Y ⟨rfl,T⟩;have F:=zh (E.on T);clear T;refine hK.out _ _ (⟨F.c0,F.c1,F.c2,F.c3,F.c4⟩) ?_;clear hK K G;intro G;try simp only[tz]
  refine tn 5 fun K hK=>?_;go_simp;refine hK.out _ _ G (fun W=>?_);clear hK K;clear W;refine tw ?_;try simp only[tz]
  clear G;clear c0 c1 c2 c3 c4;go_wp2_with fail;go_ret;exact⟨by rw[I.out];rfl,F.bel⟩
 .have I:Hid (fE P M Mq n gen=4):=by show _=_;unfold fE;rw[iN (by simpa using D),iN hn]
  have O:Hid (zM n=4):=by show _=_;unfold zM;rw[iN hn]
  clear D hn;go_enter func27,ntmps27;go_upto_region 1 with fail;generalize w.alloc (.cells #[P,M,mv,n,.slice H gl L] 27)=w0 at*;have c0:=A.c0;have c1:=A.c1;have c2:=A.c2;go_wp2_with fail;refine(J.out w0 A.bel).mono ?_;rintro e w1 ⟨rfl,C⟩;have B:=zh (A.on C);clear C c0 c1 c2;have c3:=B.c3;go_wp2_with fail;refine(B8 _ n).mono ?_;rintro e w2 ⟨rfl,rfl⟩;rw[O.out];go_wp2_with fail;go_ret;exact⟨by rw[I.out];rfl,B.bel⟩
theorem V5(w:Wo)(P M:Int)(mv:Va)(Mq:LI)(I:SI w mv Mq):
 Calls prog 113 #[.agg #[P,M,mv]] w (kh w P M Mq):=by
 have d:=zh I;have V:=zh (fun(w':Wo) (Y:Below w w w')=>iH w' mv Mq (I.below Y zr));obtain⟨w1,S,U,hq⟩:∃w1,(w.alloc (.cells #[P,M,mv] 24)).alloc (.cells #[z0,z0,()] 24)=w1/\dM w w1 P M mv/\Blk w1 (w.heap.size+1) 24 [.int .i64 0,.int .i64 0,.slice none 0 0]:=by refine⟨_,rfl,(dM.mk' w P M mv).on (aH _ _),?_⟩;have:=Blk.new (w.alloc (.cells #[P,M,mv] 24)) 24 [.int .i64 0,.int .i64 0,.slice none 0 0];rw[World.size_alloc] at this;exact this
 have D:=zh U;have N:=zh hq;have L:=zh S;clear I U hq S;go_enter func113,ntmps113;go_upto_region 1 with fail;rw[L.out];clear L;have c2:=D.c2;go_wp2_with fail;apply(V.out w1 D.bel).mono;rintro e w2⟨u,rfl,J,F⟩;obtain⟨A,B,rfl⟩:=J.form';have Q:=zh J;have E:=zh (D.on F);have X:=zh (N.belowS F);have j:=N.lt;clear J F c2;have c2:=E.c2;have T:=E.blk.frozen 2;go_upto_region 2 with fail;have H:=aU w2 w 2 (.slice A Mq B);have W:Hid (Blk (w2.setCell ⟨w.heap.size,2,none⟩ (.slice A Mq B)) w 24 [(P:aV),(M:aV),.slice A Mq B]):=aG (E.blk.set_ 2 (.slice A Mq B));have O:=zh (X.grown H (by intro e;have:=aZ0 e;omega));have R:=zh (Q.grown H (fun g G e=>oB ((Q.lt G).1) (aZ0 e)));have K:=zh (E.bel.setCell (p:=⟨w.heap.size,2,none⟩) zr (.slice A Mq B));clear H c2 T;generalize w2.setCell ⟨w.heap.size,2,none⟩ (.slice A Mq B)=k at*;obtain⟨c0,c1,c2,_,_,_⟩:=W.three;obtain⟨m,n,o,f,h,T⟩:=O.three;go_wp2_with fail;obtain⟨l,Z,C⟩:=vB (x:=(P:aV)) (y:=(M:aV)) (z:=.slice A Mq B) O.out;rw[Z];have a:=C.c0;have b:=C.c1;have c:=C.c2;refine bodyPost_ret (v:=.agg #[P,M,.slice A Mq B]) (by simp[results,results113,go_sem,a,b,c]) rfl ?_;refine⟨_,rfl,(R.grown C.gr (fun g G e=>?_)).mono D.bel.size,C.below K K.size om⟩;have i:=(R.lt G).1;cases e;omega
def UW(w:Wo)(P M:Int)(Mq:LI)(n:Int)(gv:Va)(e:Ending)(w':Wo):Prop:=
 ∃u,e=.returned (.tuple #[.agg #[P,M,u,n,gv],z0])/\OI w w' u Mq/\Below w w w'
structure FMC(w w1:Wo)(P M:Int)(mv:Va)(cols:Int)(rv:Va):Prop where
 fm:jQ w w1 P M mv cols rv
 q:Blk w1 (w.heap.size+1+1) 27 [.int .i64 0,.int .i64 0,.slice none 0 0,.int .i64 0,.slice none 0 0]
theorem FMC.on{w w1 w2:Wo}{P M:Int}{mv:Va}{A:Int}{rv:Va}(h:FMC w w1 P M mv A rv)(B:Below w1 w1 w2):FMC w w2 P M mv A rv:=⟨h.fm.on B,h.q.belowS B⟩
theorem FMC.mk'(w:Wo)(P M:Int)(mv:Va)(A:Int)(rv:Va):∃w1,((w.alloc (.cells #[P,M,mv] 24)).alloc (.cells #[A,rv] 74)).alloc (.cells #[z0,z0,(),z0,()] 27)=w1/\
 FMC w w1 P M mv A rv/\w1.heap.size=w.heap.size+1+1+1:=by
 refine⟨_,rfl,⟨(jQ.mk' w P M mv A rv).on (aH _ _),?_⟩,?_⟩
 .have:=Blk.new ((w.alloc (.cells #[P,M,mv] 24)).alloc (.cells #[A,rv] 74)) 27 [.int .i64 0,.int .i64 0,.slice none 0 0,.int .i64 0,.slice none 0 0];rw[World.size_alloc,World.size_alloc] at this;exact this
 .rw[World.size_alloc,World.size_alloc,World.size_alloc]
theorem FMC.s5{w w1 w2:Wo}{P M A:Int}{mv rv:Va}(h:FMC w w1 P M mv A rv)(B:w1.grownBy w2 (some (w.heap.size+1+1))):
 w2.cell? w.heap.size=some (P:aV)/\w2.cell? ⟨w.heap.size,1,none⟩=some (M:aV)/\w2.cell? ⟨w.heap.size,2,none⟩=some mv/\w2.cell? ⟨w.heap.size+1,0,none⟩=some (A:aV)/\w2.cell? ⟨w.heap.size+1,1,none⟩=some rv:=by
 have b:=h.fm.fb.blk.grown B (by intro e;have:=aZ0 e;omega);have m:=h.fm.mb.grown B (by intro e;have:=aZ0 e;omega);exact⟨b.cell 0,b.cell 1,b.cell 2,m.cell 0,m.cell 1⟩
theorem V3(w:Wo)(P M n:Int)(mv:Va)(D:OA)(gl E:Nat)(Mq:LI)(R:SI w mv Mq):
 Calls prog 64 #[.agg #[P,M,mv],.agg #[n,.slice D gl E],z0] w (UW w P M Mq n (.slice D gl E)):=by
 have L:=zh (fun(w':Wo) (c:Below w w w')=>V5 w' P M mv Mq (R.below c zr));unfold kh at L;clear R;obtain⟨w1,O,hq,s⟩:=FMC.mk' w P M mv n (.slice D gl E);have C:=zh hq;have J:=zh O;clear hq O;go_enter func64,ntmps64;go_upto_region 1 with fail;rw[J.out];clear J;go_wp2_with fail;obtain⟨c0,c1,c2,d0,d1⟩:=show(fun w':Wo=>w'.cell? w.heap.size=some (P:aV)/\w'.cell? ⟨w.heap.size,1,none⟩=some (M:aV)/\w'.cell? ⟨w.heap.size,2,none⟩=some mv/\w'.cell? ⟨w.heap.size+1,0,none⟩=some (n:aV)/\w'.cell? ⟨w.heap.size+1,1,none⟩=some (.slice D gl E)) w1 from⟨C.fm.fb.c0,C.fm.fb.c1,C.fm.fb.c2,C.fm.d0,C.fm.d1⟩
 refine te 9 c0 c1 c2 d0 d1 fun F=>?_;refine tq 0 ?_;refine tq 2 ?_;refine tq 3 ?_;refine tq 4 ?_;refine tq 5 ?_;try simp only[tz]
 refine tn 1 fun K hK=>?_;go_simp;apply(L _ (aC C.fm.fb.bel (aI w1))).mono;rintro e w2⟨u,rfl,H,Q⟩;obtain⟨G,I,rfl⟩:=H.form';have N:Hid (OI w1 w2 (.slice G Mq I) Mq):=aG H;have A:=zh (C.on (aC (aI w1) Q));clear H Q;refine hK.out _ _ (⟨A.fm.fb.c0,A.fm.fb.c1,A.fm.fb.c2,A.fm.d0,A.fm.d1⟩) ?_;clear hK K F;intro F;try simp only[tz]
 refine tq 6 ?_;try simp only[tz]
 refine tp 7 fun K hK=>?_;obtain⟨l,m,o,p,r,W,X,Y,Z,a⟩:=A.q.five;go_simp;obtain⟨t,S,B⟩:=zL (x:=(P:aV)) (y:=(M:aV)) (z:=.slice G Mq I) (u:=(n:aV)) (v:=.slice D gl E) A.q;rw[S];have U:=zh (A.s5 B.gr);have f:=B.c0;have h:=B.c1;have i:=B.c2;have j:=B.c3;have k:=B.c4;have V:=zh (N.grown B.gr (fun g d e=>oB ((N.lt d).1) (aZ0 e)));have T:=zh (B.below A.fm.fb.bel A.fm.fb.bel.size om);clear S l m o p r W X Y Z a B;refine hK.out _ _ (U.out) ?_;clear hK K F;intro F;try simp only[tz]
 refine tn 8 fun K hK=>?_;go_simp;refine hK.out _ _ F fun _=>?_;refine tw ?_;try simp only[tz]
 clear F;clear c0 c1 c2 d0 d1;go_wp2;refine bodyPost_ret (v:=.tuple #[.agg #[P,M,.slice G Mq I,n,.slice D gl E],z0]) (by simp[results,results64,go_sem,f,h,i,j,k]) rfl ?_;exact⟨_,rfl,V.mono om,T.out⟩
theorem rS{P M:Int}{Mq:LI}{n:Nat}{rows:LL}(D:cZ P M Mq)(hn:n<=256)(E:rows.length<=256)(hR:Rows (aF P M) n rows):fB P M Mq n rows=0:=by
 rw[yG D];unfold sO;have B:tS (n:Int) rows=true:=kM fun j A=>by rw[eD];have:=(hR j A).1;omega
 have C:zH (aF P M) rows=true:=kM fun j A=>by rw[eD];exact tL fun k _=>(hR j A).2 k
 rw[iN om,iP B,iP C]
theorem Cn.spaceE{P M:Int}{Mq:LI}{n:Nat}{rows:LL}(A:cZ P M Mq)(hn:n<=256)(h:Cn (aD P M Mq) (aF P M) n rows):spaceE P M Mq n rows=0:=
 GB (rS A hn (oA h.le) h.rows) (by rw[aZ8];exact h.self (dR A))
theorem iz(w:Wo)(t:TypeId)(cs ds:List Va):∃w',(w.alloc (.cells cs.toArray t)).alloc (.cells ds.toArray t)=w'/\Blk w' w t cs/\Blk w' (w.heap.size+1) t ds/\Below w w w'/\w'.heap.size=w.heap.size+1+1:=by have A:=Blk.new (w.alloc (.cells cs.toArray t)) t ds;rw[World.size_alloc] at A;exact⟨_,rfl,(Blk.new w t cs).alloc _,A,aC (aH _ _) (aH _ _),by rw[World.size_alloc,World.size_alloc]⟩
def mj(O:aQ)(A B:LL):Bool:=A.all fun r=>inL O B r
def mh(O:aQ)(rows:LL)(n:Nat)(x:LI):LI:=(List.range rows).map fun k=>x (pvt (oS O rows n) k) 0
def A4(rows:LL)(set:LI):Nat->LL
 |0=>[]
 |k+1=>A4 rows set k++[qQ (rows k []) set]
theorem mK(rows:LL)(set:LI):∀k,(A4 rows set k).length=k
 |0=>rfl
 |k+1=>by rw[A4,aZ1,mK rows set k];rfl
theorem E5(rows:LL)(set:LI):∀k j,j<k->(A4 rows set k).getD j []=qQ (rows j []) set
 |0,j,h=>om
 |k+1,j,h=>by
  rw[A4];by_cases e:j<k
  .rw[pV (by rw[mK];exact e),E5 rows set k j e]
  .obtain rfl:j=k:=om;rw[oJ (by rw[mK];exact zr),mK,Nat.sub_self];rfl
theorem QS(rows:LL)(set:LI):A4 rows set rows=nF rows set:=
 oH (by rw[mK,nR]) fun j A=>by rw[mK] at A;rw[E5 rows set _ j A];unfold nF;rw[qI _ _ _ A]
theorem FMQ.grN{w w1 w2:Wo}{P M B:Int}{mv rv:Va}(h:FMQ w w1 P M mv B rv){row:Option Nat}(A:w1.grownBy w2 row)(hn:∀g,row=some g->w.heap.size+1+1<g):FMQ w w2 P M mv B rv:=
 ⟨⟨⟨h.fm.fb.blk.grown A (fun e=>oA (hn _ e.symm)),h.fm.fb.bel.grown A h.fm.fb.bel.size (fun k e=>oA (hn _ e))⟩,h.fm.mb.grown A (fun e=>oA (hn _ e.symm))⟩,h.q.grown A (fun e=>oA (hn _ e.symm))⟩
theorem FMQ.gr{w w1 w2:Wo}{P M A:Int}{mv rv:Va}(h:FMQ w w1 P M mv A rv){g:Nat}(B:w1.grownBy w2 (some g))(hn:w.heap.size+1+1<g):FMQ w w2 P M mv A rv:=h.grN B (fun b e=>by cases e;exact hn)
theorem KE(w:Wo)(P M:Int)(n:Nat)(mv rv sv:Va)(Mq set:LI)(rows:LL)(Bc:SI w mv Mq)(Bh:SS w rv rows)(Be:SI w sv set)(τ:fB P M Mq n rows=0)(Bg:∀k,k<set.length->0<=set k 0/\set k 0<n)(Cs:set.length<=256):
 Calls prog 134 #[.agg #[P,M,mv],.agg #[n,rv],sv] w (wW w set (nF rows set)):=by
 have Bs:=zh Bc;have ι:=zh Bh;have V:=zh Be;have Bq:=zh τ;have θ:=zh Bg;obtain⟨Cl,_,hn,Co,hR⟩:=fM τ;rw[aZ8] at hR;have Bw:=zh hR;have Dk:=aM P M;have Ai:Hid (A4 rows set rows=nF rows set):=QS rows set;obtain⟨Ax,Bk,rfl,_⟩:=Bh;obtain⟨Db,sc,rfl,_⟩:=Be;clear Bc τ Bg Cl hR;obtain⟨m,ω⟩:=xE set.length;rw[<-ω] at V θ Cs|-;have H:=zh ω;obtain⟨r,Aa⟩:=xE rows.length;rw[<-Aa] at ι Ai Co|-;have η:=zh Aa;clear ω Aa;have Dj:=fun(w:Wo)=>dX m om w;obtain⟨w1,G,hq,Ct⟩:=FMQ.mk' w P M mv n (.slice Ax r Bk);have A:=zh hq;have Af:=zh G;clear hq G;go_enter func134,ntmps134;go_upto_region 1 with fail;rw[Af.out];clear Af;have c0:=A.fm.fb.c0;have c1:=A.fm.fb.c1;have c2:=A.fm.fb.c2;have d0:=A.fm.d0;have d1:=A.fm.d1;go_wp2_with fail;apply(yJ w w1 P M n _ mv _ Mq rows A.fm.fb.bel Ct Bs ι Bq).mono;rintro e w2⟨a,rfl,C,π⟩;have ε:=zh (A.on π);have Dl:=π.size;clear C π c0 c1 c2 d0 d1 A;have d0:=ε.fm.d0;go_wp2;go_loop [35] (fun i=>∃k:Nat,k<=m/\i=(k:aV)) (fun i=>m-(intOf i).toNat)
 .exact⟨0,aZ5 _,rfl⟩
 .
  obtain⟨k,hk,rfl⟩:=hrel;by_cases ψ:k<m
  .obtain⟨Cf,x,rfl,σ,_,F⟩:=(V.below ε.fm.fb.bel zr).elt (k:=k) (H.out▸ψ);have Bi:=θ.out k ψ;rw[F.out] at Bi;obtain⟨Dq,Dr⟩:=Bi;have Ds:decide (x<0)=false:=by simp;omega
   have Dt:decide ((n:Int)<=x)=false:=by simp;omega
   go_wp2;go_round
   .exact⟨k+1,om,by go_num⟩
   .simp[intOf];omega
  .obtain rfl:m=k:=om;clear ψ hk;go_upto_region 13 with fail;obtain⟨D,X,G,N,ξ,ρ⟩:=aR w2 74 [(m:aV),.slice none 0 0];rw[G,N];have ζ:=zh (ε.on ρ);have L:=zh ξ;have Dm:=ρ.size;have Cm:w2<=X/\X<D.heap.size:=⟨om,ξ.lt⟩
   clear G N ξ ρ d0;have d1:=ζ.fm.d1;go_wp2_with fail;clear d1;go_loopw [55] (fun i wr=>∃(k:Nat) (I:OA) (K:Nat),k<=r/\i=(k:aV)/\Hid (OS D (fun g=>g<D) wr (.slice I k K) (A4 rows set k))/\Hid (Blk wr X 74 [(m:aV),.slice I k K])/\Hid (FMQ w wr P M mv n (.slice Ax r Bk))/\D.heap.size<=wr.heap.size) (fun i _=>r-(intOf i).toNat)
   .exact⟨0,none,0,aZ5 _,rfl,OS.nil _ _ _,L,ζ,zr⟩
   .
    clear L ζ;obtain⟨k,I,K,hk,rfl,Q,L,A,Dp⟩:=hrel;by_cases Bb:k<r
    .obtain⟨Cf,Bn,Ci,row,rfl,σ,As,Ar⟩:=(ι.below A.fm.fb.bel zr).eltA (k:=k) (η.out▸Bb);have O:row=n/\∀i,0<=row i 0/\row i 0<aF P M:=by rw[<-Ar.out];exact Bw.out k (η.out▸Bb)
     obtain⟨O,Cp⟩:=O;have Bt:Hid (A4 rows set (k+1)=A4 rows set k++[qQ row set]):=by show _=_;rw[A4,Ar.out]
     have Ca:=zh Cp;have U:=zh (As.si);rw[O] at U;rw[O] at σ;have Bx:Hid (0<n->∀g,(Value.slice Bn n Ci).ownBlock=some g->g<wr.heap.size):=aG fun Ck g C=>U.lt (by rw[O];exact Ck) C;go_upto_region 17 with fail;obtain⟨Da,gx,G,N,Az,J⟩:=zO wr m;rw[G,N];have Au:=zh Az;have Aj:=zh ((Q.names (Y:=fun g=>g<D.heap.size\/g=gx) (fun g Di Cv=>Cv.resolve_right om)).below J);have Ad:=zh (L.belowS J);have Ap:=zh (A.on J);have Bz:=zh (U.below J zr);have Dn:=J.size;have Dg:wr.heap.size=gx:=N;have An:Hid (∀g,(Value.slice I k K).ownBlock=some g->g<wr.heap.size):=aG fun g C=>(Q.lt C).2;have Cc:=zh ((V.below A.fm.fb.bel zr).below J zr);clear G N Az J Q L A U As σ;obtain⟨f,φ⟩:=xE (fun j=>row (set j 0).toNat 0:Nat->Int);have Ao:Hid (qQ row set=aT m f):=by show _=_;unfold qQ;rw[<-H.out,φ]
     have Ag:=zh φ;clear φ;go_wp2;go_loopw [64] (fun i Bm=>∃j:Nat,j<=m/\i=(j:aV)/\Hid (RI Bm gx (bZ m f (fun _=>0) j))/\Hid (Da.grownBy Bm (some gx))) (fun i _=>m-(intOf i).toNat)
     .exact⟨0,aZ5 _,rfl,by rw[eT,mC];exact Au,World.grownBy.refl _ _⟩
     .
      clear Au;obtain⟨j,Dh,rfl,F,E⟩:=hrel;by_cases R:j<m
      .obtain ⟨Cz, z, rfl, Bf, _, Aw⟩ := (Cc.grown E (fun _ g C e => by
        have W:=aZ0 e;obtain⟨Cz,z,Cj,Bf,_,_⟩:=V.elt (k:=j) (H.out▸R);rw[Cj] at C;have Z:=World.block_lt_of_cell? _ _ Bf;rw[dQ] at Z;simp[Value.ownBlock] at C;omega)).elt (k:=j) (H.out▸R)
       have Bj:=θ.out j R;rw[Aw.out] at Bj;obtain⟨l,rfl⟩:∃l:Nat,z=(l:Int):=⟨z.toNat,om⟩
       have Cw:l<n:=om;obtain⟨Dv,y,rfl,Du,_,Ce⟩:=(Bz.grown E (fun _ g C e=>by have W:=aZ0 e;have Z:=Bx.out om g C;omega)).elt (k:=l) (by rw[O];exact Cw);have Br:Hid (f j=y):=by show _=_;rw[Ag.out];dsimp only;rw[Aw.out,aZ8,Ce.out]
       have Ah:=zh (fQ (f:=f) (g:=fun _=>0) R);rw[Br.out] at Ah;have Dw:=F.cell j (by rw[fA];exact R);have Dx:=F.frozen j;clear Bj;go_wp2;exact⟨⟨j+1,om,pC,by rw[<-Ah.out];exact F.set j y,aS (p:=⟨gx,j,none⟩) E (.inl rfl) _⟩,oI⟩
      .obtain rfl:j=m:=om;rw[eR,<-Ao.out] at F;have Df:=F.lt;have Av:Hid (SI wr (.slice gx j j) (qQ row set)):=aG (by
        have h:=F.si (by rw[kP,<-H.out];omega) (fun i=>by
         by_cases hi:i<j
         .rw[Ao.out,aK hi,Ag.out];dsimp only;have De:=Ca.out (set i 0).toNat
          exact I64.of_small om om
         .rw[bG (by rw[kP,<-H.out];omega)];exact I64.zero)
        rwa[kP,<-H.out] at h)
       have Al:=zh ((Aj.grown E (fun g e=>by have W:=aZ0 e;subst W;exact⟨fun h=>oA (An.out _ h),.inr rfl⟩)).names (Y:=fun g=>g<D) (fun g _ h=>.inl h));have s:=zh (Ad.grown E (by intro e;have:=aZ0 e;omega));have Aq:=zh (FMQ.gr Ap E om);have Do:=E.size;have δ:=zh (Al.alloc (.cells #[.slice gx j j] 22));have Bp:=zh (ZW (w:=wr) (u:=.slice gx j j) (t:=22));have c:=aH wr (.cells #[.slice gx j j] 22);have Cd:=zh (Av.below c zr);have At:=zh (jZ (w:=wr) (B:=D.heap.size) om (.cells #[.slice gx j j] 22));have Bo:=zh (s.belowS c);have Bu:=zh (Aq.on c);obtain⟨Ab,Ac,μ,ν⟩:=s.two;clear c Al s Aq Av Aj Ad Ap E;go_wp2_with (at_builtin;refine iB rfl _ _ rfl D (fun g=>g<D) _ (A4 rows set k) rfl δ wr 1 _ (qQ row set) rfl Bp Cd (fun _ g C=>by have W:gx=g:=aZ0 C;exact⟨fun e=>by have Ay:=An.out g e;omega,by show ¬g<D;omega⟩) (by rw[mK];omega) At ?_;(intro Dy Bl S d Cu);rw[<-Bt.out] at S;obtain⟨o,κ,rfl⟩:=S.form;rw[mK] at S|-;have Bd:∀b,b<D.heap.size->some b≠(Value.slice I k K).ownBlock:=(fun b Ba e=>by have Ay:=(δ.lt e.symm).1;omega);have Ae:=zh (Bo.grown d (Bd _ om));have Bv:=zh (Bu.grN d (fun b Ba=>by have Ay:=(δ.lt Ba).1;omega));have Cq:=d.size;have Am:=zh S;clear S d Cu Bd Ab Ac μ ν;obtain⟨Ab,Ac,μ,ν⟩:=Ae.two)
       have Cr:D.heap.size<=Bl.heap.size:=aZ6 At.out Cq;have χ:=aU Bl X 1 (.slice o (k+1) κ);refine⟨⟨k+1,o,κ,om,pC,Am.grown χ (fun g e=>?_),Ae.set_ 1 (.slice o (k+1) κ),FMQ.gr Bv χ om,aZ6 Cr χ.size⟩,oI⟩;cases e;exact⟨fun e=>oA (Am.lt e),Cm.2⟩
    .obtain rfl:k=r:=om;rw[Ai.out] at Q;obtain⟨Ab,Ac,μ,ν⟩:=L.two;obtain⟨Ea,Eb,Dc,Dd⟩:=A.q.two;have Cb:=zh (Q.sep (fun g C=>C) (by rw[nR,<-η.out];omega));go_wp2_with fail;obtain⟨Dz,Z,T⟩:=sQ (x:=(m:aV)) (y:=.slice I k K) A.q;rw[Z];have Cx:=T.c0;have Cy:=T.c1;refine bodyPost_ret (v:=.tuple #[.agg #[m,.slice I k K],z0]) (by simp[results,results134,go_sem,Cx,Cy]) rfl ?_;exact⟨_,rfl,(Cb.grown T.gr (by rintro g e;cases e;omega)).mono om,T.below A.fm.fb.bel A.fm.fb.bel.size om⟩
