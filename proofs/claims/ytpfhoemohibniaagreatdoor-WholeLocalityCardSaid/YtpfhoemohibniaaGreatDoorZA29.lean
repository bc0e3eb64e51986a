/- Texts of a claim, merged. -/
import Derived.Test.YtpfhoemohibniaaGreatDoorZA4
import Derived.Test.YtpfhoemohibniaaGreatDoorZA17
import Derived.Test.YtpfhoemohibniaaGreatDoorZA27
set_option maxRecDepth 100000
set_option linter.unusedVariables false
set_option maxHeartbeats 32000000
namespace Go.Proofs.YtpfhoemohibniaaGreatDoor
open Go.RowKit
theorem UK(w:World)(v u:Value)(xs ys:LI)(G:SI w v xs)(F:SI w u ys):Calls Tryz.prog 156 #[v,u] w (sG w (decide (xs=ys))):=by
 obtain⟨A,c,rfl,G⟩:=G;obtain⟨B,d,rfl,F⟩:=F;have hn:=G.len;have hm:=F.len;have T:=zh G;have S:=zh F;clear G F;by_cases I:xs.length=ys.length
 .have hb:((xs.length:Int) !=(ys.length:Int))=false:=by rw[bne_eq_false_iff_eq];omega
  have O:=zh I;obtain⟨n,M⟩:∃n,n=xs.length:=⟨_,rfl⟩
  rw[<-M] at hb hn|-;have J:=zh M;clear M;obtain⟨m,L⟩:∃m,m=ys.length:=⟨_,rfl⟩
  rw[<-L] at hb hm|-;have P:=zh L;clear L;have W:m=n:=by rw[P.out,J.out,O.out]
  subst W;clear I;go_enter Tryz.func156,Tryz.ntmps156;go_wp2_with fail;go_loopw [13] (fun i wr=>∃k:Nat,k<=m/\i=.int .i64 (k:Int)/\Hid (∀j,j<k->xs.getD j 0=ys.getD j 0)/\Hid (Below w.heap.size w wr)) (fun i _=>m-(intOf i).toNat)
  case atStart=>exact⟨0,aZ5 _,rfl,aD fun j H=>absurd H (aY5 _),bE _⟩
  case round=>
   obtain⟨k,b,rfl,N,D⟩:=hrel;by_cases R:k<m
   .obtain⟨X,x,rfl,Z,_,K⟩:=(T.below D zr).elt (k:=k) (by rw[<-J.out];exact R);obtain⟨Y,y,rfl,a,_,Q⟩:=(S.below D zr).elt (k:=k) (by rw[<-P.out];exact R);by_cases C:x=y
    .have V:(x !=y)=false:=by rw[bne_eq_false_iff_eq];exact C
     have U:=zh C;clear C;go_wp2_with fail
     go_quiet (fail)
     go_wp2_with fail;exact⟨⟨k+1,by omega,by push_cast;rfl,aD (fun j H=>by
      by_cases e:j=k
      .subst e;rw[K.out,Q.out,U.out]
      .exact N.out j (by omega)),aA D.out (bI _ _)⟩,by simp only[intOf];omega⟩
    .have V:(x !=y)=true:=by rw[bne_iff_ne];exact C
     have E:Hid (decide (xs=ys)=false):=by show _=_;rw[decide_eq_false_iff_not];intro e;rw[e,Q.out] at K;exact C K.symm
     clear C;go_wp2_with fail
     go_quiet (fail)
     go_wp2_with fail;go_ret;exact⟨by rw[E.out];rfl,aA D (bI _ _)⟩
   .obtain rfl:m=k:=by omega
    have E:Hid (decide (xs=ys)=true):=by show _=_;rw[decide_eq_true_eq];exact zE O.out fun j H=>N.out j (by rw[J.out];exact H)
    go_wp2_with fail;go_ret;exact⟨by rw[E.out];rfl,D.out⟩
 .have hb:((xs.length:Int) !=(ys.length:Int))=true:=by rw[bne_iff_ne];omega
  have E:Hid (decide (xs=ys)=false):=by show _=_;rw[decide_eq_false_iff_not];intro e;exact I (by rw[e])
  clear I;go_enter Tryz.func156,Tryz.ntmps156;go_wp2_with fail;go_ret;exact⟨by rw[E.out];rfl,bE _⟩
theorem K5(w:World)(v u:Value)(xs ys:LL)(F:SS w v xs)(E:SS w u ys):
  Calls Tryz.prog 155 #[v,u,.func (.func 156) #[] #[]] w (sG w (decide (xs=ys))):=by
 obtain⟨A,c,rfl,F⟩:=F;obtain⟨B,d,rfl,E⟩:=E;have hn:=F.len;have hm:=E.len;have S:=zh (show SS w (.slice A xs.length c) xs from⟨A,c,rfl,F⟩);have R:=zh (show SS w (.slice B ys.length d) ys from⟨B,d,rfl,E⟩);clear F E;by_cases I:xs.length=ys.length
 .have hb:((xs.length:Int) !=(ys.length:Int))=false:=by rw[bne_eq_false_iff_eq];omega
  have P:=zh I;obtain⟨n,M⟩:∃n,n=xs.length:=⟨_,rfl⟩
  rw[<-M] at hb hn S|-;have J:=zh M;clear M;obtain⟨m,L⟩:∃m,m=ys.length:=⟨_,rfl⟩
  rw[<-L] at hb hm R|-;have Q:=zh L;clear L;have Z:m=n:=by rw[Q.out,J.out,P.out]
  subst Z;clear I;go_enter Tryz.func155,Tryz.ntmps155;go_wp2_with fail;go_loopw [17] (fun i wr=>∃k:Nat,k<=m/\i=.int .i64 (k:Int)/\Hid (∀j,j<k->xs.getD j []=ys.getD j [])/\Hid (Below w.heap.size w wr)) (fun i _=>m-(intOf i).toNat)
  case atStart=>exact⟨0,aZ5 _,rfl,aD fun j H=>absurd H (aY5 _),bE _⟩
  case round=>
   obtain⟨k,q,rfl,O,G⟩:=hrel;by_cases V:k<m
   .obtain⟨f,a,h,x,rfl,o,W,K⟩:=(S.below G zr).eltA (k:=k) (by rw[<-J.out];exact V);obtain⟨g,b,l,y,rfl,p,Y,T⟩:=(R.below G zr).eltA (k:=k) (by rw[<-Q.out];exact V);go_wp2_with fail;refine(UK _ _ _ x y W.si Y.si).mono ?_;rintro e w1 ⟨rfl,U⟩;have N:=zh (aA G U);clear U;by_cases C:x=y
    .rw[show decide (x=y)=true from decide_eq_true C];have X:=zh C;clear C;go_wp2_with fail;exact⟨⟨k+1,by omega,by push_cast;rfl,aD (fun j H=>by
      by_cases e:j=k
      .subst e;rw[K.out,T.out,X.out]
      .exact O.out j (by omega)),N⟩,by simp only[intOf];omega⟩
    .rw[show decide (x=y)=false from decide_eq_false C];have D:Hid (decide (xs=ys)=false):=by
      show _=_;rw[decide_eq_false_iff_not];intro e;rw[e,T.out] at K;exact C K.symm
     clear C;go_wp2_with fail;go_ret;exact⟨by rw[D.out];rfl,N.out⟩
   .obtain rfl:m=k:=by omega
    have D:Hid (decide (xs=ys)=true):=by show _=_;rw[decide_eq_true_eq];exact kL P.out fun j H=>O.out j (by rw[J.out];exact H)
    go_wp2_with fail;go_ret;exact⟨by rw[D.out];rfl,G.out⟩
 .have hb:((xs.length:Int) !=(ys.length:Int))=true:=by rw[bne_iff_ne];omega
  have D:Hid (decide (xs=ys)=false):=by show _=_;rw[decide_eq_false_iff_not];intro e;exact I (by rw[e])
  clear I;go_enter Tryz.func155,Tryz.ntmps155;go_wp2_with fail;go_ret;exact⟨by rw[D.out];rfl,bE _⟩
def rI(xs:LI)(z:Int):Prop:=(∃k:Nat,k<xs.length/\z=(k:Int)/\xs.getD k 0≠0/\∀j,j<k->xs.getD j 0=0)\/(z= -1/\∀j,xs.getD j 0=0)
def XI(F:Nat):Prop:=∀(w:World) (x:Int),Calls Tryz.prog F #[.int .i64 x] w (fun e w'=>e=.returned (.bool (x !=0))/\w=w')
theorem T7:XI 281:=fun w x=>by go_enter Tryz.func281,Tryz.ntmps281;go_wp2_with fail;go_ret;exact⟨rfl,rfl⟩
theorem RS:XI 182:=fun w x=>by go_enter Tryz.func182,Tryz.ntmps182;go_wp2_with fail;go_ret;exact⟨rfl,rfl⟩
theorem NI(w:World)(v:Value)(xs:LI)(C:SI w v xs):Calls Tryz.prog 159 #[v,.func (.func 281) #[] #[]] w (fun e w'=>∃z,e=.returned (.int .i64 z)/\rI xs z/\w=w'):=by
 obtain⟨A,c,rfl,C⟩:=C;have hn:=C.len;have I:=zh C;clear C;go_enter Tryz.func159,Tryz.ntmps159;go_wp2_with fail;go_loop [8] (fun i=>∃k:Nat,k<=xs.length/\i=.int .i64 (k:Int)/\Hid (∀j,j<k->xs.getD j 0=0)) (fun i=>xs.length-(intOf i).toNat)
 case atStart=>exact⟨0,aZ5 _,rfl,aD fun j D=>absurd D (aY5 _)⟩
 case round=>
   obtain⟨k,M,rfl,F⟩:=hrel;by_cases H:k<xs.length
   . obtain⟨K,x,rfl,L,_,G⟩:=I.elt H;go_wp2_with fail;refine(T7 _ x).mono ?_;rintro e w1 ⟨rfl,rfl⟩;by_cases B:x=0
     . rw[show(x !=0)=false by rw[bne_eq_false_iff_eq];exact B];have J:=zh B;clear B;go_wp2_with fail;go_round
       case rel=>exact⟨k+1,by omega,by go_num,aD fun j D=>by
         by_cases e:j=k
         . subst e;rw[G.out,J.out]
         . exact F.out j (by omega)⟩
       case measure=>simp[intOf];omega
     . rw[show(x !=0)=true by rw[bne_iff_ne];exact B];have E:Hid (rI xs (k:Int)):=aD (.inl ⟨k,H,rfl,by rw[G.out];exact B,F.out⟩);clear B;go_wp2_with fail;go_ret;exact⟨_,rfl,E.out,rfl⟩
   . have E : Hid (rI xs (-1)) := aD (.inr ⟨rfl, fun j => by
       by_cases D:j<k
       . exact F.out j D
       . rw[aZ4,aY4 (by omega)];rfl⟩)
     go_wp2_with fail;go_ret;exact⟨_,rfl,E.out,rfl⟩
theorem zH(w:World)(v:Value)(xs:LI)(C:SI w v xs):Calls Tryz.prog 159 #[v,.func (.func 182) #[] #[]] w (fun e w'=>∃z,e=.returned (.int .i64 z)/\rI xs z/\w=w'):=by
 obtain⟨A,c,rfl,C⟩:=C;have hn:=C.len;have I:=zh C;clear C;go_enter Tryz.func159,Tryz.ntmps159;go_wp2_with fail;go_loop [8] (fun i=>∃k:Nat,k<=xs.length/\i=.int .i64 (k:Int)/\Hid (∀j,j<k->xs.getD j 0=0)) (fun i=>xs.length-(intOf i).toNat)
 case atStart=>exact⟨0,aZ5 _,rfl,aD fun j D=>absurd D (aY5 _)⟩
 case round=>
   obtain⟨k,M,rfl,F⟩:=hrel;by_cases H:k<xs.length
   . obtain⟨K,x,rfl,L,_,G⟩:=I.elt H;go_wp2_with fail;refine(RS _ x).mono ?_;rintro e w1 ⟨rfl,rfl⟩;by_cases B:x=0
     . rw[show(x !=0)=false by rw[bne_eq_false_iff_eq];exact B];have J:=zh B;clear B;go_wp2_with fail;go_round
       case rel=>exact⟨k+1,by omega,by go_num,aD fun j D=>by
         by_cases e:j=k
         . subst e;rw[G.out,J.out]
         . exact F.out j (by omega)⟩
       case measure=>simp[intOf];omega
     . rw[show(x !=0)=true by rw[bne_iff_ne];exact B];have E:Hid (rI xs (k:Int)):=aD (.inl ⟨k,H,rfl,by rw[G.out];exact B,F.out⟩);clear B;go_wp2_with fail;go_ret;exact⟨_,rfl,E.out,rfl⟩
   . have E : Hid (rI xs (-1)) := aD (.inr ⟨rfl, fun j => by
       by_cases D:j<k
       . exact F.out j D
       . rw[aZ4,aY4 (by omega)];rfl⟩)
     go_wp2_with fail;go_ret;exact⟨_,rfl,E.out,rfl⟩
def XT(w:World)(xs:LI)(e:Ending)(w':World):Prop:=∃g,e=.returned (.slice (some ⟨g,0,none⟩) xs.length xs.length)/\w.heap.size<=g/\RI w' g xs/\Below w.heap.size w w'
theorem F4(w:World)(P M:Int)(n:Nat)(i:Nat)(mv gv:Value)(gen:LL)(V:SS w gv gen)(hR:∀k,k<gen.length->(gen.getD k []).length=n)(hi:i<n)(hg:gen.length<=1000000):
  Calls Tryz.prog 176 #[.agg #[.int .i64 P,.int .i64 M,mv,.int .i64 (n:Int),gv],.int .i64 (i:Int)] w (XT w (fR gen i)):=by
 have B:=zh (dD.mk' w P M mv n gv);have R:=zh V;have a:=zh hR;obtain⟨F,J,rfl,_⟩:=V;obtain⟨r,L⟩:∃r,r=gen.length:=⟨_,rfl⟩
 have E:=zh L;rw[<-L] at R B hg|-;clear hR L;have X:Hid (fR gen i=aQ r fun t=>(gen.getD t []).getD i 0):=aD (by rw[E.out];rfl);have h:=fun(w:World)=>dV r (by omega) w;go_enter Tryz.func176,Tryz.ntmps176;go_upto_region 1 with fail;generalize w.alloc (.cells #[.int .i64 P,.int .i64 M,mv,.int .i64 (n:Int),.slice F r J] 27)=w0 at*;have T:w0.cell? ⟨w.heap.size,4,none⟩=some (.slice F r J):=B.blk.cell 4;go_upto_region 2 with fail;clear h;have A:=zh (RI.made w0 r);have G:=zh (aF w0 (.cells (madeCells #[.int .i64 0] r) 3));generalize w0.alloc (.cells (madeCells #[.int .i64 0] r) 3)=w1 at*;have O:=zh (aA B.bel G);obtain⟨g,K⟩:∃g,g=w0.heap.size:=⟨_,rfl⟩
 have Q:Hid (w.heap.size<=g):=aD (by rw[K];exact B.bel.size);rw[<-K] at A|-;have d:w1.cell? ⟨w.heap.size,4,none⟩=some (.slice F r J):=aE G.out T;clear K G T B;go_wp2_with fail;go_loopw [15] (fun N wr=>∃k:Nat,k<=r/\N=.int .i64 (k:Int)/\Hid (RI wr g (bY r (fun t=>(gen.getD t []).getD i 0) (fun _=>0) k))/\Hid (Below w.heap.size w wr)) (fun N _=>r-(intOf N).toNat)
 case atStart=>exact⟨0,aZ5 _,rfl,by rw[dA,gH];exact A,O⟩
 case round=>
  clear A O d;obtain⟨k,s,rfl,A,D⟩:=hrel;by_cases C:k<r
  .have Y:=zh (dO (f:=fun t=>(gen.getD t []).getD i 0) (g:=fun _=>0) C);obtain⟨l,j,u,row,rfl,e,b,H⟩:=(R.below D zr).eltA (k:=k) (by rw[<-E.out];exact C);have U:row.length=n:=by rw[<-H.out];exact a.out k (by rw[<-E.out];exact C)
   obtain⟨m,x,rfl,q,_,S⟩:=b.elt (k:=i) (by omega);rw[U] at e;have c:=A.cell k (by rw[cU];exact C);rw[eJ C] at c;have o:=A.frozen k;have I:=zh (A.set k x);rw[<-S.out,<-H.out,Y.out] at I;have W:=zh (D.setCell (p:=⟨g,k,none⟩) Q (.int .i64 x));rw[H.out,S.out] at I;clear A D U;go_wp2_with fail;exact⟨⟨k+1,by omega,by push_cast;rfl,I,W⟩,by simp only[intOf];omega⟩
  .obtain rfl:r=k:=by omega
   rw[cZ,<-X.out] at A;have Z:Hid ((fR gen i).length=r):=by show _=_;rw[mB,E.out]
   go_wp2_with fail;go_ret;exact⟨g,by rw[Z.out];rfl,Q.out,A.out,D.out⟩
theorem yC(x:Nat->Int)(n:Nat):cB x n<=n:=xP _ n
theorem kU(w:World)(v:Value)(xs:LI)(B:SI w v xs)(hn:xs.length<=1000000):Calls Tryz.prog 29 #[v] w (fun e w'=>e=.returned (.int .i64 (cB (fun j=>xs.getD j 0) xs.length:Nat))/\w=w'):=by
 obtain⟨A,c,rfl,B⟩:=B;have K:=zh B;clear B;have F:=zh (yC fun j=>xs.getD j 0);have G:Hid (∀k,cB (fun j=>xs.getD j 0) (k+1)=cB (fun j=>xs.getD j 0) k+if xs.getD k 0≠0 then 1 else 0):=aD fun k=>by unfold cB;simp only[cC,decide_eq_true_eq]
 obtain⟨n,E⟩:∃n,n=xs.length:=⟨_,rfl⟩
 have J:=zh E;rw[<-E] at hn|-;clear E;generalize hW:cB (fun j=>xs.getD j 0)=W at*;clear hW;have M:Hid True:=aD trivial;go_enter Tryz.func29,Tryz.ntmps29;go_wp2_with fail;go_loopw [3,8] (fun s i wr=>∃k:Nat,k<=n/\i=.int .i64 (k:Int)/\s=.int .i64 (W k:Nat)/\w=wr) (fun _ i _=>n-(intOf i).toNat)
 case atStart=>exact⟨0,aZ5 _,rfl,by have:=F.out 0;rw[Nat.le_zero.1 this];rfl,rfl⟩
 case round=>
  obtain⟨k,P,rfl,rfl,rfl⟩:=hrel;by_cases L:k<n
  .obtain⟨N,x,rfl,O,_,H⟩:=K.elt (k:=k) (by rw[<-J.out];exact L);have I:=zh (F k);by_cases C:x=0
   .have D:Hid (W (k+1)=W k):=aD (by rw[G.out,H.out,if_neg (by simpa using C)];rfl);subst C;go_wp2_with fail;exact⟨⟨k+1,by omega,by push_cast;rfl,by rw[D.out],trivial⟩,by simp only[intOf];omega⟩
   .have D:Hid (W (k+1)=W k+1):=aD (by rw[G.out,H.out,if_pos (by simpa using C)]);have Q:(x !=0)=true:=by rw[bne_iff_ne];exact C
    have R:W k<=1000000:=by have:=I.out;omega
    go_wp2_with fail;exact⟨⟨k+1,by omega,by push_cast;rfl,by rw[D.out];push_cast;rfl,trivial⟩,by simp only[intOf];omega⟩
  .obtain rfl:n=k:=by omega
   go_wp2_with fail;go_ret;exact⟨rfl,rfl⟩
def pU(k w:Nat)(A:LI):Nat->Nat
 |0=>0
 |m+1=>pU k w A m+(w+1+(A.getD m 0).toNat-k)
theorem FU{k w:Nat}{A:LI}(h:∀j,j<A.length->0<=A.getD j 0/\A.getD j 0<=k)(B:w<=k):∀m,m<=A.length->pU k w A m<=m*(w+1)
 |0,_=>aZ5 _
 |m+1,hm=>by have C:=FU h B m (by omega);have D:=h m (by omega);rw[pU,Nat.add_mul,Nat.one_mul];omega
theorem JC(w0:World)(k w:Nat)(v:Value)(B:LI)(D:SI w0 v B)(a:k<=64)(R:w<=k)(Q:B.length<=64)(F:∀j,j<B.length->0<=B.getD j 0/\B.getD j 0<=k):
  Calls Tryz.prog 63 #[.int .i64 (k:Int),v,.int .i64 (w:Int)] w0 (fun e w'=>e=.returned (.tuple #[.int .i64 (pU k w B B.length:Nat),.int .i64 0])/\w0=w'):=by
 obtain⟨A,c,rfl,D⟩:=D;have P:=zh D;clear D;have G:=zh (FU F R);have M:=zh F;have O:Hid (∀m,pU k w B (m+1)=pU k w B m+(w+1+(B.getD m 0).toNat-k)):=aD fun m=>rfl;obtain⟨n,E⟩:∃n,n=B.length:=⟨_,rfl⟩
 have H:=zh E;rw[<-E] at Q G|-;have L:Hid (pU k w B 0=0):=aD rfl;generalize hW:pU k w B=W at*;clear E F hW;have d:¬k>64:=by omega
 have f:¬w>k:=by omega
 have g:¬n>64:=by omega
 have T:decide (64<k)=false:=decide_eq_false (by omega);have U:decide (k<w)=false:=decide_eq_false (by omega);have V:decide (64<n)=false:=decide_eq_false (by omega);go_enter Tryz.func63,Tryz.ntmps63;go_wp2_with fail;go_loopw [8,33] (fun s i wr=>∃m:Nat,m<=n/\i=.int .i64 (m:Int)/\s=.int .i64 (W m:Nat)/\w0=wr) (fun _ i _=>n-(intOf i).toNat)
 case atStart=>exact⟨0,aZ5 _,rfl,by rw[L.out];rfl,rfl⟩
 case round=>
  obtain⟨m,hm,rfl,rfl,rfl⟩:=hrel;by_cases J:m<n
  .obtain⟨S,x,rfl,Z,_,I⟩:=P.elt (k:=m) (by rw[<-H.out];exact J);have K:=M.out m (by rw[<-H.out];exact J);rw[I.out] at K;obtain⟨C,rfl⟩:∃C:Nat,x=(C:Int):=⟨x.toNat,by omega⟩
   have N:Hid (W (m+1)=W m+(w+1+C-k)):=aD (by rw[O.out,I.out];simp);have b:C<=k:=by omega
   have Y:W m<=64*65:=aZ6 (G.out m (by omega)) (Nat.mul_le_mul (by omega) (by omega));have h:¬(k:Int)<(C:Int):=by omega
   have X:decide (k<C)=false:=decide_eq_false (by omega);clear K;go_wp2_with fail;refine⟨⟨m+1,by omega,by push_cast;rfl,?_,trivial⟩,by simp only[intOf];omega⟩;rw[N.out];congr 1;split<;>(push_cast;omega)
  .obtain rfl:n=m:=by omega
   go_wp2_with fail;refine bodyPost_ret (v:=.tuple #[.int .i64 (W n:Nat),.int .i64 0]) (by simp[results,Tryz.results63,go_sem]) rfl ?_;exact⟨rfl,rfl⟩
def P1(n:Nat)(set:LI):Prop:=∀k,k<set.length->0<=set.getD k 0/\set.getD k 0<n/\(0<k->set.getD (k-1) 0<set.getD k 0)
theorem RK(w:World)(P M:Int)(n:Nat)(mv gv sv:Value)(set:LI)(Q:SS w sv [set])(O:P1 n set)(N:set.length<=100000)(hn:n<=100000):
  Calls Tryz.prog 282 #[.agg #[.int .i64 P,.int .i64 M,mv,.int .i64 (n:Int),gv],sv] w (iJ w 0):=by
 have C:=zh (dD.mk' w P M mv n gv);have S:=zh Q;have F:=zh O;obtain⟨d,t,rfl,_⟩:=Q;clear O;go_enter Tryz.func282,Tryz.ntmps282;go_upto_region 1 with fail;generalize w.alloc (.cells #[.int .i64 P,.int .i64 M,mv,.int .i64 (n:Int),gv] 27)=w0 at*;have h:w0.cell? ⟨w.heap.size,3,none⟩=some (.int .i64 (n:Int)):=C.blk.cell 3;simp only[List.length_cons,List.length_nil] at*;go_wp2_with fail;go_loopw [11] (fun i wr=>(i=.int .i64 0\/i=.int .i64 1)/\w0=wr) (fun i _=>1-(intOf i).toNat)
 case atStart=>exact⟨.inl rfl,rfl⟩
 case round=>
  obtain⟨hi,rfl⟩:=hrel;rcases hi with rfl|rfl
  .obtain⟨g,A,c,xs,rfl,I,H,G⟩:=(S.below C.bel zr).eltA (k:=0) (by simp);have R:set=xs:=G.out;rw[vO] at I;obtain⟨m,E⟩:∃m,m=xs.length:=⟨_,rfl⟩
   rw[R] at F N;have D:=zh E;rw[<-E] at I N;clear R E G;go_wp2_with fail;go_loopw [17] (fun i wr=>∃k:Nat,k<=m/\i=.int .i64 (k:Int)/\w0=wr) (fun i _=>m-(intOf i).toNat)
   case atStart=>exact⟨0,aZ5 _,rfl,rfl⟩
   case round=>
    obtain⟨k,s,rfl,rfl⟩:=hrel;by_cases L:k<m
    .obtain⟨e,x,rfl,Y,_,T⟩:=H.elt (k:=k) (by rw[<-D.out];exact L);obtain⟨W,X,B⟩:=F.out k (by rw[<-D.out];exact L);rw[T.out] at W X B;have u:¬x<0:=by omega
     have l:decide (x<0)=false:=decide_eq_false (by omega);have Z:¬(n:Int)<=x:=by omega
     have o:decide ((n:Int)<=x)=false:=decide_eq_false Z;by_cases K:k=0
     .subst K;rw[vO] at Y;clear B;go_wp2_with fail;exact⟨⟨1,by omega,rfl,trivial⟩,by simp only[intOf];omega⟩
     .obtain⟨j,J⟩:∃j,k=j+1:=⟨k-1,by omega⟩
      obtain⟨f,y,V,r,_,U⟩:=H.elt (k:=j) (by rw[<-D.out];omega);obtain rfl:=aZ0 V;have q:y<x:=by have:=B (by omega);rw[show k-1=j by omega,U.out] at this;exact this
      have a:¬x<=y:=by omega
      have p:decide (x<=y)=false:=decide_eq_false a;have v:0<k:=by omega
      have z:(k:Int)-1=(j:Int):=by omega
      have δ:j<m:=by omega
      have b:=zh J;clear B J K;go_wp2_with fail;exact⟨⟨k+1,by omega,by push_cast;rfl,trivial⟩,by simp only[intOf];omega⟩
    .obtain rfl:m=k:=by omega
     go_wp2_with fail;exact⟨⟨.inr rfl,trivial⟩,by decide⟩
  .go_wp2_with fail;go_ret;exact⟨rfl,C.bel⟩
theorem kY{P M:Int}{Mod:LI}{A:Int}{rows:LL}(h:spaceE P M Mod A rows=0):dK P M Mod A rows=0/\bC (aB P M Mod) rows A.toNat=rows:=by
 unfold spaceE at h;split at h
 .rename_i h1;exact absurd h h1
 .rename_i h1;split at h
  .rename_i h2;exact⟨Decidable.not_not.1 h1,h2⟩
  .cases h
theorem O4{P M:Int}{Mod:LI}{A:Int}{rows:LL}(h:dK P M Mod A rows≠0):spaceE P M Mod A rows=dK P M Mod A rows:=by unfold spaceE;rw[if_pos h]
theorem IC{P M:Int}{Mod:LI}{A:Int}{rows:LL}(h:dK P M Mod A rows=0)(k:bC (aB P M Mod) rows A.toNat≠rows):spaceE P M Mod A rows=5:=by unfold spaceE;rw[if_neg (by rw[h];decide),if_neg k]
theorem DE{P M:Int}{Mod:LI}{A:Int}{rows:LL}(h:dK P M Mod A rows=0)(k:bC (aB P M Mod) rows A.toNat=rows):spaceE P M Mod A rows=0:=by unfold spaceE;rw[if_neg (by rw[h];decide),if_pos k]
structure SpP(P M:Int)(Mod:LI)(n:Nat)(rows:LL):Prop where
 fld:cK P M Mod
 n256:n<=256
 r256:rows.length<=256
 rref:dP (aB P M Mod) (aC P M) n rows (jX (aB P M Mod) rows n)
theorem SpP.of{P M:Int}{Mod:LI}{n:Nat}{rows:LL}(h:spaceE P M Mod n rows=0):SpP P M Mod n rows:=by obtain⟨C,A⟩:=kY h;obtain⟨B,_,hn,D,hR⟩:=dE C;rw[aZ8] at hR A;have:=(bX (dU B) hR).1;rw[A] at this;exact⟨B,by omega,D,this⟩
theorem SpP.hO{P M:Int}{Mod:LI}{n:Nat}{rows:LL}(h:SpP P M Mod n rows):(aB P M Mod).Fld (aC P M):=dU h.fld
def VW(w:World)(v:Value)(P M:Int)(Mod:LI)(n:Nat)(B:Value)(rows:LL):Prop:=
 ∃a A c,v=.agg #[.pointer (some ⟨a,0,none⟩),.int .i64 (n:Int),B,.slice A rows.length c]/\GF w a P M Mod/\SI w (.slice A rows.length c) (jX (aB P M Mod) rows n)
def WC(w:World)(P M:Int)(Mod:LI)(n:Nat)(A:Value)(rows:LL)(e:Ending)(w':World):Prop:=
 ∃a B c,e=.returned (.tuple #[.agg #[.pointer (some ⟨a,0,none⟩),.int .i64 (n:Int),A,.slice B rows.length c],.int .i64 0])/\Sep w.heap.size w' (fun w2=>VW w2 (.agg #[.pointer (some ⟨a,0,none⟩),.int .i64 (n:Int),A,.slice B rows.length c]) P M Mod n A rows)/\Below w.heap.size w w'
theorem W4{w:World}{g:Nat}{t:TypeId}{a b c d x y z u:Value}(h:Blk w g t [a,b,c,d]):∃w',(((w.setCell ⟨g,0,none⟩ x).setCell ⟨g,1,none⟩ y).setCell ⟨g,2,none⟩ z).setCell ⟨g,3,none⟩ u=w'/\nH w w' g t [x,y,z,u]:=
 ⟨_,rfl,(((h.set_ 0 x).set_ 1 y).set_ 2 z).set_ 3 u,aP (p:=⟨g,3,none⟩) (aP (p:=⟨g,2,none⟩) (iI w g 0 1 x y) (.inl rfl) _) (.inl rfl) _⟩
theorem Blk.four8{w:World}{g:Nat}{t:TypeId}{a b c d:Value}(h:Blk w g t [a,b,c,d]):
  w.cell? ⟨g,0,none⟩=some a/\w.cell? ⟨g,1,none⟩=some b/\w.cell? ⟨g,2,none⟩=some c/\w.cell? ⟨g,3,none⟩=some d/\w.frozen? ⟨g,0,none⟩=false/\w.frozen? ⟨g,1,none⟩=false/\w.frozen? ⟨g,2,none⟩=false/\w.frozen? ⟨g,3,none⟩=false:=
 ⟨h.cell 0,h.cell 1,h.cell 2,h.cell 3,h.frozen 0,h.frozen 1,h.frozen 2,h.frozen 3⟩
structure FMV(w w1:World)(P M:Int)(mv:Value)(cols:Int)(rv:Value):Prop where
 fm:fU w w1 P M mv cols rv
 q:Blk w1 (w.heap.size+1+1) 152 [.pointer none,.int .i64 0,.slice none 0 0,.slice none 0 0]
theorem FMV.on{w w1 w2:World}{P M:Int}{mv:Value}{A:Int}{B:Value}(h:FMV w w1 P M mv A B)(hb:Below w1.heap.size w1 w2):FMV w w2 P M mv A B:=⟨h.fm.on hb,h.q.belowS hb⟩
theorem FMV.mk'(w:World)(P M:Int)(mv:Value)(A:Int)(B:Value):∃w1,((w.alloc (.cells #[.int .i64 P,.int .i64 M,mv] 24)).alloc (.cells #[.int .i64 A,B] 86)).alloc (.cells #[.pointer none,.int .i64 0,.slice none 0 0,.slice none 0 0] 152)=w1/\
  FMV w w1 P M mv A B/\w1.heap.size=w.heap.size+1+1+1:=by
 refine⟨_,rfl,⟨(fU.mk' w P M mv A B).on (aF _ _),?_⟩,?_⟩
 .have:=Blk.new ((w.alloc (.cells #[.int .i64 P,.int .i64 M,mv] 24)).alloc (.cells #[.int .i64 A,B] 86)) 152 [.pointer none,.int .i64 0,.slice none 0 0,.slice none 0 0];rw[World.size_alloc,World.size_alloc] at this;exact this
 .rw[World.size_alloc,World.size_alloc,World.size_alloc]
theorem IA(w:World)(P M:Int)(n:Nat)(mv X:Value)(Mod:LI)(rows:LL)(hm:SI w mv Mod)(f:SS w X rows)(S:spaceE P M Mod n rows=0):
  Calls Tryz.prog 89 #[.agg #[.int .i64 P,.int .i64 M,mv],.agg #[.int .i64 (n:Int),X]] w (WC w P M Mod n X rows):=by
 have Z:=zh hm;have H:=zh f;clear hm f;obtain⟨d,J⟩:=kY S;rw[aZ8] at J;have c:=zh (SpP.of S);have k:=zh d;have j:=zh J;have ν:Hid (decide (bC (aB P M Mod) rows n=rows)=true):=decide_eq_true J;clear d J S;have T:=c.rref.len;obtain⟨Q,W,rfl,_⟩:=H.out;obtain⟨r,V⟩:∃r,r=rows.length:=⟨_,rfl⟩
 rw[<-V] at H T|-;have G:=zh V;have m:=zh T;clear V T;obtain⟨w1,I,hq,φ⟩:=FMV.mk' w P M mv n (.slice Q r W);have A:=zh hq;have Y:=zh I;clear hq I;go_enter Tryz.func89,Tryz.ntmps89;go_wp2_with fail;rw[Y.out];clear Y;have c0:=A.fm.fb.c0;have c1:=A.fm.fb.c1;have c2:=A.fm.fb.c2;have d0:=A.fm.d0;have d1:=A.fm.d1;go_wp2_with fail;refine(kC w1 P M n mv _ Mod rows (Z.below A.fm.fb.bel zr) (H.below A.fm.fb.bel zr) k).mono ?_;rintro e w2 ⟨D,U,O,rfl,N,_,K⟩;rw[j.out,m.out] at N|-;rw[<-G.out] at N|-;have p:=zh N;have o:=zh (A.on K);have μ:=zh K;have χ:=K.size;clear N K c0 c1 c2 d0 d1;have b:=zh (p.on (aF w2 (.cells #[.int .i64 (n:Int),.slice D r r] 86)));have B:=zh (o.on (aF w2 (.cells #[.int .i64 (n:Int),.slice D r r] 86)));have i:=zh (Blk.new w2 86 [.int .i64 (n:Int),.slice D r r]);have τ:(w2.alloc (.cells #[.int .i64 (n:Int),.slice D r r] 86)).heap.size=w2.heap.size+1:=World.size_alloc _ _;go_upto_region 4 with fail;generalize w2.alloc (.cells #[.int .i64 (n:Int),.slice D r r] 86)=κ at*;have c0:=B.fm.fb.c0;have c1:=B.fm.fb.c1;have c2:=B.fm.fb.c2;have d0:=B.fm.d0;have d1:=B.fm.d1;have I:κ.cell? ⟨w2.heap.size,1,none⟩=some (.slice D r r):=i.cell 1;go_wp2_with fail;refine(K5 _ _ _ rows rows b.out.out.1 (H.below B.fm.fb.bel zr)).mono ?_;rintro e Ad ⟨rfl,L⟩;rw[show decide (rows=rows)=true from decide_eq_true rfl];have s:=zh (b.on L);have C:=zh (B.on L);have ψ:=L.size;clear L c0 c1 c2 d0 d1 I;have c0:=C.fm.fb.c0;have c1:=C.fm.fb.c1;have c2:=C.fm.fb.c2;have d0:=C.fm.d0;have d1:=C.fm.d1;go_wp2_with fail;refine(mK _ P M mv Mod (Z.below C.fm.fb.bel zr) c.fld).mono ?_;rintro e Ae ⟨a,rfl,hg,R⟩;have t:=zh ((s.on R).mono (B':=w1.heap.size) zr);have l:=zh (hg.mono (B':=w1.heap.size) (by omega));have F:=zh (C.on R);clear hg R c0 c1 c2 d0 d1;have d0:=F.fm.d0;have d1:=F.fm.d1;obtain⟨ω,Aa,Ab,Ac,ξ,π,ρ,σ⟩:=F.q.four8;go_wp2_with fail;obtain⟨Af,δ,E⟩:=W4 (x:=.pointer (some ⟨a,0,none⟩)) (y:=.int .i64 (n:Int)) (z:=.slice Q r W) (u:=.slice U r O) F.q;rw[δ];have ζ:=E.c0;have η:=E.c1;have θ:=E.c2;have ι:=E.c3;refine bodyPost_ret (v:=.tuple #[.agg #[.pointer (some ⟨a,0,none⟩),.int .i64 (n:Int),.slice Q r W,.slice U r O],.int .i64 0]) (by simp[results,Tryz.results89,go_sem,ζ,η,θ,ι]) rfl ?_;refine⟨a,U,O,by rw[<-G.out],?_,E.below F.fm.fb.bel F.fm.fb.bel.size (by omega)⟩;rw[<-G.out];have ε:=((l.and t).grown E.gr (by rintro g e;cases e;omega)).mono (B':=w.heap.size) (by omega);exact ε.imp fun Ag h=>⟨a,U,O,by rw[<-G.out],h.1,by rw[<-G.out];exact h.2.2⟩
theorem TE(w:World)(P M D:Int)(mv i:Value)(Mod:LI)(rows:LL)(hm:SI w mv Mod)(h:SS w i rows)(V:spaceE P M Mod D rows≠0):
  Calls Tryz.prog 89 #[.agg #[.int .i64 P,.int .i64 M,mv],.agg #[.int .i64 D,i]] w (fun e w'=>e=.returned (.tuple #[.agg #[.pointer none,.int .i64 0,.slice none 0 0,.slice none 0 0],.int .i64 (spaceE P M Mod D rows)])/\Below w.heap.size w w'):=by
 have b:=zh hm;have G:=zh h;clear hm h;obtain⟨s,μ,rfl,_⟩:=G.out;obtain⟨r,g⟩:∃r,r=rows.length:=⟨_,rfl⟩
 rw[<-g] at G|-;clear g;obtain⟨w1,N,hq,ρ⟩:=FMV.mk' w P M mv D (.slice s r μ);have A:=zh hq;have I:=zh N;clear hq N;by_cases E:dK P M Mod D rows=0
 .have O:bC (aB P M Mod) rows D.toNat≠rows:=fun e=>V (DE E e);have L:=zh (IC E O);obtain⟨_,ξ,π,_,_⟩:=dE E;obtain⟨n,rfl⟩:∃n:Nat,D=(n:Int):=⟨D.toNat,by omega⟩
  rw[aZ8] at O;have m:=zh O;have J:=zh E;clear V O E;go_enter Tryz.func89,Tryz.ntmps89;go_wp2_with fail;rw[I.out];clear I;have c0:=A.fm.fb.c0;have c1:=A.fm.fb.c1;have c2:=A.fm.fb.c2;have d0:=A.fm.d0;have d1:=A.fm.d1;go_wp2_with fail;refine(kC w1 P M n mv _ Mod rows (b.below A.fm.fb.bel zr) (G.below A.fm.fb.bel zr) J).mono ?_;rintro e w2 ⟨F,U,σ,rfl,W,_,H⟩;generalize bC (aB P M Mod) rows n=R at*;obtain⟨k,f⟩:∃k,k=R.length:=⟨_,rfl⟩
  rw[<-f] at W|-;clear f;have Q:=zh (A.on H);have o:=zh W.out.1;clear W H c0 c1 c2 d0 d1;have p:=zh (o.below (aF w2 (.cells #[.int .i64 (n:Int),.slice F k k] 86)) zr);have B:=zh (Q.on (aF w2 (.cells #[.int .i64 (n:Int),.slice F k k] 86)));have l:=zh (Blk.new w2 86 [.int .i64 (n:Int),.slice F k k]);go_upto_region 4 with fail;generalize w2.alloc (.cells #[.int .i64 (n:Int),.slice F k k] 86)=j at*;have c0:=B.fm.fb.c0;have c1:=B.fm.fb.c1;have c2:=B.fm.fb.c2;have d0:=B.fm.d0;have d1:=B.fm.d1;have N:j.cell? ⟨w2.heap.size,1,none⟩=some (.slice F k k):=l.cell 1;go_wp2_with fail;refine(K5 _ _ _ R rows p (G.below B.fm.fb.bel zr)).mono ?_;rintro e τ ⟨rfl,c⟩;rw[show decide (R=rows)=false from decide_eq_false m.out];have K:=zh (B.on c);clear c c0 c1 c2 d0 d1 N;obtain⟨η,θ,ι,κ,t,δ,ε,ζ⟩:=K.q.four8;go_wp2_with fail;obtain⟨ν,T,C⟩:=W4 (x:=.pointer none) (y:=.int .i64 0) (z:=.slice none 0 0) (u:=.slice none 0 0) K.q;rw[T];have X:=C.c0;have Y:=C.c1;have Z:=C.c2;have a:=C.c3;refine bodyPost_ret (v:=.tuple #[.agg #[.pointer none,.int .i64 0,.slice none 0 0,.slice none 0 0],.int .i64 5]) (by simp[results,Tryz.results89,go_sem,X,Y,Z,a]) rfl ?_;exact⟨by rw[L.out],C.below K.fm.fb.bel K.fm.fb.bel.size (by omega)⟩
 .have L:=zh (O4 E);have J:=zh E;have hb:(dK P M Mod D rows !=0)=true:=by rw[bne_iff_ne];exact E
  clear V E;go_enter Tryz.func89,Tryz.ntmps89;go_wp2_with fail;rw[I.out];clear I;have c0:=A.fm.fb.c0;have c1:=A.fm.fb.c1;have c2:=A.fm.fb.c2;have d0:=A.fm.d0;have d1:=A.fm.d1;go_wp2_with fail;refine(BF w1 P M D mv _ Mod rows (b.below A.fm.fb.bel zr) (G.below A.fm.fb.bel zr) J).mono ?_;rintro e w2 ⟨rfl,H⟩;have Q:=zh (A.on H);clear H c0 c1 c2 d0 d1;have B:=zh (Q.on (aF w2 (.cells #[.int .i64 0,.slice none 0 0] 86)));obtain⟨S,d⟩:∃S,S=dK P M Mod D rows:=⟨_,rfl⟩
  rw[<-d] at hb L|-;clear d J;go_upto_region 3 with fail;generalize w2.alloc (.cells #[.int .i64 0,.slice none 0 0] 86)=j at*;obtain⟨η,θ,ι,κ,t,δ,ε,ζ⟩:=B.q.four8;go_wp2_with fail;obtain⟨ν,T,C⟩:=W4 (x:=.pointer none) (y:=.int .i64 0) (z:=.slice none 0 0) (u:=.slice none 0 0) B.q;rw[T];have X:=C.c0;have Y:=C.c1;have Z:=C.c2;have a:=C.c3;refine bodyPost_ret (v:=.tuple #[.agg #[.pointer none,.int .i64 0,.slice none 0 0,.slice none 0 0],.int .i64 S]) (by simp[results,Tryz.results89,go_sem,X,Y,Z,a]) rfl ?_;exact⟨by rw[L.out],C.below B.fm.fb.bel B.fm.fb.bel.size (by omega)⟩
def XW(v:Value):Prop:=∃p i A n c B m d,v=.agg #[.pointer p,.int .i64 i,.slice A n c,.slice B m d]
theorem O3(w:World)(P M A:Int)(mv C:Value)(Mod:LI)(rows:LL)(hm:SI w mv Mod)(D:SS w C rows):
  Calls Tryz.prog 89 #[.agg #[.int .i64 P,.int .i64 M,mv],.agg #[.int .i64 A,C]] w (fun e w'=>∃v,e=.returned (.tuple #[v,.int .i64 (spaceE P M Mod A rows)])/\XW v/\Below w.heap.size w w'):=by
 by_cases B:spaceE P M Mod A rows=0
 .obtain⟨E,_⟩:=kY B;obtain⟨_,H,_,_,_⟩:=dE E;obtain⟨n,rfl⟩:∃n:Nat,A=(n:Int):=⟨A.toNat,by omega⟩
  refine(IA w P M n mv C Mod rows hm D B).mono ?_;rintro e w' ⟨a,F,c,rfl,_,hb⟩;obtain⟨G,I,rfl,_⟩:=D;rw[B];exact⟨_,rfl,⟨_,_,_,_,_,_,_,_,rfl⟩,hb⟩
 .refine(TE w P M A mv C Mod rows hm D B).mono ?_;rintro e w' ⟨rfl,hb⟩;exact⟨_,rfl,⟨_,_,_,_,_,_,_,_,rfl⟩,hb⟩
theorem KB(w:World)(P M D:Int)(mv I:Value)(Mod:LI)(rows:LL)(hm:SI w mv Mod)(G:SS w I rows):
  Calls Tryz.prog 44 #[.agg #[.int .i64 P,.int .i64 M,mv],.agg #[.int .i64 D,I]] w (iJ w (spaceE P M Mod D rows)):=by
 have K:=zh hm;have E:=zh G;clear hm G;obtain⟨F,H,rfl,_⟩:=E.out;generalize rows.length=r at*;have C:=zh (fU.mk' w P M mv D (.slice F r H));go_enter Tryz.func44,Tryz.ntmps44;go_wp2_with fail;generalize (w.alloc (.cells #[.int .i64 P,.int .i64 M,mv] 24)).alloc (.cells #[.int .i64 D,.slice F r H] 86)=w0 at*;have c0:=C.fb.c0;have c1:=C.fb.c1;have c2:=C.fb.c2;have d0:=C.d0;have d1:=C.d1;go_wp2_with fail;refine(O3 w0 P M D mv _ Mod rows (K.below C.fb.bel zr) (E.below C.fb.bel zr)).mono ?_;rintro e w1 ⟨v,rfl,⟨p,i,A,L,c,B,N,d,rfl⟩,hb⟩;have J:=zh (aA (aA C.fb.bel hb) (aF w1 (.cells #[.pointer p,.int .i64 i,.slice A L c,.slice B N d] 152)));clear hb c0 c1 c2 d0 d1;go_wp2_with fail;go_ret;exact⟨rfl,J.out⟩
structure FPP(w w1:World)(P M:Int)(mv:Value)(c1:Int)(r1:Value)(c2:Int)(r2:Value):Prop where
 fb:cV w w1 P M mv
 m1:Blk w1 (w.heap.size+1) 86 [.int .i64 c1,r1]
 m2:Blk w1 (w.heap.size+1+1) 86 [.int .i64 c2,r2]
theorem FPP.on{w w1 w2:World}{P M A B:Int}{mv C D:Value}(h:FPP w w1 P M mv A C B D)(hb:Below w1.heap.size w1 w2):FPP w w2 P M mv A C B D:=⟨h.fb.on hb,h.m1.belowS hb,h.m2.belowS hb⟩
theorem FPP.gr{w w1 w2:World}{P M A B:Int}{mv C D:Value}(h:FPP w w1 P M mv A C B D){g:Nat}(hg:w1.grownBy w2 (some g))(hn:w.heap.size+1+1<g):FPP w w2 P M mv A C B D:=
 ⟨⟨h.fb.blk.grown hg (by intro e;have:=aZ0 e;omega),h.fb.bel.grown hg h.fb.bel.size (fun k e=>by have:=aZ0 e;omega)⟩,h.m1.grown hg (by intro e;have:=aZ0 e;omega),h.m2.grown hg (by intro e;have:=aZ0 e;omega)⟩
theorem FPP.mk'(w:World)(P M:Int)(mv:Value)(A:Int)(B:Value)(C:Int)(D:Value):∃w1,((w.alloc (.cells #[.int .i64 P,.int .i64 M,mv] 24)).alloc (.cells #[.int .i64 A,B] 86)).alloc (.cells #[.int .i64 C,D] 86)=w1/\
  FPP w w1 P M mv A B C D/\w1.heap.size=w.heap.size+1+1+1:=by
 have h:=fU.mk' w P M mv A B;have hb:=aF ((w.alloc (.cells #[.int .i64 P,.int .i64 M,mv] 24)).alloc (.cells #[.int .i64 A,B] 86)) (.cells #[.int .i64 C,D] 86);refine⟨_,rfl,⟨h.fb.on hb,h.mb.belowS hb,?_⟩,?_⟩
 .have:=Blk.new ((w.alloc (.cells #[.int .i64 P,.int .i64 M,mv] 24)).alloc (.cells #[.int .i64 A,B] 86)) 86 [.int .i64 C,D];rw[World.size_alloc,World.size_alloc] at this;exact this
 .rw[World.size_alloc,World.size_alloc,World.size_alloc]
theorem KZ(n:Nat)(h:n<4294967296):bits .and .u64 (n:Int) 4294967295=(n:Int):=by show IntKind.u64.wrap ((BitVec.ofInt 64 (n:Int)&&&BitVec.ofInt 64 4294967295).toNat:Int)=_;rw[BitVec.toNat_and,show BitVec.ofInt 64 (4294967295:Int)=BitVec.ofInt 64 ((4294967295:Nat):Int) from rfl,BitVec.ofInt_natCast,BitVec.ofInt_natCast,BitVec.toNat_ofNat,BitVec.toNat_ofNat,IntKind.wrap_u64];have e:n%2^64=n:=Nat.mod_eq_of_lt (by omega);rw[e,show 4294967295%2^64=2^32-1 from rfl,Nat.and_two_pow_sub_one_eq_mod];omega
theorem EW(x:Nat)(h:x<4294967296):IntKind.u64.wrap (x:Int)=(x:Int):=by rw[IntKind.wrap_u64];omega
theorem UQ(x:Nat)(h:x<4294967296):IntKind.i64.wrap (x:Int)=(x:Int):=IntWalk.i64_in _ (by omega)
theorem GJ(w:World)(x y z:Nat)(J:x<65536)(K:y<65536)(A:x*y=z)(L:z<4294967296):
  Calls Tryz.prog 179 #[.int .u64 (x:Int),.int .u64 (y:Int)] w fun e w'=>e=.returned (.tuple #[.int .u64 0,.int .u64 (z:Int)])/\w=w':=by
 have B:=KZ x (by omega);have C:=KZ y (by omega);have D:(x:Int)/4294967296=0:=by omega
 have E:(y:Int)/4294967296=0:=by omega
 have F:(x:Int)*(y:Int)=(z:Int):=by rw[<-A];exact(Int.natCast_mul _ _).symm
 have G:(z:Int)/4294967296=0:=by omega
 have H:bits .and .u64 0 4294967295=0:=by decide
 have I:IntKind.u64.wrap (z:Int)=(z:Int):=by rw[IntKind.wrap_u64];omega
 clear A;go_enter Tryz.func179,Tryz.ntmps179;go_wp2_with fail;go_ret2;exact⟨rfl,rfl⟩
theorem FQ(w:World)(x y q r:Nat)(K:x<4294967296)(D:0<y)(L:y<65536)(hq:x/y=q)(A:x%y=r):
  Calls Tryz.prog 180 #[.int .u64 0,.int .u64 (x:Int),.int .u64 (y:Int)] w fun e w'=>e=.returned (.tuple #[.int .u64 (q:Int),.int .u64 (r:Int)])/\Below w.heap.size w w':=by
 have B:(x:Int)/(y:Int)=(q:Int):=by rw[<-hq];exact(Int.natCast_ediv _ _).symm
 have C:(x:Int)%(y:Int)=(r:Int):=by rw[<-A];exact(Int.natCast_emod _ _).symm
 have E:(x:Int).tdiv (y:Int)=(q:Int):=by rw[<-B];exact Int.tdiv_eq_ediv_of_nonneg (by omega)
 have F:(x:Int).tmod (y:Int)=(r:Int):=by rw[<-C];exact Int.tmod_eq_emod_of_nonneg (by omega)
 have I:q<=x:=by rw[<-hq];exact Nat.div_le_self _ _
 have J:r<y:=by rw[<-A];exact Nat.mod_lt _ D
 have G:IntKind.u64.wrap (q:Int)=(q:Int):=by rw[IntKind.wrap_u64];omega
 have H:IntKind.u64.wrap (r:Int)=(r:Int):=by rw[IntKind.wrap_u64];omega
 have M:¬(y:Int)=0:=by omega
 have N:¬y=0:=by omega
 clear hq A;go_enter Tryz.func180,Tryz.ntmps180;go_upto_region 6 with fail
 go_quiet (fail)
 go_wp2_with fail;go_ret2;exact⟨rfl,bI _ _⟩
theorem BX{n k:Nat}(hn:n<=10):chN n k<=1024:=by have h:=xO 1 n k;rw[Nat.one_pow,Nat.mul_one] at h;exact aZ6 h (aZ6 (Nat.pow_le_pow_right (by omega) hn) (by decide))
theorem MR(w:World)(n k:Nat)(hn:n<=10)(δ:k<=n):
  Calls Tryz.prog 119 #[.int .i64 (n:Int),.int .i64 (k:Int),.int .i64 65536] w fun e w'=>e=.returned (.tuple #[.int .i64 (chN n k:Nat),.int .i64 0])/\Below w.heap.size w w':=by
 obtain⟨s,r⟩:∃s,s=min k (n-k):=⟨_,rfl⟩
 have κ:s<=n:=by omega
 have u:s+s<=n:=by omega
 have J:Hid (chN n s=chN n k):=aD (by
  rcases Nat.le_total k (n-k) with h|h
  .rw[show s=k by omega]
  .rw[show s=n-k by omega];exact yP n (n-k) k (by omega))
 obtain⟨m,hm⟩:∃m,m=n-s:=⟨_,rfl⟩
 have η:m<=10:=by omega
 have U:m+s=n:=by omega
 have P:Hid (∀i,chN (m+i) i*(m+(i+1))=(i+1)*chN (m+(i+1)) (i+1)):=aD fun i=>by have:=tW (m+i) i;rw[show m+(i+1)=m+i+1 by omega,this,Nat.mul_comm]
 have E:Hid (∀i,i<=s->chN (m+i) i<=1024):=aD fun i hi=>BX (by omega);have g:(if(n:Int)-(k:Int)<(k:Int) then(n:Int)-(k:Int) else(k:Int))=(s:Int):=by split<;>omega
 have x:¬(n:Int)<(k:Int):=by omega
 have θ:(n:Int)-(s:Int)=(m:Int):=by omega
 have L:Hid (chN (m+0) 0=1):=aD (qD _);have K:Hid (chN (m+s) s=chN n k):=aD (by rw[U];exact J.out);clear r hm;generalize hW:(fun i=>chN (m+i) i)=W;have Q:∀i,chN (m+i) i=W i:=fun i=>by rw[<-hW]
 simp only[Q] at P E L K;clear Q hW U J u;go_enter Tryz.func119,Tryz.ntmps119;go_wp2_with fail;go_loopw [8,9] (fun o i wr=>∃c:Nat,c<=s/\i=.int .i64 ((c+1:Nat):Int)/\o=.int .i64 (W c:Nat)/\Hid (Below w.heap.size w wr)) (fun _ i _=>(s+2)-(intOf i).toNat)
 case atStart=>exact⟨0,aZ5 _,rfl,by rw[L.out];rfl,aD (bE w)⟩
 case round=>
  obtain⟨c,R,rfl,rfl,I⟩:=hrel;clear g;obtain⟨o,B⟩:∃o,o=W c:=⟨_,rfl⟩
  have F:o<=1024:=by rw[B];exact E.out c R
  have N:=zh B;rw[<-B];clear B;obtain⟨d,A⟩:∃d,d=c+1:=⟨_,rfl⟩
  have M:=zh A;rw[<-A];have l:d<=11:=by omega
  have S:0<d:=by omega
  by_cases j:c<s
  .have T:d<=s:=by omega
   have q:(d:Int)<=(s:Int):=by omega
   obtain⟨t,G⟩:∃t,t=m+d:=⟨_,rfl⟩
   have a:=zh G;have μ:(m:Int)+(d:Int)=(t:Int):=by rw[G];push_cast;rfl
   have H:t<=21:=by omega
   have ν:=EW o (Nat.lt_of_le_of_lt F (by decide));have ξ:=EW t (Nat.lt_of_le_of_lt H (by decide));have π:=EW d (Nat.lt_of_le_of_lt l (by decide));have O:Hid (o*t=d*W d):=aD (by rw[a.out,N.out,M.out];exact P.out c);have b:Hid (W d<=1024):=aD (E.out d T);clear G A R j T;go_wp2_with fail;refine(GJ _ o t (o*t) (by omega) (by omega) rfl (Nat.lt_of_le_of_lt (Nat.mul_le_mul F H) (by decide))).mono ?_;rintro e w1 ⟨rfl,rfl⟩;obtain⟨p,C⟩:∃p,p=o*t:=⟨_,rfl⟩
   have X:Hid (p=d*W d):=aD (by rw[C];exact O.out);have ι:p<=1024*21:=by rw[C];exact Nat.mul_le_mul F H
   rw[<-C];clear C O;have y:¬(d:Int)<=0:=by omega
   go_wp2_with fail;refine(FQ _ p d (p/d) (p%d) (by omega) S (by omega) rfl rfl).mono ?_;rintro e w2 ⟨rfl,hb⟩;have Y:Hid (p/d=W d):=aD (by rw[X.out];exact Nat.mul_div_cancel_left _ S);rw[Y.out];obtain⟨z,D⟩:∃z,z=W d:=⟨_,rfl⟩
   have v:z<=1024:=by rw[D];exact b.out
   have f:=zh D;rw[<-D];have V:=zh (aA I hb);have ρ:=UQ z (Nat.lt_of_le_of_lt v (by decide));have σ:¬(65536:Int)<(z:Int):=by omega
   clear hb D;go_wp2_with fail;exact⟨⟨d,by have:=M.out;omega,by push_cast;rfl,by rw[f.out],V⟩,by simp only[intOf];omega⟩
  .obtain rfl:s=c:=by omega
   have q:(s:Int)<(d:Int):=by omega
   have ε:s<d:=by omega
   have ζ:decide ((d:Int)<=(s:Int))=false:=decide_eq_false (by omega);have Z:Hid (o=chN n k):=aD (by rw[N.out];exact K.out);clear A;go_wp2_with fail;go_ret2;exact⟨by rw[Z.out];rfl,I.out⟩
end Go.Proofs.YtpfhoemohibniaaGreatDoor
