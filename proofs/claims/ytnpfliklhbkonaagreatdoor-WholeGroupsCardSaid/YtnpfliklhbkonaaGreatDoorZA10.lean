/- Parts. -/
import Derived.Test.YtnpfliklhbkonaaGreatDoorZA5
import Derived.Test.YtnpfliklhbkonaaGreatDoorZA6
import Derived.Laws.RangeString
import Derived.Laws.RangeAny
import Derived.Laws.DeepStrings4
set_option maxRecDepth 99999
set_option maxHeartbeats 0
set_option linter.unusedSimpArgs false
namespace Go.Proofs.YtnpfliklhbkonaaGreatDoor
open Go.Proofs.Tryz
open Go.RowKit
def mg(w:Wo)(xss:LL)(e:Ending)(w':Wo):Prop:=∃u,e=.returned u/\OS w (fun g=>g<w) w' u xss/\Below w w w'
theorem F4(w:Wo)(v:Va)(xss:LL)(h:SS w v xss)(hn:xss.length<=100000000)(X:∀k,k<xss.length->(xss k []).length<=100000000):
 Calls prog 262 #[v] w (mg w xss):=by
 obtain⟨A,c,rfl,h⟩:=h;have H:=zh (show SS w (.slice A xss c) xss from⟨A,c,rfl,h⟩);clear h;have l:=zh X;clear X;obtain⟨n,N⟩:=xE xss.length;rw[<-N] at hn H|-;have J:=zh N;clear N;go_enter func262,ntmps262;go_wp2;go_loopw [3,4] (fun out i wr=>∃k:Nat,k<=n/\i=(k:aV)/\Hid (OS w (fun g=>g<w) wr out (xss.take k))/\Hid (Below w w wr)) (fun _ i _=>(n-intOf i).toNat)
 .exact⟨0,aZ5 _,rfl,OS.nil _ _ _,bE _⟩
 .
  obtain⟨k,hk,rfl,K,G⟩:=hrel;by_cases M:k<n
  .obtain⟨ζ,ε,η,xs,rfl,x,L,T⟩:=(H.below G zr).eltA (k:=k) (J.out▸M);have ι:=aE (aH wr (.cells #[] 3)) x;have δ:=l.out k (J.out▸M);rw[T.out] at δ;have o:Hid (xss.take (k+1)=xss.take k++[xs]):=by
    show _=_;have V:k<xss:=J.out▸M;rw[List.take_succ_eq_append_getElem V];have:=T.out;simp[List.getD,V] at this;rw[this]
   have p:=zh (L.si.below (aH wr (.cells #[] 3)) zr);have q:=zh L.wf;have Y:=G.size;have W:(xss.take k).length<=k:=List.length_take_le _ _;have d:=zh W;clear W;have O:=zh (OI.empty (B:=wr.heap.size) wr zr);have Z:=zh (aH wr (.cells #[] 3));have r:Hid (([]:LI).length+xs.length<=17592186044416):=by show _<=_;simp;omega
   have U:Hid (wr.heap.size<=(wr.alloc (.cells #[] 3)).heap.size):=by show _<=_;simp
   clear L
   go_wp2_with (first
    |(at_builtin;refine kT rfl _ _ rfl wr _ _ rfl O _ xs rfl p r U ?_;(intro κ w1 D C y);go_must (have I:=zh (O.bgrown Z U C);rw[List.nil_append] at D;have R:=zh (D.si om q);have P:=zh (D.new (w:=wr) zr);have j:=zh (K.below I);obtain⟨E,F,rfl,_⟩:=R.out;have Q:=zh (j.alloc (.cells #[.slice E xs F] 22));have m:=zh (R.below (aH w1 (.cells #[.slice E xs F] 22)) zr);have b:=zh (ZW (w:=w1) (u:=.slice E xs F) (t:=22));have S:=zh (jZ (w:=w1) (B:=w.heap.size) (aZ6 Y I.size) (.cells #[.slice E xs F] 22));clear D C y))
    |(at_builtin;refine iB rfl _ _ rfl w (fun g=>g<w) _ (xss.take k) rfl Q.out w1 1 _ xs rfl b m (fun _ g C=>⟨fun e=>by have s:=P.out g C;have θ:=(K.lt e).2;omega,by have s:=P.out g C;show ¬g<w;omega⟩) (oA d.out) S ?_;(intro μ w2 D C z);go_must (have f:=zh D;have a:=zh (Q.bgrown ((aC G I).alloc (aZ6 Y I.size) (.cells #[.slice E xs F] 22)) S C);clear D C z)))
   exact⟨⟨k+1,om,rfl,o.out▸f,a⟩,oI⟩
  .obtain rfl:n=k:=om
   go_wp2;go_ret;refine⟨_,rfl,?_,G.out⟩;have:=K.out;rwa[List.take_of_length_le (J.out▸zr)] at this
theorem ET(w:Wo)(U V:Va)(a b:LI)(F:SI w U a)(G:SI w V b):
 Calls prog 65 #[U,V] w (nX w (decide (a=b))):=by
 obtain⟨A,c,rfl,F⟩:=F;obtain⟨B,d,rfl,G⟩:=G;have Z:=F.len;have f:=G.len;have K:=zh F.si;have L:=zh G.si;clear F G;by_cases I:a.length=b.length
 case neg=>
  have R:(((a.length:Nat):Int) !=(b.length:Int))=true:=by rw[eC];omega
  have D:Hid (decide (a=b)=false):=by show _=_;exact dG fun h=>I (by rw[h])
  clear I;go_enter func65,ntmps65;go_wp2_with fail;go_ret;exact⟨by rw[D.out];rfl,bE _⟩
 obtain⟨n,hn⟩:=xE a.length;have J:n=b:=om;rw[<-hn] at K Z|-;rw[<-J] at L|-;have H:=zh hn;have N:=zh J;clear hn J I f;have R:(((n:Nat):Int) !=(n:Int))=false:=by rw[eB]
 go_enter func65,ntmps65;go_wp2_with fail;clear R;go_loopw [5] (fun i wr=>∃k:Nat,k<=n/\i=(k:aV)/\Hid (∀j,j<k->a j 0=b j 0)/\Hid (Below w w wr)) (fun i _=>(n-intOf i).toNat)
 case atStart=>exact⟨0,aZ5 _,rfl,aG fun j S=>aB S om,bE _⟩
 case round=>
  obtain⟨k,hk,rfl,M,E⟩:=hrel;by_cases T:k<n
  .obtain⟨g,x,rfl,m,_,O⟩:=(K.below E zr).elt (k:=k) (H.out▸T);obtain⟨l,y,rfl,o,_,P⟩:=(L.below E zr).elt (k:=k) (N.out▸T);by_cases C:x=y
   .have Y:(x !=y)=false:=by simp[C]
    have W:=zh C;clear C;go_wp2_with fail
    go_quiet (fail)
    go_wp2_with fail;exact⟨⟨k+1,om,rfl,aG fun j S=>by
     by_cases e:j=k
     .subst e;rw[O.out,P.out];exact W.out
     .exact M.out j om,aC E.out (aY _ _)⟩,oI⟩
   .have Y:(x !=y)=true:=by simp[C]
    have D:Hid (decide (a=b)=false):=by show _=_;exact dG fun h=>C (by rw[<-O.out,<-P.out,h])
    clear C;go_wp2_with fail
    go_quiet (fail)
    go_wp2_with fail;go_ret;exact⟨by rw[D.out];rfl,aC E (aY _ _)⟩
  .obtain rfl:n=k:=om;have D:Hid (decide (a=b)=true):=by show _=_;refine dE (eK (by rw[<-H.out,<-N.out]) fun i Q X=>?_);have:=M.out i (H.out▸Q);simp[List.getD,Q,X] at this;exact this
   go_wp2_with fail;go_ret;exact⟨by rw[D.out];rfl,E.out⟩
theorem vK(w:Wo)(W X:Va)(a b:LL)(E:SS w W a)(F:SS w X b):
 Calls prog 31 #[W,X] w (nX w (decide (a=b))):=by
 obtain⟨A,c,rfl,E⟩:=E;obtain⟨B,d,rfl,F⟩:=F;have o:=E.len;have p:=F.len;have K:=zh (show SS w (.slice A a c) a from⟨A,c,rfl,E⟩);have L:=zh (show SS w (.slice B b d) b from⟨B,d,rfl,F⟩);clear E F;by_cases I:a.length=b.length
 case neg=>
  have T:(((a.length:Nat):Int) !=(b.length:Int))=true:=by rw[eC];omega
  have D:Hid (decide (a=b)=false):=by show _=_;exact dG fun h=>I (by rw[h])
  clear I;go_enter func31,ntmps31;go_wp2_with fail;go_ret;exact⟨by rw[D.out];rfl,bE _⟩
 obtain⟨n,hn⟩:=xE a.length;have J:n=b:=om;rw[<-hn] at K o|-;rw[<-J] at L|-;have H:=zh hn;have O:=zh J;clear hn J I p;have T:(((n:Nat):Int) !=(n:Int))=false:=by rw[eB]
 go_enter func31,ntmps31;go_wp2_with fail;clear T;go_loopw [5] (fun i wr=>∃k:Nat,k<=n/\i=(k:aV)/\Hid (∀j,j<k->a j []=b j [])/\Hid (Below w w wr)) (fun i _=>(n-intOf i).toNat)
 case atStart=>exact⟨0,aZ5 _,rfl,aG fun j U=>aB U om,bE _⟩
 case round=>
  obtain⟨k,hk,rfl,N,G⟩:=hrel;by_cases V:k<n
  .obtain⟨s,q,u,x,rfl,l,Y,P⟩:=(K.below G zr).eltA (k:=k) (H.out▸V);obtain⟨t,r,v,y,rfl,m,f,Q⟩:=(L.below G zr).eltA (k:=k) (O.out▸V);go_wp2_with fail
   go_still_tail 8,kr
   change wpList _ _ _ _ _ wr.drew;go_wp2_with fail;refine(ET _ _ _ x y (Y.si.below (aI _) zr) (f.si.below (aI _) zr)).mono ?_;rintro e w1 ⟨rfl,S⟩;have M:=zh (aC (aC G (aI _)) S);clear S l m;by_cases C:x=y
   .rw[show decide (x=y)=true from dE C];have Z:=zh C;clear C;go_wp2_with fail;exact⟨⟨k+1,om,rfl,aG fun j U=>by
     by_cases e:j=k
     .subst e;rw[P.out,Q.out];exact Z.out
     .exact N.out j om,M⟩,oI⟩
   .rw[show decide (x=y)=false from dG C];have D:Hid (decide (a=b)=false):=by show _=_;exact dG fun h=>C (by rw[<-P.out,<-Q.out,h])
    clear C;go_wp2_with fail;go_ret;exact⟨by rw[D.out];rfl,M.out⟩
  .obtain rfl:n=k:=om;have D:Hid (decide (a=b)=true):=by show _=_;refine dE (eK (by rw[<-H.out,<-O.out]) fun i R g=>?_);have:=N.out i (H.out▸R);simp[List.getD,R,g] at this;exact this
   go_wp2_with fail;go_ret;exact⟨by rw[D.out];rfl,G.out⟩
def aD(P M:Int)(Mq:LI):aQ:=⟨fW P M,bM P M Mq,iO P M,lY P M Mq⟩
theorem mZ{P M:Int}(C:aF P M≠0){r:LI}(B:r.length=M.toNat)(E:∀i,i<r.length->0<=r i 0/\r i 0<P):0<=bL P r/\bL P r<aF P M:=by obtain⟨A,_,_,_,_,D⟩:=bO C;have:=kB A r E;rw[D,<-B];exact this
theorem OL{P M:Int}(A:aF P M≠0)(x y:Int):0<=fW P M x y/\fW P M x y<aF P M:=by obtain⟨B,_,_,_,_,_⟩:=bO A;refine mZ A (aW _ _) fun i hi=>?_;rw[aW] at hi;rw[aK hi];exact⟨eN _ om,eM _ om⟩
theorem dv{P M:Int}(A:aF P M≠0)(x:Int):0<=iO P M x/\iO P M x<aF P M:=by obtain⟨B,_,_,_,_,_⟩:=bO A;refine mZ A (aW _ _) fun i hi=>?_;rw[aW] at hi;rw[aK hi];exact⟨eN _ om,eM _ om⟩
theorem pF{P M:Int}(C:aF P M≠0)(Mq:LI)(x y:Int):0<=bM P M Mq x y/\bM P M Mq x y<aF P M:=by
 obtain⟨A,_,E,_,_,_⟩:=bO C;have D:=qT A Mq M.toNat _ (tG A (cX P M x) (cX P M y) M.toNat M.toNat) (M.toNat-1);have B:(pE P Mq (cX P M x) (cX P M y) M.toNat).length=M.toNat:=by unfold pE;rw[aY3,mB,mL];omega
 refine mZ C B fun i hi=>?_;rw[B] at hi;have:=D i;unfold pE;rw[show((lK P Mq M.toNat (conv P (cX P M x) (cX P M y) M.toNat M.toNat) (M.toNat-1)).take M.toNat).getD i 0=(lK P Mq M.toNat (conv P (cX P M x) (cX P M y) M.toNat M.toNat) (M.toNat-1)).getD i 0 by simp[List.getD,List.getElem?_take,hi]];exact this
theorem iJ{P M:Int}(A:aF P M≠0)(Mq:LI):(aD P M Mq).Lt (aF P M):=
 ⟨by obtain⟨B,_,C,_,_,D⟩:=bO A;have:=dU B (show 1<=M.toNat from om);rw[Int.pow_one] at this;omega,OL A,pF A Mq⟩
theorem NQ(w:Wo)(P M a:Int)(mv v:Va)(Mq xs:LI)(X:SI w mv Mq)(J:SI w v xs)(hn:xs.length<=100000000)(Z:aF P M≠0)(Y:sL P M Mq):
  Calls prog 263 #[.agg #[P,M,mv],a,v] w (sN w (bN (aD P M Mq) a xs)):=by
 obtain⟨A,c,rfl,J⟩:=J;have O:=zh J.si;clear J;have b:=zh X;clear X;have d:=zh Y;clear Y;have h:=zh Z;clear Z;obtain⟨n,I⟩:=xE xs.length;rw[<-I] at hn O|-;have j:Hid (bN (aD P M Mq) a xs=aT n fun i=>bM P M Mq a (xs i 0)):=by rw[I];rfl
 have N:=zh I;clear I;have s:=fun(w:Wo)=>dX n om w;have S:=zh (dM.mk' w P M mv);go_enter func263,ntmps263;go_wp2_with fail;clear s;obtain⟨C,Q⟩:=xE (w.heap.size+1);have D:=zh (S.on (aH _ (.cells (madeCells #[z0] n) 3)));have R:Hid (RI ((w.alloc (.cells #[P,M,mv] 24)).alloc (.cells (madeCells #[z0] n) 3)) C (List.replicate n 0)):=by have:=RI.made (w.alloc (.cells #[P,M,mv] 24)) n;rw[World.size_alloc,<-Q] at this;exact this
 rw[<-Q];have o:w<C:=om;clear Q S;go_loopw [8] (fun i wr=>∃k:Nat,k<=n/\i=(k:aV)/\Hid (RI wr C (bZ n (fun i=>bM P M Mq a (xs i 0)) (fun _=>0) k))/\Hid (dM w wr P M mv)) (fun i _=>(n-intOf i).toNat)
 .exact⟨0,aZ5 _,rfl,by rw[eT,mC];exact R,D⟩
 .
  clear R D;obtain⟨k,hk,rfl,K,E⟩:=hrel;by_cases F:k<n
  .obtain⟨V,x,rfl,p,_,l⟩:=(O.below E.bel zr).elt (k:=k) (N.out▸F);have c0:=E.c0;have c1:=E.c1;have c2:=E.c2;have T:=zh (fQ (f:=fun i=>bM P M Mq a (xs i 0)) (g:=fun _=>0) F);have t:V.add k≠⟨C,k,none⟩:=fun e=>by
    obtain⟨u,κ,W,q,_,_⟩:=O.elt (k:=k) (N.out▸F);obtain rfl:=aZ0 W;have:=World.block_lt_of_cell? _ _ q;rw[e] at this;exact aB this (by show ¬C<w;omega)
   have ε:¬w.heap.size=C:=om;go_wp2_with fail
   go_region_held3 (fun w'=>w'.cell? w.heap.size=some (P:aV)/\w'.cell? ⟨w.heap.size,1,none⟩=some (M:aV)/\w'.cell? ⟨w.heap.size,2,none⟩=some mv/\w'.cell? (V.add k)=some (x:aV)) (go_keep)
    (first
     |(go_at_call 350;apply(DS _ P M a x mv Mq (b.below E.drew.bel zr) h d).mono;rintro e w1⟨rfl,H⟩;have L:=zh (K.drew.belowS H);have D:=zh (E.drew.on H);have r:=aE H p;clear H;have y:=D.c0;have W:=D.c1;have z:=D.c2;have m:=L.cell k (by rw[fA];exact F);rw[fK F] at m;have δ:=L.frozen k;have G:=zh (D.far (k:=k) o (.int .i64 (bM P M Mq a x)));have ζ:=G.c0;have η:=G.c1;have θ:=G.c2;have ι:=gJ (a:=⟨C,k,none⟩) (v:=.int .i64 (bM P M Mq a x)) r t))
   go_wp2_with fail;rw[l.out] at T;exact⟨⟨k+1,om,rfl,by rw[<-T.out];exact L.set k _,G⟩,oI⟩
  .obtain rfl:n=k:=om;rw[eR,<-j.out] at K;have U:Hid ((bN (aD P M Mq) a xs).length=n):=by show _=_;rw[gL,N.out]
   go_wp2;go_ret;have:=K.oi (B:=w.heap.size) om (oA U.out);rw[U.out] at this;exact⟨_,rfl,this,E.bel⟩
theorem NM(w:Wo)(P M a:Int)(mv v u:Va)(Mq xs ys:LI)(π:SI w mv Mq)(V:SI w v xs)(K:SI w u ys)(hn:xs.length<=100000000)(Ak:xs.length<=ys.length)(φ:aF P M≠0)(ρ:sL P M Mq):
  Calls prog 265 #[.agg #[P,M,mv],v,a,u] w (sN w (cQ (aD P M Mq) xs a ys)):=by
 obtain⟨A,c,rfl,V⟩:=V;obtain⟨B,d,rfl,K⟩:=K;have Y:=zh V.si;clear V;have At:=K.len;have ζ:=zh K.si;clear K;have Aa:=zh π;clear π;have Ab:=zh ρ;clear ρ;have δ:=zh φ;clear φ;obtain⟨n,U⟩:=xE xs.length;rw[<-U] at hn Y Ak|-;have ε:Hid (cQ (aD P M Mq) xs a ys=aT n fun i=>if ys i 0≠0 then fW P M (xs i 0) (bM P M Mq a (ys i 0)) else xs i 0):=by rw[U];rfl
 have X:=zh U;clear U;have Aj:=fun(w:Wo)=>dX n om w;have r:=zh (dM.mk' w P M mv);go_enter func265,ntmps265;go_wp2_with fail;clear Aj;obtain⟨C,h⟩:=xE (w.heap.size+1);have F:=zh (r.on (aH _ (.cells (madeCells #[z0] n) 3)));have p:Hid (RI ((w.alloc (.cells #[P,M,mv] 24)).alloc (.cells (madeCells #[z0] n) 3)) C (List.replicate n 0)):=by have:=RI.made (w.alloc (.cells #[P,M,mv] 24)) n;rw[World.size_alloc,<-h] at this;exact this
 rw[<-h];have ι:w<C:=om;clear h r;obtain⟨f,l⟩:=xE (fun i=>if ys i 0≠0 then fW P M (xs i 0) (bM P M Mq a (ys i 0)) else xs i 0:Nat->Int);rw[<-l] at ε;have ω:=zh l;clear l;go_loopw [10] (fun i wr=>∃k:Nat,k<=n/\i=(k:aV)/\Hid (RI wr C (bZ n f (fun _=>0) k))/\Hid (dM w wr P M mv)) (fun i _=>(n-intOf i).toNat)
 .exact⟨0,aZ5 _,rfl,by rw[eT,mC];exact p,F⟩
 .
  clear p F;obtain⟨k,hk,rfl,J,O⟩:=hrel;by_cases H:k<n
  .have ξ:k<ys:=om;obtain⟨R,x,rfl,κ,_,Ac⟩:=(Y.below O.bel zr).elt (k:=k) (X.out▸H);obtain⟨η,y,rfl,μ,_,Ad⟩:=(ζ.below O.bel zr).elt (k:=k) ξ;have b:=J.cell k (by rw[fA];exact H);rw[fK H] at b;have θ:=J.frozen k;have t:=zh (fQ (f:=f) (g:=fun _=>0) H);have σ:R.add k≠⟨C,k,none⟩:=fun e=>by obtain⟨Ae,Am,S,j,_,_⟩:=Y.elt (k:=k) (X.out▸H);obtain rfl:=aZ0 S;have:=World.block_lt_of_cell? _ _ j;rw[e] at this;exact aB this (by show ¬C<w;omega)
   have τ:η.add k≠⟨C,k,none⟩:=fun e=>by obtain⟨Ae,Am,S,j,_,_⟩:=ζ.elt (k:=k) ξ;obtain rfl:=aZ0 S;have:=World.block_lt_of_cell? _ _ j;rw[e] at this;exact aB this (by show ¬C<w;omega)
   have ν:f k=if y≠0 then fW P M x (bM P M Mq a y) else x:=by rw[ω.out];show(if ys k 0≠0 then _ else _)=_;rw[Ac.out,Ad.out]
   have s:=zh ν;clear ν;have T:=gJ (a:=⟨C,k,none⟩) (v:=(x:aV)) κ σ;have D:=gJ (a:=⟨C,k,none⟩) (v:=(x:aV)) μ τ;obtain⟨χ,G⟩:=xE (wr.setCell ⟨C,k,none⟩ (x:aV));have E:=zh (O.far (k:=k) ι (x:aV));have L:=zh (J.set k x);rw[<-G] at E L;have An:Hid (R.block=R.block):=rfl;by_cases I:y=0
   .have Al:(y !=0)=false:=by simp[I]
    have Z:=zh I;clear I;rw[G] at E L;clear G;go_wp2;exact⟨⟨k+1,om,rfl,by rw[<-t.out,s.out,iN (by rw[Z.out];simp)];exact L,E⟩,oI⟩
   .have Al:(y !=0)=true:=by simp[I]
    have Z:=zh I;clear I;rw[<-G] at T D;have m:=zh T;have o:=zh D;rw[G] at D;clear T;go_wp2_with fail;clear D κ μ b θ;rw[<-G];clear G;have T:=m.out;have D:=o.out;have c0:=E.c0;have c1:=E.c1;have c2:=E.c2
    go_region_held3 (fun w'=>w'.cell? w.heap.size=some (P:aV)/\w'.cell? ⟨w.heap.size,1,none⟩=some (M:aV)/\w'.cell? ⟨w.heap.size,2,none⟩=some mv/\w'.cell? (R.add k)=some (x:aV)/\w'.cell? (η.add k)=some (y:aV)) (go_keep)
     (first
      |(go_at_call 350;apply(DS _ P M a y mv Mq (Aa.below E.drew.bel zr) δ Ab).mono;rintro e w1⟨rfl,D⟩;have ψ:=zh (L.drew.belowS D);have F:=zh (E.drew.on D);have Af:=aE D m.out;have Ah:=aE D o.out;clear D;have Ao:=F.c0;have S:=F.c1;have Ap:=F.c2)
      |(go_at_call 351;apply(YG _ P M x _ mv δ).mono;rintro e w2⟨rfl,D⟩;have W:=zh (ψ.belowS D);have N:=zh (F.on D);have Ag:=aE D Af;have Ai:=aE D Ah;clear D;have Aq:=N.c0;have Ar:=N.c1;have As:=N.c2;have b:=W.cell k (by rw[aZ9,fA];exact H);have θ:=W.frozen k;have Q:=zh (N.far (k:=k) ι (.int .i64 (fW P M x (bM P M Mq a y))));have Au:=Q.c0;have Av:=Q.c1;have Aw:=Q.c2;have Ax:=gJ (a:=⟨C,k,none⟩) (v:=.int .i64 (fW P M x (bM P M Mq a y))) Ag σ;have Ay:=gJ (a:=⟨C,k,none⟩) (v:=.int .i64 (fW P M x (bM P M Mq a y))) Ai τ))
    go_wp2_with fail;have q:=zh (W.set k (fW P M x (bM P M Mq a y)));rw[List.set_set] at q;exact⟨⟨k+1,om,rfl,by rw[<-t.out,s.out,iP Z.out];exact q,Q⟩,oI⟩
  .obtain rfl:n=k:=om;rw[eR,<-ε.out] at J;have z:Hid ((cQ (aD P M Mq) xs a ys).length=n):=by show _=_;rw[kF,X.out]
   go_wp2;go_ret;have:=J.oi (B:=w.heap.size) om (oA z.out);rw[z.out] at this;exact⟨_,rfl,this,O.bel⟩
theorem lq{w:Wo}{g:Nat}{t:TypeId}{a b c d x y z u:Va}(h:Blk w g t [a,b,c,d]):∃w',(((w.setCell g x).setCell (g 1 none) y).setCell (g 2 none) z).setCell (g 3 none) u=w'/\oW w w' g t [x,y,z,u]:=
 ⟨_,rfl,(((h.set_ 0 x).set_ 1 y).set_ 2 z).set_ 3 u,aS (p:=(g 3 none)) (aS (p:=(g 2 none)) (lF w g 0 1 x y) (.inl rfl) _) (.inl rfl) _⟩
theorem BM{s:By}{i j:Nat}(B:i<=j)(C:j<=s.size){u:By}(A:s.extract i j=u)(w:Wo):(Instr.slice 9 (.string s) (some (i:aV)) (some (j:aV)) none).run prog w=.ok (.string u) w:=by rw[run_slice_string_if (P:=prog) w 9 s .i64 .i64 (i:Int) (j:Int) underlying9,iP ⟨om,om⟩,iP ⟨om,om⟩];simp[A]
theorem ND(w:Wo)(s:By)(i:Nat)(T:s.size<=1000)(hi:i+1<s.size)(d:Nat)(η:d<=9)(H:bAt s i=48+(d:Int))(b:Int)(F:bAt s (i+1)=b)(I:xC b=false)(J:BX b=false)(ζ:(b==95)=false)
 (u:By)(L:s.extract i (i+1)=u)(π:u.size=1)(U:(u[0]' om).toNat=48+d):
 Calls prog 70 #[.string s,i] w (fun e w'=>e=.returned (.agg #[.int .i64 2,.string u,d,i])/\Below w w w'):=by
 obtain⟨j,D⟩:=xE (i+1);have N:=zh (fun C=>UM C s i j T om om (fun k δ ε=>by
  have e:k=i:=om;subst e;rw[H];unfold xC;rw[dE om,dE om];decide) (fun _=>by rw[D,F];exact I))
 have ι:=fun C=>yU (s:=s) (k:=j) (x:=b) om (by rw[D];exact F) C;have ξ:=fun C=>BM (s:=s) (i:=i) (j:=j) om om (u:=u) (by rw[D];exact L) C;have B:=zh (fun C=>gH C b);rw[J] at B;have a:decide ((j:Int)<(s.size:Int))=true:=dE om;have c:decide (j<s.size)=true:=dE om;have f:decide ((i:Int)+1<(j:Int))=false:=dG om;have Z:=zh D;have κ:j<s.size:=om;have θ:i<=1000:=om;have g:decide (i+1<j)=false:=dG om;clear D H F I J L hi;go_enter func70,ntmps70;go_upto_region 1 with fail;have M:=zh (Blk.new w 134 [.int .i64 0,.string {data:=#[]},.int .i64 0,.int .i64 0]);have O:=zh (aH w (.cells #[z0,.string {data:=#[]},z0,z0] 134));generalize w.alloc (.cells #[z0,.string {data:=#[]},z0,z0] 134)=w0 at*;go_wp2_with fail;apply(N _).mono;rintro e w1⟨rfl,rfl⟩;go_wp2_with fail;apply(B _).mono;rintro e w1⟨rfl,rfl⟩;have ν:=run_range_string (P:=prog) w0 9 u underlying9;go_wp2;go_loopw [6] (fun n wr=>∃p:Nat,p<=1/\n=.int .i64 (if p=0 then 0 else(d:Int))/\wr=w0.iter u p) (fun _ wr=>1-wr.iterPos w0)
 .exact⟨0,aZ5 _,rfl,rfl⟩
 .
  obtain⟨p,μ,rfl,rfl⟩:=hrel;rcases(by omega:p=0\/p=1) with rfl|rfl
  .have S : ∀ E, (Instr.next (.pointer (some ⟨w0.heap.size, 0, none⟩)) true E).run prog (w0.iter u 0) = .ok (.tuple #[.bool true, .int .i64 0, .int .i32 (48 + (d : Int))]) (w0.iter u 1) := fun E => by
    rw[run_next_ascii w0 u 0 E om om,U];push_cast;rfl
   have R:¬(9999999:Int)<(d:Int):=om;have h:decide ((9999999:Int)<(d:Int))=false:=dG R;have l:decide (9999999<d)=false:=dG om;have K:∀q,(w0.iter u q).iterPos w0.heap.size=q:=fun q=>by simp[World.iterPos,World.iter_heap]
   go_wp2;exact⟨⟨1,om,by rw[show(48+(d:Int)-48)=d from om];rfl,rfl⟩,by rw[K,K];omega⟩
  .have S:=fun E=>run_next_end (P:=prog) w0 u 1 E om;have A:Hid (Blk (w0.iter u 1) w 134 [.int .i64 0,.string {data:=#[]},.int .i64 0,.int .i64 0]):=aG (M.alloc _);have G:Hid (Below w w (w0.iter u 1)):=aG (aC O (aH w0 _));go_upto_region 11 with fail;generalize w0.iter u 1=w1 at*;have c0:=A.cell 0;have c1:=A.cell 1;have c2:=A.cell 2;have c3:=A.cell 3;have m:=A.frozen 0;have o:=A.frozen 1;have r:=A.frozen 2;have t:=A.frozen 3;simp only[eE,eF] at c0 c1 c2 c3;go_wp2_with fail;obtain⟨w9,Q,B⟩:=lq (x:=.int .i64 2) (y:=.string u) (z:=(d:aV)) (u:=(i:aV)) A.out;rw[Q];have V:=B.c0;have W:=B.c1;have X:=B.c2;have Y:=B.c3;refine bodyPost_ret (v:=.agg #[.int .i64 2,.string u,d,i]) (by simp[results,results70,go_sem,V,W,X,Y]) rfl ?_;exact⟨rfl,B.below G G.size zr⟩
def scS:By:=⟨#[104,97,109,109,105,110,103,40,103,102,40,50,41,44,32,51,41]⟩
def fT(A:Int)(tx:By)(n p:Nat):List Va:=[(A:aV),.string tx,(n:aV),(p:aV)]
def fU:By:=⟨#[104,97,109,109,105,110,103]⟩
def mY:By:=⟨#[103,102]⟩
def scT:List (List Va):=[fT 1 fU 0 0,fT 3 ⟨#[40]⟩ 0 7,fT 1 mY 0 8,fT 3 ⟨#[40]⟩ 0 10,fT 2 ⟨#[50]⟩ 2 11,fT 3 ⟨#[41]⟩ 0 12,fT 3 ⟨#[44]⟩ 0 13,fT 2 ⟨#[51]⟩ 3 15,fT 3 ⟨#[41]⟩ 0 16]
def vQ(p:Nat)(l:List (List Va)):Prop:=∃j,j<=10/\p=[0,7,8,10,11,12,13,14,15,16,17].getD j 0/\l=scT.take ([0,1,2,3,4,5,6,7,7,8,9].getD j 0)
def ir(p:Nat)(l:List (List Va))(b:Int):Prop:=∃e tx,p<e/\e<17/\e-p<=16/\BX b=true/\(∀k,p<=k->k<e->vR (bAt scS k)=true)/\vR (bAt scS e)=false/\scS.extract p e=tx/\tx.size=e-p/\vQ e (l++[fT 1 tx 0 p])
def ky(p:Nat)(l:List (List Va))(b:Int):Prop:=∃(d:Nat) (u:By) (A:Int),p+1<17/\d<=9/\b=48+(d:Int)/\BX b=false/\xC b=true/\bAt scS (p+1)=A/\xC A=false/\BX A=false/\(A==95)=false/\scS.extract p (p+1)=u/\(∃h:u.size=1,(u[0]' om).toNat=48+d)/\vQ (p+1) (l++[fT 2 u d p])
def iu(p:Nat)(l:List (List Va))(b:Int):Prop:=∃u z,BX b=false/\xC b=false/\firstIdx ⟨#[40,41,91,93,44]⟩ b.toNat.toUInt8=z/\0<=z/\z<=4/\scS.extract p (p+1)=u/\u.size=1/\vQ (p+1) (l++[fT 3 u 0 p])
theorem vQ.step{p:Nat}{l:List (List Va)}(h:vQ p l)(D:p<17):∃b,bAt scS p=b/\(l.length<=9)/\
 ((b=32/\vQ (p+1) l)\/((b==32)=false/\(b==9)=false/\(b==10)=false/\(ir p l b\/ky p l b\/iu p l b))):=by
 obtain⟨j,F,rfl,rfl⟩:=h;have hn:∀p e,(∀k,k<17->p<=k->k<e->vR (bAt scS k)=true)->e<17->∀k,p<=k->k<e->vR (bAt scS k)=true:=fun p e A E k B C=>A k om B C;rcases(by omega:j=0\/j=1\/j=2\/j=3\/j=4\/j=5\/j=6\/j=7\/j=8\/j=9\/j=10) with rfl|rfl|rfl|rfl|rfl|rfl|rfl|rfl|rfl|rfl|rfl
 .exact⟨104,rfl,dC,.inr ⟨rfl,rfl,rfl,.inl ⟨7,fU,dC,dC,dC,dC,hn 0 7 dC dC,dC,by rfl,by rfl,1,dC,rfl,rfl⟩⟩⟩
 .exact⟨40,rfl,dC,.inr ⟨rfl,rfl,rfl,.inr (.inr ⟨⟨#[40]⟩,0,dC,dC,dC,dC,dC,by rfl,by rfl,2,dC,rfl,rfl⟩)⟩⟩
 .exact⟨103,rfl,dC,.inr ⟨rfl,rfl,rfl,.inl ⟨10,mY,dC,dC,dC,dC,hn 8 10 dC dC,dC,by rfl,by rfl,3,dC,rfl,rfl⟩⟩⟩
 .exact⟨40,rfl,dC,.inr ⟨rfl,rfl,rfl,.inr (.inr ⟨⟨#[40]⟩,0,dC,dC,dC,dC,dC,by rfl,by rfl,4,dC,rfl,rfl⟩)⟩⟩
 .exact⟨50,rfl,dC,.inr ⟨rfl,rfl,rfl,.inr (.inl ⟨2,⟨#[50]⟩,41,dC,dC,rfl,dC,dC,rfl,dC,dC,rfl,by rfl,⟨rfl,rfl⟩,5,dC,rfl,rfl⟩)⟩⟩
 .exact⟨41,rfl,dC,.inr ⟨rfl,rfl,rfl,.inr (.inr ⟨⟨#[41]⟩,1,dC,dC,dC,dC,dC,by rfl,by rfl,6,dC,rfl,rfl⟩)⟩⟩
 .exact⟨44,rfl,dC,.inr ⟨rfl,rfl,rfl,.inr (.inr ⟨⟨#[44]⟩,4,dC,dC,dC,dC,dC,by rfl,by rfl,7,dC,rfl,rfl⟩)⟩⟩
 .exact⟨32,rfl,dC,.inl ⟨rfl,8,dC,rfl,rfl⟩⟩
 .exact⟨51,rfl,dC,.inr ⟨rfl,rfl,rfl,.inr (.inl ⟨3,⟨#[51]⟩,41,dC,dC,rfl,dC,dC,rfl,dC,dC,rfl,by rfl,⟨rfl,rfl⟩,9,dC,rfl,rfl⟩)⟩⟩
 .exact⟨41,rfl,dC,.inr ⟨rfl,rfl,rfl,.inr (.inr ⟨⟨#[41]⟩,1,dC,dC,dC,dC,dC,by rfl,by rfl,10,dC,rfl,rfl⟩)⟩⟩
 .exact aB D dC
theorem vQ.start:vQ 0 []:=⟨0,dC,rfl,rfl⟩
theorem vQ.fin{p:Nat}{l:List (List Va)}(h:vQ p l)(A:17<=p):p=17/\l=scT:=by
 obtain⟨j,B,rfl,rfl⟩:=h;rcases(by omega:j=0\/j=1\/j=2\/j=3\/j=4\/j=5\/j=6\/j=7\/j=8\/j=9\/j=10) with rfl|rfl|rfl|rfl|rfl|rfl|rfl|rfl|rfl|rfl|rfl
 all_goals first
  |exact aB A dC
  |exact⟨rfl,rfl⟩
theorem vQ.le{p:Nat}{l:List (List Va)}(h:vQ p l):p<=17:=by obtain⟨j,A,rfl,rfl⟩:=h;rcases(by omega:j=0\/j=1\/j=2\/j=3\/j=4\/j=5\/j=6\/j=7\/j=8\/j=9\/j=10) with rfl|rfl|rfl|rfl|rfl|rfl|rfl|rfl|rfl|rfl|rfl<;>decide
theorem infoTok:(prog.info? 134).map (fun i=>(i.zero,i.size,i.bytes))=some (some (.agg #[z0,.string ByteArray.empty,z0,z0]),4,40):=by kernel_rfl
theorem EA(B:Int)(tx:By)(n p:Nat):∀u∈fT B tx n p,u.oneCell'=true:=by intro u A;simp[fT] at A;rcases A with rfl|rfl|rfl|rfl<;>rfl
theorem YS(w:Wo):Calls prog 33 #[.string scS] w (fun e w'=>∃v,e=.returned v/\RO w.heap.size 134 4 w' v scT/\Below w.heap.size w w'):=by
 obtain⟨s,t⟩:=xE scS;have Bo:s.size=17:=by rw[t];rfl
 have θ:=zh (fun(p:Nat) (l:List (List Va)) (h:vQ p l) (Bb:p<17)=>h.step Bb);have κ:=zh (fun(C:Wo) (i j:Nat)=>GK C scS i j);have η:=zh (fun(C:Wo) (i d:Nat) (b:Int) (u:By)=>fun ν ξ Aq Ar As At Au Av Aw Ap=>ND C scS i dC ν d ξ Aq b Ar As At Au u Av Aw Ap);rw[<-t] at θ κ η|-;have V:=zh t;clear t;have Be:decide ((65536:Int)<(s.size:Int))=false:=dG om;have Bf:decide (65536<s.size)=false:=dG om;go_enter func33,ntmps33;go_wp2_with fail;go_loopw [3,4] (fun out at_ wr=>∃(p:Nat) (l:List (List Va)) (A:OA) (c:Nat),vQ p l/\out=.slice A l.length c/\at_=(p:aV)/\Hid (RO w.heap.size 134 4 wr (.slice A l.length c) l)/\Hid (Below w.heap.size w wr)) (fun _ at_ _=>17-(intOf at_).toNat)
 case atStart=>exact⟨0,[],none,0,vQ.start,rfl,rfl,RO.nil _ _ _ _,bE w⟩
 case round=>
  obtain⟨p,l,A,c,U,rfl,rfl,R,D⟩:=hrel;have Bm:=U.le;generalize hn:l.length=n at*;have F:=zh hn;clear hn;by_cases Ba:p<17
  .obtain⟨b,W,Az,δ⟩:=θ.out p l U Ba;rw[F.out] at Az;have Bk:=fun C=>yU (s:=s) (k:=p) (x:=b) om W C;have An:decide ((p:Int)<(s.size:Int))=true:=dE om;have Ao:decide (p<s.size)=true:=dE om;rcases δ with⟨rfl,T⟩|⟨Br,Bs,Bt,δ⟩
   .clear W U;go_wp2_with fail;exact⟨⟨p+1,l,A,c,T,by rw[F.out],pC,by rw[F.out];exact R,D⟩,oI⟩
   .rcases δ with⟨e,tx,Bn,Bj,Bi,N,Aa,ω,Ad,Ae,T⟩|⟨d,u,Am,Bl,Ay,Ax,N,g,ρ,τ,φ,π,q,⟨Ah,Ag⟩,T⟩|⟨u,z,N,g,Ai,Bc,Bq,q,Ah,T⟩
    .have J:=zh (fun C=>gH C b);rw[N] at J;have Ab:=fun C=>BM (s:=s) (i:=p) (j:=e) om om (u:=tx) (by rw[V.out];exact Ad) C;have Al:=zh (fun C=>κ.out C p e om om om (by rw[V.out];exact Aa) (fun _=>by rw[V.out];exact ω));have Bg:decide ((16:Int)<(e:Int)-(p:Int))=false:=dG om;have Bd:=zh Ae;obtain⟨tz,Af⟩:∃k,k=tx.size:=⟨_,rfl⟩
     have Bp:tz<=17:=om;have Ac:p+tz=e:=om;have ι:=zh Ac;clear W U N Aa ω Ad Ae Ac;go_wp2_with fail;refine(J _).mono ?_;rintro S w1 ⟨rfl,rfl⟩;go_wp2_with fail;refine(Al _).mono ?_;rintro S w1 ⟨rfl,rfl⟩;have L:=zh (R.alloc (w:=wr) (.cells (fT 1 tx 0 p).toArray 134));have a:=zh (D.alloc D.size (.cells (fT 1 tx 0 p).toArray 134));have Y:=zh (jG wr 134 (fT 1 tx 0 p));have M:=zh (jZ (w:=wr) (B:=w.heap.size) D.size (.cells (fT 1 tx 0 p).toArray 134));go_wp2_with (
      at_builtin;refine fJ rfl 134 83 4 40 _ underlying83 infoTok rfl dC dC _ _ rfl w.heap.size _ l rfl L.out wr.heap.size 1 (fT 1 tx 0 p) rfl rfl Y.out (EA _ _ _ _) (by have:=F.out;omega) M.out ?_;intro Aj r E P _;obtain⟨ε,f,rfl⟩:=E.form';obtain⟨m,H,o⟩:∃m,(l++[(fT 1 tx 0 p)]).length=m/\m=n+1:=⟨_,rfl,by rw[aZ1,F.out];rfl⟩
      have χ:1<=m:=om;have ψ:m<=10:=om;have Z:=zh (L.bgrown a M P);obtain⟨G,rfl,_,O⟩:=E.rg.elt (k:=m-1) om;have Q:(l++[(fT 1 tx 0 p)]).getD (m-1) []=(fT 1 tx 0 p):=by rw[show m-1=l.length by rw[F.out];omega];simp[List.getD]
      have σ:r.cell? ⟨(G.add ((m-1)*4)).block,(G.add ((m-1)*4)).off+1,none⟩=some (.string tx):=O 0 _ (by rw[Q];rfl);have K:=zh E;rw[H] at K|-;have I:=zh H;clear H O Q E P o)
     exact⟨⟨e,l++[(fT 1 tx 0 p)],some G,f,T,by rw[I.out],by rw[<-ι.out,Af];push_cast;rfl,by rw[I.out];exact K,Z⟩,by have ν:=ι.out;have ξ:=Af;simp only[intOf];omega⟩
    .subst Ax;have J:=zh (fun C=>gH C (48+(d:Int)));rw[N] at J;have X:=zh (fun C=>mP C (48+(d:Int)));rw[g] at X;have Ak:=zh (fun C=>η.out C p d Am u om Ay W (by rw[V.out];exact ρ) τ φ π (by rw[V.out];exact q) Ah Ag);clear W U N g ρ τ φ π q Ag;go_wp2_with fail;refine(J _).mono ?_;rintro S w1 ⟨rfl,rfl⟩;go_wp2_with fail;refine(X _).mono ?_;rintro S w1 ⟨rfl,rfl⟩;go_wp2_with fail;refine(Ak _).mono ?_;rintro S w1 ⟨rfl,y⟩;replace R:=zh (R.below y zr);replace D:=zh (D.trans (y.mono D.size));clear y;have L:=zh (R.alloc (w:=w1) (.cells (fT 2 u d p).toArray 134));have a:=zh (D.alloc D.size (.cells (fT 2 u d p).toArray 134));have Y:=zh (jG w1 134 (fT 2 u d p));have M:=zh (jZ (w:=w1) (B:=w.heap.size) D.size (.cells (fT 2 u d p).toArray 134));go_wp2_with (
      at_builtin;refine fJ rfl 134 83 4 40 _ underlying83 infoTok rfl dC dC _ _ rfl w.heap.size _ l rfl L.out w1.heap.size 1 (fT 2 u d p) rfl rfl Y.out (EA _ _ _ _) (by have:=F.out;omega) M.out ?_;intro Aj r E P _;obtain⟨ε,f,rfl⟩:=E.form';obtain⟨m,H,o⟩:∃m,(l++[(fT 2 u d p)]).length=m/\m=n+1:=⟨_,rfl,by rw[aZ1,F.out];rfl⟩
      have χ:1<=m:=om;have ψ:m<=10:=om;have Z:=zh (L.bgrown a M P);obtain⟨G,rfl,_,O⟩:=E.rg.elt (k:=m-1) om;have Q:(l++[(fT 2 u d p)]).getD (m-1) []=(fT 2 u d p):=by rw[show m-1=l.length by rw[F.out];omega];simp[List.getD]
      have σ:r.cell? ⟨(G.add ((m-1)*4)).block,(G.add ((m-1)*4)).off+1,none⟩=some (.string u):=O 0 _ (by rw[Q];rfl);have K:=zh E;rw[H] at K|-;have I:=zh H;clear H O Q E P o)
     exact⟨⟨p+1,l++[(fT 2 u d p)],some G,f,T,by rw[I.out],pC,by rw[I.out];exact K,Z⟩,oI⟩
    .have J:=zh (fun C=>gH C b);rw[N] at J;have X:=zh (fun C=>mP C b);rw[g] at X;have ζ:=zh (fun C=>M3 C ⟨#[40,41,91,93,44]⟩ b);rw[Ai] at ζ;have Ab:=fun C=>BM (s:=s) (i:=p) (j:=p+1) om om (u:=u) (by rw[V.out];exact q) C;have μ:((p+1:Nat):Int)=(p:Int)+1:=om;rw[μ] at Ab;have Bh:decide ((0:Int)<=z)=true:=dE Bc;clear W U N g Ai q μ;go_wp2_with fail;refine(J _).mono ?_;rintro S w1 ⟨rfl,rfl⟩;go_wp2_with fail;refine(X _).mono ?_;rintro S w1 ⟨rfl,rfl⟩;go_wp2_with fail;refine(ζ _).mono ?_;rintro S w1 ⟨rfl,rfl⟩;have L:=zh (R.alloc (w:=wr) (.cells (fT 3 u 0 p).toArray 134));have a:=zh (D.alloc D.size (.cells (fT 3 u 0 p).toArray 134));have Y:=zh (jG wr 134 (fT 3 u 0 p));have M:=zh (jZ (w:=wr) (B:=w.heap.size) D.size (.cells (fT 3 u 0 p).toArray 134));go_wp2_with (
      at_builtin;refine fJ rfl 134 83 4 40 _ underlying83 infoTok rfl dC dC _ _ rfl w.heap.size _ l rfl L.out wr.heap.size 1 (fT 3 u 0 p) rfl rfl Y.out (EA _ _ _ _) (by have:=F.out;omega) M.out ?_;intro Aj r E P _;obtain⟨ε,f,rfl⟩:=E.form';obtain⟨m,H,o⟩:∃m,(l++[(fT 3 u 0 p)]).length=m/\m=n+1:=⟨_,rfl,by rw[aZ1,F.out];rfl⟩
      have χ:1<=m:=om;have ψ:m<=10:=om;have Z:=zh (L.bgrown a M P);obtain⟨G,rfl,_,O⟩:=E.rg.elt (k:=m-1) om;have Q:(l++[(fT 3 u 0 p)]).getD (m-1) []=(fT 3 u 0 p):=by rw[show m-1=l.length by rw[F.out];omega];simp[List.getD]
      have σ:r.cell? ⟨(G.add ((m-1)*4)).block,(G.add ((m-1)*4)).off+1,none⟩=some (.string u):=O 0 _ (by rw[Q];rfl);have K:=zh E;rw[H] at K|-;have I:=zh H;clear H O Q E P o)
     exact⟨⟨p+1,l++[(fT 3 u 0 p)],some G,f,T,by rw[I.out],pC,by rw[I.out];exact K,Z⟩,oI⟩
  .obtain⟨rfl,rfl⟩:=U.fin om;have An:decide ((17:Int)<(s.size:Int))=false:=dG om;have Ao:decide (17<s.size)=false:=dG om;go_wp2_with fail;go_ret;exact⟨_,rfl,R.out,D.out⟩
theorem infoExpr:(prog.info? 50).map (fun i=>(i.zero,i.size,i.bytes))=some (some (.agg #[z0,.string ByteArray.empty,z0,(),()]),5,80):=by kernel_rfl
def rC:List Va:=[.int .i64 0,.string {data:=#[]},.int .i64 0,.slice none 0 0,.slice none 0 0]
def Wnd(lo hi:Nat)(w:Wo)(Φ:Wo->Prop):Prop:=∀w2:Wo,(∀p:Addr,lo<=p.block->p.block<hi->w2.cell? p=w.cell? p)->Φ w2
theorem WE(w:Wo)(g:Nat)(lv:Va)(toks:List (List Va))(i n k dep x at_:Nat)(tx:By)(h:PS w g lv toks i n k)(hi:i<toks)(J:toks i []=fT 2 tx x at_)(Au:dep<=32)(hk:k+1<=1000):
 Calls prog 34 #[.pointer g,dep] w (fun e w'=>e=.returned (.agg #[.int .i64 1,.string {data:=#[]},x,(),()])/\w.grownBy w' (some g)/\PS w' g lv toks (i+1) n (k+1)):=by
 have Av:=h.blk.lt;have Ab:=h.small;obtain⟨A,c,rfl,_⟩:=id h.tok;obtain⟨G,rfl,_⟩:=h.tok.elt hi;have δ:=zh (fun(D:Wo) (I:PS D g (.slice (some G) toks c) toks i n k)=>XY D g _ toks i n k I hi _ (by rw[J];rfl));have ξ:=zh (fun(D:Wo) (I:PS D g (.slice (some G) toks c) toks i n k) (t:By)=>DQ D g _ toks i n k I t hi 2 (by rw[J];rfl) dC);have π:=zh (fun(D:Wo) (I:PS D g (.slice (some G) toks c) toks i n k)=>tW D g _ toks i n k I hi 2 (by rw[J];rfl));have d:=zh (fun(D:Wo) (χ:RG 4 D (.slice (some G) toks c) toks)=>χ.elt hi);rw[J] at d;have ν:=zh h;have Y:Hid (i<toks):=aG hi;clear h J hi;generalize hL:toks=L at*;have Ak:=zh hL;clear hL;go_enter func34,ntmps34;go_upto_region 1 with fail;have U:=zh (Blk.new w 50 rC);have M:=zh (ν.grown (row:=none) (aP (aH w (.cells rC.toArray 50)) none) (fun b e=>by cases e));have X:=zh (aP (aH w (.cells rC.toArray 50)) (some g));unfold rC at U M X;generalize w.alloc (.cells #[z0,.string {data:=#[]},z0,(),()] 50)=w0 at*;have c1:w0.cell? (g 1 none)=some (i:aV):=M.blk.cell 1;have a:=zh (M.grown (row:=none) (aP (aI w0) none) (fun b e=>by cases e));refine ta 8 c1 fun O=>?_;refine tq 0 ?_;refine tq 1 ?_;refine tq 2 ?_;refine tq 3 ?_;refine tq 4 ?_;try simp only[tz]
 refine tn 5 fun K hK=>?_;go_simp;apply(δ _ a).mono;rintro e Aw⟨rfl,m,rfl⟩;refine hK.out _ _ (c1) ?_;clear hK K O;intro O;try simp only[tz]
 refine tq 6 ?_;try simp only[tz]
 refine tn 7 fun K hK=>?_;go_simp;refine hK.out _ _ O fun _=>?_;refine tw ?_;try simp only[tz]
 clear O;have σ:=zh (M.drewN (1+m));have η:=zh (U.belowS (aY w0 (1+m)));have μ:=zh (bB X (aP (aY w0 (1+m)) (some g)));generalize w0.drewN (1+m)=w1 at*;clear c1 a;go_wp2_with fail;apply(ξ.out w1 σ _).mono;rintro e w2⟨rfl,T,r⟩;have ε:=zh (η.grown T (fun e=>oA (aZ0 e)));have θ:=zh (bB μ T);have Z:=zh r;clear T r;go_wp2_with fail;apply(π.out w2 Z).mono;rintro e E⟨rfl,R,rfl⟩;have F:=zh (Z.drewN R);have ζ:=zh (ε.belowS (aY _ R));have ι:=zh (bB θ (aP (aY w2 R) (some g)));generalize w2.drewN R=E at*;have c0:E.cell? g=some (.slice (some G) L c):=F.blk.cell 0;have c1:E.cell? (g 1 none)=some (i:aV):=F.blk.cell 1;have c3:E.cell? (g 3 none)=some (k:aV):=F.blk.cell 3;have f:E.frozen? (g 1 none)=false:=F.blk.frozen 1;have j:E.frozen? (g 3 none)=false:=F.blk.frozen 3;have Am:decide ((32:Int)<(dep:Int))=false:=dG om;have An:decide (32<dep)=false:=dG om;have Ao:((k:Int)==1024)=false:=by rw[eA];omega
 go_upto_region 12 with fail;obtain⟨C,N⟩:=xE ((E.setCell (g 3 none) (.int .i64 ((k:Int)+1))).setCell (g 1 none) (.int .i64 ((i:Int)+1)));have P:E.grownBy C (some g):=by rw[N];exact aS (p:=(g 1 none)) (aS (p:=(g 3 none)) (World.grownBy.refl _ _) (.inl rfl) _) (.inl rfl) _
 have q:Blk C g 86 [.slice (some G) L c,.int .i64 ((i+1:Nat):Int),(n:aV),.int .i64 ((k+1:Nat):Int)]:=by rw[N];exact(F.blk.set_ 3 _).set_ 1 _
 have S:=zh (F.kept P q ⟨oB Y.out Ab.1,om,om⟩);have V:=zh (ζ.grown P (fun e=>oA (aZ0 e)));have κ:=zh (bB ι P);rw[<-N];clear N P q c0 c1 c3 f j;have c0:C.cell? g=some (.slice (some G) L c):=S.blk.cell 0;obtain⟨Al,l,s,Q⟩:=d.out C S.tok;obtain rfl:=aZ0 l;have t0:=s _ rfl;have Ai:=Q 0 _ rfl;have t2:=Q 1 _ rfl;have t3:=Q 2 _ rfl;have φ:(i:Int)<(L:Int):=by have:=Y.out;omega
 have Ap:decide ((i:Int)<(L:Int))=true:=dE φ;clear l s Q;go_upto_region 13 with fail;have τ:=zh (Blk.new C 134 [.int .i64 2,.string tx,(x:aV),(at_:aV)]);have ρ:=zh (S.grown (row:=none) (aP (aH C (.cells [.int .i64 2,.string tx,(x:aV),(at_:aV)].toArray 134)) none) (fun b e=>by cases e));have W:=zh (V.alloc (.cells [.int .i64 2,.string tx,(x:aV),(at_:aV)].toArray 134));have H:=zh (bB κ (aP (aH C (.cells [.int .i64 2,.string tx,(x:aV),(at_:aV)].toArray 134)) (some g)));have At:=V.lt;generalize C.alloc (.cells #[.int .i64 2,.string tx,x,at_] 134)=Aj at*;clear c0 t0 Ai t2 t3;have t2:Aj.cell? ⟨C.heap.size,2,none⟩=some (x:aV):=τ.cell 2;obtain⟨x0,x1,x2,x3,x4,Aq,f,Ar,j,As⟩:=W.five;go_wp2_with fail;obtain⟨w9,ψ,B⟩:=zL (x:=.int .i64 1) (y:=.string {data:=#[]}) (z:=(x:aV)) (u:=.slice none 0 0) (v:=.slice none 0 0) W.out;rw[ψ];have Ad:=B.c0;have Ae:=B.c1;have Af:=B.c2;have Ag:=B.c3;have Ah:=B.c4;refine bodyPost_ret (v:=.agg #[.int .i64 1,.string {data:=#[]},x,(),()]) (by simp[results,results34,go_sem,Ad,Ae,Af,Ag,Ah]) rfl ?_;have Ac:w.grownBy w9 (some g):=by refine⟨B.gr.os.trans H.os,B.gr.tape.trans H.tape,B.gr.output.trans H.out.output,aZ6 H.size B.gr.size,fun b o Aa=>?_⟩;rw[B.gr.block b (aY1 o H.out.size) (fun e=>oA (aZ0 e))];exact H.block b o Aa
 exact⟨rfl,Ac,ρ.grown B.gr (fun b e=>oA (aZ0 e))⟩
