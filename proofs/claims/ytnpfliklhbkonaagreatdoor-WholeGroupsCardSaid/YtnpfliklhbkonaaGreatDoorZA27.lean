/- Parts. -/
import Derived.Test.YtnpfliklhbkonaaGreatDoorZA14
import Derived.Test.YtnpfliklhbkonaaGreatDoorZA25
set_option maxRecDepth 99999
set_option maxHeartbeats 0
set_option linter.unusedSimpArgs false
namespace Go.Proofs.YtnpfliklhbkonaaGreatDoor
open Go.Proofs.Tryz
open Go.RowKit
theorem CK(O:aQ):∀c,aJ O [] c=([],[])
 |0=>rfl
 |c+1=>by rw[aJ,CK O c];rfl
theorem SE (w0 w : Wo) (A : Nat) (P M : Int) (B L : Nat) (Mq : LI) (v : Va) (rows : LL) (G : GF w0 A P M Mq) (D : OM w0 (fun g => g < w0.heap.size) w v rows)
 (E:Below w0 w0 w)(hR:Rows (aF P M) L rows)(I:B<=L)(H:L<=100000)(J:rows.length<=100000):
 Calls prog 161 #[.pointer A,v,B,()] w
  (UT w0 v (aJ (aD P M Mq) rows B).1 (aJ (aD P M Mq) rows B).2):=by
 rcases Nat.eq_zero_or_pos rows with C|C
 .obtain rfl:=eH C;obtain⟨F,c,rfl⟩:=D.form;rw[CK];exact SF w0 w A P M Mq B F c D E
 .obtain⟨g,c,rfl,_,_⟩:=D.formP C;exact M6 w0 w A P M B L rows g c Mq rows G D rfl C E hR I H J
theorem SS.takeC{w:Wo}{A:OA}{n c:Nat}{xss:LL}(h:SS w (.slice A n c) xss){k:Nat}(hk:k<=xss):SS w (.slice A k k) (xss.take k):=by
 obtain⟨F,c',e,h⟩:=h;injection e with e1 e2 e3;subst e1;have C:(xss.take k).length=k:=by rw[aY3];omega
 refine⟨A,k,by rw[C],oA h.len,om,fun j B=>?_⟩;rw[C] at B;obtain⟨D,u,e,E,G⟩:=h.cell j om;refine⟨D,u,e,E,?_⟩;rwa[show(xss.take k).getD j []=xss j [] by simp[List.getD,List.getElem?_take,B]]
theorem SS.capLe{w:Wo}{A:OA}{n c:Nat}{xss:LL}(h:SS w (.slice A n c) xss):n=xss/\xss<=c:=by
 obtain⟨B,c',e,h⟩:=h;injection e with e1 e2 e3;exact⟨e2,oA h.cap⟩
def io(w:Wo)(xss:LL)(ys:LI)(e:Ending)(w':Wo):Prop:=
 ∃A U c,e=.returned (.tuple #[.slice A xss xss,.slice U ys c])/\Sep w w' (fun w2=>SS w2 (.slice A xss xss) xss/\SI w2 (.slice U ys c) ys)/\SSb (fun g=>w<=g) w' (.slice A xss xss) xss/\Below w w w'
theorem wI(w:Wo)(A:Nat)(P M:Int)(n:Nat)(Mq:LI)(v:Va)(rows:LL)(F:GF w A P M Mq)(S:SS w v rows)(hR:Rows (aF P M) n rows)(s:n<=100000)(hn:rows.length<=100000):
 Calls prog 112 #[.pointer A,v,n] w (io w (bC (aD P M Mq) rows n) (oS (aD P M Mq) rows n)):=by
 have Z:=zh F;have q:=zh S;have i:=zh hR;have O:=F.fld;have a:=zh (iJ O.1 Mq);have δ:=aM P M;have D:=zh (cI (dR O) hR).1;have Y:=zh (Rows.elim a hR n);have y:=gK (aD P M Mq) rows n;have z:=(lW (aD P M Mq) rows n)
 have J:Hid (bC (aD P M Mq) rows n=(aJ (aD P M Mq) rows n).1.take (aJ (aD P M Mq) rows n).2.length):=rfl;have K:Hid (oS (aD P M Mq) rows n=(aJ (aD P M Mq) rows n).2):=rfl;clear F S hR;go_enter func112,ntmps112;go_wp2_with fail;apply(C9 _ v rows q hn).mono;rintro e w1⟨u,rfl,B,C⟩;have b:=zh B;have W:=zh C;clear B C;go_wp2_with fail;apply(SE w w1 A P M n n Mq u rows Z b W i zr s hn).mono;rintro e w2⟨U,d,rfl,B,hi,C⟩;generalize (aJ (aD P M Mq) rows n).1=l at*;generalize (aJ (aD P M Mq) rows n).2=p at*;obtain⟨V,c,rfl⟩:=B.form;have H:=B.os (fun j t=>by have h:=Y.out j t;exact⟨by rw[h.1];omega,fun k=>by have:=h.2 k;exact I64.of_small om om⟩);have I:=H.sep (fun g G=>.inl G) om;have R:=H.ssb om (fun g G=>.inl G);obtain⟨_,x⟩:=I.out.capLe;obtain⟨L,T,rfl⟩:=hi.form';have Q:p.length<=l.length:=om;have m:=zh (I.imp fun _ h=>h.takeC Q);have o:=zh (R.takeC Q);have f:Hid (Sep w w2 fun w2=>SI w2 (.slice L p T) p):=aG (hi.sep om (fun k=>by
  by_cases hk:k<p
  .have hA:(bC (aD P M Mq) rows n).length=p.length:=by rw[J.out,aY3];omega
   have N:=D.nn k om;have r:=D.lt k om;rw[K.out] at N r;rw[N];exact I64.of_small om om
  .rw[bG om];exact I64.zero))
 have X:=zh C;have E:Hid ((l.take p).length=p.length):=by show _=_;rw[aY3];omega
 clear B hi C H I R;clear D;go_wp2;go_ret2;rw[J.out,K.out];refine⟨V,L,T,?_,?_,?_,X.out⟩
 .rw[E.out];rfl
 .rw[E.out];exact m.and f.out
 .rw[E.out];exact o.out
def ic(w:Wo)(n:Nat)(xss:LL)(ys:LI)(e:Ending)(w':Wo):Prop:=
 ∃A U c,e=.returned (.tuple #[.agg #[n,.slice A xss xss],.slice U ys c,z0])/\Sep w w' (fun w2=>SS w2 (.slice A xss xss) xss/\SI w2 (.slice U ys c) ys)/\SSb (fun g=>w<=g) w' (.slice A xss xss) xss/\Below w w w'
theorem yJ(w w1:Wo)(P M:Int)(n gl:Nat)(mv rv:Va)(Mq:LI)(rows:LL)(F:Below w w w1)(J:w1.heap.size=gl)(I:SI w mv Mq)(K:SS w rv rows)(C:fB P M Mq n rows=0):
 Calls prog 111 #[.agg #[P,M,mv],.slice gl 1 1] (w1.alloc (.cells #[n,rv] 74))
  (fun e w2=>∃a,e=.returned (.tuple #[.pointer (some ⟨a,0,none⟩),z0])/\GF w2 a P M Mq/\Below w1 w1 w2):=by
 have D:=(fM C).1;have B:=aC F (aH w1 (.cells #[n,rv] 74));have A:=Blk.new w1 74 [(n:aV),rv];rw[J] at A;apply(DD _ P M n mv rv gl Mq rows (I.below B zr) (K.below B zr) D (A.cell 0) (A.cell 1)).mono;rintro e w2⟨E,_⟩;obtain⟨a,rfl,H,G⟩:=E (by rw[<-yG D];exact C);exact⟨a,rfl,H.out,aC (aH w1 _) G⟩
theorem XH(w w1:Wo)(P M:Int)(A:Int)(gl:Nat)(mv rv:Va)(Mq:LI)(rows:LL)(I:Below w w w1)(J:w1.heap.size=gl)(G:SI w mv Mq)(K:SS w rv rows)(F:fB P M Mq A rows≠0):
 Calls prog 111 #[.agg #[P,M,mv],.slice gl 1 1] (w1.alloc (.cells #[A,rv] 74))
  (fun e w2=>e=.returned (.tuple #[.pointer none,.int .i64 (fB P M Mq A rows)])/\Below w1 w1 w2):=by
 have D:=aC I (aH w1 (.cells #[A,rv] 74));have C:=Blk.new w1 74 [(A:aV),rv];rw[J] at C;by_cases B:cZ P M Mq
 .apply(DD _ P M A mv rv gl Mq rows (G.below D zr) (K.below D zr) B (C.cell 0) (C.cell 1)).mono;rintro e w2⟨_,H⟩;rw[yG B] at F|-;obtain⟨rfl,E⟩:=H F;exact⟨rfl,aC (aH w1 _) E⟩
 .apply(SK _ P M mv _ Mq (G.below D zr) B).mono;rintro e w2⟨rfl,E⟩;rw[br B];exact⟨rfl,aC (aH w1 _) E⟩
structure FMQ(w w1:Wo)(P M:Int)(mv:Va)(cols:Int)(rv:Va):Prop where
 fm:jQ w w1 P M mv cols rv
 q:Blk w1 (w.heap.size+1+1) 74 [.int .i64 0,.slice none 0 0]
theorem FMQ.on{w w1 w2:Wo}{P M:Int}{mv:Va}{A:Int}{rv:Va}(h:FMQ w w1 P M mv A rv)(B:Below w1 w1 w2):FMQ w w2 P M mv A rv:=⟨h.fm.on B,h.q.belowS B⟩
theorem FMQ.mk'(w:Wo)(P M:Int)(mv:Va)(A:Int)(rv:Va):∃w1,((w.alloc (.cells #[P,M,mv] 24)).alloc (.cells #[A,rv] 74)).alloc (.cells #[z0,()] 74)=w1/\
 FMQ w w1 P M mv A rv/\w1.heap.size=w.heap.size+1+1+1:=by
 refine⟨_,rfl,⟨(jQ.mk' w P M mv A rv).on (aH _ _),?_⟩,?_⟩
 .have:=Blk.new ((w.alloc (.cells #[P,M,mv] 24)).alloc (.cells #[A,rv] 74)) 74 [.int .i64 0,.slice none 0 0];rw[World.size_alloc,World.size_alloc] at this;exact this
 .rw[World.size_alloc,World.size_alloc,World.size_alloc]
theorem pW(w:Wo)(P M:Int)(n:Nat)(mv rv:Va)(Mq:LI)(rows:LL)(R:SI w mv Mq)(W:SS w rv rows)(I:fB P M Mq n rows=0):
 Calls prog 63 #[.agg #[P,M,mv],.agg #[n,rv]] w (ic w n (bC (aD P M Mq) rows n) (oS (aD P M Mq) rows n)):=by
 have b:=zh R;have E:=zh W;clear R W;obtain⟨l,_,hn,m,hR⟩:=fM I;rw[aZ8] at hR;have c:=zh hR;have Y:=zh I;clear I hR l;obtain⟨i,u,rfl,_⟩:=E.out;obtain⟨r,J⟩:=xE rows.length;rw[<-J] at E m|-;have d:=zh J;clear J;obtain⟨w1,N,hq,o⟩:=FMQ.mk' w P M mv n (.slice i r u);have A:=zh hq;have K:=zh N;clear hq N;go_enter func63,ntmps63;go_wp2_with fail;rw[K.out];clear K;have c0:=A.fm.fb.c0;have c1:=A.fm.fb.c1;have c2:=A.fm.fb.c2;have d0:=A.fm.d0;have d1:=A.fm.d1;go_wp2_with fail;apply(yJ w w1 P M n _ mv _ Mq rows A.fm.fb.bel o b E Y).mono;rintro e w2⟨a,rfl,F,O⟩;have Z:=zh F;have B:=zh (A.on O);clear F O c0 c1 c2 d0 d1 A;have d0:=B.fm.d0;have d1:=B.fm.d1;go_wp2_with fail;apply(wI w2 a P M n Mq _ rows Z (E.below B.fm.fb.bel zr) c om (oA d.out)).mono;rintro e θ⟨G,U,X,rfl,T,V,Q⟩;have ε:=B.q.lt;generalize hkk:(bC (aD P M Mq) rows n).length=k at*;generalize hpp:(oS (aD P M Mq) rows n).length=p at*;have H:=zh hkk;have L:=zh hpp;clear hkk hpp;have f:=zh T;have h:=zh V;have D:=zh (B.on Q);clear T V Q d0 d1;have d0:=D.fm.d0;obtain⟨ζ,η,z,δ⟩:=D.q.two;go_wp2_with fail;obtain⟨ι,j,C⟩:=sQ (x:=(n:aV)) (y:=.slice G k k) D.q;rw[j];have s:=C.c0;have t:=C.c1;refine bodyPost_ret (v:=.tuple #[.agg #[n,.slice G k k],.slice U p X,z0]) (by simp[results,results63,go_sem,s,t]) rfl ?_;have S:=B.fm.fb.bel.size;refine⟨G,U,X,?_,?_,?_,C.below D.fm.fb.bel D.fm.fb.bel.size om⟩
 .rw[H.out,L.out]
 .rw[H.out,L.out];exact(f.grown C.gr (by rintro g e;cases e;omega)).mono S
 .rw[H.out];exact(h.grown C.gr (by rintro g e;cases e;show ¬w2.heap.size<=_;omega)).imp fun g F _=>aZ6 S F
theorem EN(w:Wo)(P M B:Int)(mv rv:Va)(Mq:LI)(rows:LL)(N:SI w mv Mq)(O:SS w rv rows)(G:fB P M Mq B rows≠0):
 Calls prog 63 #[.agg #[P,M,mv],.agg #[B,rv]] w (fun e w'=>e=.returned (.tuple #[.agg #[.int .i64 0,.slice none 0 0],.slice none 0 0,.int .i64 (fB P M Mq B rows)])/\Below w.heap.size w w'):=by
 have R:=zh N;have E:=zh O;clear N O;have I:=zh G;have U:(fB P M Mq B rows !=0)=true:=by rw[eC];exact G
 clear G;obtain⟨S,Y,rfl,_⟩:=E.out;generalize rows.length=r at E|-;obtain⟨w1,K,hq,V⟩:=FMQ.mk' w P M mv B (.slice S r Y);have A:=zh hq;have J:=zh K;clear hq K;go_enter func63,ntmps63;go_wp2_with fail;rw[J.out];clear J;have c0:=A.fm.fb.c0;have c1:=A.fm.fb.c1;have c2:=A.fm.fb.c2;have d0:=A.fm.d0;have d1:=A.fm.d1;go_wp2_with fail;refine(XH w w1 P M B _ mv _ Mq rows A.fm.fb.bel V R E I).mono ?_;rintro e w2 ⟨rfl,L⟩;have C:=zh (A.on L);clear L c0 c1 c2 d0 d1 A;obtain⟨F,H⟩:=xE (fB P M Mq B rows);rw[<-H] at U I|-;have Q:=zh H;clear H;obtain⟨b,c,Z,a⟩:=C.q.two;go_wp2_with fail;obtain⟨d,T,D⟩:=sQ (x:=.int .i64 0) (y:=.slice none 0 0) C.q;rw[T];have W:=D.c0;have X:=D.c1;refine bodyPost_ret (v:=.tuple #[.agg #[.int .i64 0,.slice none 0 0],.slice none 0 0,F]) (by simp[results,results63,go_sem,W,X]) rfl ?_;exact⟨by rw[<-Q.out],D.below C.fm.fb.bel C.fm.fb.bel.size om⟩
theorem R6(w:Wo)(v:Va)(xs:LI)(y:Int)(C:SI w v xs):Calls prog 55 #[v,y] w (fun e w'=>∃z,e=.returned (.int .i64 z)/\decide (0<=z)=(xs.any fun x=>x==y)/\w=w'):=by
 obtain⟨A,c,rfl,C⟩:=C;have hn:=C.len;have I:=zh C;clear C;go_enter func55,ntmps55;go_wp2;go_loop [8] (fun i=>∃k:Nat,k<=xs/\i=(k:aV)/\Hid (∀j,j<k->xs j 0≠y)) (fun i=>xs.length-(intOf i).toNat)
 .exact⟨0,aZ5 _,rfl,aG fun j D=>aB D (aY5 _)⟩
 .
  obtain⟨k,hk,rfl,G⟩:=hrel;by_cases F:k<xs
  .obtain⟨L,x,rfl,M,_,H⟩:=I.elt F;by_cases B:y=x
   .have K:(y==x)=true:=by simpa using B
    have E:Hid ((xs.any fun x=>x==y)=true):=by show _=_;rw[List.any_eq_true];exact⟨xs k 0,by rw[aZ4,aZ3 F];exact aY6 F,by rw[eD,H.out];exact B.symm⟩
    clear B;go_wp2;go_ret;exact⟨_,rfl,by rw[E.out,decide_eq_true_eq];show(0:Int)<=(k:Int);omega,rfl⟩
   .have K:(y==x)=false:=by simpa using B
    have J:=zh B;clear B;go_wp2;go_round
    .exact⟨k+1,om,by go_num,aG fun j D=>by
     by_cases e:j=k
     .subst e;rw[H.out];exact fun h=>J.out h.symm
     .exact G.out j om⟩
    .simp[intOf];omega
  .have E : Hid ((xs.any fun x => x == y) = false) := by
    show _=_;rw[List.any_eq_false];intro x B e;rw[eD] at e;obtain⟨j,D,rfl⟩:=eI.1 B;refine G.out j om ?_;rw[aZ4,aZ3 D];exact e
   go_wp2;go_ret;exact⟨_,rfl,by rw[E.out];rfl,rfl⟩
theorem gB(w:Wo)(v:Va)(xs:LI)(y:Int)(A:SI w v xs):Calls prog 90 #[v,y] w (fun e w'=>e=.returned (.bool (xs.any fun x=>x==y))/\w=w'):=by have C:=zh A;clear A;go_enter func90,ntmps90;go_wp2_with fail;apply(R6 _ v xs y C).mono;rintro e w1⟨z,rfl,B,rfl⟩;have D:=zh B;clear B;go_wp2;go_ret;exact⟨by rw[<-D.out];rfl,rfl⟩
def wW(w:Wo)(n:Nat)(xss:LL)(e:Ending)(w':Wo):Prop:=
 ∃u,e=.returned (.tuple #[.agg #[n,u],z0])/\Sep w w' (fun w2=>SS w2 u xss)/\Below w w w'
theorem M5(w:Wo)(P M:Int)(n:Nat)(mv rv:Va)(Mq:LI)(rows:LL)(As:SI w mv Mq)(Au:SS w rv rows)(ρ:fB P M Mq n rows=0):
 Calls prog 307 #[.agg #[P,M,mv],.agg #[n,rv]] w (wW w n (iT (aD P M Mq) rows n)):=by
 have Bj:=zh As;have W:=zh Au;clear As Au;obtain⟨σ,_,hn,Ck,hR⟩:=fM ρ;rw[aZ8] at hR;have hO:=dR σ;obtain⟨hA,_⟩:=cI hO hR;have Bt:=zh hR;have Bf:=zh ρ;have Bg:=zh hO;have Cx:=zh σ;have Bk:Hid (iT (aD P M Mq) rows n=bC (aD P M Mq) (bT (aD P M Mq) (bC (aD P M Mq) rows n) (oS (aD P M Mq) rows n) n n) n):=rfl;have Bn:=zh (pH hO hA);have Ce:(bC (aD P M Mq) rows n).length<=n:=by have Z:=(lW (aD P M Mq) rows n).2;have Al:(bC (aD P M Mq) rows n).length=(oS (aD P M Mq) rows n).length:=hA.len.symm;rw[Al];exact Z
 have j:=aM P M;have Br:=zh j;clear ρ hR σ hO j;obtain⟨Cb,Ct,rfl,_⟩:=W.out;obtain⟨ψ,H⟩:=xE rows.length;rw[<-H] at W Ck|-;have Bu:=zh H;clear H;obtain⟨w1,Aj,hq,Cm⟩:=FMQ.mk' w P M mv n (.slice Cb ψ Ct);have E:=zh hq;have Aa:=zh Aj;clear hq Aj;have Dj:=fun(w:Wo)=>dX n om w;have Q:=zh hA;clear hA;go_enter func307,ntmps307;go_wp2_with fail;rw[Aa.out];clear Aa;have c0:=E.fm.fb.c0;have c1:=E.fm.fb.c1;have c2:=E.fm.fb.c2;have d0:=E.fm.d0;have d1:=E.fm.d1;go_wp2_with fail;apply(yJ w w1 P M n _ mv _ Mq rows E.fm.fb.bel Cm Bj W Bf).mono;rintro e w2⟨a,rfl,G,An⟩;have Ab:=zh G;have N:=zh (E.on An);clear G An c0 c1 c2 d0 d1 E;have d0:=N.fm.d0;have d1:=N.fm.d1;go_wp2_with fail;apply(wI w2 a P M n Mq _ rows Ab (W.below N.fm.fb.bel zr) Bt om (oA Bu.out)).mono;rintro e F⟨Cv,U,Dt,rfl,R,_,ξ⟩;have Dh:=N.q.lt;have ζ:=zh (N.on ξ);have Ac:=zh (Ab.on ξ);have m:=Q.len;generalize bC (aD P M Mq) rows n=A at*;generalize oS (aD P M Mq) rows n=p at*;obtain⟨r,H⟩:=xE A.length;rw[m] at R|-;rw[<-H] at Ce m R|-;have L:=zh H;have Ae:=zh m;clear H m;have Az:=zh R.out.1;have δ:=zh R.out.2;have Ci:∀i,i<r->pvt p i<n:=fun i hi=>Q.lt i (L.out▸hi);clear R ξ d0 d1;have d0:=ζ.fm.d0;go_wp2_with fail;clear d0;go_loopw [10,37] (fun u i wr=>∃(c l:Nat) (I:OA) (K:Nat),c<=n/\i=(c:aV)/\u=.slice I l K/\Hid ((bT (aD P M Mq) A p n c).length=l)/\Hid (OS F (fun _=>False) wr (.slice I l K) (bT (aD P M Mq) A p n c))/\Hid (Below F F wr)) (fun _ i _=>n-(intOf i).toNat)
 .exact⟨0,0,none,0,aZ5 _,rfl,rfl,rfl,OS.nil _ _ _,bE _⟩
 .
  obtain⟨c,l,I,K,De,rfl,rfl,Bl,D,C⟩:=hrel;have d0:=(ζ.on C).fm.d0;by_cases π:c<n
  .cases hpv:rQ p c
   .have ε:Hid ((p.any fun x=>x==(c:Int))=false):=hpv;have V:Hid (bT (aD P M Mq) A p n (c+1)=bT (aD P M Mq) A p n c++[dK (aD P M Mq) A p n c r]):=aG (by show _=_;rw[bT,iN (by rw[hpv];decide),Ae.out]);clear hpv;have X:=zh (RI.made wr n);have Cp:(wr.alloc (.cells (madeCells #[z0] n) 3)).cell? ⟨wr.heap.size,c,none⟩=some (z0:aV):=by
     have:=X.cell c (by simp;exact π);rw[this];simp[List.getD,List.getElem?_replicate,π]
    have Cq:=X.frozen c;have κ:Hid (RI ((wr.alloc (.cells (madeCells #[z0] n) 3)).setCell ⟨wr.heap.size,c,none⟩ (.int .i64 1)) wr (dK (aD P M Mq) A p n c 0)):=aG (X.set c 1);have Ar:=aU (wr.alloc (.cells (madeCells #[z0] n) 3)) wr c (.int .i64 1);have s:Hid (∀g,(Value.slice I l K).ownBlock=some g->g≠wr.heap.size):=aG fun g G=>by have:=D.lt G;omega
    have z:=zh (((D.names (Y:=fun g=>g=wr.heap.size) (fun g Z Al=>om)).alloc (.cells (madeCells #[z0] n) 3)).grown Ar (fun g e=>by have ν:=aZ0 e;subst ν;exact⟨fun h=>s.out _ h rfl,rfl⟩));have φ:=C.size;have o:=zh ((C.alloc φ (.cells (madeCells #[z0] n) 3)).setCell (p:=⟨wr.heap.size,c,none⟩) φ (.int .i64 1));clear X Ar D;have At:=World.setCell_alloc_at (w:=wr) (madeCells #[z0] n) 3 wr c (.int .i64 1) rfl;rw[At] at κ z o;clear At;go_wp2_with fail;apply(gB _ _ p (c:Int) (δ.below C zr)).mono;rintro e Cu⟨rfl,rfl⟩;rw[ε.out];go_wp2_with fail;clear Cp Cq C d0;generalize wr.alloc (.cells ((madeCells #[z0] n).setIfInBounds c (.int .i64 1)) 3)=Aw at*;generalize hgx:wr.heap.size=gx at*;clear hgx;go_loopw [51] (fun i wr=>∃b:Nat,b<=r/\i=(b:aV)/\Hid (RI wr gx (dK (aD P M Mq) A p n c b))/\Hid (OS F (fun g=>g=gx) wr (.slice I l K) (bT (aD P M Mq) A p n c))/\Hid (Below F F wr)) (fun i _=>r-(intOf i).toNat)
    .exact⟨0,aZ5 _,rfl,κ,z,o⟩
    .
     clear κ z o;obtain⟨b,Dd,rfl,ι,D,C⟩:=hrel;by_cases J:b<r
     .obtain⟨Dn,Dx,rfl,Dl,_,Ai⟩:=(δ.below C zr).elt (k:=b) (Ae.out▸J);have Av:=Ai.out;rw[Q.out.nn b (L.out▸J)] at Av;subst Av;have Cj:=Ci b J;obtain⟨Dq,Cw,Da,row,rfl,Df,Af,θ⟩:=(Az.below C zr).eltA (k:=b) (L.out▸J);have Cl:row=n:=by rw[<-θ.out];exact(Q.rows b (L.out▸J)).1
      obtain⟨Dr,y,rfl,Dm,_,Ca⟩:=Af.elt (k:=c) (by rw[Cl];exact π);have Bh:Hid ((dK (aD P M Mq) A p n c b).set (pvt p b) (iO P M y)=dK (aD P M Mq) A p n c (b+1)):=aG (by show _=_;rw[dK,show ent A b c=y by unfold ent;rw[θ.out,Ca.out]];rfl);have Dg:c<row:=om;have Bs:Hid (pvt p b<(dK (aD P M Mq) A p n c b).length):=aG (by rw[iX];exact Cj);clear θ Af Ai;generalize pvt p b=S at*;go_wp2_with fail;apply(xU _ a P M y Mq (Ac.on C)).mono;rintro e Ax⟨rfl,d⟩;have μ:=zh (ι.belowS d);have Bp:=zh (D.below d);have Bb:=zh (aC C d);have Ds:=μ.cell S Bs.out;have Dv:=μ.frozen S;clear d;go_wp2_with fail;have Ah:=zh (μ.set S (iO P M y));rw[Bh.out] at Ah;have Bq:=zh (Bp.grown (aU Ax gx S (.int .i64 (iO P M y))) (fun g e=>by have ν:=aZ0 e;subst ν;exact⟨fun h=>s.out _ h rfl,rfl⟩));have Bc:=zh (Bb.setCell (p:=⟨gx,S,none⟩) φ (.int .i64 (iO P M y)));exact⟨⟨b+1,om,pC,Ah,Bq,Bc⟩,oI⟩
     .obtain rfl:b=r:=om;have Cf:=ι.lt;have j:=Br.out;have Bz:Hid (SI wr (.slice gx n n) (dK (aD P M Mq) A p n c b)):=aG (by
       have h:=ι.si (by rw[iX];omega) (fun i=>by have Z:=vY Bg Q c i;rw[<-L.out] at Z;exact I64.of_small om om);rwa[iX] at h)
      have Be:=zh (ZW (w:=wr) (u:=.slice gx n n) (t:=22));have Ap:=aH wr (.cells #[.slice gx n n] 22);have Bx:=zh (Bz.below Ap zr);have χ:=C.size;have Ag:=zh (jZ (w:=wr) (B:=F.heap.size) χ (.cells #[.slice gx n n] 22));have Ad:=zh ((D.names (Y:=fun _=>False) (fun g _ h=>h.elim)).alloc (.cells #[.slice gx n n] 22));have Bd:=zh (C.alloc χ (.cells #[.slice gx n n] 22));have Bm:=zh (wL (aD P M Mq) A p n c);clear Ap Cf J χ j;go_wp2_with (at_builtin;refine iB rfl _ _ rfl F (fun _=>False) _ (bT (aD P M Mq) A p n c) rfl Ad wr 1 _ (dK (aD P M Mq) A p n c b) rfl Be Bx (fun _ g G=>⟨fun e=>s.out _ e (by simp[Value.ownBlock] at G;exact G.symm),fun h=>h⟩) (oA Bm.out) Ag ?_;(intro Dw Aw f Aq Co);go_must (have Ba:=zh (Ad.bgrown Bd Ag Aq);rw[<-V.out] at f;obtain⟨Ay,Cc,rfl⟩:=f.form;have Bo:=zh f);clear f Aq Co)
      exact⟨⟨c+1,_,Ay,Cc,om,pC,rfl,rfl,Bo,Ba⟩,oI⟩
   .have ε:Hid ((p.any fun x=>x==(c:Int))=true):=hpv;have V:Hid (bT (aD P M Mq) A p n (c+1)=bT (aD P M Mq) A p n c):=aG (by show _=_;rw[bT,iP hpv]);clear hpv;go_wp2_with fail;apply(gB _ _ p (c:Int) (δ.below C zr)).mono;rintro e Cu⟨rfl,rfl⟩;rw[ε.out];go_wp2;exact⟨⟨c+1,l,I,K,om,pC,rfl,V.out▸Bl,V.out▸D,C⟩,oI⟩
  .obtain rfl:c=n:=om;have Dk:=wL (aD P M Mq) A p c c;have Bw:=zh (D.ss om);have η:=zh (ζ.on C);have Bi:=zh (Ac.on C);go_wp2_with fail;apply(wI wr a P M c Mq _ _ Bi Bw Bn om om).mono;rintro e Aw⟨ω,Cz,Du,rfl,τ,_,Ao⟩;rw[<-Bk.out] at τ|-;generalize hkk:(iT (aD P M Mq) rows c).length=k at*;have Cy:=zh hkk;clear hkk;have Bv:=zh (τ.imp fun _ h=>h.1);have Di:=η.q.lt;have O:=zh (η.on Ao);clear τ Ao d0;have d0:=O.fm.d0;obtain⟨Do,Dp,Db,Dc⟩:=O.q.two;go_wp2_with fail;obtain⟨Ax,Cd,T⟩:=sQ (x:=(c:aV)) (y:=.slice ω k k) O.q;rw[Cd];have Cr:=T.c0;have Cs:=T.c1;refine bodyPost_ret (v:=.tuple #[.agg #[c,.slice ω k k],z0]) (by simp[results,results307,go_sem,Cr,Cs]) rfl ?_;exact⟨_,rfl,(Bv.grown T.gr (by rintro g e;cases e;omega)).mono η.fm.fb.bel.size,T.below O.fm.fb.bel O.fm.fb.bel.size om⟩
