/- Texts of a claim, merged. -/
import Derived.Test.YtpfhoemohibniaaGreatDoorZA28
import Derived.Test.YtpfhoemohibniaaGreatDoorZA34
import Derived.Test.YtpfhoemohibniaaGreatDoorZA35
set_option maxRecDepth 100000
set_option linter.unusedSimpArgs false
set_option maxHeartbeats 32000000
namespace Go.Proofs.YtpfhoemohibniaaGreatDoor
def xA:LL:=[[1,0,1],[0,1,1]]
def xB:LL:=[[1,0,0]]
def xS:LL:=[[1,0,0],[0,1,0],[0,0,1]]
theorem x1:ZF (aB 2 1 []) xA xB 3=xS:=by decide+kernel
theorem x2:X9 (aB 2 1 []) xA xB 3=[]:=by decide+kernel
theorem x3:cA (aB 2 1 []) xA 3=[[1,1,1]]:=by decide+kernel
theorem x4:YM (aB 2 1 []) xA 3 [1,1,0]=[1,1]:=by decide+kernel
theorem x5:SX (aB 2 1 []) xA [1,0,0]=[0,0,1]:=by decide+kernel
theorem x6:ZE (aB 2 1 []) xB xS 3=[[0,1,0],[0,0,1]]:=by decide+kernel
theorem x7:KF (aB 2 1 []) xA 3 (bT [1,2] 3)=[[0,1,1]]:=by decide+kernel
theorem x8:inL (aB 2 1 []) xA [1,0,0]=false:=by decide+kernel
theorem x9:YO (aB 2 1 []) xB xS=true:=by decide+kernel
theorem x10:inL (aB 2 1 []) xA [1,1,0]=true:=by decide+kernel
theorem x11:bC (aB 2 1 []) xA 3=xA:=by decide+kernel
theorem x12:bC (aB 2 1 []) xB 3=xB:=by decide+kernel
theorem x13:bC (aB 2 1 []) xS 3=xS:=by decide+kernel
end Go.Proofs.YtpfhoemohibniaaGreatDoor
namespace Go.Proofs.YtpfhoemohibniaaGreatDoor
open Go.RowKit
def BQ(n:Nat):Nat->LL
 |0=>[]
 |k+1=>BQ n k++[sQ n k]
theorem rH(n:Nat):∀k,(BQ n k).length=k
 |0=>rfl
 |k+1=>by rw[BQ,aZ1,rH n k];rfl
def EX(n:Nat):Nat->LL
 |0=>List.replicate n []
 |j+1=>(EX n j).set j (sQ n j)
theorem rG(n:Nat):∀j,(EX n j).length=n
 |0=>by simp[EX]
 |j+1=>by rw[EX,aZ9,rG n j]
theorem L3(n:Nat):∀k j,j<k->j<n->(EX n k).getD j []=sQ n j
 |0,j,h,_=>by omega
 |k+1,j,h,hj=>by
  rw[EX,cE,rG];by_cases e:k=j
  .subst e;rw[if_pos ⟨rfl,hj⟩]
  .rw[if_neg (fun h=>e h.1)];exact L3 n k j (by omega) hj
theorem EY(n:Nat):∀k j,j<k->(BQ n k).getD j []=sQ n j
 |0,j,h=>by omega
 |k+1,j,h=>by
  rw[BQ];by_cases e:j=k
  .subst e;simp[List.getD,List.getElem?_append_right,rH]
  .have:=EY n k j (by omega);rw[<-this];simp[List.getD,aY2 (show j<(BQ n k).length by rw[rH];omega)]
theorem PH(n:Nat):EX n n=BQ n n:=
 kL (by rw[rG,rH]) fun j A=>by rw[rG] at A;rw[L3 n n j A A,EY n n j A]
theorem oT(n p:Nat):(sQ n p).length=n:=by simp[sQ]
theorem TQ{n p j:Nat}(A:j<n):(sQ n p).getD j 0=if p=j then 1 else 0:=by
 unfold sQ;by_cases e:p=j
 .subst e;rw[if_pos rfl];simp[List.getD,A]
 .rw[if_neg e,List.getD,List.getElem?_set_ne e];simp[A]
theorem EC(w:World)(n:Nat):∃w' g,w.alloc (.cells (madeCells #[.int .i64 0] n) 3)=w'/\w.heap.size=g/\RI w' g (List.replicate n 0)/\Below w.heap.size w w':=
 ⟨_,_,rfl,rfl,RI.made w n,aF w _⟩
theorem R2(w:World)(n:Nat)(hn:n<=256):Calls Tryz.prog 178 #[.int .i64 (n:Int)] w (fun e w'=>∃g,e=.returned (.slice (some ⟨g,0,none⟩) n n)/\OM w.heap.size (fun g=>g<w.heap.size) w' (.slice (some ⟨g,0,none⟩) n n) (BQ n n)/\Below w.heap.size w w'):=by
 have a:=fun(w:World)=>xZ n (by omega) w;have o:=fun(w:World)=>dV n (by omega) w;have V:=zh (PH n);go_enter Tryz.func178,Tryz.ntmps178;go_upto_region 2 with fail;obtain⟨w0,gv,E,X,F,hb⟩:=zP w n (by omega);rw[E,X];have A:=zh F;have D:=zh hb;clear E F hb a;go_wp2_with fail;go_loopw [4,9] (fun _ i wr=>∃j:Nat,j<=n/\i=.int .i64 (j:Int)/\Hid (OM w.heap.size (fun g=>g<w.heap.size) wr (.slice (some ⟨gv,0,none⟩) n n) (EX n j))/\Hid (Below w.heap.size w wr)) (fun _ i _=>n-(intOf i).toNat)
 case atStart=>exact⟨0,aZ5 _,rfl,A,D⟩
 case round=>
  clear A D;obtain⟨j,m,rfl,A,D⟩:=hrel;by_cases H:j<n
  .have K:Hid ((EX n j).length=n):=aD (rG _ _);have G:=zh (A.below (aF wr (.cells (madeCells #[.int .i64 0] n) 3)));obtain⟨q,N,_,_⟩:=G.row (k:=j) (by rw[K.out];exact H);have S:=G.frozen j;go_upto_region 6 with fail;obtain⟨I,C,E,Y,F,hb⟩:=EC wr n;rw[E] at G N S|-;rw[Y];have L:=zh F;have J:=zh hb;have p:=D.size;have l:=A.lt (g:=gv) rfl;have f:w.heap.size<=C/\gv<C:=by omega
   have W:=zh (A.put J (fun g hg=>by omega) (i:=j) (by rw[K.out];exact H) (u:=.slice (some ⟨C,0,none⟩) n n) (ys:=List.replicate n 0) (by have h:=L.oi (B:=wr.heap.size) (by omega) (by simp;omega);rw[List.length_replicate] at h;exact h));have Z:(I.setCell ⟨gv,j,none⟩ (.slice (some ⟨C,0,none⟩) n n)).cell? ⟨gv,j,none⟩=some (.slice (some ⟨C,0,none⟩) n n):=World.cell?_setCell_same I ⟨gv,j,none⟩ _ N;have O:=bF I gv j (.slice (some ⟨C,0,none⟩) n n);have M:=zh (L.grown O (by intro e;have:=aZ0 e;omega));have P:=zh ((aA D J).grown O (by have:=J.size;omega) (fun k e=>by have:=aZ0 e;omega));clear E F hb N S A G L O;generalize I.setCell ⟨gv,j,none⟩ (.slice (some ⟨C,0,none⟩) n n)=b at*;have d:=M.cell j (by simp;exact H);have c:=M.frozen j;go_wp2_with fail;have R:=zh (M.set j 1);change Hid (RI _ C (sQ n j)) at R;have T:=bF b C j (.int .i64 1);have Q:=zh (W.write (i:=j) (by rw[aZ9,K.out];exact H) Z T (ys:=sQ n j) (by have h:=R.oi (B:=w.heap.size) (by omega) (by rw[oT];omega);rw[oT] at h;exact h));rw[List.set_set] at Q;have U:=zh (P.grown T P.size (fun k e=>by have:=aZ0 e;omega));exact⟨⟨j+1,by omega,by push_cast;rfl,Q,U⟩,by simp only[intOf];omega⟩
  .obtain rfl:n=j:=by omega
   rw[V.out] at A;go_wp2_with fail;go_ret;exact⟨gv,rfl,A.out,D.out⟩
theorem jN.mk' {w0 A C : World} {v y : Value} {l t : LL} (O : OM w0.heap.size (fun g => g < w0.heap.size) A y t) (M : OM A.heap.size (fun g => g < A.heap.size) C v l) (J : w0.heap.size <= A.heap.size) (hb : Below A.heap.size A C) :
   jN w0.heap.size (fun g=>g<w0.heap.size) C v l y t:=by
 obtain⟨P,B⟩:=O;obtain⟨us,G⟩:=M;refine⟨us,P,?_,?_⟩
 . have K : nI w0.heap.size (fun g => g < A.heap.size) C v us l := by
     obtain⟨E,F,hi,N⟩:=G;refine⟨⟨E.1,?_⟩,fun i D=>⟨(F i D).1.mono J,(F i D).2⟩,hi,N⟩;rcases E.2 with hn|⟨g,H,I,rfl,hb,L,rest⟩
     . exact .inl hn
     . exact .inr ⟨g,H,I,rfl,by omega,L,rest⟩
   exact K.xs fun g _ h=>h.elim (fun h=>by omega) (fun h=>(B.lt h).2)
 . exact(B.keep fun g hg=>hb.block g (B.lt hg).2).xs fun g hg h=>h.elim id (fun h=>by have:=(G.lt h).1;have:=(B.lt hg).2;omega)
theorem GB(w:World)(P M:Int)(n:Nat)(mv ζ:Value)(Mod:LI)(rows J:LL)(hm:SI w mv Mod)(ε:SS w ζ rows)(U:dK P M Mod n rows=0)(N:rows.length=n)(p:0<n)(hn1:n<=64)
  (k:Rows (aC P M) (n+n) J)(V:lfM n J=rows)(δ:rgM n J=BQ n n)(o:(aI (aB P M Mod) J n).2.length=n):
  Calls Tryz.prog 118 #[.agg #[.int .i64 P,.int .i64 M,mv],.agg #[.int .i64 (n:Int),ζ]] w (mR w n (rgM n (aI (aB P M Mod) J n).1)):=by
 have μ:=zh hm;have I:=zh ε;clear hm ε;obtain⟨χ,_,_,_,hR⟩:=dE U;rw[aZ8] at hR;have Ag:=zh hR;have c:=zh k;have κ:=zh V;have ξ:=zh δ;have ι:=zh o;have θ:=zh U;have d:Hid (J.length=n):=aD (by rw[<-N,<-V,tC]);clear U hR χ k V δ o;obtain⟨Q,X,rfl,_⟩:=I.out;rw[N] at I|-;have O:=zh N;clear N;obtain⟨w1,E,hq,ω⟩:=FMQ.mk' w P M mv n (.slice Q n X);have A:=zh hq;have Z:=zh E;clear hq E;go_enter Tryz.func118,Tryz.ntmps118;go_wp2_with fail;rw[Z.out];clear Z;have c0:=A.fm.fb.c0;have c1:=A.fm.fb.c1;have c2:=A.fm.fb.c2;have d0:=A.fm.d0;have d1:=A.fm.d1;go_wp2_with fail;refine(oF w w1 P M n _ mv _ Mod rows A.fm.fb.bel ω μ I θ).mono ?_;rintro e w2 ⟨a,rfl,hg,l⟩;have b:=zh hg;have C:=zh (A.on l);clear hg l c0 c1 c2 d0 d1 A;have d0:=C.fm.d0;have d1:=C.fm.d1;go_wp2_with fail;refine(R2 w2 n (by omega)).mono ?_;rintro e η ⟨gy,rfl,r,R⟩;have ν:=zh r;have Y:=zh R;have H:=zh (C.on R);clear r R d0 d1;have d0:=H.fm.d0;have d1:=H.fm.d1;go_upto_region 7 with fail;refine aG.start (S:=fun w'=>w'.cell? ⟨w.heap.size+1,0,none⟩=some (.int .i64 (n:Int))/\w'.cell? ⟨w.heap.size+1,1,none⟩=some (.slice Q n X)) (by kernel_rfl) (⟨d0,d1⟩) (fun D=>?_);change aG _ _ _ _ 13 _ _ _;refine tq 0 ?_;refine tq 1 ?_;refine tq 2 ?_;refine tq 4 ?_;refine tq 5 ?_;refine tq 6 ?_;try simp only[tz]
 refine aG.only (i:=3) (by kernel_rfl) rfl (fun K hK=>?_);go_simp;refine(tF _ _ rows (I.below (H.fm.fb.bel.trans ((aH η).mono H.fm.fb.bel.size)) zr) (by rw[O.out];omega)).mono ?_;rintro e Ad ⟨u,rfl,W,m⟩;have F:=zh (aA (aH η) m);have f:=zh (jN.mk' ν W Y.size F);obtain⟨g4,π,rfl,_,_⟩:=W.formP (by rw[O.out];exact p);rw[O.out] at f|-;have j:=aE F.out d0;have E:=aE F.out d1;clear m W;refine hK.out _ _ (⟨j,E⟩) ?_;clear hK K D;intro D;try simp only[tz]
 refine aG.only (i:=7) (by kernel_rfl) rfl (fun K hK=>?_);go_simp;refine(NT w2 Ad a P M n n (n+n) n g4 π gy n Mod J b (by rw[κ.out,ξ.out];exact f.out) d p (aA Y F) c zr (by omega) (by omega) (by omega)).mono ?_;rintro e Ae ⟨Aq,Ai,rfl,z,s,T⟩;have h:=zh z;obtain⟨Ah,Ar,rfl⟩:=s.form';have Af:=zh T;rw[ι.out] at h|-;have B:Hid (FMQ w Ae P M mv n (.slice Q n X)):=aD (C.on T);have ρ:=B.fm.d0;have σ:=B.fm.d1;clear z s T;refine hK.out _ _ (⟨ρ,σ⟩) ?_;clear hK K D;intro D;try simp only[tz]
 refine tq 8 ?_;refine tq 9 ?_;refine tq 10 ?_;refine tq 11 ?_;try simp only[tz]
 refine aG.only (i:=12) (by kernel_rfl) rfl (fun K hK=>?_);go_simp;refine hK.out _ _ D (fun τ=>?_);clear hK K;clear τ;refine aG.done (by kernel_rfl) ?_;try simp only[tz]
 clear D;clear d0 d1 j E;have Al:=B.q.lt;obtain⟨Ao,Ap,Aj,Ak⟩:=B.q.two;go_wp2_with fail;obtain⟨As,Aa,G⟩:=oD (x:=.int .i64 (n:Int)) (y:=.slice (some ⟨gy,0,none⟩) n n) B.q;rw[Aa];have Ab:=G.c0;have Ac:=G.c1;refine bodyPost_ret (v:=.tuple #[.agg #[.int .i64 (n:Int),.slice (some ⟨gy,0,none⟩) n n],.int .i64 0]) (by simp[results,Tryz.results118,go_sem,Ab,Ac]) rfl ?_;have ψ:=C.fm.fb.bel.size;have An:=C.q.lt;have t:=lQ (eW b.fld.1 Mod) c.out n (show aI (aB P M Mod) J n=((aI (aB P M Mod) J n).1,(aI (aB P M Mod) J n).2) from rfl);have Am:=aK P M;have φ:=(h.symm.om.os (fun i hi=>by rw[pL] at hi;have:=LW (L:=n) (t.1 i hi) (by omega);exact⟨by omega,this.2⟩)).sep (fun g hg=>.inl hg) (by rw[pL,t.2.1,d.out];omega);exact⟨_,rfl,(φ.grown G.gr (by rintro g e;cases e;omega)).mono ψ,G.below B.fm.fb.bel B.fm.fb.bel.size (by omega)⟩
structure fH(P M:Int)(Mod:LI)(n:Nat)(gen:LL)(p:LI):Prop where
 err:cS P M Mod (n:Int) gen=0
 fld:cK P M Mod
 n1:1<=n
 n64:n<=64
 kn:gen.length<=n
 rr:dP (aB P M Mod) (aC P M) n gen p
 mat:dK P M Mod (n:Int) gen=0
theorem LX{O:aO}{q:Int}{n:Nat}{A:LL}{p:LI}(hA:dP O q n A p):A.length<=n:=by
 have h:∀i,i<A.length->i<=pvt p i:=by
  intro i
  induction i with
  |zero=>intro _;exact aZ5 _
  |succ i ih=>intro hi;have B:=ih (by omega);have C:=hA.inc i (i+1) (by omega) hi;omega
 rcases Nat.eq_zero_or_pos A.length with e|e
 .omega
 .have B:=h (A.length-1) (by omega);have C:=hA.lt (A.length-1) (by omega);omega
theorem fH.mk'{P M:Int}{Mod:LI}{n:Nat}{gen:LL}(h:cS P M Mod (n:Int) gen=0):fH P M Mod n gen (jX (aB P M Mod) gen n):=by obtain⟨A,E,F,G,hR,C⟩:=iL h;rw[aZ8] at hR C;have hO:=dU A;have B:=(bX hO hR).1;rw[C] at B;have D:=LX B;exact⟨h,A,by omega,by omega,D,B,jI A (by omega) (by omega) hR⟩
theorem fH.O{P M:Int}{Mod:LI}{n:Nat}{gen:LL}{p:LI}(h:fH P M Mod n gen p):(aB P M Mod).Fld (aC P M):=dU h.fld
theorem fH.q{P M:Int}{Mod:LI}{n:Nat}{gen:LL}{p:LI}(h:fH P M Mod n gen p):gW (aC P M) gen:=h.rr.rows.r (by have:=h.O.lt.pos;omega)
def sR(n:Nat)(S:List Nat):Prop:=P1 n (zl S)
theorem sR.lt{n:Nat}{S:List Nat}(h:sR n S){i:Nat}(hi:i∈S):i<n:=by obtain⟨k,A,rfl⟩:=List.mem_iff_getElem.1 hi;have:=(h k (by rw[aY];exact A)).2.1;rw[gJ A,aZ4,aZ3 A] at this;exact Int.ofNat_lt.1 this
theorem sR.len{n:Nat}{S:List Nat}(h:sR n S):S.length<=n:=by
 have A:∀i,i<S.length->i<=S.getD i 0:=by
  intro i
  induction i with
  |zero=>intro _;exact aZ5 _
  |succ i ih=>intro hi;have B:=ih (by omega);have A:=(h (i+1) (by rw[aY];exact hi)).2.2 (by omega);rw[Nat.add_sub_cancel,gJ (by omega),gJ hi] at A;omega
 rcases Nat.eq_zero_or_pos S.length with e|e
 .omega
 .have C:=A (S.length-1) (by omega);have D:=h.lt (i:=S.getD (S.length-1) 0) (by rw[aZ4,aZ3 (by omega)];exact aY6 _);omega
section
variable {w:World} {P M:Int} {n:Nat} {mv gv sv:Value} {Mod:LI} {gen:LL} {p:LI} {S:List Nat}
theorem RF(hm:SI w mv Mod)(hg:SS w gv gen)(t:SI w sv (zl S))(hC:fH P M Mod n gen p)(W:sR n S):
  Calls Tryz.prog 177 #[.agg #[.int .i64 P,.int .i64 M,mv,.int .i64 (n:Int),gv],sv] w (fun e w'=>∃L,GrP (aB P M Mod) (aC P M) gen S L/\e=.returned (.tuple #[.int .i64 (L.length:Nat),.int .i64 0])/\Below w.heap.size w w'):=by
 have J:=zh (dD.mk' w P M mv n gv);have d:=zh hm;have h:=zh hg;have K:=zh t;have A:=zh hC;have f:=zh W;obtain⟨N,Q,rfl,_⟩:=t;have hn1:=hC.n64;have ε:=W.len;rw[aY] at K|-;obtain⟨s,Z⟩:∃s,s=S.length:=⟨_,rfl⟩
 have g:=zh Z;rw[<-Z] at K ε|-;clear hm hg hC W Z;go_enter Tryz.func177,Tryz.ntmps177;go_upto_region 1 with fail;generalize w.alloc (.cells #[.int .i64 P,.int .i64 M,mv,.int .i64 (n:Int),gv] 27)=w0 at*;obtain⟨C,D,E,F,G,_,_,_,_,_⟩:=J.blk.five;go_wp2_with fail;refine(F6 w0 P M n mv gv Mod gen (d.below J.bel zr) A.fld (fun w' hb=>by have B:=aA J.bel hb;have:=eO w' P M n mv gv Mod gen (d.below B zr) (h.below B zr);rwa[A.out.err] at this)).mono ?_;rintro e w1 ⟨a,rfl,v,l⟩;have c:=zh v.out;have R:=zh (J.on l);clear v l C D E F G;obtain⟨C,D,E,F,G,_,_,_,_,_⟩:=R.blk.five;go_upto_region 3 with fail;have x:=Blk.new w1 22 [.slice N s Q];have B:=aF w1 (.cells #[.slice N s Q] 22);have H:=zh (R.on B);have T:=zh (c.on B);have U:=zh (K.below H.bel zr);have V:Hid (SS (w1.alloc (.cells #[.slice N s Q] 22)) (.slice (some ⟨w1.heap.size,0,none⟩) 1 1) [zl S]):=aD ⟨_,1,rfl,by simp,by simp,fun k Y=>by
  obtain rfl:k=0:=by simp at Y;omega
  exact⟨_,_,rfl,by rw[vO];exact x.cell 0,U.out⟩⟩
 clear x B R c;obtain⟨w2,b⟩:∃w2,w2=w1.alloc (.cells #[.slice N s Q] 22):=⟨_,rfl⟩
 rw[<-b] at H T U V;have j:=zh b;clear b;go_wp2_with fail;rw[<-j.out];refine(RK w2 P M n mv gv _ (zl S) V f (by rw[aY,<-g.out];omega) (by omega)).mono ?_;rintro e ζ ⟨rfl,X⟩;have I:=zh (H.on X);have z:=zh (T.on X);clear X H T U V j C D E F G;obtain⟨C,D,E,F,G,_,_,_,_,_⟩:=I.blk.five;go_wp2_with fail;refine(wV ζ a P M n mv gv _ Mod gen S z (h.below I.bel zr) (fun k Y=>(A.rr.rows k Y).1) (K.below I.bel zr) (fun i hi=>f.lt hi) A.O A.q (by have:=A.kn;omega) (by rw[<-g.out];omega)).mono ?_;rintro e ι ⟨L,o,u,rfl,r,m⟩;obtain⟨η,θ,rfl⟩:=r.form';rw[aY];have δ:=zh o;have y:=zh (aA I.bel m);clear o r m C D E F G;go_wp2_with fail;go_ret2;exact⟨L,δ.out,rfl,y.out⟩
structure DN(O:aO)(n:Nat)(gen:LL)(S:List Nat):Prop where
 len:S.length=gen.length
 ris:sR n S
 gen:∀i,i<n->aV O (dF gen S) fun t=>(fR gen i).getD t 0
theorem WR(hm:SI w mv Mod)(hg:SS w gv gen)(T:SI w sv (zl S))(hC:fH P M Mod n gen p)(E:DN (aB P M Mod) n gen S):
  Calls Tryz.prog 117 #[.agg #[.int .i64 P,.int .i64 M,mv,.int .i64 (n:Int),gv],sv] w (fun e w'=>e=.returned (.tuple #[.bool true,.int .i64 0])/\Below w.heap.size w w'):=by
 have A:=zh (dD.mk' w P M mv n gv);have Y:=zh hm;have H:=zh hg;have D:=zh T;have C:=zh hC;have B:=zh E;obtain⟨b,d,rfl,_⟩:=T;obtain⟨U,a,rfl,_⟩:=hg;rw[aY,E.len] at D|-;clear hm hC E;obtain⟨k,F⟩:∃k,k=gen.length:=⟨_,rfl⟩
 have W:=zh F;rw[<-F] at H D A|-;clear F;go_enter Tryz.func117,Tryz.ntmps117;go_upto_region 1 with fail;generalize w.alloc (.cells #[.int .i64 P,.int .i64 M,mv,.int .i64 (n:Int),.slice U k a] 27)=w0 at*;obtain⟨I,J,K,L,N,_,_,_,_,_⟩:=A.blk.five;go_wp2_with fail;refine(RF (Y.below A.bel zr) (H.below A.bel zr) (D.below A.bel zr) C B.ris).mono ?_;rintro e w1 ⟨Z,R,rfl,Q⟩;have G:=zh (A.on Q);have V:Hid (Z.length=k):=aD (by rw[R.all C.out.O C.out.rr B.out.len B.out.gen (fun i hi=>hi),B.out.len,W.out]);rw[V.out];have X:Hid (((k:Nat):Int)==(k:Int)):=aD (by simp);clear R Q I J K L N;obtain⟨I,J,K,L,N,_,_,_,_,_⟩:=G.blk.five;have c:(((k:Nat):Int)==(k:Int))=true:=X.out;go_wp2_with fail;go_ret2;exact⟨by simp,G.bel⟩
end
theorem OM.appd{B g n c:Nat}{X:Nat->Prop}{w w1:World}{l:LL}(h:OM B X w (.slice (some ⟨g,0,none⟩) n c) l)(V:∀b,X b->b<w.heap.size){i:Nat}(hi:i<l.length){u:Value}(O:w.cell? ⟨g,i,none⟩=some u)(hg:w.grownBy w1 u.ownBlock){v:Value}{ys:LI}(Z:OI B w1 v ys)(P:v.ownBlock=u.ownBlock\/v.ownBlock=some w.heap.size):
   OM B X (w1.setCell ⟨g,i,none⟩ v) (.slice (some ⟨g,0,none⟩) n c) (l.set i ys):=by
 have Y:=h.lt (g:=g) rfl;obtain⟨us,h⟩:=h;rw[h.hd hi] at O;obtain rfl:=aZ0 O;have hn:=h.lenEq;subst hn;have W:∀j,j<l.length->∀b,(us j).ownBlock=some b->b<w.heap.size:=fun j D b C=>((h.2.1 j D).1.lt C).2;obtain⟨S,F,K,f⟩:=h;have T:w1.ownsRow B 22 1 (.slice (some ⟨g,0,none⟩) l.length c) l.length ((List.range l.length).map us):=by
   refine World.ownsRow.kept S hg ?_;cases hb:(us i).ownBlock with
   |none=>exact .inr (by intro e;cases e)
   |some b=>exact .inr ((F i hi).2 b hb).1
 have d:=(World.ownsRow.stored T i v).1;have N:=bF w1 g i v;have M:∀b,v.ownBlock=some b->b≠g/\¬X b:=fun b hb=>by
   rcases P with e|e
   . have I:=(F i hi).2 b (by rw[<-e];exact hb);exact⟨fun A=>I.1 (by rw[A];rfl),I.2⟩
   . rw[hb] at e;have e:=aZ0 e;have U:g<w.heap.size:=Y.2;exact⟨by omega,fun m=>by have:=V b m;omega⟩
 have Q:∀j,j<l.length->i≠j->∀b,v.ownBlock=some b->(us j).ownBlock≠some b:=fun j D L b hb A=>by
   rcases P with e|e
   . exact K i j hi D L b (by rw[<-e];exact hb) A
   . rw[hb] at e;have e:=aZ0 e;have:=W j D b A;omega
 refine⟨fun j=>if i=j then v else us j,?_,fun j D=>?_,fun a b J C L G E=>?_,f⟩
 . have e : ((List.range l.length).map us).set i v = (List.range (l.set i ys).length).map fun j => if i = j then v else us j := by
     rw[aZ9];refine List.ext_getElem (by simp) fun k I U=>?_;simp only[List.getElem_set,List.getElem_map,List.getElem_range]
   rw[<-e,aZ9];exact d
 . rw[aZ9] at D;rw[cE];by_cases e:i=j
   . subst e;rw[if_pos ⟨rfl,hi⟩];dsimp only;rw[if_pos rfl];exact⟨Z.grown N fun b C A=>(M b C).1 (aZ0 A).symm,fun b C=>⟨fun A=>(M b C).1 (aZ0 A).symm,(M b C).2⟩⟩
   . rw[if_neg (fun h=>e h.1)];dsimp only;rw[if_neg e];exact⟨((F j D).1.grown hg fun b C A=>K i j hi D e b A C).grown N fun b C A=>((F j D).2 b C).1 A,(F j D).2⟩
 . rw[aZ9] at J C;dsimp only at E|-;by_cases H:i=a
   . rw[if_pos H] at E;rw[if_neg (by omega)];exact Q b C (by omega) G E
   . rw[if_neg H] at E;by_cases A:i=b
     . rw[if_pos A];intro R;exact Q a J H G R E
     . rw[if_neg A];exact K a b J C L G E
def iU(rows:LL)(b:LI):Nat->LL
 |0=>rows
 |k+1=>(iU rows b k).set k (rows.getD k []++[b.getD k 0])
theorem rK(rows:LL)(b:LI):∀k,(iU rows b k).length=rows.length
 |0=>rfl
 |k+1=>by rw[iU,aZ9,rK rows b k]
theorem E6(rows:LL)(b:LI):∀k j,k<=j->(iU rows b k).getD j []=rows.getD j []
 |0,j,_=>rfl
 |k+1,j,h=>by rw[iU,cE,if_neg (fun e=>by omega),E6 rows b k j (by omega)]
theorem E7(rows:LL)(b:LI):∀k j,j<k->j<rows.length->(iU rows b k).getD j []=rows.getD j []++[b.getD j 0]
 |0,j,h,_=>absurd h (aY5 _)
 |k+1,j,h,hl=>by
  rw[iU,cE,rK];by_cases e:k=j
  .subst e;rw[if_pos ⟨rfl,hl⟩]
  .rw[if_neg (fun h=>e h.1),E7 rows b k j (by omega) hl]
theorem IQ{q:Int}(hq:0<q){m:Nat}{rows:LL}{b:LI}(h:Rows q m rows)(hb:∀k,0<=b.getD k 0/\b.getD k 0<q):Rows q (m+1) (iU rows b rows.length):=fun k B=>by
 rw[rK] at B;rw[E7 rows b _ k B B];have A:=h k B;have C:=hb k;generalize rows.getD k []=R at*;generalize b.getD k 0=y at*;refine⟨by rw[aZ1,A.1];rfl,fun i=>?_⟩;by_cases hi:i<m
 .rw[show(R++[y]).getD i 0=R.getD i 0 by simp[List.getD,aY2 (show i<R.length by rw[A.1];exact hi)]];exact A.2 i
 .by_cases e:i=m
  .rw[show(R++[y]).getD i 0=y by rw[e,<-A.1];simp[List.getD]];exact C
  .rw[aW (by rw[aZ1,A.1,aZ2];omega)];exact⟨Int.le_refl _,hq⟩
theorem pC(O:aO)(rows:LL):∀c k,k<(aI O rows c).2.length->0<=(aI O rows c).2.getD k 0/\(aI O rows c).2.getD k 0<c
 |0,k,h=>by simp[aI] at h
 |c+1,k,h=>by
  rw[aI] at h|-;split at h
  .rename_i h1;rw[if_pos h1];split at h
   .rename_i h2;rw[if_pos h2];have:=pC O rows c k h;omega
   .rename_i h2;rw[if_neg h2];dsimp only at h|-;rw[aZ1,aZ2] at h;by_cases e:k<(aI O rows c).2.length
    .have:=pC O rows c k e;rw[show((aI O rows c).2++[(c:Int)]).getD k 0=(aI O rows c).2.getD k 0 by simp[List.getD,aY2 e]];omega
    .obtain rfl:k=(aI O rows c).2.length:=by omega
     rw[show((aI O rows c).2++[(c:Int)]).getD (aI O rows c).2.length 0=(c:Int) by simp[List.getD]];omega
  .rename_i h1;rw[if_neg h1];have:=pC O rows c k h;omega
theorem SS.dropx{w:World}{A:Option Addr}{n c:Nat}{xss:LL}(h:SS w (.slice A n c) xss)(hn:n=xss.length){i:Nat}(hi:i<=n):
  SS w (.slice (if c=i then A else Option.map (fun x=>x.add i) A) (n-i) (c-i)) (xss.drop i):=by
 subst hn;obtain⟨H,c',e,h⟩:=h;cases e;have B:(xss.drop i).length=xss.length-i:=List.length_drop;refine⟨_,c-i,by rw[B],by have:=h.len;omega,by have:=h.cap;omega,fun k F=>?_⟩;rw[B] at F;obtain⟨C,u,rfl,D,G⟩:=h.cell (i+k) (by omega);have E:¬c=i:=by have:=h.cap;omega
 refine⟨C.add i,u,by rw[if_neg E];rfl,by rw[yH];exact D,?_⟩;rw[show(xss.drop i).getD k []=xss.getD (i+k) [] by simp[List.getD]];exact G
theorem JN(w:World)(P M:Int)(m:Nat)(mv Cp Bs:Value)(Mod b:LI)(rows:LL)(hm:SI w mv Mod)(Ci:SS w Cp rows)(hb:SI w Bs b)(Ar:dK P M Mod m rows=0)(ν:b.length=rows.length)(Ao:∀k,0<=b.getD k 0/\b.getD k 0<aC P M):
  Calls Tryz.prog 58 #[.agg #[.int .i64 P,.int .i64 M,mv],.agg #[.int .i64 (m:Int),Cp],Bs] w (fun e w'=>∃(A:Option Addr) (l c:Nat) (Dj:Int),e=.returned (.tuple #[.slice A l c,.int .i64 Dj])/\Below w.heap.size w w'):=by
 have Cz:=zh hm;have Ag:=zh Ci;have j:=zh hb;have Cx:=zh Ar;obtain⟨Ca,_,hn,Do,hR⟩:=dE Ar;rw[aZ8] at hR;have Ce:=aK P M;have Au:=eW Ca.1 Mod;have χ:=zh (IQ (by have:=Au.pos;omega) hR Ao);have η:=zh (rK rows b);have Cs:=zh (E6 rows b);have Cy:=zh (mV (q:=aC P M) (l:=b) fun k _=>Ao k);have κ:Hid (∀k,k<rows.length->(rows.getD k []).length=m):=aD fun k X=>(hR k X).1;have Ct:Hid (∀k,iU rows b (k+1)=(iU rows b k).set k (rows.getD k []++[b.getD k 0])):=aD fun k=>rfl;have n:=zh (lQ Au χ.out m (show aI (aB P M Mod) (iU rows b rows.length) m=((aI (aB P M Mod) (iU rows b rows.length) m).1,(aI (aB P M Mod) (iU rows b rows.length) m).2) from rfl));have ι:=zh (pC (aB P M Mod) (iU rows b rows.length) m);have Ej:=fun(w:World)=>dV m (by omega) w;obtain⟨Br,Co,rfl,_⟩:=Ci;obtain⟨Dv,Dx,rfl,_⟩:=hb;rw[ν] at j|-;clear hm Ar Ca hR Au Ce;obtain⟨r,Az⟩:∃r,r=rows.length:=⟨_,rfl⟩
 rw[<-Az] at Ag κ n ι χ Do j ν|-;have V:=zh Az;have Bi:=zh ν;clear Az ν Ao;obtain⟨w1,D,hq,Dp⟩:∃w1,(w.alloc (.cells #[.int .i64 P,.int .i64 M,mv] 24)).alloc (.cells #[.int .i64 (m:Int),.slice Br r Co] 86)=w1/\fU w w1 P M mv m (.slice Br r Co)/\w1.heap.size=w.heap.size+1+1:=⟨_,rfl,fU.mk' w P M mv m _,by rw[World.size_alloc,World.size_alloc]⟩
 have I:=zh hq;have Bj:=zh D;clear hq D;go_enter Tryz.func58,Tryz.ntmps58;go_upto_region 1 with fail;rw[Bj.out];clear Bj;have c0:=I.fb.c0;have c1:=I.fb.c1;have c2:=I.fb.c2;have d0:=I.d0;have d1:=I.d1;go_wp2_with fail;refine(oF w w1 P M m _ mv _ Mod rows I.fb.bel Dp Cz Ag Cx).mono ?_;rintro e w2 ⟨a,rfl,hg,Bw⟩;have Bk:=zh hg;have F:=zh (I.on Bw);clear hg Bw c0 c1 c2 d0 d1 I;have d1:=F.d1;go_wp2_with fail;refine(uU w2 a P M Mod b _ Bk (j.below F.fb.bel zr)).mono ?_;rintro e Er ⟨rfl,rfl⟩;rw[Cy.out];go_wp2_with fail;refine(tF w2 _ rows (Ag.below F.fb.bel zr) (by rw[<-V.out];omega)).mono ?_;rintro e f ⟨Eo,rfl,ρ,δ⟩;obtain⟨W,d,rfl⟩:=ρ.form;rw[<-V.out] at ρ|-;have Bm:Hid (OM w2.heap.size (fun g=>g<w2.heap.size) f (.slice W r d) (iU rows b 0)):=aD ρ;have C:=zh δ;clear ρ δ d1;go_wp2_with fail;go_loopw [47] (fun Q wr=>∃k:Nat,k<=r/\Q=.int .i64 (k:Int)/\Hid (OM w2.heap.size (fun g=>g<w2.heap.size) wr (.slice W r d) (iU rows b k))/\Hid (Below w2.heap.size w2 wr)) (fun Q _=>r-(intOf Q).toNat)
 case atStart=>exact⟨0,aZ5 _,rfl,Bm,C⟩
 case round=>
  clear Bm C;obtain⟨k,X,rfl,O,B⟩:=hrel;by_cases E:k<r
  .have Cc:k<(iU rows b k).length:=by rw[η.out,<-V.out];exact E
   obtain⟨g,c',e,Ee,Ef⟩:=O.formP (by omega);injection e with D μ Aj;subst D;subst Aj;clear μ;obtain⟨u,τ,Y,Av⟩:=O.row Cc;rw[Cs.out k k zr] at Y;obtain⟨s,y,rfl,Ap,Cm,Dg⟩:=(j.below (aA F.fb.bel B) zr).elt (k:=k) (by rw[Bi.out];exact E);obtain⟨Ai,Be,rfl⟩:=Y.form';have H:(rows.getD k []).length=m:=κ.out k E;rw[H] at τ Av Y;have Db:=zh Y;have Ed:=O.frozen k;have θ:Hid (∀t,I64 (([y]:LI).getD t 0)):=aD fun t=>by
    match t with
    |0=>exact Cm.out
    |t+1=>exact I64.zero
   have ω:Hid (∀b,(Value.slice Ai m Be).ownBlock=some b->w2.heap.size<=b/\b≠g):=aD fun b hb=>⟨(Y.lt hb).1,(Av b hb).1⟩
   have Bh:Hid (s.block<w2.heap.size):=aD (by
    obtain⟨Dy,_,e,Dk,_,_⟩:=(j.below F.fb.bel zr).elt (k:=k) (by rw[Bi.out];exact E);injection e with e;subst e;have:=World.block_lt_of_cell? _ _ Dk;rwa[bS] at this)
   have Dm:m+1<=17592186044416:=by omega
   have Ba:w2.heap.size<=wr.heap.size:=B.size;clear H Av Y Cm;go_upto_region 13 with fail;refine aM.start (S:=fun w'=>w'.cell? ⟨g,k,none⟩=some (.slice Ai m Be)/\w'.cell? (s.add k)=some (.int .i64 y)) (by kernel_rfl) (⟨τ,Ap⟩) (fun v=>?_);change aM _ _ _ _ 14 _ _ _;refine dq 0 ?_;refine dq 1 ?_;refine dq 2 ?_;refine dq 3 ?_;refine dq 4 ?_;refine dq 5 ?_;refine dq 6 ?_;refine dq 7 ?_;refine dq 8 ?_;refine dq 9 ?_;try simp only[tz]
   refine aM.only (i:=10) (o:=?op1) (by kernel_rfl) ?ho1 (fun K hK=>?_)
   case ho1=>(conv=>lhs;simp only[tdg,tdh,tdi])
   go_simp;obtain⟨f,Eb,D,μ,z,δ⟩:=uV wr 3 [.int .i64 y];rw[D,μ];have De:=zh z;have C:=zh δ;clear D μ z δ;have φ:=aE C.out τ;have Bd:=aE C.out Ap;refine hK.out _ _ (fun _=>⟨φ,Bd⟩) (fun G=>?_);clear hK K;replace v:=G (by decide);clear G;try simp only[tz]
   refine aM.only (i:=11) (o:=?op2) (by kernel_rfl) ?ho2 (fun K hK=>?_)
   case ho2=>(conv=>lhs;simp only[tdg,tdh,tdi])
   refine oQ rfl _ _ rfl w2.heap.size _ _ rfl (Db.below C zr) _ [y] rfl (RI.si (xs:=[y]) De (by simp) θ) (by rw[κ.out k E];exact Dm) (by have:=C.size;omega) ?_;intro Ep ζ Aw ξ Cj;obtain⟨Cq,Di,Ck⟩:=Aw.form';rw[aZ1,κ.out k E,aZ2] at Ck;subst Ck;have Da:=zh Aw;have Bl:=zh ξ;have Dd:=zh Cj;have As:=ξ.block g (by have:=C.size;omega) (fun e=>(ω _ e.symm).2 rfl);have Bz:=ξ.block s.block (by have:=C.size;have:=Bh.out;omega) (fun e=>by have:=(ω _ e.symm).1;have:=Bh.out;omega);have x1:ζ.cell? ⟨g,k,none⟩=some (.slice Ai m Be):=(World.cell?_of_block (w:=f) (a:=⟨g,k,none⟩) As).trans φ;have x2:ζ.cell? (s.add k)=some (.int .i64 y):=(World.cell?_of_block (w:=f) (a:=s.add k) (by rw[bS];exact Bz)).trans Bd;have Cb:f.frozen? ⟨g,k,none⟩=false:=(O.below C).frozen k;have Du:ζ.frozen? ⟨g,k,none⟩=false:=(World.frozen?_of_block (w:=f) (a:=⟨g,k,none⟩) As).trans Cb;clear Aw ξ Cj As Bz Cb;refine hK.out _ _ (fun _=>⟨x1,x2⟩) (fun G=>?_);clear hK K;replace v:=G (by decide);clear G;try simp only[tz]
   refine dq 12 ?_;try simp only[tz]
   refine aM.only (i:=13) (by kernel_rfl) rfl (fun K hK=>?_);go_simp;refine hK.out _ _ (fun h=>absurd rfl h) (fun G=>?_);clear hK K;clear G;refine aM.done (by kernel_rfl) ?_;try simp only[tz]
   clear v;have Bn:=zh ((O.below C).appd (fun b hb=>aY1 hb (aZ6 Ba C.size)) Cc φ Bl Da Dd);have Am:=Ct.out k;rw[Dg.out] at Am;rw[<-Am] at Bn;have An:Below w2.heap.size w2 ζ:=(B.trans (C.mono Ba)).grown Bl.out (aZ6 Ba C.size) (fun b e=>(ω.out b e).1);have Cw:=zh (An.grown (bF ζ g k (.slice Cq (m+1) Di)) An.size (fun b e=>by have:=aZ0 e;omega));clear An Am x1 x2 Du φ Bd τ Ap;go_wp2_with fail;exact⟨⟨k+1,by omega,by push_cast;rfl,Bn,Cw⟩,by simp only[intOf];omega⟩
  .obtain rfl:r=k:=by omega
   clear E X;have J:=(F.on B).d0;have Dl:=(F.on B).fb.c0;go_upto_region 15 with fail;go_wp2_with fail;refine(CR w2 wr a P M m (m+1) Mod (.slice W r d) (iU rows b r) Bk O B χ (by omega) (by omega) (by rw[η.out,<-V.out];omega)).mono ?_;rintro e T ⟨Dt,Dz,rfl,Ax,π,Bx⟩;obtain⟨R,At⟩:∃R,R=(aI (aB P M Mod) (iU rows b r) m).1:=⟨_,rfl⟩
   obtain⟨Z,σ⟩:∃Z,Z=(aI (aB P M Mod) (iU rows b r) m).2:=⟨_,rfl⟩
   rw[<-At,<-σ] at n;rw[<-σ] at ι;rw[<-At] at Ax;rw[<-σ] at π;clear At σ;have U:Hid (R.length=r):=aD (by rw[n.out.2.1,η.out,<-V.out]);have Ac:Hid (Rows (aC P M) (m+1) R):=aD n.1;have Ch:Z.length<=r:=by have:=n.2.2.1;rwa[η.out,<-V.out] at this
   have Af:Hid (SS T (.slice W r d) R):=aD ((Ax.os (fun i hi=>by have Al:=Ac.out i hi;have Ce:=aK P M;exact⟨by rw[Al.1];omega,fun k=>I64.of_small (by have:=Al.2 k;omega) (by have:=Al.2 k;omega)⟩)).ss (by rw[U.out];omega));have Bp:Hid (SI T Dt Z):=aD (π.si (by omega) (fun k=>by
    by_cases h:k<Z.length
    .have:=ι.out k h;exact I64.of_small (by omega) (by omega)
    .rw[aW (by omega)];exact I64.zero))
   obtain⟨Dw,Em,rfl⟩:=π.form';have Bg:=zh Bx;obtain⟨pl,Ay⟩:∃pl,pl=Z.length:=⟨_,rfl⟩
   rw[<-Ay] at Bp Ch|-;have Bo:=zh Ay;have Ek:r<=d:=by have:=Af.capLe;omega
   have Aa:=zh (Af.dropx U.symm Ch);obtain⟨Bf,Bu⟩:∃Bf,(if d=pl then W else Option.map (fun x=>x.add pl) W)=Bf:=⟨_,rfl⟩
   rw[Bu] at Aa;have θ:Hid (Below w.heap.size w T):=aD (F.on Bg).fb.bel;have Ab:=zh (F.on Bg);clear Ay Ax π Bx J Dl O B;have J:=Ab.d0;go_wp2_with fail;clear Bu;go_loop [77] (fun i=>∃k:Nat,k<=r-pl/\i=.int .i64 (k:Int)) (fun i=>r-pl-(intOf i).toNat)
   case atStart=>exact⟨0,aZ5 _,rfl⟩
   case round=>
    obtain⟨k,X,rfl⟩:=hrel;by_cases E:k<r-pl
    .obtain⟨Ea,Cr,Bt,row,rfl,ε,Ae,Ad⟩:=Aa.eltA (k:=k) (by rw[List.length_drop,U.out];exact E);have H:row.length=m+1:=by
      rw[<-Ad.out,show(R.drop pl).getD k []=R.getD (pl+k) [] by simp[List.getD]];exact(Ac (pl+k) (by rw[U.out];omega)).1
     obtain⟨Bc,y,rfl,Aq,_,_⟩:=Ae.elt (k:=m) (by rw[H];omega);rw[H] at ε;by_cases Bb:y=0
     .subst Bb;go_wp2_with fail;go_round
      case rel=>exact⟨k+1,by omega,by go_num⟩
      case measure=>simp[intOf];omega
     .have El:(y !=0)=true:=by rw[bne_iff_ne];exact Bb
      clear Bb;go_wp2_with fail;go_ret2;exact⟨⟨none,0,0,11,rfl⟩,θ.out⟩
    .clear Aa;go_upto_region 23 with fail;obtain⟨Es,gx,D,Aj,z,By⟩:=EC T m;rw[D,Aj];have Bq:=zh z;have ψ:=zh By;clear D z By J X E;have J:=(Ab.on ψ).d0;go_wp2_with fail;go_loopw [93] (fun Q wr=>∃(k:Nat) (xs:LI),k<=pl/\Q=.int .i64 (k:Int)/\xs.length=m/\Hid (RI wr gx xs)/\Hid (Below T.heap.size T wr)) (fun Q _=>pl-(intOf Q).toNat)
     case atStart=>exact⟨0,_,aZ5 _,rfl,List.length_replicate,Bq,ψ⟩
     case round=>
      clear Bq ψ J;obtain⟨k,xs,X,rfl,Cl,Ah,B⟩:=hrel;by_cases Cd:k<pl
      .obtain⟨En,p,rfl,Ec,_,Dc⟩:=(Bp.below B zr).elt (k:=k) (by rw[<-Bo.out];exact Cd);have Cf:=ι.out k (by rw[<-Bo.out];exact Cd);rw[Dc.out] at Cf;obtain⟨N,rfl⟩:∃N:Nat,p=(N:Int):=⟨p.toNat,by omega⟩
       have Dn:N<m:=by omega
       clear Cf;obtain⟨Dh,Cr,Bt,row,rfl,ε,Ae,Ad⟩:=(Af.below B zr).eltA (k:=k) (by rw[U.out];omega);have H:row.length=m+1:=by rw[<-Ad.out];exact(Ac k (by rw[U.out];omega)).1
       obtain⟨Bc,y,rfl,Aq,_,_⟩:=Ae.elt (k:=m) (by rw[H];omega);obtain⟨L,Bv⟩:∃L,L=m+1:=⟨_,rfl⟩
       have Ei:m<L:=by omega
       rw[H,<-Bv] at ε;clear Bv H;have J:=(Ab.on B).d0;have Dq:=Ah.cell N (by rw[Cl];exact Dn);have Dr:=Ah.frozen N;have Eh:k<r:=by omega
       have Eg:T.heap.size<=gx:=by omega
       go_upto_region 26 with fail;refine aM.start (S:=fun w'=>w'.cell? ⟨w.heap.size+1,0,none⟩=some (.int .i64 (m:Int))/\w'.cell? (Dh.add k)=some (.slice (some Bc) L Bt)/\w'.cell? (Bc.add m)=some (.int .i64 y)) (by kernel_rfl) (⟨J,ε,Aq⟩) (fun v=>?_);change aM _ _ _ _ 12 _ _ _;refine dq 0 ?_;refine dq 1 ?_;refine dq 2 ?_;refine dq 3 ?_;refine dq 4 ?_;refine dq 5 ?_;refine dq 6 ?_;refine dq 7 ?_;refine dq 8 ?_;refine dq 9 ?_;refine dq 10 ?_;try simp only[tz]
       refine aM.only (i:=11) (by kernel_rfl) rfl (fun K hK=>?_);go_simp;refine hK.out _ _ (fun h=>absurd rfl h) (fun G=>?_);clear hK K;clear G;refine aM.done (by kernel_rfl) ?_;try simp only[tz]
       clear v;have Df:=zh (Ah.set N y);have Cv:=zh ((B.trans ((aH wr).mono B.size)).grown (bF wr.drew gx N (.int .i64 y)) B.size (fun b e=>by have:=aZ0 e;omega));have Ds:(xs.set N y).length=m:=by rw[aZ9];exact Cl
       clear Dq Dr ε Aq J;go_wp2_with fail;exact⟨⟨k+1,_,by omega,by push_cast;rfl,Ds,Df,Cv⟩,by simp only[intOf];omega⟩
      .have Cu:=zh (aA θ B);go_wp2_with fail;go_ret2;exact⟨some ⟨gx,0,none⟩,m,m,0,rfl,Cu.out⟩
end Go.Proofs.YtpfhoemohibniaaGreatDoor
