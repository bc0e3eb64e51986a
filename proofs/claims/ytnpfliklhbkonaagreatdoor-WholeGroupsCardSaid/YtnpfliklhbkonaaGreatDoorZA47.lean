/- Parts. -/
import Derived.Test.YtnpfliklhbkonaaGreatDoorZA45
import Derived.Lib.JoinLaws
set_option maxRecDepth 99999
set_option maxHeartbeats 0
set_option linter.unusedVariables false
namespace Go.Proofs.YtnpfliklhbkonaaGreatDoor
open Go.Proofs.Tryz
section
open Go.RowKit
def ofF(O:aQ)(q:Nat)(perm sc:LI)(t:Nat):Int:=perm (t/(q-1)) 0*((q-1:Nat):Int)+O.mul (sc (t/(q-1)) 0) (((t%(q-1):Nat):Int)+1)-1
def ofL(O:aQ)(q n:Nat)(perm sc:LI):LI:=aT (n*(q-1)) (ofF O q perm sc)
theorem pI(O:aQ)(q n:Nat)(perm sc:LI):(ofL O q n perm sc).length=n*(q-1):=aW _ _
theorem NU(f:Nat->Int)(k:Nat):aT (k+1) f=aT k f++[f k]:=by unfold aT;rw[List.range_succ,List.map_append];rfl
theorem XU{O:aQ}{q i a:Nat}{perm sc:LI}(C:1<=a)(D:a<q):ofF O q perm sc (i*(q-1)+(a-1))=perm i 0*((q-1:Nat):Int)+O.mul (sc i 0) (a:Int)-1:=by
 have A:(i*(q-1)+(a-1))/(q-1)=i:=by rw[Nat.mul_comm,Nat.mul_add_div om,Nat.div_eq_of_lt om,Nat.add_zero]
 have B:(i*(q-1)+(a-1))%(q-1)=a-1:=by rw[Nat.mul_comm,Nat.mul_add_mod,Nat.mod_eq_of_lt om]
 unfold ofF;rw[A,B];congr 3;omega
theorem BU(w:Wo)(n q:Nat)(hn:n<=64)(hq:1<=q)(C:q<=256)(h:n*(q-1)<=64):Calls prog 21 #[n,q] w (fun e w'=>e=.returned (.tuple #[.int .i64 ((n*(q-1):Nat):Int),z0])/\w=w'):=by
 obtain⟨p,rfl⟩:∃p,q=p+1:=⟨q-1,om⟩
 rw[Nat.add_sub_cancel] at h|-;obtain⟨z,A⟩:=xE (n*p);have F:(n:Int)*(p:Int)=(z:Int):=by rw[A];push_cast;rfl
 have B:((p+1:Nat):Int)-1=(p:Int):=om;have D:wrap64 (p:Int)=(p:Int):=by unfold wrap64;omega
 have E:wrap64 (z:Int)=(z:Int):=by unfold wrap64;omega
 rw[<-A] at h|-;have G:¬(64:Int)<(z:Int):=om;clear A;go_enter func21,ntmps21;go_wp2;go_ret2;exact⟨rfl,rfl⟩
theorem NX(n:Nat)(h:n<=1000000)(w:Wo):(Instr.makeSlice 22 (z0:aV) (n:aV)).run prog w=.ok (.slice w 0 n) (w.alloc (.cells (madeCells #[z0] n) 3)):=
 run_make_room (P:=prog) 22 3 (z0:aV) 8 underlying22 infoInt rfl .i64 .i64 n om om w
theorem cf(w:Wo)(n:Nat)(hn:n<=1000000):∃w' g,w.alloc (.cells (madeCells #[z0] n) 3)=w'/\w.heap.size=g/\OI w w' (.slice (some ⟨g,0,none⟩) 0 n) []/\Below w w w':=
 ⟨_,_,rfl,rfl,⟨rfl,.inr ⟨w.heap.size,n,madeCells #[z0] n,rfl,zr,heap_alloc_new w _,aZ5 _,by unfold maxLen;omega,by simp[size_madeCells],by simp⟩⟩,aH w _⟩
theorem VD(w:Wo)(a n q:Nat)(P M:Int)(Mq:LI)(pv sv:Va)(perm sc:LI)(ξ:GF w a P M Mq)(hO:(aD P M Mq).Fld (aF P M))(hq:aF P M=(q:Int))(Bc:2<=q)(Bd:q<=256)(τ:SI w pv perm)(φ:SI w sv sc)(Q:lN (aF P M) M n perm sc 0)(hn:n<=64)(χ:n*(q-1)<=64):
 Calls prog 23 #[.pointer a,.agg #[pv,sv,z0]] w (sN w (ofL (aD P M Mq) q n perm sc)):=by
 have ε:=zh ξ;have η:=zh τ;have ι:=zh φ;have Ae:=zh Q;have Ac:=zh Q.isP;have θ:=zh hq;have Af:=zh (fun x y=>hO.lt.mul x y);obtain⟨p,rfl⟩:∃p,q=p+1:=⟨q-1,om⟩
 have u:=zh (fun(i b:Nat) (G:1<=b) (c:b<p+1)=>XU (O:=aD P M Mq) (perm:=perm) (sc:=sc) (i:=i) G c);have R:Hid (ofL (aD P M Mq) (p+1) n perm sc=aT (n*p) (ofF (aD P M Mq) (p+1) perm sc)):=aG rfl;rw[R.out];rw[Nat.add_sub_cancel] at χ u;generalize ofF (aD P M Mq) (p+1) perm sc=F at*;obtain⟨ν,l,rfl,_⟩:=τ;obtain⟨Y,m,rfl,_⟩:=φ;rw[Q.pl] at η|-;rw[Q.sl] at ι|-;obtain⟨z,U⟩:=xE (n*p);have Ao:=zh U;have Ax:(n:Int)*(p:Int)=(z:Int):=by rw[U];push_cast;rfl
 have Bb:((p+1:Nat):Int)-1=(p:Int):=om;have Be:wrap64 (p:Int)=(p:Int):=by unfold wrap64;omega
 have Aw:wrap64 (z:Int)=(z:Int):=by unfold wrap64;omega
 rw[<-U] at χ|-;have Au:=fun(w:Wo)=>NX z om w;clear ξ hO hq Q U R;go_enter func23,ntmps23;go_upto_region 1 with fail;obtain⟨w1,t3,K,L,π,N⟩:=aR w 29 [.slice ν n l,.slice Y n m,.int .i64 0];rw[K,L];have r:=zh N;have κ:=zh π;have Ab:=zh (ε.on N);clear K L π N;obtain⟨H,I,J⟩:=κ.monB;go_wp2_with fail;apply(fI w1 a P M Mq Ab).mono;rintro e w2⟨rfl,rfl⟩;rw[θ.out];go_upto_region 3 with fail;obtain⟨w2,g,K,L,σ,S⟩:=cf w1 z om;rw[K,L];have t:=zh (aC r S);have ζ:Hid (OI w w2 (.slice g 0 z) (aT (0*p) F)):=aG (by rw[Nat.zero_mul];exact σ.mono r.size);have X:=zh (κ.belowS S);clear K L σ S H I J;obtain⟨H,I,J⟩:=X.monB;go_wp2_with fail;clear H I J;clear Ax Aw Au;go_loopw [6,22] (fun v j wr=>∃i:Nat,i<=n/\j=(i:aV)/\Hid (OI w wr v (aT (i*p) F))/\Hid (Below w w wr)/\Hid (Blk wr t3 29 [.slice ν n l,.slice Y n m,.int .i64 0])) (fun _ j _=>n-(intOf j).toNat)
 .exact⟨0,aZ5 _,rfl,ζ,t,X⟩
 .
  clear ζ t X;obtain⟨i,hi,rfl,D,C,E⟩:=hrel;by_cases ρ:i<n
  .obtain⟨Az,y,rfl,As,Bi,An⟩:=(η.below C zr).perm Ac.out ρ;go_wp2_with fail;clear As;go_loopw [6,9] (fun v Z wr=>∃b:Nat,1<=b/\b<=p+1/\Z=(b:aV)/\Hid (OI w wr v (aT (i*p+(b-1)) F))/\Hid (Below w w wr)/\Hid (Blk wr t3 29 [.slice (some Az) n l,.slice Y n m,.int .i64 0])) (fun _ Z _=>p+1-(intOf Z).toNat)
   .exact⟨1,zr,om,rfl,by rw[Nat.sub_self,Nat.add_zero];exact D,C,E⟩
   .
    clear D C E;obtain⟨b,N,S,rfl,D,C,E⟩:=hrel;by_cases Aq:b<p+1
    .have Ap:(b:Int)<(p:Int)+1:=om;obtain⟨Bk,s,rfl,Ar,_,Ak⟩:=(ι.below C zr).elt (k:=i) (by rw[Ae.out.sl];exact ρ);obtain⟨H,I,J⟩:=E.monB;obtain⟨A,h⟩:=xE (y*p);have Ay:(y:Int)*(p:Int)=(A:Int):=by rw[h];push_cast;rfl
     have Bj:A<=64*255:=by rw[h];exact Nat.mul_le_mul om om
     have Bf:wrap64 (A:Int)=(A:Int):=by unfold wrap64;omega
     have δ:=zh (u.out i b N Aq);rw[An.out,Ay,Ak.out] at δ;clear h;go_wp2_with fail;apply(lE wr a P M s (b:Int) Mq (ε.on C)).mono;rintro e o⟨rfl,T⟩;have Ba:0<=bM P M Mq s (b:Int)/\bM P M Mq s (b:Int)<(p:Int)+1:=by have G:=Af.out s (b:Int);rw[θ.out] at G;have c:(aD P M Mq).mul s (b:Int)=bM P M Mq s (b:Int):=rfl;rw[c] at G;omega
     have Aa:Hid (F (i*p+(b-1))=(A:Int)+bM P M Mq s (b:Int)-1):=aG δ.out;generalize bM P M Mq s (b:Int)=B at*;have Bg:wrap64 ((A:Int)+B)=(A:Int)+B:=by unfold wrap64;omega
     have Bh:wrap64 ((A:Int)+B-1)=(A:Int)+B-1:=by unfold wrap64;omega
     have ψ:=zh (aC C T);have Al:=zh (E.belowS T);have W:=zh ((D.below T zr).alloc (.cells #[.int .i64 ((A:Int)+B-1)] 3));have Ag:=zh (Blk.new o 3 [.int .i64 ((A:Int)+B-1)]);have V:=zh (aC ψ (aH o (.cells #[.int .i64 ((A:Int)+B-1)] 3)));have μ:=zh (Al.alloc (.cells #[.int .i64 ((A:Int)+B-1)] 3));have At:i*p+(b-1)+1<=64*300:=by have:i*p<=64*255:=Nat.mul_le_mul om om;omega
     have Ad:Hid ((aT (i*p+(b-1)) F).length+1<=17592186044416):=aG (by rw[aW];omega);have Aj:Hid (aT (i*p+(b+1-1)) F=aT (i*p+(b-1)) F++[(A:Int)+B-1]):=aG (by rw[show i*p+(b+1-1)=i*p+(b-1)+1 from om,NU,Aa.out]);clear T H I J Ar At;go_wp2_with (
      at_builtin;refine dP rfl _ _ rfl w u6 (aT (i*p+(b-1)) F) rfl W.out o 1 ((A:Int)+B-1) rfl (Ag.cell 0) Ad.out V.size ?_;intro v9 w9 f d Av;rw[<-Aj.out] at f;have Ah:=zh f;have ω:=zh (W.bgrown V V.size d);have Am:=zh (μ.grown d (fun e=>W.ne_blk μ dC e.symm));clear f d Av)
     exact⟨⟨b+1,om,om,pC,Ah,ω,Am⟩,oI⟩
    .have Ap:¬(b:Int)<(p:Int)+1:=om;have Ai:Hid (OI w wr u6 (aT ((i+1)*p) F)):=aG (by
      have G:i*p+(b-1)=(i+1)*p:=by rw[Nat.add_mul,Nat.one_mul];omega
      rw[<-G];exact D.out)
     go_wp2;exact⟨⟨i+1,om,pC,Ai,C,E⟩,oI⟩
  .obtain rfl:n=i:=om;have R:Hid (OI w wr u6 (aT z F)):=aG (Ao.out▸D.out);go_wp2;go_ret;exact⟨_,rfl,R.out,C.out⟩
theorem L0(w:Wo)(n q:Nat)(P M:Int)(mv pv sv:Va)(Mq perm sc:LI)(L:SI w mv Mq)(H:cZ P M Mq)(ψ:1<=n)(hn:n<=64)(hq:aF P M=(q:Int))(Ab:2<=q)(δ:q<=256)(N:SI w pv perm)(O:SI w sv sc)(J:lN (aF P M) M n perm sc 0)(ε:n*(q-1)<=64):
 Calls prog 9 #[.agg #[P,M,mv],.agg #[pv,sv,z0]] w (fun e w'=>∃u,e=.returned (.tuple #[u,z0])/\OI w w' u (ofL (aD P M Mq) q n perm sc)/\Below w w w'):=by
 have hO:=dR H;have θ:=zh (fun(w':Wo) (C:Below w w w')=>CJ w' P M 0 n mv pv sv Mq perm sc (L.below C zr) H ψ hn (N.below C zr) (O.below C zr));have ν:=zh (fun(w':Wo) (C:Below w w w')=>oO w' P M mv Mq (L.below C zr) H);have π:=zh (fun(w':Wo) (C:Below w w w') (a:Nat) (ω:GF w' a P M Mq)=>VD w' a n q P M Mq pv sv perm sc ω hO hq Ab δ (N.below C zr) (O.below C zr) J hn ε);have ρ:=zh (fun(w':Wo)=>BU w' n q hn om δ ε);have σ:=zh hq;have μ:=zh J;obtain⟨τ,Ac,rfl⟩:∃(A:OA) (c:Nat),pv=.slice A n c:=(by obtain⟨x,y,e,_⟩:=N;exact⟨_,_,by rw[e,J.pl]⟩)
 obtain⟨φ,Ae,Ad,rfl⟩:∃(A:OA) (l c:Nat),sv=.slice A l c:=(by obtain⟨x,y,e,_⟩:=O;exact⟨_,_,_,e⟩)
 obtain⟨R,S,Y,rfl⟩:∃(R:OA) (S Y:Nat),mv=.slice R S Y:=(by obtain⟨x,y,e,_⟩:=L;exact⟨_,_,_,e⟩)
 clear L H hq N O J hO;go_enter func9,ntmps9;go_upto_region 1 with fail;obtain⟨w1,t2,t3,k,m,o,s,t,p⟩:=FQ w [(P:aV),(M:aV),.slice R S Y] [.slice τ n Ac,.slice φ Ae Ad,.int .i64 0] 24 29;rw[k,o,m];have b:=zh p;have f:=zh s;have h:=zh t;clear k m o s t p;obtain⟨T,U,V,_,_,_⟩:=f.three;obtain⟨B,D,E⟩:=h.monB;go_wp2_with fail;apply(θ.out w1 b).mono;rintro e w2⟨χ,rfl,v,I⟩;obtain rfl:χ=0:=v.2 μ.out;have d:=zh (aC b I);have ι:=zh (f.belowS I);have i:=zh (h.belowS I);clear v I T U V B D E;obtain⟨T,U,V,_,_,_⟩:=ι.three;obtain⟨B,D,E⟩:=i.monB;go_wp2_with fail;apply(ν.out w2 d).mono;rintro e G⟨a,rfl,X,W⟩;have ζ:=zh (aC d W);have j:=zh (i.belowS W);have Af:=zh X.out;have g:=zh (X.out.on (aI G));clear X W T U V B D E;obtain⟨B,D,E⟩:=j.monB;go_upto_region 9 with fail;refine ta 11 B fun F=>?_;refine tq 0 ?_;refine tq 1 ?_;refine tq 2 ?_;refine tq 3 ?_;try simp only[tz]
 refine tn 4 fun K hK=>?_;go_simp;apply(fI G.drew a P M Mq g).mono;rintro e Z⟨rfl,rfl⟩;rw[σ.out];refine hK.out _ _ (B) ?_;clear hK K F;intro F;try simp only[tz]
 refine tn 5 fun K hK=>?_;go_simp;apply(ρ.out G.drew).mono;rintro e Z⟨rfl,rfl⟩;refine hK.out _ _ (B) ?_;clear hK K F;intro F;try simp only[tz]
 refine tq 6 ?_;refine tq 7 ?_;refine tq 8 ?_;refine tq 9 ?_;try simp only[tz]
 refine tn 10 fun K hK=>?_;go_simp;refine hK.out _ _ F fun _=>?_;refine tw ?_;try simp only[tz]
 clear F;have Q:=zh (aC ζ (aI G));have κ:=zh (j.belowS (aI G));generalize G.drew=Z at*;clear B D E;obtain⟨B,D,E⟩:=κ.monB;go_wp2_with fail;apply(π.out Z Q.out a g).mono;rintro e Ag⟨u,rfl,z,r⟩;have ξ:=zh (z.mono Q.size);have η:=zh (aC Q r);clear z r B D E;go_wp2;go_ret2;exact⟨u,rfl,ξ.out,η.out⟩
theorem VE(w:Wo)(n q:Nat)(P M:Int)(mv gv:Va)(Mq:LI)(gen:LL)(J:SI w mv Mq)(S:SS w gv gen)(O:fE P M Mq (n:Int) gen=0)(hq:aF P M=(q:Int))(θ:2<=q)(ζ:q<=256)(η:n*(q-1)<=64):
 Calls prog 44 #[.agg #[P,M,mv,n,gv]] w (fun e w'=>∃a,e=.returned (.tuple #[.pointer (some ⟨a,0,none⟩),.int .i64 ((n*(q-1):Nat):Int),z0])/\GF w' a P M Mq/\Below w w w'):=by
 obtain⟨f,hn1,ε,δ,v,z⟩:=fP O;have W:=zh (fun(w':Wo) (C:Below w w w')=>kG w' P M n mv gv Mq gen (J.below C zr) (S.below C zr));rw[O] at W;have o:=zh (fun(w':Wo) (C:Below w w w')=>oO w' P M mv Mq (J.below C zr) f);have p:=zh (fun(w':Wo)=>BU w' n q om om ζ η);have r:=zh hq;obtain⟨j,gl,t,rfl⟩:∃(A:OA) (l c:Nat),gv=.slice A l c:=(by obtain⟨x,y,e,_⟩:=S;exact⟨_,_,_,e⟩)
 obtain⟨L,N,T,rfl⟩:∃(L:OA) (N T:Nat),mv=.slice L N T:=(by obtain⟨x,y,e,_⟩:=J;exact⟨_,_,_,e⟩)
 clear J S O hq f hn1 ε δ v z;go_enter func44,ntmps44;go_upto_region 1 with fail;obtain⟨w1,ι,b,d,C,g⟩:=aR w 27 [(P:aV),(M:aV),.slice L N T,(n:aV),.slice j gl t];rw[b,d];have U:=zh g;have Y:=zh C;clear b d C g;obtain⟨E,F,G,B,H,_,_,_,_,_⟩:=Y.five;go_wp2_with fail;apply(W.out w1 U).mono;rintro e w2⟨rfl,Q⟩;have V:=zh (aC U Q);have Z:=zh (Y.belowS Q);clear Q E F G B H;obtain⟨E,F,G,B,H,_,_,_,_,_⟩:=Z.five;go_wp2_with fail;apply(o.out w2 V).mono;rintro e I⟨a,rfl,h,R⟩;have k:=zh (aC V R);have s:=zh (Z.belowS R);have X:=zh (h.out.on (aI I));clear h R E F G B H;obtain⟨E,F,G,B,H,_,_,_,_,_⟩:=s.five;go_upto_region 7 with fail;refine ta 10 B fun D=>?_;refine tq 0 ?_;refine tq 1 ?_;refine tq 2 ?_;try simp only[tz]
 refine tn 3 fun K hK=>?_;go_simp;apply(fI I.drew a P M Mq X).mono;rintro e i⟨rfl,rfl⟩;rw[r.out];refine hK.out _ _ (B) ?_;clear hK K D;intro D;try simp only[tz]
 refine tn 4 fun K hK=>?_;go_simp;apply(p.out I.drew).mono;rintro e i⟨rfl,rfl⟩;refine hK.out _ _ (B) ?_;clear hK K D;intro D;try simp only[tz]
 refine tq 5 ?_;refine tq 6 ?_;refine tq 7 ?_;refine tq 8 ?_;try simp only[tz]
 refine tn 9 fun K hK=>?_;go_simp;refine hK.out _ _ D fun _=>?_;refine tw ?_;try simp only[tz]
 clear D;have m:=zh (aC k (aI I));generalize I.drew=i at*;clear E F G B H;go_wp2;go_ret3;exact⟨a,rfl,X.out,m.out⟩
end
section
def ptN(q i a:Nat):Nat:=i*(q-1)+(a-1)
theorem NK{q n i a:Nat}(hi:i<n)(B:1<=a)(C:a<q):ptN q i a<n*(q-1):=by unfold ptN;have A:=Nat.mul_le_mul_right (q-1) (show i+1<=n from om);rw[Nat.add_mul,Nat.one_mul] at A;omega
theorem IP{q i a:Nat}(A:1<=a)(B:a<q):ptN q i a/(q-1)=i/\ptN q i a%(q-1)=a-1:=by
 unfold ptN;constructor
 .rw[Nat.mul_comm,Nat.mul_add_div om,Nat.div_eq_of_lt om,Nat.add_zero]
 .rw[Nat.mul_comm,Nat.mul_add_mod,Nat.mod_eq_of_lt om]
theorem PJ{q i a j b:Nat}(C:1<=a)(D:a<q)(E:1<=b)(F:b<q)(h:ptN q i a=ptN q j b):i=j/\a=b:=by have A:=IP (i:=i) C D;have B:=IP (i:=j) E F;rw[h] at A;exact⟨A.1.symm.trans B.1,oA (A.2.symm.trans B.2)⟩
theorem zR{q n t:Nat}(A:t<n*(q-1)):∃i a,i<n/\1<=a/\a<q/\t=ptN q i a:=by
 have hq:0<q-1:=Nat.pos_of_ne_zero fun e=>by rw[e,Nat.mul_zero] at A;omega
 have B:=Nat.mod_lt t hq;refine⟨t/(q-1),t%(q-1)+1,Nat.div_lt_of_lt_mul (by rwa[Nat.mul_comm] at A),om,om,?_⟩;unfold ptN;have:=Nat.div_add_mod t (q-1);rw[Nat.mul_comm] at this;omega
theorem TG{q i a k:Nat}(A:1<=a)(B:a<q)(h:ptN q i a<k*(q-1)):i<k:=by rw[<-(IP (i:=i) A B).1];exact Nat.div_lt_of_lt_mul (by rwa[Nat.mul_comm] at h)
section
variable {O:aQ} {q:Nat} (hO:O.Fld (q:Int))
include hO
theorem oQ{n:Nat}{perm sc:LI}(h:dA (q:Int) n perm sc){i a:Nat}(hi:i<n)(A:1<=a)(B:a<q):
 ∃b:Nat,O.mul (sc i 0) (a:Int)=(b:Int)/\1<=b/\b<q/\(ofL O q n perm sc).getD (ptN q i a) 0=(ptN q (perm i 0).toNat b:Int):=by
 have D:=XL hO (h.nz i hi) (b:=(a:Int)) ⟨om,om⟩;refine⟨(O.mul (sc i 0) (a:Int)).toNat,om,om,om,?_⟩;rw[ofL,aK (NK hi A B),ptN,XU A B];have E:=h.isP.nat hi;obtain⟨b,C⟩:∃b:Nat,O.mul (sc i 0) (a:Int)=(b:Int):=⟨(O.mul (sc i 0) (a:Int)).toNat,om⟩
 rw[C] at D|-;rw[E.2,aZ8,aZ8,ptN];push_cast;omega
theorem IF{n:Nat}{perm sc:LI}(h:dA (q:Int) n perm sc):IsP (n*(q-1)) (ofL O q n perm sc):=by
 refine⟨pI _ _ _ _ _,fun t F=>?_,fun s t R F e=>?_⟩
 .obtain⟨i,a,hi,A,B,rfl⟩:=zR F;obtain⟨b,G,C,D,e⟩:=oQ hO h hi A B;rw[e];have:=NK (q:=q) (h.isP.nat hi).1 C D;omega
 .obtain⟨i,a,hi,A,B,rfl⟩:=zR R;obtain⟨j,c,E,L,M,rfl⟩:=zR F;obtain⟨b,G,C,D,H⟩:=oQ hO h hi A B;obtain⟨d,N,P,Q,I⟩:=oQ hO h E L M;rw[H,I] at e;obtain⟨J,rfl⟩:=PJ C D P Q (Int.ofNat.inj e);have K:=h.isP.inj i j hi E (by rw[(h.isP.nat hi).2,(h.isP.nat E).2,J]);subst K;have S:=XK hO (h.nz i hi) (b:=(a:Int)) (c:=(c:Int)) ⟨om,om⟩ ⟨om,om⟩ (G.trans N.symm);obtain rfl:a=c:=om;rfl
theorem XV{n:Nat}{A D C E:LI}(h:dA (q:Int) n A D)(k:dA (q:Int) n C E):aL (ofL O q n A D) (ofL O q n C E)=ofL O q n (aL A C) (thenS O n A D E):=by
 have K:=dA.then hO h k;refine qH (by rw[cR,pI,pI]) fun t B=>?_;rw[cR,pI] at B;obtain⟨i,a,hi,F,G,rfl⟩:=zR B;rw[bQ (by rw[pI];exact B)];obtain⟨b,L,M,N,H⟩:=oQ hO h hi F G;have R:=(h.isP.nat hi).1;obtain⟨c,P,S,T,I⟩:=oQ hO k R M N;obtain⟨d,Q,U,V,J⟩:=oQ hO K hi F G;rw[H,aZ8,I,J,bQ (by rw[h.isP.len];exact hi)];rw[thenS,aK hi,hO.mul_assoc,L,P] at Q;obtain rfl:c=d:=om;rfl
theorem PF(n:Nat):ofL O q n (idP n) (List.replicate n 1)=idP (n*(q-1)):=by
 refine qH (by rw[pI,cK]) fun t A=>?_;rw[pI] at A;rw[eV A];obtain⟨i,a,hi,D,E,rfl⟩:=zR A;obtain⟨b,F,G,H,B⟩:=oQ hO (dA.one hO n) hi D E;have C:(List.replicate n (1:Int)).getD i 0=1:=by simp[List.getD,hi]
 rw[C,hO.one_mul om om] at F;obtain rfl:a=b:=om;rw[B,eV hi,aZ8]
theorem PE{n:Nat}{D B E C:LI}(hq:2<=q)(h:dA (q:Int) n D B)(k:dA (q:Int) n E C)(m:Nat)(U:m<=n)(P:∀t,t<m*(q-1)->(ofL O q n D B).getD t 0=(ofL O q n E C).getD t 0)(i:Nat)(hi:i<m):D i 0=E i 0/\B i 0=C i 0:=by
 have A:i<n:=om;have e:=P _ (NK hi (Nat.le_refl 1) (show 1<q from om));obtain⟨b,F,K,L,H⟩:=oQ hO h A (Nat.le_refl 1) (show 1<q from om);obtain⟨c,G,M,N,I⟩:=oQ hO k A (Nat.le_refl 1) (show 1<q from om);rw[H,I] at e;obtain⟨J,rfl⟩:=PJ K L M N (Int.ofNat.inj e);have Q:=h.nz i A;have R:=k.nz i A;have S:O.mul (B i 0) ((1:Nat):Int)=B i 0:=hO.mul_one _ om Q.2;have T:O.mul (C i 0) ((1:Nat):Int)=C i 0:=hO.mul_one _ om R.2;refine⟨by rw[(h.isP.nat A).2,(k.isP.nat A).2,J],?_⟩;rw[S] at F;rw[T] at G;rw[F,G]
end
def sT(O:aQ)(q n:Nat)(gen:LL)(p:LI):Prop:=∃perm sc,uY O (q:Int) n gen perm sc/\p=ofL O q n perm sc
section
variable {O:aQ} {q:Nat} (hO:O.Fld (q:Int))
include hO
theorem BW{n:Nat}{gen:LL}(hR:Rows (q:Int) n gen):lQ (n*(q-1)) (sT O q n gen):=by
 have G:sT O q n gen (idP (n*(q-1))):=⟨_,_,uY.one hO hR,(PF hO n).symm⟩
 have C:∀p r,sT O q n gen p->sT O q n gen r->sT O q n gen (aL p r):=fun p r⟨I,J,A,B⟩ ⟨K,L,E,H⟩=>⟨_,_,uY.then hO A E,by rw[B,H,XV hO A.1 E.1]⟩
 have F:∀p,sT O q n gen p->IsP (n*(q-1)) p:=fun p⟨I,J,A,B⟩=>by rw[B];exact IF hO A.1
 refine⟨F,G,C,fun p D=>?_⟩;obtain⟨m,e⟩:=O1 (F p D);rw[e];clear e
 induction m with
 |zero=>exact G
 |succ m ih=>first|exact C _ _ ih D|exact C _ _ D ih
theorem RS{n:Nat}{gen:LL}(hq:2<=q)(hR:Rows (q:Int) n gen)(S:LI->Prop)(P:∀g,S g->sT O q n gen g)
 (V:∀i j a:Nat,i<=j->j<n->1<=a->a<q->(∃E ls,vO O (q:Int) n gen (idP i++[(j:Int)]) (List.replicate i 1++[(a:Int)]) E ls/\S (ofL O q n E ls))\/NoX O (q:Int) n gen (idP i++[(j:Int)]) (List.replicate i 1++[(a:Int)]))(p:LI):
 GenP (n*(q-1)) S p↔sT O q n gen p:=by
 have hΓ:=BW hO hR;have Q:∀g,S g->IsP (n*(q-1)) g:=fun g f=>hΓ.is g (P g f);have W:=GenP.grp Q;have T:∀p,GenP (n*(q-1)) S p->sT O q n gen p:=fun p D=>D.sub hΓ P;refine⟨T p,fun D=>?_⟩;refine GC hΓ W T (fun i p=>dN (i*(q-1)) p) (n:=n) (fun p D Z=>MK (hΓ.is p D) Z) ?_ (k:=n-0) (i:=0) rfl (aZ5 _) p D (fun i hi=>by rw[Nat.zero_mul] at hi;omega);rintro i hi p⟨perm,sc,hA,rfl⟩ d;have A:=hA.1
 --the places below i are fixed
 have N:∀k,k<i->perm k 0=(k:Int)/\sc k 0=1:=fun k hk=>by
  have:=PE hO hq A (dA.one hO n) i om (fun t B=>by rw[d t B,PF hO,eV (aY1 B (Nat.mul_le_mul_right _ om))]) k hk;rw[eV om] at this;have I:(List.replicate n (1:Int)).getD k 0=1:=by simp[List.getD,show k<n from om]
  rw[I] at this;exact this
 have M:=A.isP.nat hi;have m:i<=(perm i 0).toNat:=by refine aY0 fun R=>?_;have C:=N _ (show(perm i 0).toNat<i from om);have:=A.isP.inj _ _ (show(perm i 0).toNat<n from om) hi (by rw[C.1];exact M.2.symm);omega
 have δ:=A.nz i hi;have K:vO O (q:Int) n gen (idP i++[(((perm i 0).toNat:Nat):Int)]) (List.replicate i 1++[(((sc i 0).toNat:Nat):Int)]) perm sc:=by
  refine hA.autX hO hR ?_ ?_
  .refine qH (by rw[aY3,aZ1,cK,aZ2,A.isP.len];omega) fun k hk=>?_;rw[aY3,aZ1,cK,aZ2,A.isP.len] at hk;rw[aZ1,cK,aZ2,jE om];by_cases e:k<i
   .rw[(N k e).1];have:=eV e;rw[aZ4,aY2 (by rw[cK];exact e),<-aZ4,this]
   .obtain rfl:k=i:=om;have:(idP k++[(((perm k 0).toNat:Nat):Int)]).getD k 0=(((perm k 0).toNat:Nat):Int):=by rw[aZ4,eL (by rw[cK];omega),cK,Nat.sub_self];rfl
    rw[this];exact M.2
  .refine qH (by rw[aY3,aZ1,eG,aZ2,A.sl];omega) fun k hk=>?_;rw[aY3,aZ1,eG,aZ2,A.sl] at hk;rw[aZ1,eG,aZ2,jE om];by_cases e:k<i
   .rw[(N k e).2];have:(List.replicate i (1:Int)).getD k 0=1:=by simp[List.getD,e]
    rw[aZ4,aY2 (by rw[eG];exact e),<-aZ4,this]
   .obtain rfl:k=i:=om;have:(List.replicate k (1:Int)++[(((sc k 0).toNat:Nat):Int)]).getD k 0=(((sc k 0).toNat:Nat):Int):=by rw[aZ4,eL (by rw[eG];omega),eG,Nat.sub_self];rfl
    rw[this];omega
 rcases V i (perm i 0).toNat (sc i 0).toNat m M.1 om om with⟨E,ls,L,o⟩|R
 .refine⟨_,GenP.gen Q o,fun t B=>?_⟩
  --both take the points of the places up to i to the same points
  have hB:=L.aut hO hR;have h:=IF hO hB.1;have Y:(ofL O q n perm sc).getD t 0=(ofL O q n E ls).getD t 0:=by
   have H:t<n*(q-1):=aY1 B (Nat.mul_le_mul_right _ om);obtain⟨k,a,hk,C,J,rfl⟩:=zR H;have z:=TG C J B;have U:perm k 0=E k 0:=by have F:=congrArg (fun l=>l k 0) K.pt;have G:=congrArg (fun l=>l k 0) L.pt;rw[aZ1,cK,aZ2,jE om] at F G;rw[F,G]
   have I:sc k 0=ls k 0:=by have F:=congrArg (fun l=>l k 0) K.ps;have G:=congrArg (fun l=>l k 0) L.ps;rw[aZ1,eG,aZ2,jE om] at F G;rw[F,G]
   obtain⟨b,X,u,v,r⟩:=oQ hO A hk C J;obtain⟨c,w,x,y,s⟩:=oQ hO hB.1 hk C J;rw[I] at X;obtain rfl:b=c:=om;rw[r,s,U]
  have H:t<n*(q-1):=aY1 B (Nat.mul_le_mul_right _ om);rw[bQ (by rw[pI];exact H),Y];exact kE h H
 .exact aB K (R _ _)
theorem VG{n:Nat}{gen:LL}(hq:2<=q){perm sc:LI}(h:dA (q:Int) n perm sc):sT O q n gen (ofL O q n perm sc)↔uY O (q:Int) n gen perm sc:=by
 constructor
 .rintro⟨D,E,hA,e⟩;have A:=PE hO hq h hA.1 n zr fun t _=>by rw[e]
  have B:perm=D:=qH (by rw[h.isP.len,hA.1.isP.len]) fun i hi=>(A i (by rw[<-h.isP.len];exact hi)).1;have C:sc=E:=qH (by rw[h.sl,hA.1.sl]) fun i hi=>(A i (by rw[<-h.sl];exact hi)).2;rw[B,C];exact hA
 .exact fun hA=>⟨_,_,hA,rfl⟩
end
