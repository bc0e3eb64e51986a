/- Parts. -/
import Derived.Test.YtnpfliklhbkonaaGreatDoorZA5
import Derived.Test.YtnpfliklhbkonaaGreatDoorZA6
import Derived.IntWalk
set_option maxRecDepth 99999
set_option maxHeartbeats 0
set_option linter.unusedSimpArgs false
namespace Go.Proofs.YtnpfliklhbkonaaGreatDoor
open Go.Proofs.Tryz
open Go.RowKit
def nY(P M:Int)(Mq:LI):Prop:=aF P M≠0/\nD P/\sL P M Mq
noncomputable def hY(P M:Int)(Mq:LI):Bool:= @decide (nY P M Mq) (Classical.propDecidable _)
theorem mW{P M:Int}{Mq:LI}(h:nY P M Mq):hY P M Mq=true:=by unfold hY;simp[h]
theorem iA{P M:Int}{Mq:LI}(h:¬nY P M Mq):hY P M Mq=false:=by unfold hY;simp[h]
theorem uT(w:Wo)(P M:Int)(mv:Va)(Mq:LI)(h:SI w mv Mq):
 Calls prog 48 #[.agg #[P,M,mv]] w (nX w (hY P M Mq)):=by
 obtain⟨A,c,rfl,h⟩:=h;have hn:=h.len;have H:=zh (h.below (aH w (.cells #[P,M,.slice A Mq c] 24)) zr);clear h;by_cases G:aF P M=0
 .have C:Hid (hY P M Mq=false):=iA fun D=>D.1 G;generalize hoo:aF P M=o at*;have K:=zh hoo;clear hoo;subst G;go_enter func48,ntmps48;go_wp2_with fail;refine(gY _ _ _).mono ?_;rintro e w1 ⟨rfl,rfl⟩;rw[K.out];go_wp2_with fail;go_ret;exact⟨by rw[C.out];rfl,aH _ _⟩
 obtain⟨L,N,m,n,R,f⟩:=bO G;clear R f;have q:(aF P M==0)=false:=by simp[G]
 have K:=zh G;clear G;by_cases I:nD P
 case neg=>have C:Hid (hY P M Mq=false):=iA fun D=>I D.2.1;have J:Hid (lI P=false):=nM I;clear I;go_enter func48,ntmps48;go_wp2_with fail;refine(gY _ _ _).mono ?_;rintro e w1 ⟨rfl,rfl⟩;go_wp2_with fail;refine(pB _ _ L N).mono ?_;rintro e w1 ⟨rfl,rfl⟩;rw[J.out];go_wp2_with fail;go_ret;exact⟨by rw[C.out];rfl,aH _ _⟩
 have J:Hid (lI P=true):=pK I;have T:=zh I;clear I;by_cases E:M=1
 .have b:(M==1)=true:=by simp[E]
  have U:Hid (hY P M Mq=decide (Mq.length=0)):=by
   have:hY P M Mq=decide (Mq.length=0):=by
    by_cases B:Mq=[]
    .rw[mW ⟨K.out,T.out,fun _=>B,fun h=>aB E h⟩];simp[B]
    .rw[iA fun D=>B (D.2.2.1 E)];simp[B]
   exact this
  clear E;go_enter func48,ntmps48;go_wp2_with fail;refine(gY _ _ _).mono ?_;rintro e w1 ⟨rfl,rfl⟩;go_wp2_with fail;refine(pB _ _ L N).mono ?_;rintro e w1 ⟨rfl,rfl⟩;rw[J.out];by_cases B:Mq.length=0
  .have g:(((Mq.length:Nat):Int)==0)=true:=by simp[B]
   have Q:Hid (hY P M Mq=true):=by rw[U.out];simp[B,Hid]
   clear B;go_wp2_with fail;go_ret;exact⟨by rw[Q.out];rfl,aH _ _⟩
  .have g:(((Mq.length:Nat):Int)==0)=false:=by simp;exact fun h=>B (by simp[h])
   have Q:Hid (hY P M Mq=false):=by rw[U.out];simp[B,Hid]
   clear B;go_wp2_with fail;go_ret;exact⟨by rw[Q.out];rfl,aH _ _⟩
 have b:(M==1)=false:=by simp[E]
 have O:=zh E;clear E;by_cases F:(Mq.length:Int)=M
 case neg=>
  have C:Hid (hY P M Mq=false):=iA fun D=>F (D.2.2.2 O).1;have X:((Mq.length:Int) !=M)=true:=by simp[F]
  clear F;go_enter func48,ntmps48;go_wp2_with fail;refine(gY _ _ _).mono ?_;rintro e w1 ⟨rfl,rfl⟩;go_wp2_with fail;refine(pB _ _ L N).mono ?_;rintro e w1 ⟨rfl,rfl⟩;rw[J.out];go_wp2_with fail;go_ret;exact⟨by rw[C.out];rfl,aH _ _⟩
 have X:((Mq.length:Int) !=M)=false:=by simp[F]
 have a:=zh F;clear F;go_enter func48,ntmps48;go_wp2_with fail;refine(gY _ _ _).mono ?_;rintro e w1 ⟨rfl,rfl⟩;go_wp2_with fail;refine(pB _ _ L N).mono ?_;rintro e w1 ⟨rfl,rfl⟩;rw[J.out];go_wp2_with fail;clear X;go_loop [33] (fun i=>∃k:Nat,k<=Mq/\i=(k:aV)/\Hid (∀j,j<k->0<=Mq j 0/\Mq j 0<P)) (fun i=>Mq.length-(intOf i).toNat)
 case atStart=>exact⟨0,aZ5 _,rfl,aG fun j W=>aB W om⟩
 case round=>
  obtain⟨k,hk,rfl,S⟩:=hrel;by_cases Y:k<Mq
  .obtain⟨l,x,rfl,p,_,V⟩:=H.elt Y;by_cases Z:0<=x/\x<P
   .obtain⟨d,R⟩:=Z;go_wp2_with fail;go_round
    case rel=>exact⟨k+1,om,by go_num,aG fun j W=>by
     by_cases e:j=k
     .subst e;rw[V.out];omega
     .exact S.out j om⟩
    case measure=>simp[intOf];omega
   .have C:Hid (hY P M Mq=false):=iA fun D=>Z (by have:=(D.2.2.2 O).2 k Y;rwa[V.out] at this);by_cases d:x<0
    .go_wp2_with fail;go_ret;exact⟨by rw[C.out];rfl,aH _ _⟩
    .have R:P<=x:=om;go_wp2_with fail;go_ret;exact⟨by rw[C.out];rfl,aH _ _⟩
  .obtain rfl:k=Mq:=om;have C:Hid (hY P M Mq=true):=mW ⟨K.out,T.out,fun h=>aB h O,fun _=>⟨a.out,S.out⟩⟩;go_wp2_with fail;go_ret;exact⟨by rw[C.out];rfl,aH _ _⟩
theorem fu:(prog.info? 3).map (·.size)=some 1:=by obtain⟨i,hi,A⟩:=Option.map_eq_some_iff.1 infoInt;simp only[Prod.mk.injEq] at A;rw[hi];simp[A.2.1]
theorem IU{o:LI}{N e:Nat}(B:o=N)(A:e+1=N):splice (o.map (Value.int .i64)) 1 ((o.take e).map (Value.int .i64))=(o.take 1++o.take e).map (Value.int .i64):=by unfold splice;rw[List.map_append,List.map_take (l:=o) (i:=1)];congr 1;rw[List.drop_eq_nil_of_le (by simp;omega),List.append_nil]
theorem TV{o:LI}{N e:Nat}(E:o=N)(D:e+1=N):(o.take 1++o.take e).set 0 0=zV N o:=by
 refine eK (by simp[zV];omega) fun i A C=>?_;simp only[aZ9,aZ1,aY3] at A;by_cases h:i=0
 .subst h;simp[zV]
 .obtain⟨j,rfl⟩:∃j,i=j+1:=⟨i-1,om⟩
  rw[List.getElem_set_ne om,List.getElem_append_right (by simp;omega)];have B:j<o:=om;simp[zV,List.getD,B,show min 1 o.length=1 from om]
theorem yM(w:Wo)(P M x y:Int)(mv:Va)(Mq:LI)(h:SI w mv Mq)(Ai:nY P M Mq)(Dj:0<=x)(Dk:x<aF P M)(Dm:0<=y)(Dn:y<aF P M):
 Calls prog 102 #[.agg #[P,M,mv],x,y] w (kV w (IB P M Mq x y)):=by
 obtain⟨H,δ,Cr,Bh,hq,Dg⟩:=bO Ai.1;have Dl:x<=256:=om;have Do:y<=256:=om;have Aw:=zh Ai;clear Ai;have Cf:=zh hq;clear hq;clear Dg Dk Dn;have Ca:=zh h;clear h;obtain⟨N,Cs⟩:∃N:Nat,(N:Int)=M:=⟨M.toNat,om⟩
 have Ab:M.toNat=N:=om;have Ar:Hid (IB P M Mq x y=bL P (iE P (nK M Mq) (bU x P N) N (bU y P N))):=by
  have:IB P M Mq x y=bL P (iE P (nK M Mq) (bU x P N) N (bU y P N)):=by unfold IB;rw[Ab]
  exact this
 have Ce:Hid (P^N<=256):=by rw[<-Ab];exact Cf
 subst Cs;have Dz:1<=N:=om;have Ec:N<=8:=om;have c:=zh (dM.mk' w P N mv);obtain⟨A,hA⟩:=xE (bU x P N);obtain⟨B,hB⟩:=xE (bU y P N);rw[<-hA,<-hB] at Ar;have θ:=zh hA;have κ:=zh hB;clear hA hB Ab;have ι:Hid (A=N):=by show _=_;rw[θ.out,eP]
 have Z:Hid (B=N):=by show _=_;rw[κ.out,eP]
 have Ak:Hid (Rng P A):=fun k=>by rw[θ.out];exact iI H k
 have Ao:Hid (Rng P B):=fun k=>by rw[κ.out];exact iI H k
 have Dc:=fun(w:Wo)=>dX N om w;go_enter func102,ntmps102;go_wp2_with fail;obtain⟨w0,Br⟩:=xE (w.alloc (.cells #[P,N,mv] 24));rw[<-Br] at c|-;clear Br;have c0:=c.c0;have c1:=c.c1;have c2:=c.c2;refine tc 14 c0 c1 c2 fun E=>?_;refine tq 0 ?_;refine tq 1 ?_;refine tq 2 ?_;refine tq 3 ?_;refine tq 4 ?_;refine tq 6 ?_;refine tq 7 ?_;refine tq 8 ?_;refine tq 9 ?_;refine tq 10 ?_;try simp only[tz]
 refine tn 5 fun K hK=>?_;go_simp;refine(xI _ x P (N:Int) Dj Dl H om Bh).mono ?_;rintro e w1 ⟨Ev,rfl,η,Ac⟩;rw[aZ8,<-θ.out] at η;obtain⟨Dq,Er,rfl⟩:=η.form';have n:=zh (c.drew.on Ac);have Cd:=zh η;clear η Ac;have f:=n.c0;have g:=n.c1;have O:=n.c2;refine hK.out _ _ (⟨f,g,O⟩) ?_;clear hK K E;intro E;try simp only[tz]
 refine tn 11 fun K hK=>?_;go_simp;refine(xI _ y P (N:Int) Dm Do H om Bh).mono ?_;rintro e w2 ⟨Ew,rfl,R,Ad⟩;rw[aZ8,<-κ.out] at R;obtain⟨Dr,Es,rfl⟩:=R.form';have F:=zh (n.on Ad);have As:=zh (Cd.below Ad zr);have At:=zh R;clear R Ad;have Be:=F.c0;have Bf:=F.c1;have Bg:=F.c2;refine hK.out _ _ (⟨Be,Bf,Bg⟩) ?_;clear hK K E;intro E;try simp only[tz]
 refine tq 12 ?_;try simp only[tz]
 refine tn 13 fun K hK=>?_;go_simp;refine hK.out _ _ E (fun Q=>?_);clear hK K;clear Q;refine tw ?_;try simp only[tz]
 clear E;clear c0 c1 c2 f g O;rw[ι.out] at As|-;rw[Z.out] at At|-;have Db:=F.lt;have De:¬w.heap.size=w2.heap.size:=om;go_wp2_with fail;clear Dc Db De;have Ci:=zh (As.si (by rw[ι.out];omega) (Ak.I δ));have Cj:=zh (At.si (by rw[Z.out];omega) (Ao.I δ));have Ap:=zh (RI.made w2 N);have Al:=zh (aH w2 (.cells (madeCells #[z0] N) 3));have ν:Hid (RI (w2.alloc (.cells (madeCells #[z0] N) 3)) w2 (iE P (nK N Mq) A N (B.drop N))):=by rw[show B.drop N=[] by rw[<-Z.out];exact List.drop_length];exact Ap
 obtain⟨C,Aa⟩:=xE w2.heap.size;have En:w<C:=by have:=F.lt;omega
 rw[<-Aa] at ν|-;have ξ:=zh Aa;clear Aa Ap Be Bf Bg;go_loopw [10] (fun i wr=>∃k:Nat,k<=N/\i=.int .i64 ((k:Int)-1)/\Hid (RI wr C (iE P (nK N Mq) A N (B.drop k)))/\Hid (Below w2 w2 wr)) (fun i _=>(intOf i+1).toNat)
 case atStart=>exact⟨N,zr,rfl,ν,Al⟩
 case round=>
  clear ν Al;obtain⟨k,hk,rfl,U,Ba⟩:=hrel;have q:=zh (F.on Ba);have c0:=q.c0;have c1:=q.c1;have c2:=q.c2;by_cases Eg:0<k
  .obtain⟨m,rfl⟩:∃m,k=m+1:=⟨k-1,om⟩
   have Bn:m<N:=om;rw[show(((m+1:Nat):Int)-1)=(m:Int) from om];obtain⟨e,Cv⟩:∃e:Nat,(N:Int)-1=(e:Int):=⟨N-1,om⟩
   have Cw:e<N:=om;obtain⟨o,Ah⟩:=xE (iE P (nK N Mq) A N (B.drop (m+1)));rw[<-Ah] at U;have φ:=zh Ah;clear Ah;have J:Hid (o=N):=by show _=_;rw[φ.out];exact qN _ _ _ _ _
   have Au:Hid (Rng P o):=fun j=>by rw[φ.out];exact wK H _ j
   have Bp:=U.cell e (by rw[J.out];exact Cw);obtain⟨T,X⟩:=xE (o e 0);rw[<-X] at Bp;have Az:=zh X;clear X;have Ea:(1:Int)<=(N:Int):=Cr;have Cx:(e:Int)<=(N:Int):=om;have Cy:(0:Int)<=(e:Int):=om;have Ej:(0:Int)<=(m:Int):=om;go_wp2_with fail;have Di:IntKind.i64.wrap (e:Int)=(e:Int):=IntWalk.i64_in _ om;have Ck:=zh (IU J (show e+1=N from om));have Bx:Hid (0<((o.take e).map (Value.int .i64)).length->(if N=1 then some ((C:aA):Addr) else some (C 1 none))=some (C 1 none)/\∃d,(some ((C:aA):Addr))=some d/\∀(j:Nat) (v:Va),((o.take e).map (Value.int .i64))[j]?=some v->wr.drew.cell? (d.add j)=some v):=by
    intro Df;have Ek:=J.out;simp only[aY7,aY3] at Df;refine⟨by rw[iN om],_,rfl,fun j v l=>?_⟩;by_cases Ag:j<e
    .have Dh:v=.int .i64 (o j 0):=by
      have W:j<o:=om;simp[List.getElem?_take,Ag,W] at l;rw[<-l];simp[List.getD,W]
     rw[Dh];have:=U.cell j om;have O:((C:aA):Addr).add j=⟨C,j,none⟩:=by unfold Addr.add;by_cases Cq:j=0<;>simp[Cq]
     rw[O];exact this
    .simp[List.getElem?_take,Ag] at l
   refine tc 8 c0 c1 c2 fun E=>?_;refine tq 0 ?_;refine tq 1 ?_;refine tq 2 ?_;refine tq 3 ?_;refine tq 4 ?_;refine tq 5 ?_;refine tq 6 ?_;try simp only[tz]
   refine tp 7 fun K hK=>?_;refine step_copy_splice kr (.tmp 43) (.tmp 48) 22 22 kr 3 underlying22 fu (if N=1 then some (C:aA) else some (C 1 none)) (some (C:aA)) (N-1) (N-1) e N kr kr C 1 (o.map (Value.int .i64)) 3 U.out ((o.take e).map (Value.int .i64)) (by rw[aY7,aY3,J.out];show min e N=min e (N-1);omega) Bx.out (by rw[aY7,aY7,aY3,J.out];omega) (fun v l=>by obtain⟨z,_,rfl⟩:=List.mem_map.1 l;rfl) w2 w2 Ba.drew (by rw[ξ.out];exact zr) ?_;intro Bu Bl Ae;have r:Hid (RI Bu C (o.take 1++o.take e)):=aG (show Bu.heap[C]?=some (.cells ((o.take 1++o.take e).map (Value.int .i64)).toArray 3 (0,0)) from Ck.out▸Bl.out);have Am:=zh Ae;have π:=zh (F.on Ae);clear Bl Ae;have f:=π.c0;have g:=π.c1;have O:=π.c2;refine hK.out _ _ (⟨f,g,O⟩) (fun Q=>?_);clear hK K;clear Q;refine tw ?_;try simp only[tz]
   clear E;generalize goInt (((o.take e).map (Value.int .i64)).length:Int)=Dx;generalize (if N=1 then some ((C:aA):Addr) else some (C 1 none))=Dy;have Cl:=zh (TV J (show e+1=N from om));have R:(o.take 1++o.take e).length=N:=by rw[aZ1,aY3,aY3,J.out];omega
   have Bt:=r.cell 0 (by rw[R];omega);have Cp:=r.frozen 0;generalize Y:(o.take 1++o.take e).getD 0 0=Ey at Bt;have Cc:Hid (N-1=e):=by show _=_;omega
   clear Y R c0 c1 c2 Cv Di Bp Cx Cy;have s:=zh (r.set 0 0);rw[Cl.out,<-NB P (nK N Mq) A o N (B m 0)] at s;have An:=zh (Am.setCell (p:=(C:aA)) (by rw[ξ.out];exact zr) (z0:aV));obtain⟨D,Af⟩:=xE (B m 0);rw[<-Af] at s;have μ:=zh Af;clear Af;go_wp2_with fail;go_loopw [54] (fun t Bv=>∃j:Nat,j<=N/\t=(j:aV)/\Hid (RI Bv C (pG P (nK N Mq) A o N D j))/\Hid (Below w2 w2 Bv)) (fun t _=>(N-intOf t).toNat)
   case atStart=>exact⟨0,aZ5 _,rfl,s,An⟩
   case round=>
    clear s An r Am f g O Bt Cp;obtain⟨j,Ag,rfl,u,V⟩:=hrel;have ρ:=zh (F.on V);have c0:=ρ.c0;have c1:=ρ.c1;have c2:=ρ.c2;by_cases ε:j<N
    .have Bk:=M9 (p:=P) (low:=nK N Mq) (a:=A) (out:=o) (b:=D) (k:=j) ε;have ω:=u.cell j (by rw[SP];exact ε);have Bd:=u.frozen j;obtain⟨z,Y⟩:=xE ((if j=0 then 0 else o (j-1) 0));rw[Bk,<-Y] at ω;clear Bk;obtain⟨d,L,rfl,Bc,_,Aj⟩:=(Ci.below V zr).elt (k:=j) (by rw[ι.out];exact ε);obtain⟨Bb,Co,rfl,cb,_,Bw⟩:=(Cj.below V zr).elt (k:=m) (by rw[Z.out];exact Bn);obtain rfl:D=Co:=by rw[μ.out,Bw.out]
     obtain⟨G,ζ⟩:=xE ((nK N Mq).getD j 0);have Bs:0<=z/\z<P:=by
      rw[Y];split
      .omega
      .exact Au.out (j-1)
     have X:0<=T/\T<P:=by rw[Az.out];exact Au.out e
     have Bm:0<=G/\G<P:=by
      rw[ζ];unfold nK;split
      .rename_i W;have Cz:=(Aw.2.2.2 om).2;by_cases hk:j<Mq
       .exact Cz j hk
       .rw[bG om];omega
      .rw[bG sM];omega
     have Bj:0<=D/\D<P:=by rw[μ.out];exact Ao.out m
     have Bi:0<=L/\L<P:=by rw[<-Aj.out];exact Ak.out j
     obtain⟨Dt,Du,Dv,b4⟩:=GW H δ Bs X Bm Bj Bi;have Ax:=zh (SQ (p:=P) (low:=nK N Mq) (a:=A) (out:=o) (b:=D) ε);have τ:Hid (mS P (nK N Mq) A o N D j=(z+(P-T)*G+D*L)%P):=by show _=_;unfold mS;rw[<-Y,<-ζ,Aj.out,Az.out,Cc.out]
     have χ:=zh (u.set j ((z+(P-T)*G+D*L)%P));have ψ:=zh (V.setCell (p:=⟨C,j,none⟩) (by rw[ξ.out];exact zr) (.int .i64 ((z+(P-T)*G+D*L)%P)));have Aq:=zh ζ;clear Y ζ;obtain⟨Eo,Ep⟩:=Bs;obtain⟨El,Em⟩:=X;obtain⟨Eh,Ei⟩:=Bm;obtain⟨Ef,Ac⟩:=Bj;obtain⟨Ed,Ee⟩:=Bi;by_cases Eb:1<N
     .have Dd:(Mq.length:Int)=N:=(Aw.2.2.2 om).1;obtain⟨Ds,Et,rfl,Bo⟩:=Ca.out;have Ct:(1:Int)<(N:Int):=om;have Da:j<Mq:=om;obtain⟨Eu,Dp,rfl,Dw,_,Cb⟩:=(Bo.below (aC F.bel V) zr).elt Da;obtain rfl:G=Dp:=by rw[Aq.out,<-Cb.out];unfold nK;rw[iP om]
      clear Dd Bo;go_wp2_with fail;have Cu:¬P=0:=om;refine cJ.start (S:=fun w'=>w'.cell? w.heap.size=some (P:aV)/\w'.cell? ⟨C,j,none⟩=some (z:aV)/\w'.frozen? ⟨C,j,none⟩=false/\w'.cell? (d.add j)=some (L:aV)/\w'.cell? (Bb.add m)=some (D:aV)) kr (⟨c0,ω,Bd,Bc,cb⟩) (fun E=>?_);change cJ _ _ _ _ 28 _ _ _;refine dq 0 ?_;refine dq 1 ?_;refine dq 2 ?_;refine dq 3 ?_;refine dq 4 ?_;refine dq 5 ?_;refine dq 6 ?_;refine dq 7 ?_;refine dq 8 ?_;refine dq 9 ?_;refine dq 10 ?_;refine dq 11 ?_;refine dq 12 ?_;refine dq 13 ?_;refine dq 14 ?_;refine dq 15 ?_;refine dq 16 ?_;refine dq 17 ?_;refine dq 18 ?_;refine dq 19 ?_;refine dq 20 ?_;refine dq 21 ?_;refine dq 22 ?_;refine dq 23 ?_;refine dq 24 ?_;refine dq 25 ?_;refine dq 26 ?_;try simp only[tz]
      refine dn 27 fun K hK=>?_;go_simp;refine hK.out _ _ (fun h=>aB rfl h) (fun Q=>?_);clear hK K;clear Q;refine dw ?_;try simp only[tz]
      clear E;go_wp2_with fail;exact⟨⟨j+1,om,rfl,by rw[<-Ax.out,τ.out];exact χ.drew,ψ.drew⟩,oI⟩
     .have Ct:¬(1:Int)<(N:Int):=om;obtain rfl:G=0:=by rw[Aq.out];unfold nK;rw[iN om];simp
      rw[Int.mul_zero] at χ ψ τ;go_wp2_with fail;have Cu:¬P=0:=om;refine cJ.start (S:=fun w'=>w'.cell? w.heap.size=some (P:aV)/\w'.cell? ⟨C,j,none⟩=some (z:aV)/\w'.frozen? ⟨C,j,none⟩=false/\w'.cell? (d.add j)=some (L:aV)/\w'.cell? (Bb.add m)=some (D:aV)) kr (⟨c0,ω,Bd,Bc,cb⟩) (fun E=>?_);change cJ _ _ _ _ 28 _ _ _;refine dq 0 ?_;refine dq 1 ?_;refine dq 2 ?_;refine dq 3 ?_;refine dq 4 ?_;refine dq 5 ?_;refine dq 6 ?_;refine dq 7 ?_;refine dq 8 ?_;refine dq 9 ?_;refine dq 10 ?_;refine dq 11 ?_;refine dq 12 ?_;refine dq 13 ?_;refine dq 14 ?_;refine dq 15 ?_;refine dq 16 ?_;refine dq 17 ?_;refine dq 18 ?_;refine dq 19 ?_;refine dq 20 ?_;refine dq 21 ?_;refine dq 22 ?_;refine dq 23 ?_;refine dq 24 ?_;refine dq 25 ?_;refine dq 26 ?_;try simp only[tz]
      refine dn 27 fun K hK=>?_;go_simp;refine hK.out _ _ (fun h=>aB rfl h) (fun Q=>?_);clear hK K;clear Q;refine dw ?_;try simp only[tz]
      clear E;go_wp2_with fail;exact⟨⟨j+1,om,rfl,by rw[<-Ax.out,τ.out];exact χ.drew,ψ.drew⟩,oI⟩
    .obtain rfl:N=j:=om;have Bz:Hid (RI wr C (iE P (nK N Mq) A N (B.drop m))):=by have W:=u.out;rw[M8,μ.out,φ.out] at W;show RI _ _ _;rw[SN (by rw[Z.out];exact Bn)];exact W
     go_wp2_with fail;exact⟨⟨m,om,rfl,Bz,V⟩,oI⟩
  .obtain rfl:k=0:=om;have σ:Hid ((iE P (nK N Mq) A N B).length=N):=qN _ _ _ _ _;have Av:Hid (Rng P (iE P (nK N Mq) A N B)):=fun j=>wK H _ j;rw[List.drop_zero] at U;have Ay:=zh (U.si (by rw[σ.out];omega) (Av.I δ));rw[σ.out] at Ay;have Bq:∀i,i<(iE P (nK N Mq) A N B).length->0<=(iE P (nK N Mq) A N B).getD i 0/\(iE P (nK N Mq) A N B).getD i 0<P:=fun i _=>Av.out i;have Cm:=zh Bq;clear Bq;rw[show(((0:Nat):Int)-1)= -1 from om];go_wp2_with fail;refine(LN _ _ (iE P (nK N Mq) A N B) P Ay H Cm (by rw[σ.out];exact Ce.out)).mono ?_;rintro e Ex ⟨rfl,rfl⟩;go_wp2_with fail;go_ret;exact⟨by rw[Ar.out];rfl,q.bel⟩
