/- Texts of a claim, merged. -/
import Derived.Test.YtpfhoemohibniaaGreatDoorZA5
import Derived.Test.YtpfhoemohibniaaGreatDoorZA6
import Derived.IntWalk
set_option maxRecDepth 100000
set_option linter.unusedSimpArgs false
set_option maxHeartbeats 32000000
namespace Go.Proofs.YtpfhoemohibniaaGreatDoor
open Go.RowKit
def lW(P M:Int)(Mod:LI):Prop:=aC P M≠0/\lE P/\pW P M Mod
noncomputable def fC(P M:Int)(Mod:LI):Bool:= @decide (lW P M Mod) (Classical.propDecidable _)
theorem kX{P M:Int}{Mod:LI}(h:lW P M Mod):fC P M Mod=true:=by unfold fC;simp[h]
theorem fD{P M:Int}{Mod:LI}(h:¬lW P M Mod):fC P M Mod=false:=by unfold fC;simp[h]
theorem sB(w:World)(P M:Int)(mv:Value)(Mod:LI)(h:SI w mv Mod):
  Calls Tryz.prog 84 #[.agg #[.int .i64 P,.int .i64 M,mv]] w (sG w (fC P M Mod)):=by
 obtain⟨A,c,rfl,h⟩:=h;have hn:=h.len;have H:=zh (h.below (aF w (.cells #[.int .i64 P,.int .i64 M,.slice A Mod.length c] 24)) zr);clear h;by_cases G:aC P M=0
 .have C:Hid (fC P M Mod=false):=fD fun D=>D.1 G;generalize hoo:aC P M=o at*;have K:=zh hoo;clear hoo;subst G;go_enter Tryz.func84,Tryz.ntmps84;go_wp2_with fail;refine(fB _ _ _).mono ?_;rintro e w1 ⟨rfl,rfl⟩;rw[K.out];go_wp2_with fail;go_ret;exact⟨by rw[C.out];rfl,aF _ _⟩
 obtain⟨L,N,m,n,R,f⟩:=bN G;clear R f;have r:(aC P M==0)=false:=by simp[G]
 have K:=zh G;clear G;by_cases I:lE P
 case neg=>have C:Hid (fC P M Mod=false):=fD fun D=>I D.2.1;have J:Hid (jJ P=false):=lN I;clear I;go_enter Tryz.func84,Tryz.ntmps84;go_wp2_with fail;refine(fB _ _ _).mono ?_;rintro e w1 ⟨rfl,rfl⟩;go_wp2_with fail;refine(mW _ _ L N).mono ?_;rintro e w1 ⟨rfl,rfl⟩;rw[J.out];go_wp2_with fail;go_ret;exact⟨by rw[C.out];rfl,aF _ _⟩
 have J:Hid (jJ P=true):=nD I;have T:=zh I;clear I;by_cases E:M=1
 .have b:(M==1)=true:=by simp[E]
  have U:Hid (fC P M Mod=decide (Mod.length=0)):=by
   have:fC P M Mod=decide (Mod.length=0):=by
    by_cases B:Mod=[]
    .rw[kX ⟨K.out,T.out,fun _=>B,fun h=>absurd E h⟩];simp[B]
    .rw[fD fun D=>B (D.2.2.1 E)];simp[B]
   exact this
  clear E;go_enter Tryz.func84,Tryz.ntmps84;go_wp2_with fail;refine(fB _ _ _).mono ?_;rintro e w1 ⟨rfl,rfl⟩;go_wp2_with fail;refine(mW _ _ L N).mono ?_;rintro e w1 ⟨rfl,rfl⟩;rw[J.out];by_cases B:Mod.length=0
  .have g:(((Mod.length:Nat):Int)==0)=true:=by simp[B]
   have Q:Hid (fC P M Mod=true):=by rw[U.out];simp[B,Hid]
   clear B;go_wp2_with fail;go_ret;exact⟨by rw[Q.out];rfl,aF _ _⟩
  .have g:(((Mod.length:Nat):Int)==0)=false:=by simp;exact fun h=>B (by simp[h])
   have Q:Hid (fC P M Mod=false):=by rw[U.out];simp[B,Hid]
   clear B;go_wp2_with fail;go_ret;exact⟨by rw[Q.out];rfl,aF _ _⟩
 have b:(M==1)=false:=by simp[E]
 have O:=zh E;clear E;by_cases F:(Mod.length:Int)=M
 case neg=>
  have C:Hid (fC P M Mod=false):=fD fun D=>F (D.2.2.2 O).1;have X:((Mod.length:Int) !=M)=true:=by simp[F]
  clear F;go_enter Tryz.func84,Tryz.ntmps84;go_wp2_with fail;refine(fB _ _ _).mono ?_;rintro e w1 ⟨rfl,rfl⟩;go_wp2_with fail;refine(mW _ _ L N).mono ?_;rintro e w1 ⟨rfl,rfl⟩;rw[J.out];go_wp2_with fail;go_ret;exact⟨by rw[C.out];rfl,aF _ _⟩
 have X:((Mod.length:Int) !=M)=false:=by simp[F]
 have a:=zh F;clear F;go_enter Tryz.func84,Tryz.ntmps84;go_wp2_with fail;refine(fB _ _ _).mono ?_;rintro e w1 ⟨rfl,rfl⟩;go_wp2_with fail;refine(mW _ _ L N).mono ?_;rintro e w1 ⟨rfl,rfl⟩;rw[J.out];go_wp2_with fail;clear X;go_loop [33] (fun i=>∃k:Nat,k<=Mod.length/\i=.int .i64 k/\Hid (∀j,j<k->0<=Mod.getD j 0/\Mod.getD j 0<P)) (fun i=>Mod.length-(intOf i).toNat)
 case atStart=>exact⟨0,aZ5 _,rfl,aD fun j W=>absurd W (by omega)⟩
 case round=>
  obtain⟨k,q,rfl,S⟩:=hrel;by_cases Y:k<Mod.length
  .obtain⟨l,x,rfl,p,_,V⟩:=H.elt Y;by_cases Z:0<=x/\x<P
   .obtain⟨d,R⟩:=Z;go_wp2_with fail;go_round
    case rel=>exact⟨k+1,by omega,by go_num,aD fun j W=>by
     by_cases e:j=k
     .subst e;rw[V.out];omega
     .exact S.out j (by omega)⟩
    case measure=>simp[intOf];omega
   .have C:Hid (fC P M Mod=false):=fD fun D=>Z (by have:=(D.2.2.2 O).2 k Y;rwa[V.out] at this);by_cases d:x<0
    .go_wp2_with fail;go_ret;exact⟨by rw[C.out];rfl,aF _ _⟩
    .have R:P<=x:=by omega
     go_wp2_with fail;go_ret;exact⟨by rw[C.out];rfl,aF _ _⟩
  .obtain rfl:k=Mod.length:=by omega
   have C:Hid (fC P M Mod=true):=kX ⟨K.out,T.out,fun h=>absurd h O,fun _=>⟨a.out,S.out⟩⟩;go_wp2_with fail;go_ret;exact⟨by rw[C.out];rfl,aF _ _⟩
theorem V1:(Tryz.prog.info? 3).map (·.size)=some 1:=by obtain⟨i,hi,A⟩:=Option.map_eq_some_iff.1 Tryz.infoInt;simp only[Prod.mk.injEq] at A;rw[hi];simp[A.2.1]
theorem ET{o:LI}{N e:Nat}(B:o.length=N)(A:e+1=N):splice (o.map (Value.int .i64)) 1 ((o.take e).map (Value.int .i64))=(o.take 1++o.take e).map (Value.int .i64):=by unfold splice;rw[List.map_append,List.map_take (l:=o) (i:=1)];congr 1;rw[List.drop_eq_nil_of_le (by simp;omega),List.append_nil]
theorem O1{o:LI}{N e:Nat}(E:o.length=N)(D:e+1=N):(o.take 1++o.take e).set 0 0=wI N o:=by
 refine List.ext_getElem (by simp[wI];omega) fun i A C=>?_;simp only[aZ9,aZ1,aY3] at A;by_cases h:i=0
 .subst h;simp[wI]
 .obtain⟨j,rfl⟩:∃j,i=j+1:=⟨i-1,by omega⟩
  rw[List.getElem_set_ne (by omega),List.getElem_append_right (by simp;omega)];have B:j<o.length:=by omega
  simp[wI,List.getD,B,show min 1 o.length=1 by omega]
theorem uY(w:World)(P M x y:Int)(mv:Value)(Mod:LI)(h:SI w mv Mod)(Ag:lW P M Mod)(Df:0<=x)(Dg:x<aC P M)(Di:0<=y)(Dj:y<aC P M):
   Calls Tryz.prog 152 #[.agg #[.int .i64 P,.int .i64 M,mv],.int .i64 x,.int .i64 y] w (iJ w (EF P M Mod x y)):=by
 obtain⟨H,δ,Cm,Bf,hq,Dc⟩:=bN Ag.1;have Dh:x<=256:=by omega
 have Dk:y<=256:=by omega
 have Au:=zh Ag;clear Ag;have Cc:=zh hq;clear hq;clear Dc Dg Dj;have Bx:=zh h;clear h;obtain⟨N,Co⟩:∃N:Nat,(N:Int)=M:=⟨M.toNat,by omega⟩
 have ω:M.toNat=N:=by omega
 have Ap:Hid (EF P M Mod x y=bL P (fK P (lL M Mod) (bU x P N) N (bU y P N))):=by
   have:EF P M Mod x y=bL P (fK P (lL M Mod) (bU x P N) N (bU y P N)):=by unfold EF;rw[ω]
   exact this
 have Cb:Hid (P^N<=256):=by rw[<-ω];exact Cc
 subst Co;have Dv:1<=N:=by omega
 have Dy:N<=8:=by omega
 have c:=zh (cV.mk' w P N mv);obtain⟨A,hA⟩:∃A,A=bU x P N:=⟨_,rfl⟩
 obtain⟨B,hB⟩:∃B,B=bU y P N:=⟨_,rfl⟩
 rw[<-hA,<-hB] at Ap;have η:=zh hA;have ι:=zh hB;clear hA hB ω;have θ:Hid (A.length=N):=by show _=_;rw[η.out,dI]
 have Z:Hid (B.length=N):=by show _=_;rw[ι.out,dI]
 have Ai:Hid (Rng P A):=fun k=>by rw[η.out];exact fN H k
 have Am:Hid (Rng P B):=fun k=>by rw[ι.out];exact fN H k
 have Cy:=fun(w:World)=>dV N (by omega) w;go_enter Tryz.func152,Tryz.ntmps152;go_wp2_with fail;obtain⟨w0,Bp⟩:∃w0,w0=w.alloc (.cells #[.int .i64 P,.int .i64 (N:Int),mv] 24):=⟨_,rfl⟩
 rw[<-Bp] at c|-;clear Bp;have c0:=c.c0;have c1:=c.c1;have c2:=c.c2;refine aG.start (S:=fun w'=>w'.cell? ⟨w.heap.size,0,none⟩=some (.int .i64 P)/\w'.cell? ⟨w.heap.size,1,none⟩=some (.int .i64 (N:Int))/\w'.cell? ⟨w.heap.size,2,none⟩=some mv) (by kernel_rfl) (⟨c0,c1,c2⟩) (fun E=>?_);change aG _ _ _ _ 14 _ _ _;refine tq 0 ?_;refine tq 1 ?_;refine tq 2 ?_;refine tq 3 ?_;refine tq 4 ?_;refine tq 6 ?_;refine tq 7 ?_;refine tq 8 ?_;refine tq 9 ?_;refine tq 10 ?_;try simp only[tz]
 refine aG.only (i:=5) (by kernel_rfl) rfl (fun K hK=>?_);go_simp;refine(uB _ x P (N:Int) Df Dh H (by omega) Bf).mono ?_;rintro e w1 ⟨Er,rfl,W,Aa⟩;rw[aZ8,<-η.out] at W;obtain⟨Dm,Em,rfl⟩:=W.form';have n:=zh (c.drew.on Aa);have Ca:=zh W;clear W Aa;have f:=n.c0;have g:=n.c1;have O:=n.c2;refine hK.out _ _ (⟨f,g,O⟩) ?_;clear hK K E;intro E;try simp only[tz]
 refine aG.only (i:=11) (by kernel_rfl) rfl (fun K hK=>?_);go_simp;refine(uB _ y P (N:Int) Di Dk H (by omega) Bf).mono ?_;rintro e w2 ⟨Es,rfl,R,Ab⟩;rw[aZ8,<-ι.out] at R;obtain⟨Dn,En,rfl⟩:=R.form';have F:=zh (n.on Ab);have Aq:=zh (Ca.below Ab zr);have Ar:=zh R;clear R Ab;have Bc:=F.c0;have Bd:=F.c1;have Be:=F.c2;refine hK.out _ _ (⟨Bc,Bd,Be⟩) ?_;clear hK K E;intro E;try simp only[tz]
 refine tq 12 ?_;try simp only[tz]
 refine aG.only (i:=13) (by kernel_rfl) rfl (fun K hK=>?_);go_simp;refine hK.out _ _ E (fun Q=>?_);clear hK K;clear Q;refine aG.done (by kernel_rfl) ?_;try simp only[tz]
 clear E;clear c0 c1 c2 f g O;rw[θ.out] at Aq|-;rw[Z.out] at Ar|-;have Cx:=F.lt;have Da:¬w.heap.size=w2.heap.size:=by omega
 go_wp2_with fail;clear Cy Cx Da;have Cd:=zh (Aq.si (by rw[θ.out];omega) (Ai.I δ));have Ce:=zh (Ar.si (by rw[Z.out];omega) (Am.I δ));have An:=zh (RI.made w2 N);have Aj:=zh (aF w2 (.cells (madeCells #[.int .i64 0] N) 3));have μ:Hid (RI (w2.alloc (.cells (madeCells #[.int .i64 0] N) 3)) w2.heap.size (fK P (lL N Mod) A N (B.drop N))):=by rw[show B.drop N=[] by rw[<-Z.out];exact List.drop_length];exact An
 obtain⟨C,hC⟩:∃C,C=w2.heap.size:=⟨_,rfl⟩
 have Ej:w.heap.size<C:=by have:=F.lt;omega
 rw[<-hC] at μ|-;have ν:=zh hC;clear hC An Bc Bd Be;go_loopw [10] (fun i wr=>∃k:Nat,k<=N/\i=.int .i64 ((k:Int)-1)/\Hid (RI wr C (fK P (lL N Mod) A N (B.drop k)))/\Hid (Below w2.heap.size w2 wr)) (fun i _=>(intOf i+1).toNat)
 case atStart=>exact⟨N,Nat.le_refl _,rfl,μ,Aj⟩
 case round=>
   clear μ Aj;obtain⟨k,Bk,rfl,T,Ay⟩:=hrel;have q:=zh (F.on Ay);have c0:=q.c0;have c1:=q.c1;have c2:=q.c2;by_cases Ec:0<k
   . obtain⟨m,rfl⟩:∃m,k=m+1:=⟨k-1,by omega⟩
     have hm:m<N:=by omega
     rw[show(((m+1:Nat):Int)-1)=(m:Int) by omega];obtain⟨e,Cr⟩:∃e:Nat,(N:Int)-1=(e:Int):=⟨N-1,by omega⟩
     have Cs:e<N:=by omega
     obtain⟨o,Af⟩:∃o,o=fK P (lL N Mod) A N (B.drop (m+1)):=⟨_,rfl⟩
     rw[<-Af] at T;have τ:=zh Af;clear Af;have J:Hid (o.length=N):=by show _=_;rw[τ.out];exact oG _ _ _ _ _
     have As:Hid (Rng P o):=fun j=>by rw[τ.out];exact tG H _ j
     have Bn:=T.cell e (by rw[J.out];exact Cs);obtain⟨tp,X⟩:∃tp,tp=o.getD e 0:=⟨_,rfl⟩
     rw[<-X] at Bn;have Ax:=zh X;clear X;have Dw:(1:Int)<=(N:Int):=Cm;have Ct:(e:Int)<=(N:Int):=by omega
     have Cu:(0:Int)<=(e:Int):=by omega
     have Ef:(0:Int)<=(m:Int):=by omega
     go_wp2_with fail;have De:IntKind.i64.wrap (e:Int)=(e:Int):=IntWalk.i64_in _ (by omega);have Cf:=zh (ET J (show e+1=N by omega));have Bv:Hid (0<((o.take e).map (Value.int .i64)).length->(if N=1 then some (⟨C,0,none⟩:Addr) else some ⟨C,1,none⟩)=some ⟨C,1,none⟩/\∃d,(some (⟨C,0,none⟩:Addr))=some d/\∀(j:Nat) (v:Value),((o.take e).map (Value.int .i64))[j]?=some v->wr.drew.cell? (d.add j)=some v):=by
       intro Db;have Eg:=J.out;simp only[aY7,aY3] at Db;refine⟨by rw[if_neg (by omega)],_,rfl,fun j v l=>?_⟩;by_cases Ae:j<e
       . have Dd:v=.int .i64 (o.getD j 0):=by
           have V:j<o.length:=by omega
           simp[List.getElem?_take,Ae,V] at l;rw[<-l];simp[List.getD,V]
         rw[Dd];have:=T.cell j (by omega);have O:(⟨C,0,none⟩:Addr).add j=⟨C,j,none⟩:=by unfold Addr.add;by_cases Cl:j=0<;>simp[Cl]
         rw[O];exact this
       . simp[List.getElem?_take,Ae] at l
     refine aG.start (S:=fun w'=>w'.cell? ⟨w.heap.size,0,none⟩=some (.int .i64 P)/\w'.cell? ⟨w.heap.size,1,none⟩=some (.int .i64 (N:Int))/\w'.cell? ⟨w.heap.size,2,none⟩=some mv) (by kernel_rfl) (⟨c0,c1,c2⟩) (fun E=>?_);change aG _ _ _ _ 8 _ _ _;refine tq 0 ?_;refine tq 1 ?_;refine tq 2 ?_;refine tq 3 ?_;refine tq 4 ?_;refine tq 5 ?_;refine tq 6 ?_;try simp only[tz]
     refine aG.only (i:=7) (o:=?op1) (by kernel_rfl) ?W (fun K hK=>?_)
     case W=>(conv=>lhs;simp only[tdg,tdh,tdi])
     refine step_copy_splice (by kernel_rfl) (.tmp 43) (.tmp 48) 22 22 (by kernel_rfl) 3 Tryz.underlying22 V1 (if N=1 then some ⟨C,0,none⟩ else some ⟨C,1,none⟩) (some ⟨C,0,none⟩) (N-1) (N-1) e N (by kernel_rfl) (by kernel_rfl) C 1 (o.map (Value.int .i64)) 3 T.out ((o.take e).map (Value.int .i64)) (by rw[aY7,aY3,J.out];show min e N=min e (N-1);omega) Bv.out (by rw[aY7,aY7,aY3,J.out];omega) (fun v l=>by obtain⟨z,_,rfl⟩:=List.mem_map.1 l;rfl) w2.heap.size w2 Ay.drew (by rw[ν.out];exact Nat.le_refl _) ?_;intro Bs Bj Ac;have r:Hid (RI Bs C (o.take 1++o.take e)):=aD (show Bs.heap[C]?=some (.cells ((o.take 1++o.take e).map (Value.int .i64)).toArray 3 (0,0)) from Cf.out▸Bj.out);have Ak:=zh Ac;have ξ:=zh (F.on Ac);clear Bj Ac;have f:=ξ.c0;have g:=ξ.c1;have O:=ξ.c2;refine hK.out _ _ (⟨f,g,O⟩) (fun Q=>?_);clear hK K;clear Q;refine aG.done (by kernel_rfl) ?_;try simp only[tz]
     clear E;generalize goInt (((o.take e).map (Value.int .i64)).length:Int)=Dt;generalize (if N=1 then some (⟨C,0,none⟩:Addr) else some ⟨C,1,none⟩)=Du;have Ch:=zh (O1 J (show e+1=N by omega));have R:(o.take 1++o.take e).length=N:=by rw[aZ1,aY3,aY3,J.out];omega
     have Br:=r.cell 0 (by rw[R];omega);have Ck:=r.frozen 0;generalize Y:(o.take 1++o.take e).getD 0 0=Eu at Br;have Bz:Hid (N-1=e):=by show _=_;omega
     clear Y R c0 c1 c2 Cr De Bn Ct Cu;have s:=zh (r.set 0 0);rw[Ch.out,<-JT P (lL N Mod) A o N (B.getD m 0)] at s;have Al:=zh (Ak.setCell (p:=⟨C,0,none⟩) (by rw[ν.out];exact Nat.le_refl _) (.int .i64 0));obtain⟨D,Ad⟩:∃D,D=B.getD m 0:=⟨_,rfl⟩
     rw[<-Ad] at s;have κ:=zh Ad;clear Ad;go_wp2_with fail;go_loopw [54] (fun t Bt=>∃j:Nat,j<=N/\t=.int .i64 (j:Int)/\Hid (RI Bt C (nA P (lL N Mod) A o N D j))/\Hid (Below w2.heap.size w2 Bt)) (fun t _=>(N-intOf t).toNat)
     case atStart=>exact⟨0,aZ5 _,rfl,s,Al⟩
     case round=>
       clear s Al r Ak f g O Br Ck;obtain⟨j,Ae,rfl,u,U⟩:=hrel;have π:=zh (F.on U);have c0:=π.c0;have c1:=π.c1;have c2:=π.c2;by_cases ε:j<N
       . have Bi:=JS (p:=P) (low:=lL N Mod) (a:=A) (out:=o) (b:=D) (k:=j) ε;have ψ:=u.cell j (by rw[NZ];exact ε);have Bb:=u.frozen j;obtain⟨z,Y⟩:∃z,z=(if j=0 then 0 else o.getD (j-1) 0):=⟨_,rfl⟩
         rw[Bi,<-Y] at ψ;clear Bi;obtain⟨d,L,rfl,Ba,_,Ah⟩:=(Cd.below U zr).elt (k:=j) (by rw[θ.out];exact ε);obtain⟨Az,Cj,rfl,cb,_,Bu⟩:=(Ce.below U zr).elt (k:=m) (by rw[Z.out];exact hm);obtain rfl:D=Cj:=by rw[κ.out,Bu.out]
         obtain⟨G,ζ⟩:∃G,G=(lL N Mod).getD j 0:=⟨_,rfl⟩
         have Bq:0<=z/\z<P:=by
           rw[Y];split
           . omega
           . exact As.out (j-1)
         have X:0<=tp/\tp<P:=by rw[Ax.out];exact As.out e
         have Bl:0<=G/\G<P:=by
           rw[ζ];unfold lL;split
           . rename_i V;have Cv:=(Au.2.2.2 (by omega)).2;by_cases Bk:j<Mod.length
             . exact Cv j Bk
             . rw[aW (by omega)];omega
           . rw[aW (by simp)];omega
         have Bh:0<=D/\D<P:=by rw[κ.out];exact Am.out m
         have Bg:0<=L/\L<P:=by rw[<-Ah.out];exact Ai.out j
         obtain⟨Dp,Dq,Dr,b4⟩:=D3 H δ Bq X Bl Bh Bg;have Av:=zh (N0 (p:=P) (low:=lL N Mod) (a:=A) (out:=o) (b:=D) ε);have σ:Hid (kT P (lL N Mod) A o N D j=(z+(P-tp)*G+D*L)%P):=by show _=_;unfold kT;rw[<-Y,<-ζ,Ah.out,Ax.out,Bz.out]
         have φ:=zh (u.set j ((z+(P-tp)*G+D*L)%P));have χ:=zh (U.setCell (p:=⟨C,j,none⟩) (by rw[ν.out];exact Nat.le_refl _) (.int .i64 ((z+(P-tp)*G+D*L)%P)));have Ao:=zh ζ;clear Y ζ;obtain⟨Ek,El⟩:=Bq;obtain⟨Eh,Ei⟩:=X;obtain⟨Ed,Ee⟩:=Bl;obtain⟨Eb,Aa⟩:=Bh;obtain⟨Dz,Ea⟩:=Bg;by_cases Dx:1<N
         . have Cz:(Mod.length:Int)=N:=(Au.2.2.2 (by omega)).1;obtain⟨Do,Eo,rfl,Bm⟩:=Bx.out;have Cp:(1:Int)<(N:Int):=by omega
           have Cw:j<Mod.length:=by omega
           obtain⟨Ep,Dl,rfl,Ds,_,By⟩:=(Bm.below (aA F.bel U) zr).elt Cw;obtain rfl:G=Dl:=by rw[Ao.out,<-By.out];unfold lL;rw[if_pos (by omega)]
           clear Cz Bm;go_wp2_with fail;have Cq:¬P=0:=by omega
           refine aM.start (S:=fun w'=>w'.cell? ⟨w.heap.size,0,none⟩=some (.int .i64 P)/\w'.cell? ⟨C,j,none⟩=some (.int .i64 z)/\w'.frozen? ⟨C,j,none⟩=false/\w'.cell? (d.add j)=some (.int .i64 L)/\w'.cell? (Az.add m)=some (.int .i64 D)) (by kernel_rfl) (⟨c0,ψ,Bb,Ba,cb⟩) (fun E=>?_);change aM _ _ _ _ 28 _ _ _;refine dq 0 ?_;refine dq 1 ?_;refine dq 2 ?_;refine dq 3 ?_;refine dq 4 ?_;refine dq 5 ?_;refine dq 6 ?_;refine dq 7 ?_;refine dq 8 ?_;refine dq 9 ?_;refine dq 10 ?_;refine dq 11 ?_;refine dq 12 ?_;refine dq 13 ?_;refine dq 14 ?_;refine dq 15 ?_;refine dq 16 ?_;refine dq 17 ?_;refine dq 18 ?_;refine dq 19 ?_;refine dq 20 ?_;refine dq 21 ?_;refine dq 22 ?_;refine dq 23 ?_;refine dq 24 ?_;refine dq 25 ?_;refine dq 26 ?_;try simp only[tz]
           refine aM.only (i:=27) (by kernel_rfl) rfl (fun K hK=>?_);go_simp;refine hK.out _ _ (fun h=>absurd rfl h) (fun Q=>?_);clear hK K;clear Q;refine aM.done (by kernel_rfl) ?_;try simp only[tz]
           clear E;go_wp2_with fail;exact⟨⟨j+1,by omega,rfl,by rw[<-Av.out,σ.out];exact φ.drew,χ.drew⟩,by simp only[intOf];omega⟩
         . have Cp:¬(1:Int)<(N:Int):=by omega
           obtain rfl:G=0:=by rw[Ao.out];unfold lL;rw[if_neg (by omega)];simp
           rw[Int.mul_zero] at φ χ σ;go_wp2_with fail;have Cq:¬P=0:=by omega
           refine aM.start (S:=fun w'=>w'.cell? ⟨w.heap.size,0,none⟩=some (.int .i64 P)/\w'.cell? ⟨C,j,none⟩=some (.int .i64 z)/\w'.frozen? ⟨C,j,none⟩=false/\w'.cell? (d.add j)=some (.int .i64 L)/\w'.cell? (Az.add m)=some (.int .i64 D)) (by kernel_rfl) (⟨c0,ψ,Bb,Ba,cb⟩) (fun E=>?_);change aM _ _ _ _ 28 _ _ _;refine dq 0 ?_;refine dq 1 ?_;refine dq 2 ?_;refine dq 3 ?_;refine dq 4 ?_;refine dq 5 ?_;refine dq 6 ?_;refine dq 7 ?_;refine dq 8 ?_;refine dq 9 ?_;refine dq 10 ?_;refine dq 11 ?_;refine dq 12 ?_;refine dq 13 ?_;refine dq 14 ?_;refine dq 15 ?_;refine dq 16 ?_;refine dq 17 ?_;refine dq 18 ?_;refine dq 19 ?_;refine dq 20 ?_;refine dq 21 ?_;refine dq 22 ?_;refine dq 23 ?_;refine dq 24 ?_;refine dq 25 ?_;refine dq 26 ?_;try simp only[tz]
           refine aM.only (i:=27) (by kernel_rfl) rfl (fun K hK=>?_);go_simp;refine hK.out _ _ (fun h=>absurd rfl h) (fun Q=>?_);clear hK K;clear Q;refine aM.done (by kernel_rfl) ?_;try simp only[tz]
           clear E;go_wp2_with fail;exact⟨⟨j+1,by omega,rfl,by rw[<-Av.out,σ.out];exact φ.drew,χ.drew⟩,by simp only[intOf];omega⟩
       . obtain rfl:N=j:=by omega
         have Bw:Hid (RI wr C (fK P (lL N Mod) A N (B.drop m))):=by have V:=u.out;rw[JR,κ.out,τ.out] at V;show RI _ _ _;rw[NX (by rw[Z.out];exact hm)];exact V
         go_wp2_with fail;exact⟨⟨m,by omega,rfl,Bw,U⟩,by simp only[intOf];omega⟩
   . obtain rfl:k=0:=by omega
     have ρ:Hid ((fK P (lL N Mod) A N B).length=N):=oG _ _ _ _ _;have At:Hid (Rng P (fK P (lL N Mod) A N B)):=fun j=>tG H _ j;rw[List.drop_zero] at T;have Aw:=zh (T.si (by rw[ρ.out];omega) (At.I δ));rw[ρ.out] at Aw;have Bo:∀i,i<(fK P (lL N Mod) A N B).length->0<=(fK P (lL N Mod) A N B).getD i 0/\(fK P (lL N Mod) A N B).getD i 0<P:=fun i _=>At.out i;have Ci:=zh Bo;clear Bo;rw[show(((0:Nat):Int)-1)= -1 by omega];go_wp2_with fail;refine(IG _ _ (fK P (lL N Mod) A N B) P Aw H Ci (by rw[ρ.out];exact Cb.out)).mono ?_;rintro e Et ⟨rfl,rfl⟩;go_wp2_with fail;go_ret;exact⟨by rw[Ap.out];rfl,q.bel⟩
end Go.Proofs.YtpfhoemohibniaaGreatDoor
