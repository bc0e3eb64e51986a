/- Parts. -/
import Derived.Test.YtnpfliklhbkonaaGreatDoorZA24
import Derived.Test.YtnpfliklhbkonaaGreatDoorZA28
set_option maxRecDepth 99999
set_option maxHeartbeats 0
namespace Go.Proofs.YtnpfliklhbkonaaGreatDoor
open Go.Proofs.Tryz
section
open Go.RowKit
theorem eq:im 400:=fun w x=>by go_enter func400,ntmps400;go_wp2;go_ret;exact⟨rfl,rfl⟩
theorem R7(w:Wo)(v:Va)(xs:LI)(C:SI w v xs):Calls prog 145 #[v,.func (.func 400) #[] #[]] w (fun e w'=>∃z,e=.returned (.int .i64 z)/\mF xs z/\w=w'):=by
 obtain⟨A,c,rfl,C⟩:=C;have hn:=C.len;have I:=zh C;clear C;go_enter func145,ntmps145;go_wp2;go_loop [8] (fun i=>∃k:Nat,k<=xs/\i=(k:aV)/\Hid (∀j,j<k->xs j 0=0)) (fun i=>xs.length-(intOf i).toNat)
 .exact⟨0,aZ5 _,rfl,aG fun j D=>aB D (aY5 _)⟩
 .
  obtain⟨k,hk,rfl,F⟩:=hrel;by_cases H:k<xs
  .obtain⟨K,x,rfl,L,_,G⟩:=I.elt H;go_wp2_with fail;apply(eq _ x).mono;rintro e w1⟨rfl,rfl⟩;by_cases B:x=0
   .rw[show(x !=0)=false by rw[eB];exact B];have J:=zh B;clear B;go_wp2;go_round
    .exact⟨k+1,om,by go_num,aG fun j D=>by
     by_cases e:j=k
     .subst e;rw[G.out,J.out]
     .exact F.out j om⟩
    .simp[intOf];omega
   .rw[show(x !=0)=true by rw[eC];exact B];have E:Hid (mF xs (k:Int)):=aG (.inl ⟨k,H,rfl,G.out▸B,F.out⟩);clear B;go_wp2;go_ret;exact⟨_,rfl,E.out,rfl⟩
  .have E : Hid (mF xs (-1)) := aG (.inr ⟨rfl, fun j => by
    by_cases D:j<k
    .exact F.out j D
    .rw[aZ4,aY4 om];rfl⟩)
   go_wp2;go_ret;exact⟨_,rfl,E.out,rfl⟩
theorem TN{O:aQ}{q:Int}(hO:O.Fld q){R:LL}{pl xs:LI}(A:∀j,0<=xs j 0/\xs j 0<q){i j:Nat}(B:ent R i j=0):cF O R pl (fun j=>xs j 0) (i+1) j=cF O R pl (fun j=>xs j 0) i j:=by simp only[cF];rw[B,hO.mul_zero,hO.neg_zero];exact hO.add_zero _ (jV hO A i j).1 (jV hO A i j).2
theorem AH(w:Wo)(a b m:Nat)(P M:Int)(Mq:LI)(rv pv u:Va)(R:LL)(pl xs:LI)(Af:GF w a P M Mq)(Ah:Blk w b 372 [.pointer a,rv,pv])(hR:SS w rv R)(Ag:SI w pv pl)(Aq:SI w u xs)
 (q:xs=m)(Bq:0<m)(Co:m<=1000)(hO:(aD P M Mq).Fld (aF P M))(t:∀j,0<=xs j 0/\xs j 0<aF P M)(hB:Bas (aF P M) m R pl):
 Calls prog 356 #[.pointer b,u] w (fun e w'=>∃(v:Va) (z:Int),e=.returned (.tuple #[v,z])/\OI w w' v (dJ (aD P M Mq) R pl xs R)/\mF (dJ (aD P M Mq) R pl xs R) z/\Below w w w'):=by
 have Av:=zh Af;have J:=zh Ah;have φ:=zh hR;have σ:=zh Ag;have ψ:=zh Aq;have ι:=zh hB;have π:=zh hO;have ω:=zh t;have Bt:=hR.len';obtain⟨Bm,As,rfl,_⟩:=hR;obtain⟨Cf,Bw,rfl,_⟩:=Ag;obtain⟨Ci,Cq,rfl,_⟩:=Aq;have X:=hB.len;obtain⟨r,s⟩:=xE R.length;have d:=zh s;rw[<-s] at φ J X Bt|-;rw[X] at σ J;rw[q] at ψ|-;have Az:=zh X;have An:∀(i j:Nat),I64 ((dJ (aD P M Mq) R pl xs i).getD j 0):=fun i j=>by
  by_cases Am:j<xs
  .rw[dJ,aK Am];have Ck:=jV hO (R:=R) (pl:=pl) t i j;have Cl:=aM P M;exact I64.of_small om om
  .rw[aZ4,aY4 (by rw[iG];omega)];exact I64.of_small dC dC
 have Ay:=zh An;have C:=zh q;clear Af Ah hB hO t s An q X;go_enter func356,ntmps356;go_wp2_with fail;apply(iH w _ xs ψ).mono;rintro e w1⟨y,rfl,V,p⟩;have ζ:=zh p;obtain⟨gv,E,rfl,Cm,_⟩:=V.form (C.out▸Bq);rw[C.out] at V|-;have Aa:Hid (OI w w1 (.slice gv m E) (dJ (aD P M Mq) R pl xs 0)):=aG (by rw[F6];exact V);have l:w1.cell? (b 1 none)=some (.slice Bm r As):=(J.belowS p).cell 1;clear V p;go_wp2_with fail;clear l;go_loopw [18] (fun i wr=>∃k:Nat,k<=r/\i=(k:aV)/\Hid (OI w wr (.slice gv m E) (dJ (aD P M Mq) R pl xs k))/\Hid (Below w w wr)) (fun i _=>r-(intOf i).toNat)
 .exact⟨0,aZ5 _,rfl,Aa,ζ⟩
 .
  clear Aa ζ;obtain⟨k,hk,rfl,B,A⟩:=hrel;have c:=zh (J.belowS A);by_cases U:k<r
  .obtain⟨Bp,Cd,Cj,row,rfl,Aj,Bc,τ⟩:=φ.eltA (k:=k) (d.out▸U);have Ai:=aE A.out Aj;clear Aj;have Z:row=m:=by rw[<-τ.out];exact(ι.rows k (d.out▸U)).1
   rw[Z] at Ai;have χ:=zh Bc.si;rw[Z] at χ;have Bb:=zh Z;clear Z;obtain⟨Ao,W⟩:=ι.lt k (d.out▸U);obtain⟨Bx,Bz,rfl,Br,_,Ba⟩:=(σ.below A zr).elt (k:=k) (Az.out▸U);obtain⟨I,Y⟩:=xE (pvt pl k);have Bs:Bz=(I:Int):=by rw[Y];unfold pvt;rw[Ba.out] at Ao|-;omega
   subst Bs;rw[<-Y] at W;have ρ:=zh Y;obtain⟨z,H⟩:=xE ((dJ (aD P M Mq) R pl xs k).getD I 0);have Ar:=B.cell I (by rw[iG,C.out];exact W);rw[<-H] at Ar;have T:=zh H;have l:wr.cell? (b 1 none)=some (.slice (some Bp) r As):=c.cell 1;have Bn:wr.cell? (b 2 none)=some (.slice (some Bx) r Bw):=c.cell 2;have F:wr.cell? b=some (.pointer a):=c.cell 0;have Ap:I<m:=W;clear Y H Ao W;by_cases ε:z=0
   .have Be:Hid (dJ (aD P M Mq) R pl xs (k+1)=dJ (aD P M Mq) R pl xs k):=aG (F5 π ω (by
     have h:=T.out;rw[ε,dJ,aK (C.out▸Ap)] at h;rw[<-ρ.out];exact h.symm))
    subst ε;go_wp2;exact⟨⟨k+1,om,pC,Be.out▸B,A⟩,oI⟩
   .have Cp:(z !=0)=true:=by rw[eC];exact ε
    have Ab:Hid (OI w wr (.slice gv m E) (bZ xs (cF (aD P M Mq) R pl (fun j=>xs j 0) (k+1)) (cF (aD P M Mq) R pl (fun j=>xs j 0) k) 0)):=aG (by rw[eT];exact B.out);have Bl:Hid (z=cF (aD P M Mq) R pl (fun j=>xs j 0) k (pvt pl k)):=aG (by have h:=T.out;rw[dJ,aK (C.out▸Ap)] at h;rw[<-ρ.out];exact h);have η:=zh A.out;clear B F A;go_wp2_with fail;clear Ai Br Ar l Bn;go_loopw [37] (fun i wr=>∃j:Nat,j<=m/\i=(j:aV)/\Hid (OI w wr (.slice gv m E) (bZ xs (cF (aD P M Mq) R pl (fun j=>xs j 0) (k+1)) (cF (aD P M Mq) R pl (fun j=>xs j 0) k) j))/\Hid (Below w w wr)) (fun i _=>m-(intOf i).toNat)
    .exact⟨0,aZ5 _,rfl,Ab,η⟩
    .
     clear Ab η;obtain⟨j,Am,rfl,B,A⟩:=hrel;by_cases Q:j<m
     .obtain⟨Cr,y,rfl,Bv,_,Bk⟩:=(χ.below A zr).elt (k:=j) (Bb.out▸Q);have ν:=zh (fQ (f:=cF (aD P M Mq) R pl (fun j=>xs j 0) (k+1)) (g:=cF (aD P M Mq) R pl (fun j=>xs j 0) k) (N:=xs.length) (k:=j) (C.out▸Q));obtain⟨x,δ⟩:=xE (cF (aD P M Mq) R pl (fun j=>xs j 0) k j);have L:=B.cell j (by rw[fA,C.out];exact Q);rw[fK (C.out▸Q),<-δ] at L;have Bi:=zh δ;have F:wr.cell? b=some (.pointer a):=(J.belowS A).cell 0;have Al:Hid (ent R k j=y):=aG (by unfold ent;rw[τ.out];exact Bk.out);clear δ;by_cases S:y=0
      .have Bu:(y !=0)=false:=by rw[eB];exact S
       have Ce:=zh (B.set j x);have Bh:Hid (OI w wr (.slice gv m E) (bZ xs (cF (aD P M Mq) R pl (fun j=>xs j 0) (k+1)) (cF (aD P M Mq) R pl (fun j=>xs j 0) k) (j+1))):=aG (by
        have e:bZ xs (cF (aD P M Mq) R pl (fun j=>xs j 0) (k+1)) (cF (aD P M Mq) R pl (fun j=>xs j 0) k) (j+1)=bZ xs (cF (aD P M Mq) R pl (fun j=>xs j 0) (k+1)) (cF (aD P M Mq) R pl (fun j=>xs j 0) k) j:=by
         rw[<-ν.out,TN π.out ω.out (Al.out▸S)];refine GZ sM fun i hi=>?_;rw[aZ9] at hi;by_cases e:j=i
         .subst e;rw[fK (C.out▸Q),aZ4,List.getElem?_set_self hi];simp
         .simp[List.getD,List.getElem?_set_ne e]
        rw[e];exact B.out)
       clear L S F;go_wp2;exact⟨⟨j+1,om,pC,Bh,A⟩,oI⟩
      .have Bu:(y !=0)=true:=by rw[eC];exact S
       have κ:=zh (aC A (aI wr));have Bj:=zh (B.below (aI wr) zr);have ξ:=zh (Av.on κ);clear S;go_upto_region 11 with fail;clear Bv;refine db 20 F L fun o=>?_;refine dq 0 ?_;refine dq 1 ?_;refine dq 2 ?_;refine dq 3 ?_;refine dq 4 ?_;refine dq 5 ?_;refine dq 6 ?_;refine dq 7 ?_;refine dq 8 ?_;refine dq 9 ?_;refine dq 10 ?_;refine dq 11 ?_;refine dq 12 ?_;refine dq 13 ?_;refine dq 14 ?_;refine dq 15 ?_;try simp only[tz]
       refine dn 16 fun K hK=>?_;go_simp;apply(lE wr.drew a P M z y Mq ξ).mono;rintro e Ca⟨rfl,G⟩;have At:=zh (aC κ G);have Bg:=zh (Bj.below G zr);have Aw:=zh (ξ.on G);have b4:=aE (aC (aI wr) G) F;have n:=aE (aC (aI wr) G) L;clear G;refine hK.out _ _ (fun _=>⟨b4,n⟩) (fun D=>?_);replace o:=D dC;clear D;try simp only[tz]
       refine dn 17 fun K hK=>?_;go_simp;apply(J3 Ca a P M x _ Mq Aw).mono;rintro e Cb⟨rfl,O⟩;have θ:=zh (aC At O);have Ac:=zh (Bg.below O zr);have b5:=aE O b4;have Ae:=aE O n;have Bo:=Ac.frozen j;clear O;refine hK.out _ _ (fun _=>⟨b5,Ae⟩) (fun D=>?_);replace o:=D dC;clear D;try simp only[tz]
       refine dq 18 ?_;try simp only[tz]
       refine dn 19 fun K hK=>?_;go_simp;refine hK.out _ _ (fun h=>aB rfl h) fun _=>?_;refine dw ?_;try simp only[tz]
       clear o;have Ad:=zh (Ac.set j (fW P M x (iO P M (bM P M Mq z y))));have μ:Hid (fW P M x (iO P M (bM P M Mq z y))=cF (aD P M Mq) R pl (fun j=>xs j 0) (k+1) j):=aG (by simp only[cF];rw[<-Bi.out,<-Bl.out,Al.out];rfl);rw[μ.out,ν.out] at Ad;have Bf:=zh (θ.grown (aU Cb gv j (.int .i64 (cF (aD P M Mq) R pl (fun j=>xs j 0) (k+1) j))) θ.size (fun b e=>oA (aZ0 e)));rw[μ.out];clear F L b4 n b5 Ae Bo;go_wp2;exact⟨⟨j+1,om,pC,Ad,Bf⟩,oI⟩
     .obtain rfl:m=j:=om;have Au:Hid (OI w wr (.slice gv m E) (dJ (aD P M Mq) R pl xs (k+1))):=aG (by have:=B.out;rw[show bZ xs (cF (aD P M Mq) R pl (fun j=>xs j 0) (k+1)) (cF (aD P M Mq) R pl (fun j=>xs j 0) k) m=dJ (aD P M Mq) R pl xs (k+1) by rw[<-C.out,eR];rfl] at this;exact this);go_wp2;exact⟨⟨k+1,om,pC,Au,A⟩,oI⟩
  .obtain rfl:r=k:=om;have Ax:Hid ((dJ (aD P M Mq) R pl xs r).length=m):=aG (by rw[iG];exact C.out);have Bd:Hid (SI wr (.slice gv m E) (dJ (aD P M Mq) R pl xs r)):=aG (B.si (oA Ax.out) (Ay.out r));go_wp2_with fail;apply(R7 wr _ _ Bd).mono;rintro e w1⟨Cc,rfl,H,rfl⟩;have T:=zh H;clear H;go_wp2;go_ret2;exact⟨_,Cc,rfl,B.out,T.out,A.out⟩
structure LW(w:Wo)(a b m:Nat)(P M:Int)(Mq:LI)(R:LL)(pl:LI)(rv pv:Va):Prop where
 gf:GF w a P M Mq
 blk:Blk w b 372 [.pointer a,rv,pv]
 r:SS w rv R
 p:SI w pv pl
 bas:Bas (aF P M) m R pl
theorem LW.on{w w':Wo}{a b m:Nat}{P M:Int}{Mq:LI}{R:LL}{pl:LI}{rv pv:Va}(h:LW w a b m P M Mq R pl rv pv)(A:Below w w w'):LW w' a b m P M Mq R pl rv pv:=
 ⟨h.gf.on A,h.blk.belowS A,h.r.below A zr,h.p.below A zr,h.bas⟩
theorem yT{O:aQ}{q:Int}(hO:O.Fld q){m:Nat}{R:LL}{pl xs:LI}(hB:Bas q m R pl)(B:xs=m)(C:∀j,0<=xs j 0/\xs j 0<q):(∀j,(dJ O R pl xs R).getD j 0=0)↔aZ O R fun j=>xs j 0:=by
 rw[<-DT hO hB C];have D:∀j,xs.length<=j->cF O R pl (fun j=>xs j 0) R j=0:=fun j A=>zT hO (by rw[B];exact hB.rows) A _;constructor
 .intro h j;by_cases A:j<xs
  .have:=h j;rwa[dJ,aK A] at this
  .exact D j om
 .intro h j;by_cases A:j<xs
  .rw[dJ,aK A];exact h j
  .rw[aZ4,aY4 (by rw[iG];omega)];rfl
theorem WA(w:Wo)(a b m t:Nat)(P M:Int)(Mq:LI)(R:LL)(pl:LI)(rv pv u:Va)(xs:LI)(h:LW w a b m P M Mq R pl rv pv)(Q:w.cell? t=some (.pointer b))(I:SI w u xs)(C:xs=m)(K:0<m)(L:m<=1000)(hO:(aD P M Mq).Fld (aF P M))(D:∀j,0<=xs j 0/\xs j 0<aF P M):
 Calls prog 357 #[u,.pointer t] w (fun e w'=>∃c:Bool,e=.returned (.bool c)/\(c=false↔aZ (aD P M Mq) R fun j=>xs j 0)/\Below w w w'):=by
 have J:=zh (AH w a b m P M Mq rv pv u R pl xs h.gf h.blk h.r h.p I C K L hO D h.bas);have F:=zh (yT hO h.bas C D);obtain⟨O,T,rfl,_⟩:=I;clear h D hO C;go_enter func357,ntmps357;go_wp2_with fail;apply J.mono;rintro e w1⟨v,z,rfl,N,A,G⟩;have E:=zh G;clear N G;rcases A with⟨k,hk,rfl,H,_⟩|⟨rfl,A⟩
 .have B:Hid ((true=false)↔aZ (aD P M Mq) R fun j=>xs j 0):=aG ⟨fun h=>(by cases h),fun h=>aB (F.2 h k) H⟩;have S:(0:Int)<=(k:Int):=om;have t2:¬(k:Int)<0:=om;clear H;go_wp2;go_ret;exact⟨true,rfl,B.out,E.out⟩
 .have B:Hid (aZ (aD P M Mq) R fun j=>xs j 0):=aG (F.1 A);clear A;go_wp2;go_ret;exact⟨false,rfl,⟨fun _=>B.out,fun _=>rfl⟩,E.out⟩
theorem AG(w:Wo)(a b m:Nat)(P M:Int)(Mq:LI)(R:LL)(pl:LI)(rv pv v:Va)(rows:LL)(h:LW w a b m P M Mq R pl rv pv)(K:SS w v rows)(hR:Rows (aF P M) m rows)(ε:0<m)(ζ:m<=1000)(hO:(aD P M Mq).Fld (aF P M)):
 Calls prog 269 #[.pointer b,v] w (fun e w'=>∃z:Int,e=.returned (z:aV)/\((z= -1/\cH (aD P M Mq) rows R)\/∃k:Nat,z=(k:Int)/\k<rows/\¬cH (aD P M Mq) rows R)/\Below w w w'):=by
 have H:=zh h;have S:=zh K;have s:=zh hR;have r:=zh hO;have δ:=K.len';obtain⟨A,c,rfl,_⟩:=K;obtain⟨n,hn⟩:=xE rows.length;have E:=zh hn;rw[<-hn] at S δ|-;clear h hR hO hn;go_enter func269,ntmps269;go_upto_region 1 with fail;obtain⟨w1,t2,T,U,V,W⟩:=aR w 306 [.pointer b];rw[T,U];have G:=zh W;have u:=zh V;clear T U V W;have o:Hid (Calls prog 271 #[.slice A n c,.func (.func 357) #[] #[.pointer t2]] w1 (fun e w'=>∃z:Int,e=.returned (z:aV)/\((z= -1/\cH (aD P M Mq) rows R)\/∃k:Nat,z=(k:Int)/\k<n/\¬cH (aD P M Mq) rows R)/\Below w1 w1 w')):=aG (by
  have L:=zh (bE w1);go_enter func271,ntmps271;go_wp2;go_loopw [8] (fun i wr=>∃k:Nat,k<=n/\i=(k:aV)/\Hid (∀j,j<k->aZ (aD P M Mq) R (ent rows j))/\Hid (Below w1 w1 wr)) (fun i _=>n-(intOf i).toNat)
  .exact⟨0,aZ5 _,rfl,aG (fun j h=>aB h (aY5 _)),L⟩
  .
   clear L;obtain⟨k,hk,rfl,N,B⟩:=hrel;by_cases F:k<n
   .obtain⟨θ,η,ι,row,rfl,κ,t,Q⟩:=(S.below (aC G B) zr).eltA (k:=k) (E.out▸F);have J:=zh (s k (E.out▸F));rw[Q.out] at J;have O:=J.1;have X:=WA wr a b m t2 P M Mq R pl rv pv _ row (H.on (aC G B)) ((u.belowS B).cell 0) t.si O ε ζ r.out J.2;have f:=zh X;clear X O;go_wp2_with fail;apply f.mono;rintro e w2⟨y,rfl,Y,C⟩;have D:=zh (aC B C);have I:=zh Y;clear C Y;have g:Hid ((fun j=>row j 0)=ent rows k):=aG (by funext j;unfold ent;rw[Q.out]);rw[g.out] at I;cases y
    .have q : Hid (∀ j, j < k + 1 -> aZ (aD P M Mq) R (ent rows j)) := aG fun j Z => by
      by_cases e:j=k
      .subst e;exact I.1 rfl
      .exact N.out j om
     go_wp2;exact⟨⟨k+1,om,pC,q,D⟩,oI⟩
    .have p : Hid (¬ cH (aD P M Mq) rows R) := aG fun h => by
      have:=I.2 (h k (E.out▸F));cases this
     go_wp2;go_ret;exact⟨_,rfl,.inr ⟨k,rfl,F,p.out⟩,D.out⟩
   .obtain rfl:n=k:=om;have l:Hid (cH (aD P M Mq) rows R):=aG fun j Z=>N.out j (E.out▸Z);go_wp2;go_ret;exact⟨_,rfl,.inl ⟨rfl,l.out⟩,B.out⟩)
 go_wp2_with fail;apply o.mono;rintro e w2⟨z,rfl,d,C⟩;have x:=zh d;have D:=zh (aC G C);clear d C;go_wp2;go_ret;exact⟨z,rfl,x.out,D.out⟩
structure SpM(B b a:Nat)(rv pv:Va)(R:LL)(pl:LI)(w:Wo):Prop where
 lo:B<=b
 blk:Blk w b 372 [.pointer a,rv,pv]
 r:OS B (fun g=>g=b\/pv.ownBlock=some g) w rv R
 rn:∀g,rv.ownBlock=some g->g≠b/\pv.ownBlock≠some g
 p:OI B w pv pl
 pn:∀g,pv.ownBlock=some g->g≠b
section
variable {B b a:Nat} {rv pv rv' pv':Va} {R:LL} {pl:LI} {w w' w9 w0:Wo}
theorem SpM.on(h:SpM B b a rv pv R pl w)(A:Below w w w'):SpM B b a rv pv R pl w':=
 ⟨h.lo,h.blk.belowS A,h.r.below A,h.rn,h.p.below A zr,h.pn⟩
theorem SpM.size(h:SpM B b a rv pv R pl w):B<=w.heap.size:=by have:=h.blk.lt;have:=h.lo;omega
theorem SpM.start(hB:B<=b)(h:Blk w b 372 [.pointer a,.slice none 0 0,.slice none 0 0]):SpM B b a (():aV) (():aV) [] [] w:=
 ⟨hB,h,OS.nil _ _ _,fun g A=>by simp[Value.ownBlock] at A,OI.nil _ _,fun g A=>by simp[Value.ownBlock] at A⟩
theorem SpM.ech{m:Nat}{P M:Int}{Mq:LI}(h:SpM B b a rv pv R pl w)(D:GF w a P M Mq)(A:Bas (aF P M) m R pl)(G:m<=1000)(F:R.length<=1000):LW w a b m P M Mq R pl rv pv:=by
 refine⟨D,h.blk,h.r.ss om,h.p.si (by rw[A.len];omega) fun k=>?_,A⟩;by_cases hk:k<R
 .obtain⟨E,C⟩:=A.lt k hk;unfold pvt at C;exact I64.of_small om om
 .rw[aZ4,aY4 (by rw[A.len];omega)];exact I64.zero
theorem SpM.boxR(h:SpM B b a rv pv R pl w)(A:w.grownBy w9 rv.ownBlock):Blk w9 b 372 [.pointer a,rv,pv]:=h.blk.grown A fun e=>(h.rn _ e.symm).1 rfl
theorem SpM.boxP(h:SpM B b a rv pv R pl w)(A:w.grownBy w9 pv.ownBlock):Blk w9 b 372 [.pointer a,rv,pv]:=h.blk.grown A fun e=>h.pn _ e.symm rfl
theorem SpM.pushR{D:LL}(h:SpM B b a rv pv R pl w)(H:OS B (fun g=>g=b\/pv.ownBlock=some g) w9 rv' D)(E:w.grownBy w9 rv.ownBlock)(C:rv'.ownBlock=rv.ownBlock\/rv'.ownBlock=some w.heap.size):SpM B b a rv' pv D pl (w9.setCell (b 1 none) rv'):=by
 have F:=aU w9 b 1 rv';have I:=h.blk.lt;have G:∀g,rv'.ownBlock=some g->g≠b/\pv.ownBlock≠some g:=fun g e=>by
  rcases C with C|C
  .exact h.rn g (C▸e)
  .rw[C] at e;injection e with e
   subst e;exact⟨om,fun e=>oA ((h.p.lt e).2)⟩
 refine⟨h.lo,(h.boxR E).set_ 1 rv',H.grown F fun g e=>?_,G,(h.p.grown E fun g e A=>(h.rn g A).2 e).grown F fun g e A=>h.pn g e (by injection A with A;exact A.symm),h.pn⟩;injection e with e;subst e;exact⟨fun e=>(G _ e).1 rfl,.inl rfl⟩
theorem SpM.pushP{pl':LI}(h:SpM B b a rv pv R pl w)(J:OI B w9 pv' pl')(D:w.grownBy w9 pv.ownBlock)(A:pv'.ownBlock=pv.ownBlock\/pv'.ownBlock=some w.heap.size):SpM B b a rv pv' R pl' (w9.setCell (b 2 none) pv'):=by
 have E:=aU w9 b 2 pv';have L:=h.blk.lt;have F:∀g,pv'.ownBlock=some g->g≠b:=fun g e=>by
  rcases A with A|A
  .exact h.pn g (A▸e)
  .rw[A] at e;injection e with e;omega
 have K:∀g,rv.ownBlock=some g->g≠b/\pv'.ownBlock≠some g:=fun g e=>by
  refine⟨(h.rn g e).1,fun C=>?_⟩;rcases A with A|A
  .exact(h.rn g e).2 (A▸C)
  .rw[A] at C;injection C with C;have:=(h.r.lt e).2;omega
 have G:OS B (fun g=>g=b\/pv.ownBlock=some g\/pv'.ownBlock=some g) w rv R:=h.r.names fun g M e=>by
  rcases e with e|e|e
  .exact .inl e
  .exact .inr e
  .rcases A with A|A
   .exact .inr (A▸e)
   .rw[A] at e;injection e with e;omega
 have H:=G.grown D fun g e=>⟨fun C=>(h.rn g C).2 e,.inr (.inl e)⟩
 have I:=H.grown E fun g e=>by
  injection e with e
  subst e;exact⟨fun e=>(h.rn _ e).1 rfl,.inl rfl⟩
 refine⟨h.lo,(h.boxP D).set_ 2 pv',I.names fun g _ e=>e.elim .inl fun e=>.inr (.inr e),K,J.grown E fun g e C=>F g e (by injection C with C;exact C.symm),F⟩
theorem SpM.belR(h:SpM B b a rv pv R pl w)(C:Below B w0 w)(A:w.grownBy w9 rv.ownBlock)(i:Nat)(u:Va):Below B w0 (w9.setCell ⟨b,i,none⟩ u):=
 (C.grown A h.size fun g e=>(h.r.lt e).1).grown (aU w9 b i u) (aZ6 h.size A.size) fun g e=>by injection e with e;subst e;exact h.lo
theorem SpM.belP(h:SpM B b a rv pv R pl w)(C:Below B w0 w)(A:w.grownBy w9 pv.ownBlock)(i:Nat)(u:Va):Below B w0 (w9.setCell ⟨b,i,none⟩ u):=
 (C.grown A h.size fun g e=>(h.p.lt e).1).grown (aU w9 b i u) (aZ6 h.size A.size) fun g e=>by injection e with e;subst e;exact h.lo
end
theorem T6{O:aQ}{q:Int}(hO:O.Fld q){R rows:LL}{x:LI}(A:∀y,aZ O R y↔aZ O rows y)(D:aZ O R fun j=>x j 0)(y:Nat->Int):aZ O R y↔aZ O (rows++[x]) y:=by
 rw[A,qV hO];constructor
 .exact fun h=>⟨y,fun _=>0,h,aZ.zero hO _,fun j=>(hO.add_zero _ (h.lt hO j).1 (h.lt hO j).2).symm⟩
 .rintro⟨u,v,C,⟨c,B⟩,F⟩;have E:=((A _).1 D).smul hO (c 0);refine(C.add hO E).congr fun j=>?_;rw[F j,B j];show O.add _ (O.add 0 (O.mul (c 0) (x j 0)))=_;have:=hO.lt.mul (c 0) (x j 0);rw[hO.zero_add this.1 this.2]
theorem T7{O:aQ}{q:Int}(hO:O.Fld q){m:Nat}{R rows:LL}{pl x:LI}(hB:Bas q m R pl)(G:∀y,aZ O R y↔aZ O rows y)(K:x=m)(L:∀j,0<=x j 0/\x j 0<q){k:Nat}(hk:k<m)(E:(dJ O R pl x R).getD k 0≠0):
 Bas q m (R++[bN O (O.inv ((dJ O R pl x R).getD k 0)) (dJ O R pl x R)]) (pl++[(k:Int)])/\∀y,aZ O (R++[bN O (O.inv ((dJ O R pl x R).getD k 0)) (dJ O R pl x R)]) y↔aZ O (rows++[x]) y:=by
 have F:∀j,j<m->(dJ O R pl x R).getD j 0=cF O R pl (fun j=>x j 0) R j:=fun j B=>by rw[dJ,aK om]
 rw[F k hk] at E|-;obtain⟨H,I⟩:=Bas.snoc hO hB L hk E (r:=bN O (O.inv (cF O R pl (fun j=>x j 0) R k)) (dJ O R pl x R)) (by rw[gL,iG,K]) (fun j B=>by rw[jD hO,F j B]) fun j B=>by rw[aZ4,aY4 om];rfl
 refine⟨H,fun y=>?_⟩;rw[I,qV hO];constructor
 .rintro⟨u,c,C,_,D⟩;refine⟨u,fun j=>O.mul c (x j 0),(G _).1 C,⟨fun _=>c,fun j=>?_⟩,D⟩;show _=O.add 0 (O.mul c (x j 0));have:=hO.lt.mul c (x j 0);rw[hO.zero_add this.1 this.2]
 .rintro⟨u,v,C,⟨c,J⟩,D⟩;refine⟨u,O.mul 1 (c 0),(G _).2 C,hO.lt.mul _ _,fun j=>?_⟩;have A:=hO.lt.mul (c 0) (x j 0);rw[D j,J j];show O.add (u j) (O.add 0 (O.mul (c 0) (x j 0)))=_;rw[hO.zero_add A.1 A.2,hO.mul_assoc,hO.one_mul A.1 A.2]
