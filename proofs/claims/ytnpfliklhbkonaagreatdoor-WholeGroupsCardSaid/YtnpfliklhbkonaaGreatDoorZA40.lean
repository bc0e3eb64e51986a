/- Parts. -/
import Derived.Test.YtnpfliklhbkonaaGreatDoorZA38
import Derived.Test.YtnpfliklhbkonaaGreatDoorZA39
set_option maxRecDepth 99999
set_option maxHeartbeats 0
set_option linter.unusedSectionVars false
set_option linter.unusedVariables false
namespace Go.Proofs.YtnpfliklhbkonaaGreatDoor
open Go.Proofs.Tryz
section
open Go.RowKit
def qW(O:aQ)(c:Int)(xs row:LI):Nat->Int:=fun j=>O.add (xs j 0) (O.mul c (row j 0))
def EV(O:aQ)(n:Nat)(c:Int)(xs row:LI):LI:=aT n (qW O c xs row)
section
variable {O:aQ} {q:Int} (hO:O.Fld q) {n:Nat} {xs row:LI}
include hO
theorem Y2(c:Int)(C:xs=n)(B:row=n):(fun j=>(EV O n c xs row).getD j 0)=qW O c xs row:=funext fun j=>by
 by_cases A:j<n
 .rw[EV,aK A]
 .rw[aZ4,aY4 (by rw[EV,aW];omega)];unfold qW;rw[bG om,bG om,hO.mul_zero];have:=hO.lt.pos;exact(hO.add_zero 0 om om).symm
theorem Y1(c:Int)(j:Nat):0<=qW O c xs row j/\qW O c xs row j<q:=hO.lt.add _ _
theorem T8(c:Int)(A:∀j,0<=xs j 0/\xs j 0<q){j:Nat}(h:row j 0=0):qW O c xs row j=xs j 0:=by unfold qW;rw[h,hO.mul_zero];exact hO.add_zero _ (A j).1 (A j).2
end
def LV(O:aQ)(q:Int)(n:Nat)(G:LL)(xs:LI)(C left:Nat)(B:Bool)(i c:Nat)(best:LI):Prop:=
 ∀(A:Nat) (c':Int) (y:Nat->Int),C<=A->(A<i\/(A=i/\c'<(c:Int)))->A+left<G.length->1<=c'->c'<q->(B=true->c'=1)->Cmb O q G (A+1) left false (fun j=>O.add (xs j 0) (O.mul c' (ent G A j))) y->cG y n≠0->BdW n best (cG y n)
def OH(O:aQ)(q:Int)(n:Nat)(gen G:LL)(a sb B:Nat)(P M N:Int)(Mq:LI)(mv gv sv Gv:Va)(left:Nat):Prop:=
 ∀(w:Wo) (A:Nat) (D:Bool) (F:Va) (xs best:LI) (k:Nat),(∀H,Below B w H->GF H a P M Mq)->SrS O q n gen a sb P M N mv gv sv w best k->Sep (sb+1) w (fun w2=>SS w2 Gv G)->Sep (sb+1) w (fun w2=>SI w2 F xs)->
  xs=n->(∀j,0<=xs j 0/\xs j 0<q)->aZ O gen (fun j=>xs j 0)->A<=1000->k+cmN q.toNat (G.length-A) left<=1000000->
  Calls prog 82 #[.pointer sb,Gv,F,A,left,.bool D] w (fun e w'=>e=.returned (.tuple #[])/\∃C E,SrS O q n gen a sb P M N mv gv sv w' C E/\w.grownBy w' (some sb)/\E<=k+cmN q.toNat (G.length-A) left/\
   (∀m,BdW n best m->BdW n C m)/\∀y,Cmb O q G A left D (fun j=>xs j 0) y->cG y n≠0->BdW n C (cG y n))
section
variable {a sb B n:Nat} {P M N:Int} {Mq:LI} {mv gv sv Gv:Va} {gen G:LL} (hO:(aD P M Mq).Fld (aF P M)) (hB:B<=sb) (hn:n<=1000) (hn1:1<=n) (hR:Rows (aF P M) n G) (hI:cH (aD P M Mq) G gen) (hGl:G.length<=100)
include hO hB hn hn1 hR hI hGl
theorem UD:OH (aD P M Mq) (aF P M) n gen G a sb B P M N Mq mv gv sv Gv 0:=by
 intro w A c b xs best k C D Y Q I K O d hk;have F:cmN (aF P M).toNat (G.length-A) 0=1:=by cases G.length-A<;>rfl
 rw[F] at hk|-;have T:=zh (bn w B a sb n k P M N Mq mv gv sv b gen best xs C hB hO D Q I hn hn1 K O om);clear C D Y Q I K O F hO hR hI;go_enter func82,ntmps82;go_wp2_with fail;apply T.mono;rintro e w1⟨rfl,W,L,H,J,E⟩;have V:=zh L;have S:=zh H;have U:=zh J;have R:=zh E;clear L H J E;go_wp2;refine bodyPost_ret (v:=.tuple #[]) (by simp[results,results82,go_sem]) rfl ?_;refine⟨rfl,W,k+1,V.out,S.out,zr,U.out,fun y Z X=>?_⟩;cases Z;exact R.out X
theorem UC(left:Nat)(Ek:left<=100)(Bs:OH (aD P M Mq) (aF P M) n gen G a sb B P M N Mq mv gv sv Gv left):OH (aD P M Mq) (aF P M) n gen G a sb B P M N Mq mv gv sv Gv (left+1):=by
 intro w E S Eu xs best k Bc Ab ω Ai Ac Bq Br Ee hk;have Dg:=aM P M;have Dh:=hO.lt.pos;obtain⟨q,hq⟩:∃q:Nat,aF P M=(q:Int):=⟨(aF P M).toNat,om⟩
 have Y:=zh hq;have Af:(aF P M).toNat=q:=om;rw[Af] at hk;have En:2<=q/\q<=256:=om;have Bh:B<=w.heap.size:=by obtain⟨A,c,F,_⟩:=Ab.blk;exact aZ6 hB (Nat.le_of_lt F.lt)
 have Ao:=zh Bc;have Ap:=zh ω;have Aw:=zh Ai;have s:=zh Ac;have Cl:=zh Bq;have Cq:=zh Br;have Aq:=zh hk;have X:=zh hO;have Cm:=zh hR;have Ci:=zh hI;have Ay:=zh Bs;have Cp:=zh Ab;obtain⟨Bt,Cy,rfl,_⟩:=ω.out;obtain⟨wA,wc,rfl,_⟩:=Ai.out;rw[Ac] at Aw|-;obtain⟨m,Ad⟩:=xE G.length;have T:=zh Ad;rw[<-Ad] at Ap Aq Ay hGl|-;rw[Af];clear Af Bc Ab ω Ai Ac Bq Br hk hO hR hI Bs Ad Dg Dh hq;have Df:((left+1:Nat):Int)=(left:Int)+1:=by push_cast;rfl
 rw[Df];have Ej:(((left:Nat):Int)+1==0)=false:=by rw[eA];omega
 go_enter func82,ntmps82
 have J:Hid (∃(C:LI) (D:Nat),SrS (aD P M Mq) (aF P M) n gen a sb P M N mv gv sv w C D/\w.grownBy w (some sb)/\(∀m,BdW n best m->BdW n C m)/\D+cmN q (m-E) (left+1)<=k+cmN q (m-E) (left+1)/\LV (aD P M Mq) (aF P M) n G xs E left S E 1 C):=aG
  ⟨best,k,Cp.out,aP (bE w) _,fun _ h=>h,zr,fun O c' y F I _ L=>om⟩
 go_wp2;go_loopw [12] (fun x wr=>∃i:Nat,E<=i/\i<=E+m+1/\x=(i:aV)/\Hid (∃(C:LI) (D:Nat),SrS (aD P M Mq) (aF P M) n gen a sb P M N mv gv sv wr C D/\w.grownBy wr (some sb)/\(∀m,BdW n best m->BdW n C m)/\D+cmN q (m-i) (left+1)<=k+cmN q (m-E) (left+1)/\LV (aD P M Mq) (aF P M) n G xs E left S i 1 C)) (fun x _=>E+m+2-(intOf x).toNat)
 .exact⟨E,zr,om,rfl,J⟩
 .
  clear J;obtain⟨i,hi,Ef,rfl,J⟩:=hrel;by_cases Eg:i+left+1<=m
  .have Eo:((i:Int)+((left:Int)+1))=((i+left+1:Nat):Int):=by push_cast;omega
   have Dc:decide ((i:Int)+((left:Int)+1)<=(m:Int))=true:=dE om;have Bd:Hid (∃(C:LI) (D:Nat),SrS (aD P M Mq) (aF P M) n gen a sb P M N mv gv sv wr C D/\w.grownBy wr (some sb)/\(∀m,BdW n best m->BdW n C m)/\D+(q-1)*cmN q (m-(i+1)) left+cmN q (m-(i+1)) (left+1)<=k+cmN q (m-E) (left+1)/\LV (aD P M Mq) (aF P M) n G xs E left S i 1 C):=aG (by obtain⟨C,D,F,I,L,W,R⟩:=J.out;refine⟨C,D,F,I,L,?_,R⟩;rw[show m-i=(m-(i+1))+1 from om,cmN] at W;omega);go_wp2_with fail;try rw[show decide ((i:Int)+(left:Int)+1<=(m:Int))=true from dE om]
   go_loopw [13] (fun x wr=>∃c:Nat,1<=c/\c<=q/\x=(c:aV)/\Hid (∃(C:LI) (D:Nat),SrS (aD P M Mq) (aF P M) n gen a sb P M N mv gv sv wr C D/\w.grownBy wr (some sb)/\(∀m,BdW n best m->BdW n C m)/\D+(q-c)*cmN q (m-(i+1)) left+cmN q (m-(i+1)) (left+1)<=k+cmN q (m-E) (left+1)/\LV (aD P M Mq) (aF P M) n G xs E left S i c C)) (fun x _=>q-(intOf x).toNat)
   .exact⟨1,zr,om,rfl,Bd⟩
   .
    clear J Bd;obtain⟨c,Ea,Ed,rfl,J⟩:=hrel;obtain⟨H,Dk⟩:=xE wr;subst Dk;have o:Hid (Below B w H/\B<=H/\sb<H):=aG (by obtain⟨C,D,F,I,_⟩:=J.out;obtain⟨A,c',L,_⟩:=F.blk;exact⟨(Below.refl B w).grown I Bh fun g e=>(by cases e;exact hB),aZ6 Bh I.size,L.lt⟩);have r:=zh (Ao H o.1);have Dt:H.cell? sb=some (.pointer a):=by obtain⟨C,D,F,_⟩:=J.out;obtain⟨A,c',L,_⟩:=F.blk;exact L.cell 0
    by_cases Ec:c<q
    .have Db:(c:Int)<(q:Int):=om;go_wp2_with fail;apply(fI H a P M Mq r).mono;rintro e w2⟨rfl,rfl⟩;rw[Y.out];have Eb:decide ((c:Int)<(q:Int))=true:=dE Db;have Cu:Hid (Sep (sb+1) H (fun w2=>SI w2 (.slice wA n wc) xs)):=aG (by obtain⟨C,D,_,I,_⟩:=J.out;exact Aw.grown I (by rintro g e;cases e;omega));have ξ:Hid (Sep (sb+1) H (fun w2=>SS w2 (.slice Bt m Cy) G)):=aG (by obtain⟨C,D,_,I,_⟩:=J.out;exact Ap.grown I (by rintro g e;cases e;omega));go_wp2_with fail;apply(iH H (.slice wA n wc) xs Cu.out.out).mono;rintro e Du⟨u,rfl,δ,Bg⟩;obtain⟨b,η,rfl,Dd,_⟩:=δ.form (s.out▸hn1);rw[s.out] at δ|-;have ι:=zh Bg;obtain⟨Dx,Dw,Er,row,rfl,Ag,Co,ρ⟩:=ξ.out.out.eltA (k:=i) (oA T.out);have Ah:row=n:=by rw[<-ρ.out];exact(Cm.out i (oA T.out)).1
     rw[Ah] at Ag;have Au:=zh Ah;have Di:=aE ι.out Ag;have Al:Hid (OI H Du (.slice b n η) (bZ n (qW (aD P M Mq) (c:Int) xs row) (fun j=>xs j 0) 0)):=aG (by rw[eT,rY s.out];exact δ);clear δ Bg Ah;go_wp2_with fail;clear Ag Di;go_loopw [47] (fun x wr=>∃j:Nat,j<=n/\x=(j:aV)/\Hid (OI H wr (.slice b n η) (bZ n (qW (aD P M Mq) (c:Int) xs row) (fun j=>xs j 0) j))/\Hid (Below H H wr)) (fun x _=>n-(intOf x).toNat)
     .exact⟨0,aZ5 _,rfl,Al,ι⟩
     .
      clear Al ι;obtain⟨j,Eh,rfl,V,Q⟩:=hrel;have Ak:=aE Q.out Dt;by_cases z:j<n
      .obtain⟨Ev,y,rfl,Dm,_,Ax⟩:=(Co.below Q zr).elt (k:=j) (Au.out▸z);by_cases ε:y=0
       .have Ct:Hid (bZ n (qW (aD P M Mq) (c:Int) xs row) (fun j=>xs j 0) (j+1)=bZ n (qW (aD P M Mq) (c:Int) xs row) (fun j=>xs j 0) j):=aG (AI fun _=>T8 X _ Cl (by rw[Ax.out,ε]));subst ε;go_wp2;exact⟨⟨j+1,om,pC,Ct.out▸V,Q⟩,oI⟩
       .have Ep:(y !=0)=true:=by rw[eC];exact ε
        have Cb:=zh (fQ (f:=qW (aD P M Mq) (c:Int) xs row) (g:=fun j=>xs j 0) z);obtain⟨x,Aj⟩:=xE (xs j 0);have σ:=V.cell j (by rw[fA];exact z);rw[fK z,<-Aj] at σ;have Cv:=zh Aj;have μ:=zh (Q.trans ((aI wr).mono Q.size));have Cc:=zh (V.below (aI wr) zr);have Cf:=zh (r.on μ);clear Aj ε;go_upto_region 13 with fail;clear Dm;refine db 20 Ak σ fun Aa=>?_;refine dq 0 ?_;refine dq 1 ?_;refine dq 2 ?_;refine dq 3 ?_;refine dq 4 ?_;refine dq 5 ?_;refine dq 6 ?_;refine dq 7 ?_;refine dq 8 ?_;refine dq 9 ?_;refine dq 10 ?_;refine dq 11 ?_;refine dq 12 ?_;refine dq 13 ?_;refine dq 14 ?_;refine dq 15 ?_;try simp only[tz]
        refine dn 16 fun K hK=>?_;go_simp;apply(lE _ a P M (c:Int) y Mq Cf).mono;rintro e Es⟨rfl,d⟩;have κ:=zh (μ.trans (d.mono μ.size));have Ca:=zh (Cc.below d zr);have Ce:=zh (r.on κ);have b4:=aE d Ak;have Az:=aE d σ;clear d;refine hK.out _ _ (fun _=>⟨b4,Az⟩) (fun U=>?_);replace Aa:=U dC;clear U;try simp only[tz]
        refine dn 17 fun K hK=>?_;go_simp;apply(xR _ a P M x _ Mq Ce).mono;rintro e Et⟨rfl,l⟩;have Bu:=zh (κ.trans (l.mono κ.size));have Am:=zh (Ca.below l zr);have b5:=aE l b4;have Cx:=aE l Az;have Dy:=Am.frozen j;clear l;refine hK.out _ _ (fun _=>⟨b5,Cx⟩) (fun U=>?_);replace Aa:=U dC;clear U;try simp only[tz]
        refine dq 18 ?_;try simp only[tz]
        refine dn 19 fun K hK=>?_;go_simp;refine hK.out _ _ (fun h=>aB rfl h) fun _=>?_;refine dw ?_;try simp only[tz]
        clear Aa;have Bz:Hid (fW P M x (bM P M Mq (c:Int) y)=qW (aD P M Mq) (c:Int) xs row j):=aG (by unfold qW;rw[<-Cv.out,Ax.out];rfl);rw[Bz.out];have An:=zh (Am.set j (qW (aD P M Mq) (c:Int) xs row j));rw[Cb.out] at An;have Bv:=zh (Bu.setCell (p:=⟨b,j,none⟩) Dd (.int .i64 (qW (aD P M Mq) (c:Int) xs row j)));go_wp2;exact⟨⟨j+1,om,pC,An,Bv⟩,oI⟩
      .obtain rfl:n=j:=om;rw[eR] at V;change Hid (OI H wr (.slice b n η) (EV (aD P M Mq) n (c:Int) xs row)) at V;have Dj:sb+1<=H.heap.size:=o.2.2;have Ar:Hid ((EV (aD P M Mq) n (c:Int) xs row).length=n):=aG (aW _ _);have ν:=zh (Y2 X (c:Int) s Au);have Av:Hid (∀j,0<=(EV (aD P M Mq) n (c:Int) xs row).getD j 0/\(EV (aD P M Mq) n (c:Int) xs row).getD j 0<aF P M):=aG fun j=>by have:=congrFun ν.out j;rw[show(EV (aD P M Mq) n (c:Int) xs row).getD j 0=qW (aD P M Mq) (c:Int) xs row j from this];exact Y1 X.out _ _
       have Cr:Hid (aZ (aD P M Mq) gen (fun j=>(EV (aD P M Mq) n (c:Int) xs row).getD j 0)):=aG (by rw[ν.out];have F:=Ci.out i (oA T.out);refine(Cq.add X (F.smul X (c:Int))).congr fun j=>?_;unfold qW;rw[<-ρ.out];rfl);have Cs:Hid (Sep (sb+1) wr (fun w2=>SI w2 (.slice b n η) (EV (aD P M Mq) n (c:Int) xs row))):=aG ((OI.sepI V (oA Ar.out) (fun j=>by have:=Av.out j;have:=aM P M;exact I64.of_small om om)).mono Dj);obtain⟨C,D,Be,Bk,Bp,Bm,Bi⟩:=J.out;have Bw:=zh Bi;have Ck:=zh Bp;have Cj:=zh Bm;have Cd:=zh (bB Bk (aP (Q.mono zr) (some sb)));have Bo:D+cmN (aF P M).toNat (m-(i+1)) left<=1000000:=by rw[Y.out,aZ8];have F:=Aq.out;have I:1*cmN q (m-(i+1)) left<=(q-c)*cmN q (m-(i+1)) left:=Nat.mul_le_mul_right _ om;omega
       have At:=zh (Ay wr (i+1) false _ _ C D (fun Dv h=>Ao.out Dv (o.1.trans ((Q.mono o.2.1).trans h))) (Be.on Q) (by rw[T.out] at ξ|-;exact ξ.on Q) Cs Ar Av Cr om (T.out▸Bo));have De:((i+1:Nat):Int)=(i:Int)+1:=by push_cast;rfl
       rw[De] at At;have Ei:(left:Int)+1-1=(left:Int):=om;clear Be Bk Bp Bm Bi Bo Ak;go_wp2_with fail;apply At.mono;rintro e θ⟨rfl,Cw,Dn,Bf,Bl,Bn,Ae,Bj⟩;have As:Hid (∃(C:LI) (D:Nat),SrS (aD P M Mq) (aF P M) n gen a sb P M N mv gv sv θ C D/\w.grownBy θ (some sb)/\(∀m,BdW n best m->BdW n C m)/\D+(q-(c+1))*cmN q (m-(i+1)) left+cmN q (m-(i+1)) (left+1)<=k+cmN q (m-E) (left+1)/\LV (aD P M Mq) (aF P M) n G xs E left S i (c+1) C):=aG (by
        refine⟨Cw,Dn,Bf,bB Cd Bl,fun m h=>Ae m (Ck.out m h),?_,?_⟩
        .rw[Y.out,aZ8,<-T.out] at Bn;have F:=Cj.out;rw[show q-c=(q-(c+1))+1 from om,Nat.add_mul,Nat.one_mul] at F;omega
        .intro O c' y F I L W R Da Ba Bb;by_cases e:O=i/\c'=(c:Int)
         .obtain ⟨rfl, rfl⟩ := e;refine Bj y ?_ Bb;rw [ν.out];have : (fun j => (aD P M Mq).add (xs j 0) ((aD P M Mq).mul (c : Int) (ent G O j))) = qW (aD P M Mq) (c : Int) xs row := by
           funext j;unfold qW ent;rw[ρ.out]
          rw[<-this];exact Ba
         .exact Ae _ (Bw.out O c' y F (by rcases I with h|⟨h,v⟩;exact .inl h;exact .inr ⟨h,om⟩) L W R Da Ba Bb))
       clear Bf Bl Bn Ae Bj;cases S
       .go_wp2;exact⟨⟨c+1,om,om,pC,As⟩,oI⟩
       .have π:Hid (∃(C:LI) (D:Nat),SrS (aD P M Mq) (aF P M) n gen a sb P M N mv gv sv θ C D/\w.grownBy θ (some sb)/\(∀m,BdW n best m->BdW n C m)/\D+cmN q (m-(i+1)) (left+1)<=k+cmN q (m-E) (left+1)/\LV (aD P M Mq) (aF P M) n G xs E left true (i+1) 1 C):=aG (by
         obtain⟨C,D,F,I,L,W,R⟩:=As.out;refine⟨C,D,F,I,L,om,fun O c' y τ φ χ g4 g5 t g7 ψ=>R O c' y τ ?_ χ g4 g5 t g7 ψ⟩;have Dz:=t rfl;rcases φ with h|⟨h,v⟩
         .by_cases e:O=i
          .exact .inr ⟨e,om⟩
          .exact .inl om
         .omega)
        go_wp2;exact⟨⟨i+1,om,om,pC,π⟩,oI⟩
    .obtain rfl:q=c:=om;have π:Hid (∃(C:LI) (D:Nat),SrS (aD P M Mq) (aF P M) n gen a sb P M N mv gv sv H C D/\w.grownBy H (some sb)/\(∀m,BdW n best m->BdW n C m)/\D+cmN q (m-(i+1)) (left+1)<=k+cmN q (m-E) (left+1)/\LV (aD P M Mq) (aF P M) n G xs E left S (i+1) 1 C):=aG (by
      obtain⟨C,D,F,I,L,W,R⟩:=J.out;refine⟨C,D,F,I,L,om,fun O c' y τ φ χ g4 g5 t g7 ψ=>R O c' y τ ?_ χ g4 g5 t g7 ψ⟩;have Em:=Y.out;rcases φ with h|⟨h,v⟩
      .by_cases e:O=i
       .exact .inr ⟨e,om⟩
       .exact .inl om
      .omega)
     go_wp2_with fail;apply(fI H a P M Mq r).mono;rintro e w2⟨rfl,rfl⟩;rw[Y.out];go_wp2;exact⟨⟨i+1,om,om,pC,π⟩,oI⟩
  .have Dc:decide ((i:Int)+((left:Int)+1)<=(m:Int))=false:=dG om;have El:(m:Int)<(i:Int)+((left:Int)+1):=om;have Bx:Hid (∃(Z:LI) (ζ:Nat),SrS (aD P M Mq) (aF P M) n gen a sb P M N mv gv sv wr Z ζ/\w.grownBy wr (some sb)/\ζ<=k+cmN q (m-E) (left+1)/\(∀m,BdW n best m->BdW n Z m)/\∀y,Cmb (aD P M Mq) (aF P M) G E (left+1) S (fun j=>xs j 0) y->cG y n≠0->BdW n Z (cG y n)):=aG (by
    obtain⟨C,D,F,I,L,W,R⟩:=J.out;refine⟨C,D,F,I,om,L,fun y Dl Cz=>?_⟩;cases Dl with
    |step O c' hi' hl' ha' h1' v=>exact R O c' y hi' (.inl (oA T.out)) hl' ha'.1 ha'.2 h1' v Cz)
   clear J;go_wp2;refine bodyPost_end (results_none rfl _ _ _) rfl ?_;obtain⟨Z,ζ,Do,Dp,Dq,Dr,Ds⟩:=Bx.out;exact⟨rfl,Z,ζ,Do,Dp,Dq,Dr,Ds⟩
end
theorem TF(w:Wo)(x:Int)(B:0<=x):Calls prog 256 #[x] w (fun e w'=>e=.returned (.bool false)/\w=w'):=by have A:decide (x<0)=false:=dG om;go_enter func256,ntmps256;go_wp2;go_ret;exact⟨rfl,rfl⟩
theorem WU(w:Wo)(v:Va)(xs:LI)(B:SI w v xs)(C:∀k,0<=xs k 0):Calls prog 145 #[v,.func (.func 256) #[] #[]] w (fun e w'=>e=.returned (.int .i64 (-1))/\w=w'):=by
 obtain⟨A,c,rfl,B⟩:=B;have hn:=B.len;have E:=zh B;have D:=zh C;clear B C;go_enter func145,ntmps145;go_wp2;go_loopw [8] (fun i wr=>∃k:Nat,k<=xs/\i=(k:aV)/\w=wr) (fun i _=>xs.length-(intOf i).toNat)
 .exact⟨0,aZ5 _,rfl,rfl⟩
 .
  obtain⟨k,hk,rfl,rfl⟩:=hrel;by_cases G:k<xs
  .obtain⟨I,x,rfl,J,_,F⟩:=E.elt G;have H:0<=x:=by rw[<-F.out];exact D.out k
   go_wp2_with fail;apply(TF w x H).mono;rintro e w1⟨rfl,rfl⟩;go_wp2;exact⟨⟨k+1,om,pC,trivial⟩,oI⟩
  .obtain rfl:k=xs:=om
   go_wp2;go_ret;exact⟨rfl,rfl⟩
theorem VV(w:Wo)(v:Va)(xs:LI)(C:SI w v xs)(B:∀k,0<=xs k 0):Calls prog 88 #[v,.func (.func 256) #[] #[]] w (fun e w'=>e=.returned (.bool false)/\w=w'):=by have D:=zh (WU w v xs C B);obtain⟨A,c,rfl,_⟩:=C;clear B;go_enter func88,ntmps88;go_wp2_with fail;apply D.mono;rintro e w1⟨rfl,rfl⟩;go_wp2;go_ret;exact⟨rfl,rfl⟩
def IL(f:Nat->Nat):Nat->Nat
 |0=>1
 |k+1=>IL f k*f k
theorem TD{f:Nat->Nat}(h:∀k,1<=f k):∀{k m},k<=m->IL f k<=IL f m:=by
 intro k m A;obtain⟨d,rfl⟩:∃d,m=k+d:=⟨m-k,om⟩
 induction d with
 |zero=>exact zr
 |succ d ih=>exact aZ6 (ih om) (Nat.le_mul_of_pos_right _ (h _))
theorem NI(w:Wo)(v:Va)(xs:LI)(f:Nat->Nat)(B:Nat)(K:SI w v xs)(D:∀k,k<xs.length->xs k 0=(f k:Int))(C:∀k,1<=f k)(T:IL f xs.length<=B)(b:B<=65536):
 Calls prog 139 #[B,v] w (fun e w'=>e=.returned (.tuple #[.int .i64 (IL f xs.length:Nat),.int .i64 0])/\w=w'):=by
 have Q:∀k,0<=xs k 0:=fun k=>by
  by_cases hk:k<xs.length
  .rw[D k hk];omega
  .rw[bG om];omega
 have L:=zh (VV w v xs K Q);have M:=zh (gB w v xs 0 K);have V:Hid ((xs.any fun x=>x==0)=false):=aG (by rw[List.any_eq_false];intro x g e;rw[eD] at e;obtain⟨j,R,rfl⟩:=eI.1 g;have:=D j R;rw[aZ4,aZ3 R] at this;have m:=C j;simp only[Option.getD_some] at this;omega);obtain⟨A,c,rfl,I⟩:=K;have W:=zh I;have X:=zh D;have U:=zh C;have H:=zh (fun k (hk:k<=xs.length)=>aZ6 (TD C hk) T);obtain⟨n,hn⟩:=xE xs.length;have N:=zh hn;have d:=I.len;rw[<-hn] at L M H d|-;have Z:Hid (∀k,IL f (k+1)=IL f k*f k):=aG fun k=>rfl;have Y:Hid (IL f 0=1):=aG rfl;generalize hp:IL f=p at*;clear I D Q C T hn hp;go_enter func139,ntmps139;go_wp2_with fail;refine L.mono ?_;rintro e w1 ⟨rfl,rfl⟩;go_wp2_with fail;refine M.mono ?_;rintro e w1 ⟨rfl,rfl⟩;rw[V.out];go_wp2_with fail;go_loopw [6,19] (fun o i wr=>∃k:Nat,k<=n/\i=(k:aV)/\o=.int .i64 (p k:Nat)/\w=wr) (fun _ i _=>n-(intOf i).toNat)
 case atStart=>exact⟨0,aZ5 _,rfl,by rw[Y.out];rfl,rfl⟩
 case round=>
  obtain⟨k,hk,rfl,rfl,rfl⟩:=hrel;obtain⟨o,E⟩:=xE (p k);have r:o<=B:=by rw[E];exact H.out k hk
  have O:=zh E;rw[<-E];clear E;by_cases S:k<n
  .obtain⟨l,x,rfl,q,_,a⟩:=W.elt (k:=k) (by rw[<-N.out];exact S);obtain⟨y,F⟩:=xE (f k);have h:x=(y:Int):=by rw[<-a.out,X.out k (by rw[<-N.out];exact S),F]
   subst h;have η:1<=y:=by rw[F];exact U.out k
   obtain⟨t,J⟩:=xE (o*y);have P:Hid (t=p (k+1)):=aG (by rw[J,O.out,F];exact(Z k).symm);have ε:t<=B:=by rw[P.out];exact H.out (k+1) om
   have δ:(o:Int)*(y:Int)=(t:Int):=by rw[J];exact(Int.natCast_mul _ _).symm
   obtain⟨z,G⟩:=xE (B/y);have ι:(B:Int)/(y:Int)=(z:Int):=by rw[G];exact(Int.natCast_ediv _ _).symm
   have u:o<=z:=by rw[G,Nat.le_div_iff_mul_le om];omega
   have κ:z<=65536:=by rw[G];exact aZ6 (Nat.div_le_self _ _) b
   have θ:¬(y:Int)=0:=om;have ζ:=IntWalk.i64_in (t:Int) om;clear J F G;go_wp2_with fail;exact⟨⟨k+1,om,pC,by rw[P.out],trivial⟩,oI⟩
  .obtain rfl:n=k:=om;have s:¬(B:Int)<(o:Int):=om;go_wp2_with fail;go_ret2;exact⟨by rw[O.out];rfl,rfl⟩
theorem ae(w:Wo)(k:Nat)(hk:k<=1000):Calls prog 138 #[.int .i64 1,k,.int .i64 65536] w (fun e w'=>e=.returned (.tuple #[.int .i64 1,z0])/\w=w'):=by
 by_cases A:0<k
 all_goals
  go_enter func138,ntmps138;go_wp2;go_loopw [1,8] (fun x y wr=>x=(k:aV)/\y=.int .i64 1/\w=wr) (fun _ _ _=>0)
  .exact⟨rfl,rfl,rfl⟩
  .obtain⟨rfl,rfl,rfl⟩:=hrel;go_wp2;go_ret2;exact⟨rfl,rfl⟩
theorem bw(w:Wo)(q k:Nat)(C:1<=q)(B:q<=256)(hk:k<=256)(A:q^k<=65536):Calls prog 138 #[q,k,.int .i64 65536] w (fun e w'=>e=.returned (.tuple #[.int .i64 (q^k:Nat),z0])/\w=w'):=by
 by_cases e:q=1
 .subst e;rw[Nat.one_pow];exact ae w k om
 .have:=ZY w q k om B hk;unfold RK RM at this;rwa[iP A,iP A] at this
end
section
open Go.RowKit Go.ChangeMaps
theorem RY{w:Wo}{cs:List Va}(h:EK w cs):∃A B c C,cs=XBk fU (.slice A 2 c)/\RG 5 w (.slice A 2 c) [XBk mY (.slice B 1 C),iZ 3]/\RG 5 w (.slice B 1 C) [iZ 2]:=by
 obtain⟨A,c,rfl,D,I,K,F⟩:=h;have N:gfX w (D 0 []):=F 0 dC;have O:D 1 []=iZ 3:=F 1 dC;obtain⟨B,C,G,E,J,L,M⟩:=N;have P:E 0 []=iZ 2:=M 0 dC;have e:D=[XBk mY (.slice B 1 C),iZ 3]:=by
  match D,I with
  |[x,y],_=>rw[<-G,<-O];rfl
 have H:E=[iZ 2]:=by
  match E,J with
  |[x],_=>rw[<-P];rfl
 subst e H;exact⟨A,B,c,C,rfl,K,L⟩
theorem jg{w:Wo}{A B:OA}{c C:Nat}(h:RG 5 w (.slice A 2 c) [XBk mY (.slice B 1 C),iZ 3])(D:RG 5 w (.slice B 1 C) [iZ 2]):EK w (XBk fU (.slice A 2 c)):=
 ⟨A,c,rfl,_,rfl,h,fun j E=>by
  rcases(by omega:j=0\/j=1) with rfl|rfl
  .exact ⟨B, C, rfl, _, rfl, D, fun j E => by
    obtain rfl:j=0:=om;rfl⟩
  .rfl⟩
theorem MF(w:Wo)(A P:OA)(c M:Nat)(n:RG 5 w (.slice A 2 c) [XBk mY (.slice P 1 M),iZ 3])(o:RG 5 w (.slice P 1 M) [iZ 2])(Mq:LI)(N:Int)(D:LL)
 (h:∀w',Below w w w'->Calls prog 181 #[.agg #[.int .i64 2,.int .i64 1,()],.int .i64 3] w' (iV w' 2 1 Mq N D 0)):
 Calls prog 37 #[.agg #[.int .i64 3,.string fU,z0,(),.slice A 2 c],.bool false] w (iq w 2 1 Mq N D 0):=by
 obtain⟨w0,O,Q,R,C⟩:=oL w 50 90 (XBk fU (.slice A 2 c)) (jO 0);unfold jO yW at R O;unfold XBk at Q O;have X:=n.below C zr;have Y:=o.below C zr;have l:=QO w0 _ _ _ _ _ (jg X Y);have p:=zh l;have δ:=zh X;have x:=zh Y;have q:=zh (fun w' (a:Below w0 w0 w')=>h w' (aC C a));have F:=zh Q;have U:=zh R;have f:=zh C;have L:Hid (∀B,Below w0 w0 B->B.cell? w.heap.size=some (.int .i64 3)/\B.cell? ⟨w.heap.size,1,none⟩=some (.string fU)/\B.cell? ⟨w.heap.size,2,none⟩=some (z0:aV)/\B.cell? ⟨w.heap.size,3,none⟩=some (():aV)/\B.cell? ⟨w.heap.size,4,none⟩=some (.slice A 2 c)):=aG fun B C=>⟨aE C (F.cell 0),aE C (F.cell 1),aE C (F.cell 2),aE C (F.cell 3),aE C (F.cell 4)⟩
 obtain⟨ζ,η,θ,ι,κ⟩:=L.out w0 (bE w0);clear n o h Q R C X Y l;go_enter func37,ntmps37;go_upto_region 1 with fail;try rw[O]
 clear O;go_wp2_with fail;apply p.mono;rintro e w1⟨rfl,i⟩;have r:=zh i;clear i ζ η θ ι κ;go_upto_region 4 with fail;have g:=zh (aC r (aI w1));refine bY.start (S:=fun B=>B.cell? w.heap.size=some (.int .i64 3)/\B.cell? ⟨w.heap.size,1,none⟩=some (.string fU)/\B.cell? ⟨w.heap.size,2,none⟩=some (z0:aV)/\B.cell? ⟨w.heap.size,3,none⟩=some (():aV)/\B.cell? ⟨w.heap.size,4,none⟩=some (.slice A 2 c)) kr (L _ g) (fun E=>?_);change bY _ _ _ _ 9 _ _ _;refine tq 2 ?_;refine tq 3 ?_;try simp only[tz]
 refine tn 0 fun K hK=>?_;go_simp;apply(UF _).mono;rintro e w2⟨ε,rfl,ξ,m,j⟩;have G:=zh (aC g j);have t:=zh m;clear j ξ m;refine hK.out _ _ (L _ G) ?_;clear hK K E;intro E;try simp only[tz]
 refine tq 1 ?_;try simp only[tz]
 refine tn 4 fun K hK=>?_;go_simp;apply(QQ w2 ε A P c M t (δ.below G zr) (x.below G zr) Mq N D (fun w' a=>q.out w' (aC G a))).mono;rintro e Ad⟨u,gv,rfl,Z,k⟩;obtain⟨⟨V,d,rfl,_⟩,⟨T,W,rfl,_⟩⟩:=Z.out;have y:Hid (Sep w2 Ad fun w2=>SI w2 (.slice V Mq d) Mq/\SS w2 (.slice T D W) D):=aG Z;have H:=zh (aC G k);have π:w.heap.size+1<w2.heap.size:=aY1 U.lt G.size;clear k Z;refine hK.out _ _ (L _ H) ?_;clear hK K E;intro E;try simp only[tz]
 refine tq 5 ?_;refine tq 6 ?_;try simp only[tz]
 refine tp 7 fun K hK=>?_;obtain⟨Ae,M,Af,Ag,Ah,Ai,Aj,Ak,Al,Am,An,Ao,Ap,Aq,Ar,As,At,Au,Av,Aw⟩:=(U.belowS H).ten;go_simp;obtain⟨Ax,μ,J⟩:=AP (x0:=.int .i64 0) (x1:=.int .i64 0) (x2:=.slice none 0 0) (x3:=.int .i64 2) (x4:=.int .i64 1) (x5:=.slice V Mq d) (x6:=(N:aV)) (x7:=.slice T D W) (x8:=.int .i64 0) (x9:=.slice none 0 0) (U.belowS H);rw[μ];have s:=zh (J.below (aC f H) (aC f H).size (Nat.le_succ _));have z:=zh (y.grown J.gr (by rintro b e;cases e;exact π));have I:=zh ((F.belowS H).grown J.gr (fun e=>oA (aZ0 e)));obtain⟨ρ,σ,τ,φ,χ,ψ,ω,Aa,Ab,Ac,_,_,_,_,_,_,_,_,_,_⟩:=J.blk.ten;refine hK.out _ _ (⟨I.cell 0,I.cell 1,I.cell 2,I.cell 3,I.cell 4⟩) ?_;clear hK K E;intro E;try simp only[tz]
 refine tn 8 fun K hK=>?_;go_simp;refine hK.out _ _ E fun _=>?_;refine tw ?_;try simp only[tz]
 clear E;go_wp2;refine bodyPost_ret (v:=.tuple #[.agg #[z0,z0,(),.int .i64 2,.int .i64 1,.slice V Mq d,N,.slice T D W,z0,()],z0]) (by simp[results,results37,go_sem,ρ,σ,τ,φ,χ,ψ,ω,Aa,Ab,Ac]) rfl ?_;exact⟨_,_,rfl,z.mono om,s.out⟩
theorem V0(w:Wo)(a b c d f:Va)(h:EK w [a,b,c,d,f])(Mq:LI)(N:Int)(D:LL)
 (W:∀w',Below w w w'->Calls prog 181 #[.agg #[.int .i64 2,.int .i64 1,()],.int .i64 3] w' (iV w' 2 1 Mq N D 0)):
 Calls prog 14 #[.agg #[a,b,c,d,f]] w (iV w 2 1 Mq N D 0):=by
 obtain⟨A,Z,M,c1,e,Y,E⟩:=RY h;obtain⟨rfl,rfl,rfl,rfl,rfl⟩:a=.int .i64 3/\b=.string fU/\c=.int .i64 0/\d=.slice none 0 0/\f=.slice A 2 M:=by simpa[XBk] using e
 obtain⟨w0,O,L,Q,F⟩:=oL w 50 27 (XBk fU (.slice A 2 M)) [.int .i64 0,.int .i64 0,.slice none 0 0,.int .i64 0,.slice none 0 0];unfold XBk at L O;have i:=zh (MF w0 A Z M c1 (Y.below F zr) (E.below F zr) Mq N D (fun w' J=>W w' (aC F J)));have R:=zh Q;have g:=zh F;obtain⟨m,n,o,p,q,_,_,_,_,_⟩:=L.five;clear h Y E W L Q F e;go_enter func14,ntmps14;go_upto_region 1 with fail;try rw[O]
 clear O;go_wp2_with fail;apply i.mono;rintro e w1⟨u,gv,rfl,E,X⟩;obtain⟨⟨H,K,rfl,_⟩,⟨G,I,rfl,_⟩⟩:=E.out;have k:Hid (Sep w0 w1 fun w2=>SI w2 (.slice H Mq K) Mq/\SS w2 (.slice G D I) D):=aG E;have j:=zh X;clear X E m n o p q;go_upto_region 2 with fail;obtain⟨w2,φ,U,V,C,P⟩:=aR w1 90 [.int .i64 0,.int .i64 0,.slice none 0 0,.int .i64 2,.int .i64 1,.slice H Mq K,(N:aV),.slice G D I,.int .i64 0,.slice none 0 0];rw[U,V];have l:=zh (k.on P);have T:=zh (aC j P);have S:=zh (R.belowS T);have s:w.heap.size+1<w0.heap.size:=R.lt;have θ:=C.cell 3;have ι:=C.cell 4;have κ:=C.cell 5;have μ:=C.cell 6;have ν:=C.cell 7;simp only[eE,eF] at θ ι κ μ ν;clear U V C P;obtain⟨χ,ψ,ω,Aa,Ab,ξ,π,ρ,σ,τ⟩:=S.five;go_wp2_with fail;obtain⟨w9,r,B⟩:=zL (x:=.int .i64 2) (y:=.int .i64 1) (z:=.slice H Mq K) (u:=(N:aV)) (v:=.slice G D I) S.out;rw[r];have t:=B.c0;have δ:=B.c1;have ε:=B.c2;have ζ:=B.c3;have η:=B.c4;refine bodyPost_ret (v:=.tuple #[.agg #[.int .i64 2,.int .i64 1,.slice H Mq K,N,.slice G D I],z0]) (by simp[results,results14,go_sem,t,δ,ε,ζ,η]) rfl ?_;have J:=aC g.out T.out;exact⟨_,_,rfl,(l.grown B.gr (by rintro b e;cases e;exact s)).mono om,B.below J J.size om⟩
end
section
open Go.RowKit
theorem lh(w:Wo)(a b c d f:Va)(h:EK w [a,b,c,d,f]):Calls prog 14 #[.agg #[a,b,c,d,f]] w (iV w 2 1 [] 7 mN 0):=V0 w a b c d f h [] 7 mN fun w' _=>mi w'
