/- Texts of a claim, merged. -/
import Derived.Test.YtpfhoemohibniaaGreatDoorZA41
set_option maxRecDepth 100000
set_option linter.unusedSectionVars false
set_option maxHeartbeats 32000000
namespace Go.Proofs.YtpfhoemohibniaaGreatDoor
open Go.RowKit
def oP(O:aO)(c:Int)(xs row:LI):Nat->Int:=fun j=>O.add (xs.getD j 0) (O.mul c (row.getD j 0))
def BP(O:aO)(n:Nat)(c:Int)(xs row:LI):LI:=aQ n (oP O c xs row)
section
variable {O:aO} {q:Int} (hO:O.Fld q) {n:Nat} {xs row:LI}
include hO
theorem TG(c:Int)(C:xs.length=n)(B:row.length=n):(fun j=>(BP O n c xs row).getD j 0)=oP O c xs row:=funext fun j=>by
 by_cases A:j<n
 .rw[BP,aS A]
 .rw[aZ4,aY4 (by rw[BP,aT];omega)];unfold oP;rw[aW (by omega),aW (by omega),hO.mul_zero];have:=hO.lt.pos;exact(hO.add_zero 0 (by omega) (by omega)).symm
theorem TF(c:Int)(j:Nat):0<=oP O c xs row j/\oP O c xs row j<q:=hO.lt.add _ _
theorem O7(c:Int)(A:∀j,0<=xs.getD j 0/\xs.getD j 0<q){j:Nat}(h:row.getD j 0=0):oP O c xs row j=xs.getD j 0:=by unfold oP;rw[h,hO.mul_zero];exact hO.add_zero _ (A j).1 (A j).2
end
def IOo(O:aO)(q:Int)(n:Nat)(G:LL)(xs:LI)(C left:Nat)(B:Bool)(i c:Nat)(best:LI):Prop:=
 ∀(A:Nat) (c':Int) (y:Nat->Int),C<=A->(A<i\/(A=i/\c'<(c:Int)))->A+left<G.length->1<=c'->c'<q->(B=true->c'=1)->Cmb O q G (A+1) left false (fun j=>O.add (xs.getD j 0) (O.mul c' (ent G A j))) y->cB y n≠0->BdW n best (cB y n)
def KU(O:aO)(q:Int)(n:Nat)(gen G:LL)(a sb B:Nat)(P M N:Int)(Mod:LI)(mv gv sv Gv:Value)(left:Nat):Prop:=
 ∀(w:World) (A:Nat) (D:Bool) (wv:Value) (xs best:LI) (k:Nat),(∀F,Below B w F->GF F a P M Mod)->SrS O q n gen a sb P M N mv gv sv w best k->Sep (sb+1) w (fun w2=>SS w2 Gv G)->Sep (sb+1) w (fun w2=>SI w2 wv xs)->
  xs.length=n->(∀j,0<=xs.getD j 0/\xs.getD j 0<q)->aV O gen (fun j=>xs.getD j 0)->A<=1000->k+cmN q.toNat (G.length-A) left<=1000000->
  Calls Tryz.prog 62 #[.pointer (some ⟨sb,0,none⟩),Gv,wv,.int .i64 (A:Int),.int .i64 (left:Int),.bool D] w (fun e w'=>e=.returned (.tuple #[])/\∃C E,SrS O q n gen a sb P M N mv gv sv w' C E/\w.grownBy w' (some sb)/\E<=k+cmN q.toNat (G.length-A) left/\
   (∀m,BdW n best m->BdW n C m)/\∀y,Cmb O q G A left D (fun j=>xs.getD j 0) y->cB y n≠0->BdW n C (cB y n))
section
variable {a sb B n:Nat} {P M N:Int} {Mod:LI} {mv gv sv Gv:Value} {gen G:LL} (hO:(aB P M Mod).Fld (aC P M)) (hB:B<=sb) (hn:n<=1000) (hn1:1<=n) (hR:Rows (aC P M) n G) (hI:dY (aB P M Mod) G gen) (hGl:G.length<=100)
include hO hB hn hn1 hR hI hGl
theorem PB:KU (aB P M Mod) (aC P M) n gen G a sb B P M N Mod mv gv sv Gv 0:=by
 intro w A Y wv xs best k C D V K F H J Z W
 have E:cmN (aC P M).toNat (G.length-A) 0=1:=by cases G.length-A<;>rfl
 rw[E] at W|-;have Q:=zh (VB w B a sb n k P M N Mod mv gv sv wv gen best xs C hB hO D K F hn hn1 H J (by omega));clear C D V K F H J E hO hR hI;go_enter Tryz.func62,Tryz.ntmps62;go_wp2_with fail;refine Q.mono ?_;rintro e w1 ⟨rfl,T,I,hg,hm,hb⟩;have S:=zh I;have O:=zh hg;have R:=zh hm;have L:=zh hb;clear I hg hm hb;go_wp2_with fail;refine bodyPost_ret (v:=.tuple #[]) (by simp[results,Tryz.results62,go_sem]) rfl ?_;refine⟨rfl,T,k+1,S.out,O.out,Nat.le_refl _,R.out,fun y X U=>?_⟩;cases X;exact L.out U
theorem O9(left:Nat)(Ej:left<=100)(Bt:KU (aB P M Mod) (aC P M) n gen G a sb B P M N Mod mv gv sv Gv left):KU (aB P M Mod) (aC P M) n gen G a sb B P M N Mod mv gv sv Gv (left+1):=by
 intro w E T wv xs best k Bd Ac Aa Aj Ae Br Bs Ed Ad
 have Df:=aK P M;have Dg:=hO.lt.pos;obtain⟨q,hq⟩:∃q:Nat,aC P M=(q:Int):=⟨(aC P M).toNat,by omega⟩
 have b:=zh hq;have Ag:(aC P M).toNat=q:=by omega
 rw[Ag] at Ad;have Em:2<=q/\q<=256:=by omega
 have Bi:B<=w.heap.size:=by obtain⟨A,c,F,_⟩:=Ac.blk;exact aZ6 hB (Nat.le_of_lt F.lt)
 have Ap:=zh Bd;have Aq:=zh Aa;have Ax:=zh Aj;have t:=zh Ae;have Ck:=zh Br;have Cp:=zh Bs;have Ar:=zh Ad;have Z:=zh hO;have Cl:=zh hR;have Ch:=zh hI;have Az:=zh Bt;have Co:=zh Ac;obtain⟨Bu,Cx,rfl,_⟩:=Aa.out;obtain⟨wA,wc,rfl,_⟩:=Aj.out;rw[Ae] at Ax|-;obtain⟨m,hm⟩:∃m,m=G.length:=⟨_,rfl⟩
 have U:=zh hm;rw[<-hm] at Aq Ar Az hGl|-;rw[Ag];clear Ag Bd Ac Aa Aj Ae Br Bs Ad hO hR hI Bt hm Df Dg hq;have De:((left+1:Nat):Int)=(left:Int)+1:=by push_cast;rfl
 rw[De];have Ei:(((left:Nat):Int)+1==0)=false:=by rw[beq_eq_false_iff_ne];omega
 go_enter Tryz.func62,Tryz.ntmps62
 have J:Hid (∃(C:LI) (D:Nat),SrS (aB P M Mod) (aC P M) n gen a sb P M N mv gv sv w C D/\w.grownBy w (some sb)/\(∀m,BdW n best m->BdW n C m)/\D+cmN q (m-E) (left+1)<=k+cmN q (m-E) (left+1)/\IOo (aB P M Mod) (aC P M) n G xs E left T E 1 C):=aD
   ⟨best,k,Co.out,aN (bE w) _,fun _ h=>h,Nat.le_refl _,fun O c' y F I _ L=>by omega⟩
 go_wp2_with fail;go_loopw [12] (fun x wr=>∃i:Nat,E<=i/\i<=E+m+1/\x=.int .i64 (i:Int)/\Hid (∃(C:LI) (D:Nat),SrS (aB P M Mod) (aC P M) n gen a sb P M N mv gv sv wr C D/\w.grownBy wr (some sb)/\(∀m,BdW n best m->BdW n C m)/\D+cmN q (m-i) (left+1)<=k+cmN q (m-E) (left+1)/\IOo (aB P M Mod) (aC P M) n G xs E left T i 1 C)) (fun x _=>E+m+2-(intOf x).toNat)
 case atStart=>exact⟨E,Nat.le_refl _,by omega,rfl,J⟩
 case round=>
   clear J;obtain⟨i,hi,Ee,rfl,J⟩:=hrel;by_cases Ef:i+left+1<=m
   . have En:((i:Int)+((left:Int)+1))=((i+left+1:Nat):Int):=by push_cast;omega
     have Db:decide ((i:Int)+((left:Int)+1)<=(m:Int))=true:=decide_eq_true (by omega);have Be:Hid (∃(C:LI) (D:Nat),SrS (aB P M Mod) (aC P M) n gen a sb P M N mv gv sv wr C D/\w.grownBy wr (some sb)/\(∀m,BdW n best m->BdW n C m)/\D+(q-1)*cmN q (m-(i+1)) left+cmN q (m-(i+1)) (left+1)<=k+cmN q (m-E) (left+1)/\IOo (aB P M Mod) (aC P M) n G xs E left T i 1 C):=aD (by obtain⟨C,D,F,I,L,Y,R⟩:=J.out;refine⟨C,D,F,I,L,?_,R⟩;rw[show m-i=(m-(i+1))+1 by omega,cmN] at Y;omega);go_wp2_with fail;try rw[show decide ((i:Int)+(left:Int)+1<=(m:Int))=true from decide_eq_true (by omega)]
     go_loopw [13] (fun x wr=>∃c:Nat,1<=c/\c<=q/\x=.int .i64 (c:Int)/\Hid (∃(C:LI) (D:Nat),SrS (aB P M Mod) (aC P M) n gen a sb P M N mv gv sv wr C D/\w.grownBy wr (some sb)/\(∀m,BdW n best m->BdW n C m)/\D+(q-c)*cmN q (m-(i+1)) left+cmN q (m-(i+1)) (left+1)<=k+cmN q (m-E) (left+1)/\IOo (aB P M Mod) (aC P M) n G xs E left T i c C)) (fun x _=>q-(intOf x).toNat)
     case atStart=>exact⟨1,Nat.le_refl _,by omega,rfl,Be⟩
     case round=>
       clear J Be;obtain⟨c,Dz,Ec,rfl,J⟩:=hrel;obtain⟨H,Dj⟩:∃H,H=wr:=⟨_,rfl⟩
       subst Dj;have r:Hid (Below B w H/\B<=H.heap.size/\sb<H.heap.size):=aD (by obtain⟨C,D,F,I,_⟩:=J.out;obtain⟨A,c',L,_⟩:=F.blk;exact⟨(Below.refl B w).grown I Bi fun g e=>(by cases e;exact hB),aZ6 Bi I.size,L.lt⟩);have s:=zh (Ap H r.1);have Ds:H.cell? ⟨sb,0,none⟩=some (.pointer (some ⟨a,0,none⟩)):=by obtain⟨C,D,F,_⟩:=J.out;obtain⟨A,c',L,_⟩:=F.blk;exact L.cell 0
       by_cases Eb:c<q
       . have Da:(c:Int)<(q:Int):=by omega
         go_wp2_with fail;refine(lK H a P M Mod s).mono ?_;rintro e w2 ⟨rfl,rfl⟩;rw[b.out];have Ea:decide ((c:Int)<(q:Int))=true:=decide_eq_true Da;have Ct:Hid (Sep (sb+1) H (fun w2=>SI w2 (.slice wA n wc) xs)):=aD (by obtain⟨C,D,_,I,_⟩:=J.out;exact Ax.grown I (by rintro g e;cases e;omega));have π:Hid (Sep (sb+1) H (fun w2=>SS w2 (.slice Bu m Cx) G)):=aD (by obtain⟨C,D,_,I,_⟩:=J.out;exact Aq.grown I (by rintro g e;cases e;omega));go_wp2_with fail;refine(iV H (.slice wA n wc) xs Ct.out.out).mono ?_;rintro e Dt ⟨u,rfl,ε,Bh⟩;obtain⟨X,θ,rfl,Dc,_⟩:=ε.form (by rw[t.out];exact hn1);rw[t.out] at ε|-;have κ:=zh Bh;obtain⟨Dw,Dv,Ep,row,rfl,Ah,Cm,σ⟩:=π.out.out.eltA (k:=i) (by rw[<-U.out];omega);have Ai:row.length=n:=by rw[<-σ.out];exact(Cl.out i (by rw[<-U.out];omega)).1
         rw[Ai] at Ah;have Av:=zh Ai;have Dh:=aE κ.out Ah;have Am:Hid (OI H.heap.size Dt (.slice (some ⟨X,0,none⟩) n θ) (bY n (oP (aB P M Mod) (c:Int) xs row) (fun j=>xs.getD j 0) 0)):=aD (by rw[dA,mP t.out];exact ε);clear ε Bh Ai;go_wp2_with fail;clear Ah Dh;go_loopw [47] (fun x wr=>∃j:Nat,j<=n/\x=.int .i64 (j:Int)/\Hid (OI H.heap.size wr (.slice (some ⟨X,0,none⟩) n θ) (bY n (oP (aB P M Mod) (c:Int) xs row) (fun j=>xs.getD j 0) j))/\Hid (Below H.heap.size H wr)) (fun x _=>n-(intOf x).toNat)
         case atStart=>exact⟨0,aZ5 _,rfl,Am,κ⟩
         case round=>
           clear Am κ;obtain⟨j,Eg,rfl,W,Q⟩:=hrel;have Al:=aE Q.out Ds;by_cases δ:j<n
           . obtain⟨Et,y,rfl,Dl,_,Ay⟩:=(Cm.below Q zr).elt (k:=j) (by rw[Av.out];exact δ);by_cases ζ:y=0
             . have Cs:Hid (bY n (oP (aB P M Mod) (c:Int) xs row) (fun j=>xs.getD j 0) (j+1)=bY n (oP (aB P M Mod) (c:Int) xs row) (fun j=>xs.getD j 0) j):=aD (qK fun _=>O7 Z _ Ck (by rw[Ay.out,ζ]));subst ζ;go_wp2_with fail;exact⟨⟨j+1,by omega,by push_cast;rfl,by rw[Cs.out];exact W,Q⟩,by simp only[intOf];omega⟩
             . have Eo:(y !=0)=true:=by rw[bne_iff_ne];exact ζ
               have Cb:=zh (dO (f:=oP (aB P M Mod) (c:Int) xs row) (g:=fun j=>xs.getD j 0) δ);obtain⟨x,Ak⟩:∃x,x=xs.getD j 0:=⟨_,rfl⟩
               have τ:=W.cell j (by rw[cU];exact δ);rw[eJ δ,<-Ak] at τ;have Cu:=zh Ak;have ν:=zh (Q.trans ((aH wr).mono Q.size));have Cc:=zh (W.below (aH wr) zr);have Cf:=zh (s.on ν);clear Ak ζ;go_upto_region 13 with fail;clear Dl;refine aM.start (S:=fun w'=>w'.cell? ⟨sb,0,none⟩=some (.pointer (some ⟨a,0,none⟩))/\w'.cell? ⟨X,j,none⟩=some (.int .i64 x)) (by kernel_rfl) (⟨Al,τ⟩) (fun Ab=>?_);change aM _ _ _ _ 20 _ _ _;refine dq 0 ?_;refine dq 1 ?_;refine dq 2 ?_;refine dq 3 ?_;refine dq 4 ?_;refine dq 5 ?_;refine dq 6 ?_;refine dq 7 ?_;refine dq 8 ?_;refine dq 9 ?_;refine dq 10 ?_;refine dq 11 ?_;refine dq 12 ?_;refine dq 13 ?_;refine dq 14 ?_;refine dq 15 ?_;try simp only[tz]
               refine aM.only (i:=16) (by kernel_rfl) rfl (fun K hK=>?_);go_simp;refine(mH _ a P M (c:Int) y Mod Cf).mono ?_;rintro e Er ⟨rfl,l⟩;have μ:=zh (ν.trans (l.mono ν.size));have Ca:=zh (Cc.below l zr);have Ce:=zh (s.on μ);have b4:=aE l Al;have Ba:=aE l τ;clear l;refine hK.out _ _ (fun _=>⟨b4,Ba⟩) (fun V=>?_);clear hK K;replace Ab:=V (by decide);clear V;try simp only[tz]
               refine aM.only (i:=17) (by kernel_rfl) rfl (fun K hK=>?_);go_simp;refine(uL _ a P M x _ Mod Ce).mono ?_;rintro e Es ⟨rfl,o⟩;have Bv:=zh (μ.trans (o.mono μ.size));have An:=zh (Ca.below o zr);have b5:=aE o b4;have Cw:=aE o Ba;have Dx:=An.frozen j;clear o;refine hK.out _ _ (fun _=>⟨b5,Cw⟩) (fun V=>?_);clear hK K;replace Ab:=V (by decide);clear V;try simp only[tz]
               refine dq 18 ?_;try simp only[tz]
               refine aM.only (i:=19) (by kernel_rfl) rfl (fun K hK=>?_);go_simp;refine hK.out _ _ (fun h=>absurd rfl h) (fun V=>?_);clear hK K;clear V;refine aM.done (by kernel_rfl) ?_;try simp only[tz]
               clear Ab;have Bz:Hid (dT P M x (bO P M Mod (c:Int) y)=oP (aB P M Mod) (c:Int) xs row j):=aD (by unfold oP;rw[<-Cu.out,Ay.out];rfl);rw[Bz.out];have Ao:=zh (An.set j (oP (aB P M Mod) (c:Int) xs row j));rw[Cb.out] at Ao;have Bw:=zh (Bv.setCell (p:=⟨X,j,none⟩) Dc (.int .i64 (oP (aB P M Mod) (c:Int) xs row j)));go_wp2_with fail;exact⟨⟨j+1,by omega,by push_cast;rfl,Ao,Bw⟩,by simp only[intOf];omega⟩
           . obtain rfl:n=j:=by omega
             rw[cZ] at W;change Hid (OI H.heap.size wr (.slice (some ⟨X,0,none⟩) n θ) (BP (aB P M Mod) n (c:Int) xs row)) at W;have Di:sb+1<=H.heap.size:=r.2.2;have As:Hid ((BP (aB P M Mod) n (c:Int) xs row).length=n):=aD (aT _ _);have ξ:=zh (TG Z (c:Int) t Av);have Aw:Hid (∀j,0<=(BP (aB P M Mod) n (c:Int) xs row).getD j 0/\(BP (aB P M Mod) n (c:Int) xs row).getD j 0<aC P M):=aD fun j=>by have:=congrFun ξ.out j;rw[show(BP (aB P M Mod) n (c:Int) xs row).getD j 0=oP (aB P M Mod) (c:Int) xs row j from this];exact TF Z.out _ _
             have Cq:Hid (aV (aB P M Mod) gen (fun j=>(BP (aB P M Mod) n (c:Int) xs row).getD j 0)):=aD (by rw[ξ.out];have F:=Ch.out i (by rw[<-U.out];omega);refine(Cp.add Z (F.smul Z (c:Int))).congr fun j=>?_;unfold oP;rw[<-σ.out];rfl);have Cr:Hid (Sep (sb+1) wr (fun w2=>SI w2 (.slice (some ⟨X,0,none⟩) n θ) (BP (aB P M Mod) n (c:Int) xs row))):=aD ((OI.sepI W (by rw[As.out];omega) (fun j=>by have:=Aw.out j;have:=aK P M;exact I64.of_small (by omega) (by omega))).mono Di);obtain⟨C,D,Bf,Bl,Bq,Bn,Bj⟩:=J.out;have Bx:=zh Bj;have Cj:=zh Bq;have Ci:=zh Bn;have Cd:=zh (aX Bl (aN (Q.mono zr) (some sb)));have Bp:D+cmN (aC P M).toNat (m-(i+1)) left<=1000000:=by rw[b.out,aZ8];have F:=Ar.out;have I:1*cmN q (m-(i+1)) left<=(q-c)*cmN q (m-(i+1)) left:=Nat.mul_le_mul_right _ (by omega);omega
             have Au:=zh (Az wr (i+1) false _ _ C D (fun Du h=>Ap.out Du (r.1.trans ((Q.mono r.2.1).trans h))) (Bf.on Q) (by rw[U.out] at π|-;exact π.on Q) Cr As Aw Cq (by omega) (by rw[<-U.out];exact Bp));have Dd:((i+1:Nat):Int)=(i:Int)+1:=by push_cast;rfl
             rw[Dd] at Au;have Eh:(left:Int)+1-1=(left:Int):=by omega
             clear Bf Bl Bq Bn Bj Bp Al;go_wp2_with fail;refine Au.mono ?_;rintro e ι ⟨rfl,Cv,Dm,Bg,Bm,Bo,Af,Bk⟩;have At:Hid (∃(C:LI) (D:Nat),SrS (aB P M Mod) (aC P M) n gen a sb P M N mv gv sv ι C D/\w.grownBy ι (some sb)/\(∀m,BdW n best m->BdW n C m)/\D+(q-(c+1))*cmN q (m-(i+1)) left+cmN q (m-(i+1)) (left+1)<=k+cmN q (m-E) (left+1)/\IOo (aB P M Mod) (aC P M) n G xs E left T i (c+1) C):=aD (by
               refine⟨Cv,Dm,Bg,aX Cd Bm,fun m h=>Af m (Cj.out m h),?_,?_⟩
               . rw[b.out,aZ8,<-U.out] at Bo;have F:=Ci.out;rw[show q-c=(q-(c+1))+1 by omega,Nat.add_mul,Nat.one_mul] at F;omega
               . intro O c' y F I L Y R Cz Bb Bc;by_cases e:O=i/\c'=(c:Int)
                 . obtain ⟨rfl, rfl⟩ := e;refine Bk y ?_ Bc;rw [ξ.out];have : (fun j => (aB P M Mod).add (xs.getD j 0) ((aB P M Mod).mul (c : Int) (ent G O j))) = oP (aB P M Mod) (c : Int) xs row := by
                     funext j;unfold oP ent;rw[σ.out]
                   rw[<-this];exact Bb
                 . exact Af _ (Bx.out O c' y F (by rcases I with h|⟨h,z⟩;exact .inl h;exact .inr ⟨h,by omega⟩) L Y R Cz Bb Bc))
             clear Bg Bm Bo Af Bk;cases T
             . go_wp2_with fail;exact⟨⟨c+1,by omega,by omega,by push_cast;rfl,At⟩,by simp only[intOf];omega⟩
             . have ρ:Hid (∃(C:LI) (D:Nat),SrS (aB P M Mod) (aC P M) n gen a sb P M N mv gv sv ι C D/\w.grownBy ι (some sb)/\(∀m,BdW n best m->BdW n C m)/\D+cmN q (m-(i+1)) (left+1)<=k+cmN q (m-E) (left+1)/\IOo (aB P M Mod) (aC P M) n G xs E left true (i+1) 1 C):=aD (by
                 obtain⟨C,D,F,I,L,Y,R⟩:=At.out;refine⟨C,D,F,I,L,by omega,fun O c' y φ χ ψ g4 g5 v g7 ω=>R O c' y φ ?_ ψ g4 g5 v g7 ω⟩;have Dy:=v rfl;rcases χ with h|⟨h,z⟩
                 . by_cases e:O=i
                   . exact .inr ⟨e,by omega⟩
                   . exact .inl (by omega)
                 . omega)
               go_wp2_with fail;exact⟨⟨i+1,by omega,by omega,by push_cast;rfl,ρ⟩,by simp only[intOf];omega⟩
       . obtain rfl:q=c:=by omega
         have ρ:Hid (∃(C:LI) (D:Nat),SrS (aB P M Mod) (aC P M) n gen a sb P M N mv gv sv H C D/\w.grownBy H (some sb)/\(∀m,BdW n best m->BdW n C m)/\D+cmN q (m-(i+1)) (left+1)<=k+cmN q (m-E) (left+1)/\IOo (aB P M Mod) (aC P M) n G xs E left T (i+1) 1 C):=aD (by
           obtain⟨C,D,F,I,L,Y,R⟩:=J.out;refine⟨C,D,F,I,L,by omega,fun O c' y φ χ ψ g4 g5 v g7 ω=>R O c' y φ ?_ ψ g4 g5 v g7 ω⟩;have El:=b.out;rcases χ with h|⟨h,z⟩
           . by_cases e:O=i
             . exact .inr ⟨e,by omega⟩
             . exact .inl (by omega)
           . omega)
         go_wp2_with fail;refine(lK H a P M Mod s).mono ?_;rintro e w2 ⟨rfl,rfl⟩;rw[b.out];go_wp2_with fail;exact⟨⟨i+1,by omega,by omega,by push_cast;rfl,ρ⟩,by simp only[intOf];omega⟩
   . have Db:decide ((i:Int)+((left:Int)+1)<=(m:Int))=false:=decide_eq_false (by omega);have Ek:(m:Int)<(i:Int)+((left:Int)+1):=by omega
     have By:Hid (∃(d:LI) (η:Nat),SrS (aB P M Mod) (aC P M) n gen a sb P M N mv gv sv wr d η/\w.grownBy wr (some sb)/\η<=k+cmN q (m-E) (left+1)/\(∀m,BdW n best m->BdW n d m)/\∀y,Cmb (aB P M Mod) (aC P M) G E (left+1) T (fun j=>xs.getD j 0) y->cB y n≠0->BdW n d (cB y n)):=aD (by
       obtain⟨C,D,F,I,L,Y,R⟩:=J.out;refine⟨C,D,F,I,by omega,L,fun y Dk Cy=>?_⟩;cases Dk with
       |step O c' hi' hl' ha' h1' z=>exact R O c' y hi' (.inl (by have:=U.out;omega)) hl' ha'.1 ha'.2 h1' z Cy)
     clear J;go_wp2_with fail;refine bodyPost_end (results_none rfl _ _ _) rfl ?_;obtain⟨d,η,Dn,Do,Dp,Dq,Dr⟩:=By.out;exact⟨rfl,d,η,Dn,Do,Dp,Dq,Dr⟩
end
end Go.Proofs.YtpfhoemohibniaaGreatDoor
