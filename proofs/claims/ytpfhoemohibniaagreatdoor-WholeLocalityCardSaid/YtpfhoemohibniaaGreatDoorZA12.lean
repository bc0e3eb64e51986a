/- Texts of a claim, merged. -/
import Derived.Test.YtpfhoemohibniaaGreatDoorZA9
import Derived.Deep.CutRange
import Derived.Deep.RegionWith
set_option maxRecDepth 100000
set_option linter.unusedVariables false
set_option maxHeartbeats 32000000
namespace Go.Proofs.YtpfhoemohibniaaGreatDoor
open Go.RowKit
def PZ(w:World)(xss:LL)(ys:LI)(e:Ending)(w':World):Prop:=∃A B,e=.returned (.tuple #[A,B])/\OS w.heap.size (fun g=>g<w.heap.size) w' A xss/\OI w.heap.size w' B ys/\Below w.heap.size w w'
theorem iW{O:aO}{rows:LL}{c:Nat}{l:LL}{piv:LI}{k:Nat}(B:(aI O rows c)=(l,piv))(C:piv.length<l.length)(A:dG l c l.length (l.length-piv.length) piv.length=k):
  aI O rows (c+1)=if k=l.length then(l,piv) else(iA O c l piv.length k,piv++[(c:Int)]):=by
 rw[aI,B];show(if piv.length<l.length then _ else _)=_;rw[if_pos C];show(if dG l c l.length (l.length-piv.length) piv.length=l.length then _ else _)=_;rw[A]
theorem mU{O:aO}{rows:LL}{c:Nat}{l:LL}{piv:LI}(A:(aI O rows c)=(l,piv))(B:¬piv.length<l.length):∀d,c<=d->aI O rows d=(l,piv)
 | 0, h => by obtain rfl : c = 0 := by omega
              exact A
 |d+1,h=>by
   by_cases e:c=d+1
   . rw[<-e];exact A
   . have C:=mU A B d (by omega);rw[aI,C];show(if piv.length<l.length then _ else _)=_;rw[if_neg B]
theorem ON(w:World)(P M E:Int)(mv v:Value)(Mod:LI)(B:SS w v []):
  Calls Tryz.prog 145 #[.agg #[.int .i64 P,.int .i64 M,mv],v,.int .i64 E] w (PZ w [] []):=by
 obtain⟨A,c,rfl,B⟩:=B;have D:=zh (show SS w (.slice A ([]:LL).length c) [] from⟨A,c,rfl,B⟩);clear B;have F:([]:LL).length=0:=rfl;rw[F] at D|-;clear F;go_enter Tryz.func145,Tryz.ntmps145;go_wp2_with fail;refine(C7 _ _ [] (D.below (aF _ _) zr) (by simp) (by simp)).mono ?_;rintro e w1 ⟨u,rfl,C,hb⟩;obtain⟨I,J,rfl⟩:=C.form;have H:=zh C;have G:=zh (aA (aF _ _) hb);have L:=hb.size;clear C hb;go_wp2_with fail;go_loop [9,10,11] (fun u a x=>u=.slice none 0 0/\a=.int .i64 0/\x=.int .i64 0) (fun _ _ _=>0)
 case atStart=>exact⟨rfl,rfl,rfl⟩
 case round=>
  obtain⟨rfl,rfl,rfl⟩:=hrel;by_cases K:0<E
  all_goals
   go_wp2_with fail;go_ret2;exact⟨_,_,rfl,(H.mono (B':=w.heap.size) (by rw[World.size_alloc];omega)).names (fun g _ hg=>by rw[World.size_alloc];exact Nat.lt_succ_of_lt hg),OI.nil _ _,G.out⟩
theorem lQ{O:aO}{q:Int}(hO:O.Lt q){L:Nat}{rows:LL}(hR:Rows q L rows)(c:Nat){l:LL}{piv:LI}(h:aI O rows c=(l,piv)):Rows q L l/\l.length=rows.length/\piv.length<=rows.length/\piv.length<=c:=by have B:=Rows.elim hO hR c;have C:=eQ O rows c;have A:=jT O rows c;rw[h] at B C A;exact⟨B,C,A.1,A.2⟩
theorem J3(w:World)(P M:Int)(Q L:Nat)(mv v:Value)(Mod:LI)(rows:LL)(hm:SI w mv Mod)(ψ:SS w v rows)(Y:aC P M≠0)(Cb:pW P M Mod)
  (hR:Rows (aC P M) L rows)(Fa:Q<=L)(Ew:L<=100000)(Cc:0<rows.length)(hn:rows.length<=100000):
  Calls Tryz.prog 145 #[.agg #[.int .i64 P,.int .i64 M,mv],v,.int .i64 (Q:Int)] w (PZ w (aI (aB P M Mod) rows Q).1 (aI (aB P M Mod) rows Q).2):=by
 have Dc:=zh ψ;clear ψ;have Ao:=zh hm;clear hm;have Aq:=zh Cb;clear Cb;have θ:=zh (eW Y Mod);obtain⟨Dp,Dq,Dn,Do,hq,Dz⟩:=bN Y;clear hq Dz Dn Do Dp Dq;have Ai:=aK P M;have f:=zh Y;clear Y;obtain⟨O,hO⟩:∃O,O=aB P M Mod:=⟨_,rfl⟩
 rw[<-hO] at θ|-;have Bl:=zh hO;clear hO;obtain⟨q,hq⟩:∃q,q=aC P M:=⟨_,rfl⟩
 rw[<-hq] at θ hR Ai;have Cy:=zh hq;clear hq;obtain⟨Fh,Fi⟩:=Ai;have Bm:=zh hR;clear hR;obtain⟨n,Bc⟩:∃n,n=rows.length:=⟨_,rfl⟩
 rw[<-Bc] at Cc hn;have ι:=zh Bc;clear Bc;have U:=zh (cV.mk' w P M mv);go_enter Tryz.func145,Tryz.ntmps145;go_wp2_with fail;obtain⟨w0,Ce⟩:∃w0,w0=w.alloc (.cells #[.int .i64 P,.int .i64 M,mv] 24):=⟨_,rfl⟩
 rw[<-Ce] at U|-;clear Ce;refine(C7 _ _ rows (Dc.below U.bel zr) (by rw[<-ι.out];omega) (fun k Dx=>by have:=(Bm k Dx).1;omega)).mono ?_;rintro e w1 ⟨Fj,rfl,Ah,Ax⟩;obtain⟨g,μ,rfl,Fc,Fe⟩:=Ah.formP (by rw[<-ι.out];exact Cc);rw[<-ι.out] at Ah|-;have Bi:Hid (EL w0.heap.size w0 w1 (.slice (some ⟨g,0,none⟩) n μ) (.slice none 0 0) rows [] (fun g=>g<w0.heap.size)):=⟨Ah,OI.nil _ _,fun g hg=>by simp[Value.ownBlock] at hg,fun g hg=>by have:=Ax.size;show g<_;omega,fun g hg=>hg,Ax⟩
 clear Ah Ax;have Ev:=U.lt;go_wp2_with fail;go_loopw [9,10,11] (fun u a x wr=>∃(c at_:Nat) (l:LL) (piv:LI) (X:Nat->Prop),c<=Q/\x=.int .i64 (c:Int)/\a=.int .i64 (at_:Int)/\Hid (at_=piv.length)/\Hid (aI O rows c=(l,piv))/\Hid (EL w0.heap.size w0 wr (.slice (some ⟨g,0,none⟩) n μ) u l piv X)) (fun _ _ x _=>(Q-intOf x).toNat)
 case atStart=>exact⟨0,0,rows,[],_,aZ5 _,rfl,rfl,rfl,rfl,Bi⟩
 case round=>
  clear Bi;obtain⟨c,a,l,piv,X,Ez,rfl,rfl,N,δ,B⟩:=hrel;have Aj:=lQ θ.out Bm.out c δ.out;have A:Hid (l.length=n):=by rw[ι.out];exact Aj.2.1
  have η:=zh Aj.1;have Ey:a<=n:=by have:=Aj.2.2.1;rw[<-ι.out,<-N.out] at this;exact this
  clear Aj;by_cases Fb:c<Q
  case neg=>
   obtain rfl:Q=c:=by omega
   go_wp2_with fail;go_ret2;rw[δ.out];exact⟨_,_,rfl,(B.os.mono (by omega)).names (fun ν _ Ay=>B.low ν (by omega)),B.oi.mono (by omega),aA U.bel B.bel⟩
  by_cases D:a<n
  case neg=>
   have Co:Hid (aI O rows Q=(l,piv)):=mU δ.out (by rw[A.out,<-N.out];exact D) Q (by omega);have Fg:n<=a:=by omega
   go_wp2_with fail;go_ret2;rw[Co.out];exact⟨_,_,rfl,(B.os.mono (by omega)).names (fun ν _ Ay=>B.low ν (by omega)),B.oi.mono (by omega),aA U.bel B.bel⟩
  have ρ:c<L:=by omega
  go_wp2_with fail;go_loop [12] (fun x=>∃k:Nat,a<=k/\k<=n/\x=.int .i64 (k:Int)/\Hid (dG l c n (n-a) a=dG l c n (n-k) k)) (fun x=>(n-intOf x).toNat)
  case atStart=>exact⟨a,Nat.le_refl _,by omega,rfl,rfl⟩
  case round=>
   obtain⟨k,Ex,Ff,rfl,Am⟩:=hrel;by_cases φ:k<n
   .obtain⟨Bs,Cm,x,σ,Ec,Bp,Es⟩:=B.os.elt (k:=k) (j:=c) (by rw[A.out];exact φ) (by rw[(η.out k (by rw[A.out];exact φ)).1];exact ρ);rw[(η.out k (by rw[A.out];exact φ)).1] at σ;by_cases m:x=0
    .have Eg:(x==0)=true:=by rw[beq_iff_eq];exact m
     have Dd:=zh m;clear m;go_wp2_with fail;exact⟨⟨k+1,by omega,by omega,rfl,by rw[Am.out,show n-k=(n-(k+1))+1 by omega,dG,if_pos (by rw[Bp.out];exact Dd.out)];rfl⟩,by simp only[intOf];omega⟩
    .have Eg:(x==0)=false:=by rw[beq_eq_false_iff_ne];exact m
     have An:Hid (dG l c l.length (l.length-piv.length) piv.length=k):=by show _=_;rw[A.out,<-N.out,Am.out,show n-k=(n-(k+1))+1 by omega,dG,if_neg (by rw[Bp.out];exact m)]
     have Dy:(((k:Nat):Int)==(n:Int))=false:=by rw[beq_eq_false_iff_ne];omega
     have Ar:Hid (aI O rows (c+1)=(iA O c l piv.length k,piv++[(c:Int)])):=by show _=_;rw[iW δ.out (by rw[A.out,<-N.out];exact D) An.out,if_neg (by rw[A.out];omega)]
     clear m;obtain⟨Dg,El,x2,Az,Ee,Eu,Et⟩:=B.os.elt (k:=a) (j:=c) (by rw[A.out];exact D) (by rw[(η.out a (by rw[A.out];exact D)).1];exact ρ);rw[(η.out a (by rw[A.out];exact D)).1] at Az;have Di:=B.os.frozen a;have Dj:=B.os.frozen k;have Cs:=zh σ;have Ct:=zh Az;obtain⟨z,ω⟩:∃z,(wr.setCell ⟨g,a,none⟩ (.slice (some Bs) L Cm)).cell? ⟨g,k,none⟩=some z:=by
      by_cases Bx:a=k
      .exact⟨_,by rw[Bx];exact World.cell?_setCell_same _ _ _ σ⟩
      .exact⟨_,eP σ (fun e=>Bx (by injection e with e1 e2;exact e2.symm))⟩
     go_wp2_with fail
     go_region
     obtain⟨Ak,Be⟩:∃Ak,Ak=((wr.setCell ⟨g,a,none⟩ (.slice (some Bs) L Cm)).setCell ⟨g,k,none⟩ (.slice (some Dg) L El)).drew:=⟨_,rfl⟩
     have Z:Hid (EL w0.heap.size w0 Ak (.slice (some ⟨g,0,none⟩) n μ) u9 (cF l a k) piv X):=by have Ej:=B.os.row (k:=k) (by rw[A.out];exact φ);have Ek:=B.os.row (k:=a) (by rw[A.out];exact D);obtain⟨Fm,Ci,Ea,Ed⟩:=Ej;obtain⟨Fo,Cj,Eb,Cf⟩:=Ek;rw[Cs.out] at Ci;rw[Ct.out] at Cj;obtain rfl:=aZ0 Ci;obtain rfl:=aZ0 Cj;have Dl:=B.setRow zr a Ea Ed;have Dm:=Dl.setRow zr k (Eb.grown (bF wr g a _) (fun Dk ν Ay e=>(Cf Dk ν Ay).1 (aZ0 e).symm)) Cf;rw[Be];exact Dm.drew
     rw[<-Be];clear Be σ Ec Az Ee ω Di Dj;have W:Hid ((cF l a k).length=n):=by show _=_;rw[eH,A.out]
     have κ:=zh (η.swap (a:=a) (b:=k) (by rw[A.out];exact D) (by rw[A.out];exact φ));obtain⟨H,Bb⟩:∃H,H=cF l a k:=⟨_,rfl⟩
     rw[<-Bb] at Z W κ;have Cv:=zh Bb;clear Bb;obtain⟨Bt,Em,x3,Ae,Bf,Aw,At⟩:=Z.os.elt (k:=a) (j:=c) (by rw[W.out];exact D) (by rw[(κ.out a (by rw[W.out];exact D)).1];exact ρ);rw[(κ.out a (by rw[W.out];exact D)).1] at Ae At
     go_upto_if 69 with(fail)
     go_cut [] from 16 to 134 (fun wc=>EL w0.heap.size w0 wc (.slice (some ⟨g,0,none⟩) n μ) u9 (cP O c a H) piv X)
     case first=>
      by_cases o:x3=1
      .have Ds:(x3 !=1)=false:=by simp[o]
       have Ab:Hid (cP O c a H=H):=by show _=_;unfold cP;rw[if_neg (by rw[Aw.out];simpa using o)]
       clear o;go_wp2_with fail;go_meet
       case rel=>rw[Ab.out];exact Z.out
      .have Ds:(x3 !=1)=true:=by simp[o]
       have Ab:Hid (cP O c a H=H.set a (bR (aB P M Mod) (fJ P M Mod x3) (H.getD a []))):=by show _=_;unfold cP;rw[if_pos (by rw[Aw.out];exact o),Aw.out,Bl.out];rfl
       clear o;obtain⟨row,Bd⟩:∃row,row=H.getD a []:=⟨_,rfl⟩
       rw[<-Bd] at Ab At;have Bn:Hid (row.length=L):=by show _=_;rw[Bd];exact(κ.out a (by rw[W.out];exact D)).1
       clear Bd;have C:=zh (U.on Z.bel);have c0:=C.c0;have c1:=C.c1;have c2:=C.c2;have Cq:=zh Ae;have De:=zh Bf;go_wp2_with fail;refine aM.start (S:=(fun w'=>w'.cell? ⟨w.heap.size,0,none⟩=some (.int .i64 P)/\w'.cell? ⟨w.heap.size,1,none⟩=some (.int .i64 M)/\w'.cell? ⟨w.heap.size,2,none⟩=some mv/\w'.cell? (Bt.add c)=some (.int .i64 x3)/\w'.cell? ⟨g,a,none⟩=some (.slice (some Bt) L Em))) (by kernel_rfl) (⟨C.drew.c0,C.drew.c1,C.drew.c2,Bf,Ae⟩) (fun ξ=>?_);change aM _ _ _ _ 19 _ _ _;refine dq 0 ?_;refine dq 1 ?_;refine dq 2 ?_;refine dq 3 ?_;refine dq 4 ?_;refine dq 5 ?_;refine dq 6 ?_;refine dq 7 ?_;refine dq 8 ?_;refine dq 9 ?_;refine dq 10 ?_;refine dq 12 ?_;refine dq 13 ?_;refine dq 14 ?_;refine dq 15 ?_;try simp only[tz]
       refine aM.only (i:=11) (by kernel_rfl) rfl (fun K hK=>?_);go_simp
       (refine(SU _ P M x3 mv Mod (Ao.below C.drew.bel zr) f Aq).mono ?_;rintro e Ep ⟨rfl,π⟩;have E:=zh (aA (aH Ak) π);have I:=zh (C.on E);have By:=aE E Cq.out;have Ch:=aE E De.out;have Au:=zh (At.below E zr);have ε:=zh (Z.on E);clear π)
       refine hK.out _ _ (fun _=>⟨I.c0,I.c1,I.c2,Ch,By⟩) (fun J=>?_);clear hK K;replace ξ:=J (by decide);clear J;try simp only[tz]
       refine aM.only (i:=16) (by kernel_rfl) rfl (fun K hK=>?_);go_simp
       (refine(J4 _ P M _ mv _ Mod row (Ao.below I.bel zr) Au (by rw[Bn.out];omega) f Aq).mono ?_;rintro e Er ⟨y,rfl,Bg,F⟩;obtain⟨Fp,Fq,rfl⟩:=Bg.form';have Bq:=zh Bg;have ζ:=zh (ε.on F);have V:=zh (I.on F);have Du:=aE F By;have Ef:=aE F Ch;have Dt:=ζ.os.frozen a;clear F Bg)
       refine hK.out _ _ (fun _=>⟨V.c0,V.c1,V.c2,Ef,Du⟩) (fun J=>?_);clear hK K;replace ξ:=J (by decide);clear J;try simp only[tz]
       refine dq 17 ?_;try simp only[tz]
       refine aM.only (i:=18) (by kernel_rfl) rfl (fun K hK=>?_);go_simp;refine hK.out _ _ (fun h=>absurd rfl h) (fun _=>?_);clear hK K;refine aM.done (by kernel_rfl) ?_;try simp only[tz]
       go_wp2_with fail;go_meet
       case rel=>rw[Ab.out];have Cd:=Rows.scale (eW f Mod) (fJ P M Mod x3) row;exact ζ.setRow zr a (Bq.si (by rw[Cd.1,Bn.out];omega) (fun j=>by have:=Cd.2 j;have Ai:=aK P M;exact I64.of_small (by omega) (by omega))) (ε.fresh Bq)
     case rest=>
      have Al:=zh hcut;clear hcut;have Ap:Hid ((cP O c a H).length=n):=by show _=_;rw[jV,W.out]
      have Bj:=zh (Rows.monic θ κ c (a:=a) (by rw[W.out];exact D));have Bk:Hid (aI O rows (c+1)=(aU O c a (cP O c a H) n,piv++[(c:Int)])):=by show _=_;rw[Ar.out,<-N.out];unfold iA;rw[<-Cv.out,A.out]
      obtain⟨G,Ca⟩:∃G,G=cP O c a H:=⟨_,rfl⟩
      rw[<-Ca] at Al Ap Bj Bk;clear Ca Ae Bf Z;go_wp2_with fail;go_loopw [13] (fun x wr=>∃i:Nat,i<=n/\x=.int .i64 (i:Int)/\Hid (EL w0.heap.size w0 wr (.slice (some ⟨g,0,none⟩) n μ) u9 (aU O c a G i) piv X)) (fun x _=>(n-intOf x).toNat)
      case atStart=>exact⟨0,aZ5 _,rfl,Al⟩
      case round=>
       clear Al;obtain⟨i,hi,rfl,R⟩:=hrel;have d:Hid ((aU O c a G i).length=n):=by show _=_;rw[fW,Ap.out]
       have Aa:=zh (Rows.clear θ Bj c a i (by rw[Ap.out];exact hi));by_cases Ag:i<n
       .obtain⟨Bu,Eo,y,Af,Cl,Ad,Av⟩:=R.os.elt (k:=i) (j:=c) (by rw[d.out];exact Ag) (by rw[(Aa.out i (by rw[d.out];exact Ag)).1];exact ρ);obtain⟨s,T⟩:∃s,s=(aU O c a G i).getD i []:=⟨_,rfl⟩
        rw[<-T] at Af Ad Av;have Ac:Hid (s.length=L):=by show _=_;rw[T];exact(Aa.out i (by rw[d.out];exact Ag)).1
        rw[Ac.out] at Af Av;by_cases τ:i=a
        .have Dw:(((i:Nat):Int) !=(a:Int))=false:=by rw[bne_eq_false_iff_eq];omega
         have t:Hid (aU O c a G (i+1)=aU O c a G i):=by show _=_;rw[aU,if_neg (fun h=>h.1 τ)]
         clear τ T;go_wp2_with fail;exact⟨⟨i+1,by omega,rfl,by rw[t.out];exact R⟩,by simp only[intOf];omega⟩
        .have Dw:(((i:Nat):Int) !=(a:Int))=true:=by rw[bne_iff_ne];omega
         by_cases p:y=0
         .have Ei:(y !=0)=false:=by simp[p]
          have t:Hid (aU O c a G (i+1)=aU O c a G i):=by show _=_;rw[aU,if_neg (fun h=>h.2 (by rw[<-T,Ad.out];exact p))]
          clear τ T p;go_wp2_with fail;exact⟨⟨i+1,by omega,rfl,by rw[t.out];exact R⟩,by simp only[intOf];omega⟩
         .have Ei:(y !=0)=true:=by simp[p]
          obtain⟨r,χ⟩:∃r,r=(aU O c a G i).getD a []:=⟨_,rfl⟩
          have As:Hid (r.length=L):=by show _=_;rw[χ];exact(Aa.out a (by rw[d.out];exact D)).1
          have t:Hid (aU O c a G (i+1)=(aU O c a G i).set i (cH (aB P M Mod) s (fZ P M y) r)):=by show _=_;rw[aU,if_pos ⟨τ,by rw[<-T,Ad.out];exact p⟩,<-T,<-χ,Ad.out,Bl.out];rfl
          obtain⟨Dh,En,_,Ba,_,_,Bo⟩:=R.os.elt (k:=a) (j:=c) (by rw[d.out];exact D) (by rw[<-χ,As.out];exact ρ);rw[<-χ,As.out] at Ba Bo;have Bw:=Rows.addTo (eW f Mod) (v:=s) (by rw[T,<-Cy.out];exact(Aa.out i (by rw[d.out];exact Ag)).2) (fZ P M y) r;have Bh:=zh Bw;clear τ T p χ Bw;have C:=zh (U.on R.bel);have c0:=C.c0;have c1:=C.c1;have c2:=C.c2;have Cu:=zh Af;have Cr:=zh Ba;have Df:=zh Cl;go_wp2_with fail;refine aM.start (S:=(fun w'=>w'.cell? ⟨w.heap.size,0,none⟩=some (.int .i64 P)/\w'.cell? ⟨w.heap.size,1,none⟩=some (.int .i64 M)/\w'.cell? ⟨w.heap.size,2,none⟩=some mv/\w'.cell? (Bu.add c)=some (.int .i64 y)/\w'.cell? ⟨g,i,none⟩=some (.slice (some Bu) L Eo)/\w'.cell? ⟨g,a,none⟩=some (.slice (some Dh) L En))) (by kernel_rfl) (⟨C.drew.c0,C.drew.c1,C.drew.c2,Cl,Af,Ba⟩) (fun ξ=>?_);change aM _ _ _ _ 23 _ _ _;refine dq 0 ?_;refine dq 1 ?_;refine dq 2 ?_;refine dq 3 ?_;refine dq 4 ?_;refine dq 5 ?_;refine dq 6 ?_;refine dq 7 ?_;refine dq 8 ?_;refine dq 9 ?_;refine dq 10 ?_;refine dq 11 ?_;refine dq 12 ?_;refine dq 13 ?_;refine dq 14 ?_;refine dq 16 ?_;refine dq 17 ?_;refine dq 18 ?_;refine dq 19 ?_;try simp only[tz]
          refine aM.only (i:=15) (by kernel_rfl) rfl (fun K hK=>?_);go_simp
          (refine(SV _ P M y mv f).mono ?_;rintro e Ep ⟨rfl,π⟩;have E:=zh (aA (aH wr) π);have I:=zh (C.on E);have Bz:=aE E Cu.out;have Bv:=aE E Cr.out;have Ck:=aE E Df.out;have Au:=zh (Av.below E zr);have Cz:=zh (Bo.below E zr);have ε:=zh (R.on E);clear π)
          refine hK.out _ _ (fun _=>⟨I.c0,I.c1,I.c2,Ck,Bz,Bv⟩) (fun J=>?_);clear hK K;replace ξ:=J (by decide);clear J;try simp only[tz]
          refine aM.only (i:=20) (by kernel_rfl) rfl (fun K hK=>?_);go_simp
          (refine(J1 _ P M _ mv _ _ Mod s r (Ao.below I.bel zr) Au Cz (by rw[Ac.out];omega) (by rw[Ac.out,As.out];exact Nat.le_refl _) f Aq).mono ?_;rintro e Er ⟨z,rfl,ω,F⟩;obtain⟨Fr,Fs,rfl⟩:=ω.form';have Br:=zh ω;have ζ:=zh (ε.on F);have V:=zh (I.on F);have Dv:=aE F Bz;have Dr:=aE F Bv;have Eh:=aE F Ck;have Dt:=ζ.os.frozen i;clear F ω)
          refine hK.out _ _ (fun _=>⟨V.c0,V.c1,V.c2,Eh,Dv,Dr⟩) (fun J=>?_);clear hK K;replace ξ:=J (by decide);clear J;try simp only[tz]
          refine dq 21 ?_;try simp only[tz]
          refine aM.only (i:=22) (by kernel_rfl) rfl (fun K hK=>?_);go_simp;refine hK.out _ _ (fun h=>absurd rfl h) (fun _=>?_);clear hK K;refine aM.done (by kernel_rfl) ?_;try simp only[tz]
          go_wp2_with fail;refine⟨⟨i+1,by omega,rfl,?_⟩,by simp only[intOf];omega⟩;rw[t.out];exact ζ.setRow zr i (Br.si (by rw[Bh.out.1,Ac.out];omega) (fun j=>by have:=Bh.2 j;have Ai:=aK P M;exact I64.of_small (by omega) (by omega))) (ε.fresh Br)
       .obtain rfl:n=i:=by omega
        have Cx:Hid (piv.length+[(c:Int)].length<=17592186044416):=by show _<=_;rw[<-N.out,aZ2];omega
        have Cw:=zh (R.oi.alloc (.cells #[.int .i64 (c:Int)] 3));have Da:Hid (SI (wr.alloc (.cells #[.int .i64 (c:Int)] 3)) (.slice (some ⟨wr.heap.size,0,none⟩) 1 1) [(c:Int)]):=SI.lit wr [(c:Int)] (by simp) (fun j=>by
         rcases j with _|j
         .exact I64.of_small (by show _<=(c:Int);omega) (by show(c:Int)<=_;omega)
         .exact I64.zero)
        have Db:Hid (w0.heap.size<=(wr.alloc (.cells #[.int .i64 (c:Int)] 3)).heap.size):=fM R.bel.size _;go_wp2_with (at_builtin;go_must (refine dW rfl _ _ rfl w0.heap.size _ piv rfl Cw _ [(c:Int)] rfl Da Cx Db ?_);(intro Fk Fl Y hg ψ);have Cp:=zh (R.push zr Y hg ψ);clear Y hg ψ)
        exact⟨⟨c+1,a+1,_,_,_,by omega,rfl,rfl,by show _=_;rw[aZ1,aZ2,N.out],Bk.out,Cp⟩,by simp only[intOf];omega⟩
   .obtain rfl:n=k:=by omega
    have An:Hid (dG l c l.length (l.length-piv.length) piv.length=n):=by show _=_;rw[A.out,<-N.out,Am.out,Nat.sub_self,dG]
    have Dy:(((n:Nat):Int)==(n:Int))=true:=by simp
    have Ar:Hid (aI O rows (c+1)=(l,piv)):=by show _=_;rw[iW δ.out (by rw[A.out,<-N.out];exact D) An.out,if_pos A.out.symm]
    go_wp2_with fail;exact⟨⟨c+1,a,l,piv,X,by omega,rfl,rfl,N,Ar,B⟩,by simp only[intOf];omega⟩
theorem OL(w:World)(P M:Int)(A L:Nat)(mv v:Value)(Mod:LI)(rows:LL)(hm:SI w mv Mod)(B:SS w v rows)(F:aC P M≠0)(E:pW P M Mod)
  (hR:Rows (aC P M) L rows)(D:A<=L)(C:L<=100000)(hn:rows.length<=100000):
  Calls Tryz.prog 145 #[.agg #[.int .i64 P,.int .i64 M,mv],v,.int .i64 (A:Int)] w (PZ w (aI (aB P M Mod) rows A).1 (aI (aB P M Mod) rows A).2):=by
 rcases Nat.eq_zero_or_pos rows.length with h|h
 .obtain rfl:=List.eq_nil_of_length_eq_zero h;have e:∀c,aI (aB P M Mod) [] c=([],[]):=fun c=>by
   induction c with
   |zero=>rfl
   |succ c ih=>rw[aI,ih];rfl
  rw[e];exact ON w P M _ mv v Mod B
 .exact J3 w P M A L mv v Mod rows hm B F E hR D C h hn
end Go.Proofs.YtpfhoemohibniaaGreatDoor
