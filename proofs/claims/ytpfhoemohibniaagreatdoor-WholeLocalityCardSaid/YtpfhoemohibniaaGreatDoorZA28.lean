/- Texts of a claim, merged. -/
import Derived.Test.YtpfhoemohibniaaGreatDoorZA27
set_option maxRecDepth 100000
set_option maxHeartbeats 32000000
namespace Go.Proofs.YtpfhoemohibniaaGreatDoor
open Go.RowKit
def XK(L:Nat)(w0:World)(v av:Value)(l:LL)(piv:LI)(e:Ending)(w':World):Prop:=
 ∃u d,e=.returned (.tuple #[u,.int .i64 d])/\jN w0.heap.size (fun g=>g<w0.heap.size\/u.ownBlock=some g) w' v (lfM L l) av (rgM L l)/\OI w0.heap.size w' u piv/\Below w0.heap.size w0 w'
theorem VV{q:Int}{L N:Nat}{J:LL}{j:Nat}(h:(J.getD j []).length=N/\∀k,0<=(J.getD j []).getD k 0/\(J.getD j []).getD k 0<q)(B:L<N)(hq:q<=1000000):((lfM L J).getD j []).length=L/\∀k,I64 (((lfM L J).getD j []).getD k 0):=by
 rw[uR];refine⟨by rw[aY3];omega,fun k=>?_⟩;by_cases A:k<L
 .rw[lV _ _ A];have:=h.2 k;exact I64.of_small (by omega) (by omega)
 .rw[aZ4,aY4 (by rw[aY3];omega)];exact I64.zero
theorem LW{q:Int}{L N:Nat}{J:LL}{j:Nat}(h:(J.getD j []).length=N/\∀k,0<=(J.getD j []).getD k 0/\(J.getD j []).getD k 0<q)(hq:q<=1000000):((rgM L J).getD j []).length=N-L/\∀k,I64 (((rgM L J).getD j []).getD k 0):=by rw[sP];refine⟨by rw[List.length_drop];omega,fun k=>?_⟩;rw[iM];have:=h.2 (L+k);exact I64.of_small (by omega) (by omega)
theorem VQ{q:Int}{L N:Nat}{J:LL}{j:Nat}(h:(J.getD j []).length=N/\∀k,0<=(J.getD j []).getD k 0/\(J.getD j []).getD k 0<q)(B:N<=100000)(hq:q<=1000000):((lfM L J).getD j []).length<=100000/\∀k,I64 (((lfM L J).getD j []).getD k 0):=by
 rw[uR];refine⟨by rw[aY3];omega,fun k=>?_⟩;by_cases A:k<L
 .rw[lV _ _ A];have:=h.2 k;exact I64.of_small (by omega) (by omega)
 .rw[aZ4,aY4 (by rw[aY3];omega)];exact I64.zero
theorem VR{q:Int}{L N:Nat}{J:LL}{j:Nat}(h:(J.getD j []).length=N/\∀k,0<=(J.getD j []).getD k 0/\(J.getD j []).getD k 0<q)(A:N<=100000)(hq:q<=1000000):((rgM L J).getD j []).length<=100000/\∀k,I64 (((rgM L J).getD j []).getD k 0):=by rw[sP];refine⟨by rw[List.length_drop];omega,fun k=>?_⟩;rw[iM];have:=h.2 (L+k);exact I64.of_small (by omega) (by omega)
theorem NT (w0 w : World) (A : Nat) (P M : Int) (δ L N n g E gy cy : Nat) (Mod : LI) (rows : LL) (Ct : GF w0 A P M Mod) (Du : jN w0.heap.size (fun g => g < w0.heap.size) w (.slice (some ⟨g, 0, none⟩) n E) (lfM L rows) (.slice (some ⟨gy, 0, none⟩) n cy) (rgM L rows))
   (hn:rows.length=n)(Cy:0<n)(hb:Below w0.heap.size w0 w)(hR:Rows (aC P M) N rows)(Gq:δ<=L)(Gk:L<N)(Dt:N<=100000)(Gw:n<=100000):
   Calls Tryz.prog 114 #[.pointer (some ⟨A,0,none⟩),.slice (some ⟨g,0,none⟩) n E,.int .i64 (δ:Int),.slice (some ⟨gy,0,none⟩) n cy] w
     (XK L w0 (.slice (some ⟨g,0,none⟩) n E) (.slice (some ⟨gy,0,none⟩) n cy) (aI (aB P M Mod) rows δ).1 (aI (aB P M Mod) rows δ).2):=by
 have Dz:=Ct.fld;have Bs:=Dz.1;have Au:=zh (eW Bs Mod);have Ca:=zh (dU Dz);have Eg:=aK P M;have Al:=zh Ct;clear Ct;obtain⟨O,hO⟩:∃O,O=aB P M Mod:=⟨_,rfl⟩
 rw[<-hO] at Au Ca|-;have Cj:=zh hO;clear hO;obtain⟨q,hq⟩:∃q,q=aC P M:=⟨_,rfl⟩
 rw[<-hq] at Au Ca hR Eg;have Fb:=zh hq;clear hq;obtain⟨Gy,Gz⟩:=Eg;have Fc:=zh hR;have Dj:=zh hn;have Gj:=zh hb;have Ga:=hb.size
 have Bz:Hid (EJ L w0 (((w.alloc (.cells #[.pointer (some ⟨A,0,none⟩)] 87)).alloc (.cells #[.slice (some ⟨g,0,none⟩) n E] 25)).alloc (.cells #[.slice (some ⟨gy,0,none⟩) n cy] 25)) (.slice (some ⟨g,0,none⟩) n E) (.slice (some ⟨gy,0,none⟩) n cy) (.slice none 0 0) rows []
     (fun b=>((b<w0.heap.size\/b=w.heap.size)\/b=w.heap.size+1)\/b=w.heap.size+1+1) A w.heap.size (w.heap.size+1) (w.heap.size+1+1)):=by
   have Ej:(w.alloc (.cells #[.pointer (some ⟨A,0,none⟩)] 87)).heap.size=w.heap.size+1:=World.size_alloc _ _;have Ek:((w.alloc (.cells #[.pointer (some ⟨A,0,none⟩)] 87)).alloc (.cells #[.slice (some ⟨g,0,none⟩) n E] 25)).heap.size=w.heap.size+1+1:=by rw[World.size_alloc,Ej]
   have Fm:=Blk.new w 87 [.pointer (some ⟨A,0,none⟩)];have Do:=Blk.new (w.alloc (.cells #[.pointer (some ⟨A,0,none⟩)] 87)) 25 [.slice (some ⟨g,0,none⟩) n E];have Dp:=Blk.new ((w.alloc (.cells #[.pointer (some ⟨A,0,none⟩)] 87)).alloc (.cells #[.slice (some ⟨g,0,none⟩) n E] 25)) 25 [.slice (some ⟨gy,0,none⟩) n cy];rw[Ej] at Do;rw[Ek] at Dp;have Dy:=aA (aA (aF w (.cells #[.pointer (some ⟨A,0,none⟩)] 87)) (aF _ (.cells #[.slice (some ⟨g,0,none⟩) n E] 25))) (aF _ (.cells #[.slice (some ⟨gy,0,none⟩) n cy] 25));refine⟨(Du.names fun b Gv F=>?_).on Dy,fun b F=>?_,OI.nil _ _,fun g hg=>by simp[Value.ownBlock] at hg,fun g hg=>by simp[Value.ownBlock] at hg,hb.trans (Dy.mono Ga),.inl (.inl (.inr rfl)),.inl (.inr rfl),.inr rfl,(Fm.alloc _).alloc _,Do.alloc _,Dp⟩
   . rcases F with((F|F)|F)|F
     . exact F
     . omega
     . omega
     . omega
   . rw[World.size_alloc,Ek];rcases F with((F|F)|F)|F<;>omega
 clear Du hn hb hR;go_enter Tryz.func114,Tryz.ntmps114;go_wp2_with fail;generalize (((w.alloc (.cells #[.pointer (some ⟨A,0,none⟩)] 87)).alloc (.cells #[.slice (some ⟨g,0,none⟩) n E] 25)).alloc (.cells #[.slice (some ⟨gy,0,none⟩) n cy] 25))=w1 at*;generalize hX0:(fun b=>((b<w0.heap.size\/b=w.heap.size)\/b=w.heap.size+1)\/b=w.heap.size+1+1)=X0 at*;have Dl:Hid (∀b,b<w0.heap.size->X0 b):=aD fun b hb=>by rw[<-hX0];exact .inl (.inl (.inl hb))
 have En:Hid (w.heap.size≠w.heap.size+1):=aD (by omega);obtain⟨b4,Ap⟩:∃b4,b4=w.heap.size:=⟨_,rfl⟩
 obtain⟨b5,Dw⟩:∃b5,b5=w.heap.size+1:=⟨_,rfl⟩
 obtain⟨b7,Dx⟩:∃b7,b7=w.heap.size+1+1:=⟨_,rfl⟩
 rw[<-Dx,<-Dw,<-Ap] at Bz|-;have Gn:w0.heap.size<=b4/\w0.heap.size<=b5/\w0.heap.size<=b7:=by omega
 clear hX0 Ap Dw Dx En;go_wp2_with fail;go_loopw [10,12,13] (fun d u x wr=>∃(c:Nat) (l:LL) (piv:LI) (X:Nat->Prop) (z:Int),c<=δ/\x=.int .i64 (c:Int)/\d=.int .i64 z/\Hid (aI O rows c=(l,piv))/\Hid (∀b,b<w0.heap.size->X b)/\Hid (EJ L w0 wr (.slice (some ⟨g,0,none⟩) n E) (.slice (some ⟨gy,0,none⟩) n cy) u l piv X A b4 b5 b7)) (fun _ _ x _=>(δ-intOf x).toNat)
 case atStart=>exact⟨0,rows,[],X0,1,aZ5 _,rfl,rfl,rfl,Dl,Bz⟩
 case round=>
   clear Bz Dl;obtain⟨c,l,piv,X,z,Gp,rfl,rfl,As,μ,C⟩:=hrel;have Bt:=lQ Au.out Fc.out c As.out;have J:Hid (l.length=n):=by rw[<-Dj.out];exact Bt.2.1
   have Cf:=zh Bt.1;have Gm:piv.length<=n:=by have:=Bt.2.2.1;rw[Dj.out] at this;exact this
   clear Bt;obtain⟨Aj,Ak,rfl⟩:=C.oi.form';generalize ha:piv.length=a at*;have ε:=zh ha;clear ha;have R:wr.cell? ⟨b5,0,none⟩=some (.slice (some ⟨g,0,none⟩) n E):=C.k5.cell 0;by_cases Gs:c<δ
   case neg=>
     obtain rfl:δ=c:=by omega
     go_wp2_with fail;go_ret2;rw[As.out];refine⟨_,_,rfl,C.om.names (fun b _ hb=>hb.elim (μ.out b) (C.xu b)),?_,C.bel⟩;rw[<-ε.out];have:=C.oi;rw[<-ε.out] at this;exact this
   by_cases Z:a<n
   case neg=>
     have Es:Hid (aI O rows δ=(l,piv)):=mU As.out (by rw[J.out,ε.out];exact Z) δ (by omega);have Gx:n<=a:=by omega
     go_wp2_with fail;go_ret2;rw[Es.out];exact⟨_,_,rfl,C.om.names (fun b _ hb=>hb.elim (μ.out b) (C.xu b)),C.oi,C.bel⟩
   have Gr:c<L:=by omega
   have Fv:=C.om.om.lt (g:=g) rfl;go_wp2_with fail;have At:Hid (EJ L w0 ((wr.alloc (.cells #[.int .i64 (a:Int)] 3)).alloc (.cells #[.int .i64 (a:Int)] 3)) (.slice (some ⟨g,0,none⟩) n E) (.slice (some ⟨gy,0,none⟩) n cy) (.slice Aj a Ak) l piv (fun b=>(X b\/b=wr.heap.size)\/b=wr.heap.size+1) A b4 b5 b7):=by have:=(C.box (.cells #[.int .i64 (a:Int)] 3)).box (.cells #[.int .i64 (a:Int)] 3);rw[World.size_alloc] at this;exact this
   have I:Hid (Blk ((wr.alloc (.cells #[.int .i64 (a:Int)] 3)).alloc (.cells #[.int .i64 (a:Int)] 3)) wr.heap.size 3 [.int .i64 (a:Int)]):=(Blk.new wr 3 [.int .i64 (a:Int)]).alloc _;have κ:Hid (Blk ((wr.alloc (.cells #[.int .i64 (a:Int)] 3)).alloc (.cells #[.int .i64 (a:Int)] 3)) (wr.heap.size+1) 3 [.int .i64 (a:Int)]):=by have:=Blk.new (wr.alloc (.cells #[.int .i64 (a:Int)] 3)) 3 [.int .i64 (a:Int)];rw[World.size_alloc] at this;exact this
   have Dk:Hid (∀b,(Value.slice Aj a Ak).ownBlock=some b->b<wr.heap.size):=aD fun b hb=>C.xb b (C.xu b hb);have Fk:Hid (∀b,X b->b<wr.heap.size):=aD C.xb;have Fw:=C.k4.lt;have Fx:=C.k5.lt;have Fy:=C.k7.lt;have Fz:=C.bel.size;generalize (wr.alloc (.cells #[.int .i64 (a:Int)] 3)).alloc (.cells #[.int .i64 (a:Int)] 3)=w2 at*;obtain⟨ga,Ea⟩:∃ga,ga=wr.heap.size:=⟨_,rfl⟩
   obtain⟨gk,Eb⟩:∃gk,gk=wr.heap.size+1:=⟨_,rfl⟩
   rw[<-Eb] at At κ|-;rw[<-Ea] at At I|-;have Fu:ga≠gk:=by omega
   obtain⟨f,Bd⟩:∃f:Nat->Prop,f=fun b=>(X b\/b=ga)\/b=gk:=⟨_,rfl⟩
   rw[<-Bd] at At;have Cm:Hid (∀b,b<w0.heap.size->f b):=aD fun b hb=>by rw[Bd];exact .inl (.inl (μ.out b hb))
   have Bq:Hid (f ga):=by show f ga;rw[Bd];exact .inl (.inr rfl)
   have Cl:Hid (f gk):=by show f gk;rw[Bd];exact .inr rfl
   have Fq:w0.heap.size<=gk:=by omega
   have Ff:Hid (∀b,(Value.slice Aj a Ak).ownBlock=some b->b≠gk):=aD fun b hb=>by have:=Dk.out b hb;omega
   have Fr:b4≠gk:=by omega
   have Fs:b5≠gk:=by omega
   have Ft:b7≠gk:=by omega
   clear C μ Bd Ea Eb Dk Fk Fw Fx Fy Fz R Fv;go_loopw [] (fun wr=>∃k:Nat,a<=k/\k<=n/\Hid (dG l c n (n-a) a=dG l c n (n-k) k)/\Hid (EJ L w0 wr (.slice (some ⟨g,0,none⟩) n E) (.slice (some ⟨gy,0,none⟩) n cy) (.slice Aj a Ak) l piv f A b4 b5 b7)/\Hid (Blk wr ga 3 [.int .i64 (a:Int)])/\Hid (Blk wr gk 3 [.int .i64 (k:Int)])) (fun wr=>n-(intOf ((wr.cell? ⟨gk,0,none⟩).getD (.int .i64 0))).toNat)
   case atStart=>exact⟨a,Nat.le_refl _,by omega,rfl,At,I,κ⟩
   case round=>
     clear At I κ;obtain⟨k,Gl,Gu,Cc,C,I,κ⟩:=hrel;have Cs:wr.cell? ⟨gk,0,none⟩=some (.int .i64 (k:Int)):=κ.cell 0;have Fp:=κ.frozen 0;have R:wr.cell? ⟨b5,0,none⟩=some (.slice (some ⟨g,0,none⟩) n E):=C.k5.cell 0;by_cases Bg:k<n
     . have π:=(Cf k (by rw[J.out];exact Bg)).1;obtain⟨Hc,Bx,σ,ρ⟩:=C.row (k:=k) (by rw[J.out];exact Bg) π (by omega) (by omega);have F:=ρ c (by omega);obtain⟨x,Cz⟩:∃x,x=(l.getD k []).getD c 0:=⟨_,rfl⟩
       rw[<-Cz] at F;have Aw:=zh Cz;clear Cz ρ π;by_cases Bu:x=0
       . subst Bu;have Dg:=zh (κ.set_ 0 (.int .i64 ((k:Int)+1)));have Eu:=zh (C.set (i:=0) Cl.out Fq Ff.out Fr Fs Ft (.int .i64 ((k:Int)+1)));have Ep:=zh (I.far (p:=⟨gk,0,none⟩) Fu (.int .i64 ((k:Int)+1)));go_wp2_with fail;refine⟨⟨k+1,by omega,by omega,?_,Eu,Ep,by rw[show((k+1:Nat):Int)=(k:Int)+1 by push_cast;rfl];exact Dg⟩,?_⟩
         . show _=_;rw[Cc.out,show n-k=(n-(k+1))+1 by omega,dG,if_pos Aw.out.symm]
         . have e:(wr.setCell ⟨gk,0,none⟩ (.int .i64 ((k:Int)+1))).cell? ⟨gk,0,none⟩=some (.int .i64 ((k:Int)+1)):=Dg.cell 0;rw[Cs,e];show n-((k:Int)+1).toNat<n-(k:Int).toNat
           omega
       . have Gb:(x==0)=false:=by rw[beq_eq_false_iff_ne];exact Bu
         have Bo:Hid (dG l c l.length (l.length-piv.length) piv.length=k):=by show _=_;rw[J.out,ε.out,Cc.out,show n-k=(n-(k+1))+1 by omega,dG,if_neg (by rw[<-Aw.out];exact Bu)]
         have Ed:(((k:Nat):Int)==(n:Int))=false:=by rw[beq_eq_false_iff_ne];omega
         have Ci:Hid (aI O rows (c+1)=(iA O c l a k,piv++[(c:Int)])):=by show _=_;rw[iW As.out (by rw[J.out,ε.out];exact Z) Bo.out,if_neg (by rw[J.out];omega),ε.out]
         have Ay:Hid (0<x/\x<q):=by have h:=(Cf k (by rw[J.out];exact Bg)).2 c;rw[<-Aw.out] at h;exact⟨by omega,h.2⟩
         have ν:wr.cell? ⟨ga,0,none⟩=some (.int .i64 (a:Int)):=I.cell 0;have Dq:wr.cell? ⟨b7,0,none⟩=some (.slice (some ⟨gy,0,none⟩) n cy):=C.k7.cell 0;have Ab:=zh R;have Ac:=zh Dq;have Ar:=zh ν;have Dc:=zh Cs;clear Bu Bo
         go_upto_if 58 with(fail)
         go_cut [10] from 21 to 122 (fun d wc=>∃By,d=.int .i64 By/\Hid (EJ L w0 wc (.slice (some ⟨g,0,none⟩) n E) (.slice (some ⟨gy,0,none⟩) n cy) (.slice Aj a Ak) (cF l a k) piv f A b4 b5 b7)/\Hid (Blk wc ga 3 [.int .i64 (a:Int)]))
         case first=>
           by_cases Ec:k=a
           . subst Ec;have Bi:(((k:Nat):Int) !=(k:Int))=false:=by simp
             go_wp2_with fail;go_meet
             case rel=>exact⟨z,rfl,by rw[DH];exact C,I⟩
           . have Bi:(((k:Nat):Int) !=(a:Int))=true:=by rw[bne_iff_ne];omega
             go_wp2_with fail;refine(M3 (X:=f) (B:=w0.heap.size) Ab Ac C.x7 Cy C.om (by rw[tC];exact J.out) (by rw[pL];exact J.out) Z Bg (fun e=>Ec e.symm) Cl Bq Dc Ar C.bel.size).mono ?_;rintro e T ⟨rfl,Ef,Cx⟩;have G:=zh (C.kx (l':=cF l a k) (by rw[U9,VT];exact Ef) Cx);have ζ:=zh (Cx.blk I Bq);have Az:T.cell? ⟨b4,0,none⟩=some (.pointer (some ⟨A,0,none⟩)):=G.k4.cell 0;clear Ef Cx;go_wp2_with fail;refine(nZ _ A P M z Mod (Al.below G.bel zr)).mono ?_;rintro e Hf ⟨rfl,Ap⟩;have U:=zh (G.on Ap);have Am:=zh (ζ.belowS Ap);clear Ap Az;go_wp2_with fail;go_meet
             case rel=>exact⟨_,rfl,U,Am⟩
         case rest=>
           clear C I κ Cs Fp R σ F Gb Ed ν Dq Ab Ac Ar Dc;obtain⟨By,rfl,C,I⟩:=hcut;have η:Hid ((cF l a k).length=n):=by show _=_;rw[eH,J.out]
           have Av:=zh (Cf.swap (a:=a) (b:=k) (by rw[J.out];exact Z) (by rw[J.out];exact Bg));have An:Hid (((cF l a k).getD a []).getD c 0=x):=by
             show _=_;rw[Aw.out];unfold cF;by_cases e:a=k
             . subst e;rw[cE,aZ9,if_pos ⟨rfl,by rw[J.out];exact Z⟩]
             . rw[cE,aZ9,if_neg (fun h=>e h.1.symm),cE,if_pos ⟨rfl,by rw[J.out];exact Z⟩]
           have Ck:Hid (iA O c l a k=aU O c a (cP O c a (cF l a k)) n):=by show _=_;unfold iA;rw[J.out]
           obtain⟨m,Ee⟩:∃m,m=cF l a k:=⟨_,rfl⟩
           rw[<-Ee] at C η Av An Ck;clear Ee Aw;have π:=(Av.out a (by rw[η.out];exact Z)).1;obtain⟨Bw,Bx,σ,ρ⟩:=C.row (k:=a) (by rw[η.out];exact Z) π (by omega) (by omega);have F:=ρ c (by omega);rw[An.out] at F;have Az:wc.cell? ⟨b4,0,none⟩=some (.pointer (some ⟨A,0,none⟩)):=C.k4.cell 0;have R:wc.cell? ⟨b5,0,none⟩=some (.slice (some ⟨g,0,none⟩) n E):=C.k5.cell 0;have ν:wc.cell? ⟨ga,0,none⟩=some (.int .i64 (a:Int)):=I.cell 0;clear ρ π;go_wp2_with fail;refine aG.start (S:=fun w'=>w'.cell? ⟨b4,0,none⟩=some (.pointer (some ⟨A,0,none⟩))/\w'.cell? ⟨b5,0,none⟩=some (.slice (some ⟨g,0,none⟩) n E)/\w'.cell? ⟨ga,0,none⟩=some (.int .i64 (a:Int))/\w'.cell? ⟨g,a,none⟩=some (.slice (some ⟨Bw,0,none⟩) L Bx)/\w'.cell? ⟨Bw,c,none⟩=some (.int .i64 x)) (by kernel_rfl) (⟨Az,R,ν,σ,F⟩) (fun H=>?_);change aG _ _ _ _ 11 _ _ _;refine tq 0 ?_;refine tq 1 ?_;refine tq 2 ?_;refine tq 3 ?_;refine tq 4 ?_;refine tq 5 ?_;refine tq 6 ?_;refine tq 7 ?_;refine tq 8 ?_;try simp only[tz]
           refine aG.only (i:=9) (by kernel_rfl) rfl (fun K hK=>?_);go_simp;refine(mH _ A P M By x Mod (Al.below (C.bel.trans ((aH wc).mono C.bel.size)) zr)).mono ?_;rintro e T ⟨rfl,Dv⟩;have θ:=zh (aA (aH wc) Dv);have G:=zh (C.on θ);have ζ:=zh (I.belowS θ);have Ba:=aE θ.out Az;have Ae:=aE θ.out R;have Bb:=aE θ.out ν;have Af:=aE θ.out σ;have Ag:=aE θ.out F;clear Dv;refine hK.out _ _ (⟨Ba,Ae,Bb,Af,Ag⟩) ?_;clear hK K H;intro H;try simp only[tz]
           refine aG.only (i:=10) (by kernel_rfl) rfl (fun K hK=>?_);go_simp;refine hK.out _ _ H (fun Bc=>?_);clear hK K;clear Bc;refine aG.done (by kernel_rfl) ?_;try simp only[tz]
           clear H;generalize bO P M Mod By x=Gi;clear C I Az R ν σ F θ;go_upto_region 16 with fail;have τ:=zh Ba;have φ:=zh Ae;have χ:=zh Bb;have ψ:=zh Af;have ω:=zh Ag;have De:Hid (inQ (aC P M) x≠0):=by show _≠_;unfold inQ;rw[<-Fb.out,if_pos ⟨by have:=Ay.out.1;omega,Ay.out.2⟩];have:=Ay.1;omega
           go_cut [16,17] from 21 to 122 (fun Gc Gd Em=>∃gi,Gc=.pointer (some ⟨gi,0,none⟩)/\Gd=.int .i64 0/\T.heap.size<=gi/\Hid (Blk Em gi 3 [.int .i64 (fJ P M Mod x)])/\Hid (Below T.heap.size T Em))
           case first=>
             refine aG.start (S:=fun w'=>w'.cell? ⟨b4,0,none⟩=some (.pointer (some ⟨A,0,none⟩))/\w'.cell? ⟨b5,0,none⟩=some (.slice (some ⟨g,0,none⟩) n E)/\w'.cell? ⟨ga,0,none⟩=some (.int .i64 (a:Int))/\w'.cell? ⟨g,a,none⟩=some (.slice (some ⟨Bw,0,none⟩) L Bx)/\w'.cell? ⟨Bw,c,none⟩=some (.int .i64 x)) (by kernel_rfl) (⟨Ba,Ae,Bb,Af,Ag⟩) (fun H=>?_);change aG _ _ _ _ 15 _ _ _;have Cu:=aH T;generalize T.drew=Ge at Cu H|-;have D:=zh Cu;clear Ba Ae Bb Af Ag;clear Cu;refine tq 0 ?_;refine tq 1 ?_;refine tq 2 ?_;refine tq 3 ?_;refine tq 4 ?_;refine tq 5 ?_;refine tq 6 ?_;refine tq 7 ?_;try simp only[tz]
             refine aG.two (i:=8) (j:=12) (oi:=?opa2) (oj:=?opb2) (by kernel_rfl) ?hoa2 ?hob2 (fun K hK=>?way12) (fun K hK=>?way22)
             case hoa2=>(conv=>lhs;simp only[tdg,tdh,tdi])
             case hob2=>(conv=>lhs;simp only[tdg,tdh,tdi])
             case way12=>
               go_simp;refine(mG _ A P M x Mod (Al.below (G.bel.trans (D.mono G.bel.size)) zr) De).mono ?_;rintro e Gg ⟨rfl,hb⟩;replace D:=zh (aA D hb);clear hb;refine hK.out _ _ (⟨cb D τ,cb D φ,cb D χ,cb D ψ,cb D ω⟩) ?_;clear hK K H;intro H;try simp only[tz]
               refine tq 9 ?_;refine tq 10 ?_;refine tq 11 ?_;try simp only[tz]
               refine aG.only (i:=12) (o:=?op4) (by kernel_rfl) ?ho4 (fun K hK=>?_)
               case ho4=>(conv=>lhs;simp only[tdg,tdh,tdi])
               go_simp;obtain⟨Gh,gi,r,s,V,hb⟩:=bB Gg 3 [.int .i64 0];rw[r,s];have W:=zh V;have ξ:T.heap.size<=gi:=(by have:=D.size;omega)
               replace D:=zh (aA D hb);clear r s V hb;refine hK.out _ _ (⟨cb D τ,cb D φ,cb D χ,cb D ψ,cb D ω⟩) ?_;clear hK K H;intro H;try simp only[tz]
               refine aG.only (i:=13) (o:=?op6) (by kernel_rfl) ?ho6 (fun K hK=>?_)
               case ho6=>(conv=>lhs;simp only[tdg,tdh,tdi])
               have Cp:=W.cell 0;have Cq:=W.frozen 0;go_simp;have Aa:=zh (W.set_ 0 (.int .i64 (fJ P M Mod x)));replace D:=zh (D.setCell (p:=⟨gi,0,none⟩) ξ (.int .i64 (fJ P M Mod x)));generalize Gh.setCell ⟨gi,0,none⟩ (.int .i64 (fJ P M Mod x))=Hh at*;clear Cp Cq W;refine hK.out _ _ (⟨cb D τ,cb D φ,cb D χ,cb D ψ,cb D ω⟩) ?_;clear hK K H;intro H;try simp only[tz]
               refine aG.only (i:=14) (by kernel_rfl) rfl (fun K hK=>?_);go_simp;refine hK.out _ _ H (fun Bc=>?_);clear hK K;clear Bc;refine aG.done (by kernel_rfl) ?_;try simp only[tz]
               clear H;go_wp2_with fail;go_meet;exact⟨gi,rfl,rfl,ξ,Aa,D⟩
             case way22=>
               go_simp;obtain⟨Hi,gi,r,s,V,hb⟩:=bB Ge 3 [.int .i64 0];rw[r,s];have W:=zh V;have ξ:T.heap.size<=gi:=(by have:=D.size;omega)
               replace D:=zh (aA D hb);clear r s V hb;refine hK.out _ _ (⟨cb D τ,cb D φ,cb D χ,cb D ψ,cb D ω⟩) ?_;clear hK K H;intro H;try simp only[tz]
               refine aG.only (i:=8) (o:=?op9) (by kernel_rfl) ?ho9 (fun K hK=>?_)
               case ho9=>(conv=>lhs;simp only[tdg,tdh,tdi])
               go_simp;refine(mG _ A P M x Mod (Al.below (G.bel.trans (D.mono G.bel.size)) zr) De).mono ?_;rintro e Gf ⟨rfl,hb⟩;replace W:=zh (W.belowS hb);replace D:=zh (aA D hb);clear hb;refine hK.out _ _ (⟨cb D τ,cb D φ,cb D χ,cb D ψ,cb D ω⟩) ?_;clear hK K H;intro H;try simp only[tz]
               refine tq 9 ?_;refine tq 10 ?_;refine tq 11 ?_;try simp only[tz]
               refine aG.only (i:=13) (o:=?op11) (by kernel_rfl) ?ho11 (fun K hK=>?_)
               case ho11=>(conv=>lhs;simp only[tdg,tdh,tdi])
               have Cp:=W.cell 0;have Cq:=W.frozen 0;go_simp;have Aa:=zh (W.set_ 0 (.int .i64 (fJ P M Mod x)));replace D:=zh (D.setCell (p:=⟨gi,0,none⟩) ξ (.int .i64 (fJ P M Mod x)));generalize Gf.setCell ⟨gi,0,none⟩ (.int .i64 (fJ P M Mod x))=Hg at*;clear Cp Cq W;refine hK.out _ _ (⟨cb D τ,cb D φ,cb D χ,cb D ψ,cb D ω⟩) ?_;clear hK K H;intro H;try simp only[tz]
               refine aG.only (i:=14) (by kernel_rfl) rfl (fun K hK=>?_);go_simp;refine hK.out _ _ H (fun Bc=>?_);clear hK K;clear Bc;refine aG.done (by kernel_rfl) ?_;try simp only[tz]
               clear H;go_wp2_with fail;go_meet;exact⟨gi,rfl,rfl,ξ,Aa,D⟩
           case rest=>
             clear Ba Ae Bb Af Ag;obtain⟨gi,rfl,rfl,ξ,Aa,D⟩:=hcut;have U:=zh (G.name D ξ Aa.lt);have Am:=zh (ζ.belowS D);obtain⟨v,Be⟩:∃v:Nat->Prop,v=fun b=>f b\/b=gi:=⟨_,rfl⟩
             rw[<-Be] at U;have Dm:Hid (∀b,b<w0.heap.size->v b):=aD fun b hb=>by rw[Be];exact .inl (Cm.out b hb)
             have Br:Hid (v ga):=by show v ga;rw[Be];exact .inl Bq.out
             have Fh:Hid (v gi):=by show v gi;rw[Be];exact .inr rfl
             clear Be ξ G ζ τ φ χ ψ ω D Cm Bq Cl;have Ds:fJ P M Mod x=O.inv x:=by rw[Cj.out];rfl
             have Bn:=zh Ds;clear Ds;have Cb:Hid (O.inv x=1↔x=1):=K9 Ca.out Ay.1 Ay.2;obtain⟨Q,Bh⟩:∃Q,Q=cP O c a m:=⟨_,rfl⟩
             have Ce:=zh Bh;have Di:Hid (Q.length=n):=by show _=_;rw[Bh,jV,η.out]
             have Ex:Hid (Rows q N Q):=by rw[Bh];exact Rows.monic Au.out Av.out c (by rw[η.out];exact Z)
             rw[<-Bh] at Ck;clear Bh;have Dr:wc.cell? ⟨gi,0,none⟩=some (.int .i64 (fJ P M Mod x)):=Aa.cell 0;have Db:=zh Dr;have R:wc.cell? ⟨b5,0,none⟩=some (.slice (some ⟨g,0,none⟩) n E):=U.k5.cell 0;have Ab:=zh R;have Ac:Hid (wc.cell? ⟨b7,0,none⟩=some (.slice (some ⟨gy,0,none⟩) n cy)):=U.k7.cell 0;have Bk:Hid (wc.cell? ⟨b4,0,none⟩=some (.pointer (some ⟨A,0,none⟩))):=U.k4.cell 0;have Ar:Hid (wc.cell? ⟨ga,0,none⟩=some (.int .i64 (a:Int))):=Am.cell 0
             go_upto_if 92 with(fail)
             go_cut [] from 21 to 122 (fun wc=>Hid (EJ L w0 wc (.slice (some ⟨g,0,none⟩) n E) (.slice (some ⟨gy,0,none⟩) n cy) (.slice Aj a Ak) Q piv v A b4 b5 b7)/\Hid (Blk wc ga 3 [.int .i64 (a:Int)]))
             case first=>
               by_cases Aq:x=1
               . have Bi:(fJ P M Mod x !=1)=false:=by rw[Bn.out,bne_eq_false_iff_eq];exact Cb.2 Aq
                 have Ch:Hid (Q=m):=by show _=_;rw[Ce.out];unfold cP;rw[if_neg (by rw[An.out];simpa using Aq)]
                 clear Aq;go_wp2_with fail;go_meet
                 case rel=>exact⟨by rw[Ch.out];exact U,Am⟩
               . have Bi:(fJ P M Mod x !=1)=true:=by rw[Bn.out,bne_iff_ne];exact fun e=>Aq (Cb.1 e)
                 have Ch:Hid (Q=m.set a (bR (aB P M Mod) (fJ P M Mod x) (m.getD a []))):=by show _=_;rw[Ce.out];unfold cP;rw[if_pos (by rw[An.out];exact Aq),An.out,Bn.out,Cj.out]
                 have Bp:Hid ((((lfM L m).getD a []).length<=100000/\∀k,I64 (((lfM L m).getD a []).getD k 0))/\(((rgM L m).getD a []).length<=100000/\∀k,I64 (((rgM L m).getD a []).getD k 0))):=by have h:=Av.out a (by rw[η.out];exact Z);exact⟨VQ h Dt (by omega),VR h Dt (by omega)⟩
                 clear Aq;go_wp2_with fail;refine(M5 (X:=v) (B:=w0.heap.size) Ab Ac U.x7 Cy Al U.bel zr U.om (by rw[tC];exact η.out) (by rw[pL];exact η.out) Z U.xb Bp.1.1 Bp.1.2 Bp.2.1 Bp.2.2 U.x4 Fh Br Bk Db Ar U.bel.size).mono ?_;rintro e El ⟨rfl,Bj,Ai⟩;have Bm:=zh (U.kx (l':=m.set a (bR (aB P M Mod) (fJ P M Mod x) (m.getD a []))) (by rw[EA,ES,H7,H5,<-uR,<-sP];exact Bj) Ai);have Cd:=zh (Ai.blk Am Br);rw[<-Ch.out] at Bm;clear Bj Ai;go_wp2_with fail;go_meet
                 case rel=>exact⟨Bm,Cd⟩
             case rest=>
               clear U Am Aa Dr R Ab Ac Bk Ar Db An Av η Ce Cb Bn;obtain⟨C,I⟩:=hcut;have R:wc.cell? ⟨b5,0,none⟩=some (.slice (some ⟨g,0,none⟩) n E):=C.k5.cell 0;go_wp2_with fail;clear R;go_loopw [98] (fun x wr=>∃(i:Nat) (X:Nat->Prop),i<=n/\x=.int .i64 (i:Int)/\Hid (∀b,b<w0.heap.size->X b)/\Hid (X ga)/\Hid (EJ L w0 wr (.slice (some ⟨g,0,none⟩) n E) (.slice (some ⟨gy,0,none⟩) n cy) (.slice Aj a Ak) (aU O c a Q i) piv X A b4 b5 b7)/\Hid (Blk wr ga 3 [.int .i64 (a:Int)])) (fun x _=>(n-intOf x).toNat)
               case atStart=>exact⟨0,v,aZ5 _,rfl,Dm,Br,C,I⟩
               case round=>
                 clear C I Dm Br;obtain⟨i,X,hi,rfl,μ,Dn,C,I⟩:=hrel;by_cases Cv:i<n
                 . have Ad:Hid ((aU O c a Q i).length=n):=by show _=_;rw[fW,Di.out]
                   have Bl:=zh (Rows.clear Au Ex c a i (by rw[Di.out];exact hi));have ι:Hid (aU O c a Q (i+1)=if i≠a/\((aU O c a Q i).getD i []).getD c 0≠0 then(aU O c a Q i).set i (cH O ((aU O c a Q i).getD i []) (O.neg (((aU O c a Q i).getD i []).getD c 0)) ((aU O c a Q i).getD a [])) else aU O c a Q i):=rfl;generalize aU O c a Q i=t at C Ad Bl ι;have π:=(Bl.out i (by rw[Ad.out];exact Cv)).1;obtain⟨Hb,Bx,σ,ρ⟩:=C.row (k:=i) (by rw[Ad.out];exact Cv) π (by omega) (by omega);have F:=ρ c (by omega);obtain⟨y,Ei⟩:∃y,y=(t.getD i []).getD c 0:=⟨_,rfl⟩
                   rw[<-Ei] at F ι;clear ρ π Ei;have R:wr.cell? ⟨b5,0,none⟩=some (.slice (some ⟨g,0,none⟩) n E):=C.k5.cell 0;have ν:wr.cell? ⟨ga,0,none⟩=some (.int .i64 (a:Int)):=I.cell 0;go_upto_region 22 with fail;obtain⟨w2,Ah,r,s,V,hb⟩:=bB wr 3 [.int .i64 (i:Int)];rw[r,s];have Da:=zh V;have Dd:=zh (C.name hb (gi:=Ah) (by omega) V.lt);have Df:=zh (I.belowS hb);have Ae:=aE hb R;have Af:=aE hb σ;have Ag:=aE hb F;have Gt:w0.heap.size<=Ah:=by have:=C.bel.size;omega
                   have Cr:w2.cell? ⟨Ah,0,none⟩=some (.int .i64 (i:Int)):=V.cell 0;clear C I R ν σ F r s V hb;go_upto_region 23 with fail;obtain⟨T,gx,r,s,V,hb⟩:=bB w2 3 [.int .i64 y];rw[r,s];have W:=zh V;have G:=zh (Dd.name hb (gi:=gx) (by omega) V.lt);have ζ:=zh (Df.belowS hb);have Er:=zh (Da.belowS hb);clear Dd Df Da Ae Af Ag Cr r s V hb;obtain⟨Y,Ao⟩:∃Y:Nat->Prop,Y=fun b=>(X b\/b=Ah)\/b=gx:=⟨_,rfl⟩
                   rw[<-Ao] at G;have Co:Hid (∀b,b<w0.heap.size->Y b):=aD fun b hb=>by rw[Ao];exact .inl (.inl (μ.out b hb))
                   have Ax:Hid (Y ga):=by show Y ga;rw[Ao];exact .inl (.inl Dn)
                   have Fi:Hid (Y Ah):=by show Y Ah;rw[Ao];exact .inl (.inr rfl)
                   have Fj:Hid (Y gx):=by show Y gx;rw[Ao];exact .inr rfl
                   clear Ao μ Dn;have Cr:T.cell? ⟨Ah,0,none⟩=some (.int .i64 (i:Int)):=Er.cell 0;have Fo:T.cell? ⟨gx,0,none⟩=some (.int .i64 y):=W.cell 0;have ba:T.cell? ⟨ga,0,none⟩=some (.int .i64 (a:Int)):=ζ.cell 0;have Ab:Hid (T.cell? ⟨b5,0,none⟩=some (.slice (some ⟨g,0,none⟩) n E)):=G.k5.cell 0;have Ac:Hid (T.cell? ⟨b7,0,none⟩=some (.slice (some ⟨gy,0,none⟩) n cy)):=G.k7.cell 0;have Bk:Hid (T.cell? ⟨b4,0,none⟩=some (.pointer (some ⟨A,0,none⟩))):=G.k4.cell 0;have Ev:=zh Cr;have Fl:=zh Fo;have Eo:=zh ba;by_cases Bf:i=a
                   . subst Bf;have Bi:(((i:Nat):Int) !=(i:Int))=false:=by simp
                     rw[if_neg (fun h=>h.1 rfl)] at ι;go_wp2_with fail;exact⟨⟨i+1,Y,by omega,by push_cast;rfl,Co,Ax,by rw[ι.out];exact G,ζ⟩,by simp only[intOf];omega⟩
                   . have Bi:(((i:Nat):Int) !=(a:Int))=true:=by rw[bne_iff_ne];omega
                     by_cases Bv:y=0
                     . subst Bv;rw[if_neg (fun h=>h.2 rfl)] at ι;clear Bf;go_wp2_with fail;exact⟨⟨i+1,Y,by omega,by push_cast;rfl,Co,Ax,by rw[ι.out];exact G,ζ⟩,by simp only[intOf];omega⟩
                     . have Ha:(y !=0)=true:=by simpa using Bv
                       rw[if_pos ⟨Bf,Bv⟩] at ι;have Ew:=zh Bf;have Dh:Hid ((∀j,j<n->((lfM L t).getD j []).length=L/\∀k,I64 (((lfM L t).getD j []).getD k 0))/\(∀j,j<n->((rgM L t).getD j []).length=N-L/\∀k,I64 (((rgM L t).getD j []).getD k 0))):=aD (by exact⟨fun j Cw=>VV (Bl j (by rw[Ad.out];exact Cw)) (by omega) (by omega),fun j Cw=>LW (Bl j (by rw[Ad.out];exact Cw)) (by omega)⟩);clear Bf Bv;go_wp2_with fail;refine(M7 (X:=Y) (B:=w0.heap.size) (L:=L) (L2:=N-L) (P:=P) (M:=M) (Mod:=Mod) Ab Ac G.x7 Cy Al G.bel zr G.om (by rw[tC];exact Ad.out) (by rw[pL];exact Ad.out) Cv Z Ew Dh.1 (by omega) (by omega) Dh.2 (by omega) (by omega) G.x4 Fi Fj Ax Bk Ev Fl Eo G.bel.size).mono ?_;rintro e El ⟨rfl,Bj,Ai⟩;have Bm:=zh (G.kx (l':=t.set i (cH (aB P M Mod) (t.getD i []) (fZ P M y) (t.getD a []))) (by rw[EA,ES,E5,E4,<-uR,<-sP,<-uR,<-sP];exact Bj) Ai);have Cd:=zh (Ai.blk ζ Ax);have Ey:Hid (aU O c a Q (i+1)=t.set i (cH (aB P M Mod) (t.getD i []) (fZ P M y) (t.getD a []))):=by show _=_;rw[ι.out,Cj.out];rfl
                       clear Bj Ai;go_wp2_with fail;exact⟨⟨i+1,Y,by omega,by push_cast;rfl,Co,Ax,by rw[Ey.out];exact Bm,Cd⟩,by simp only[intOf];omega⟩
                 . obtain rfl:n=i:=by omega
                   rw[<-Ck.out] at C;have Fa:Hid (piv.length+[(c:Int)].length<=17592186044416):=by show _<=_;rw[ε.out,aZ2];omega
                   have Ez:=zh (C.oi.alloc (.cells #[.int .i64 (c:Int)] 3));have Fe:Hid (SI (wr.alloc (.cells #[.int .i64 (c:Int)] 3)) (.slice (some ⟨wr.heap.size,0,none⟩) 1 1) [(c:Int)]):=SI.lit wr [(c:Int)] (by simp) (fun j=>by
                     rcases j with _|j
                     . exact I64.of_small (by show _<=(c:Int);omega) (by show(c:Int)<=_;omega)
                     . exact I64.zero)
                   have Fg:Hid (w0.heap.size<=(wr.alloc (.cells #[.int .i64 (c:Int)] 3)).heap.size):=fM C.bel.size _;go_wp2_with (at_builtin;go_must (refine dW rfl _ _ rfl w0.heap.size _ piv rfl Ez _ [(c:Int)] rfl Fe Fa Fg ?_);(intro He El Bs hg Eh);have Et:=zh (C.push Bs hg Eh);clear Bs hg Eh)
                   exact⟨⟨c+1,_,_,_,Gi,by omega,by push_cast;rfl,rfl,Ci.out,aD (fun b hb=>.inl (μ.out b hb)),Et⟩,by simp only[intOf];omega⟩
     . obtain rfl:n=k:=by omega
       have Bo:Hid (dG l c l.length (l.length-piv.length) piv.length=n):=by show _=_;rw[J.out,ε.out,Cc.out,Nat.sub_self,dG]
       have Ed:(((n:Nat):Int)==(n:Int))=true:=by simp
       have Ci:Hid (aI O rows (c+1)=(l,piv)):=by show _=_;rw[iW As.out (by rw[J.out,ε.out];exact Z) Bo.out,if_pos J.out.symm]
       go_wp2_with fail;exact⟨⟨c+1,l,piv,f,z,by omega,by push_cast;rfl,rfl,Ci,Cm,C⟩,by simp only[intOf];omega⟩
end Go.Proofs.YtpfhoemohibniaaGreatDoor
