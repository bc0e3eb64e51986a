/- Texts of a claim, merged. -/
import Derived.Test.YtpfhoemohibniaaGreatDoorZA29
set_option maxRecDepth 100000
set_option maxHeartbeats 32000000
namespace Go.Proofs.YtpfhoemohibniaaGreatDoor
open Go.RowKit
theorem jI{P M:Int}{Mod:LI}{n:Nat}{rows:LL}(D:cK P M Mod)(hn:n<=256)(E:rows.length<=256)(hR:Rows (aC P M) n rows):dK P M Mod n rows=0:=by
 rw[uT D];unfold pY;have B:qP (n:Int) rows=true:=iT fun j A=>by rw[beq_iff_eq];have:=(hR j A).1;omega
 have C:vT (aC P M) rows=true:=iT fun j A=>by rw[beq_iff_eq];exact mV fun k _=>(hR j A).2 k
 rw[if_neg (by omega),if_pos B,if_pos C]
theorem Cn.spaceE{P M:Int}{Mod:LI}{n:Nat}{rows:LL}(A:cK P M Mod)(hn:n<=256)(h:Cn (aB P M Mod) (aC P M) n rows):spaceE P M Mod n rows=0:=
 DE (jI A hn (by have:=h.le;omega) h.rows) (by rw[aZ8];exact h.self (dU A))
def YO(O:aO)(A B:LL):Bool:=A.all fun r=>inL O B r
def YM(O:aO)(rows:LL)(n:Nat)(x:LI):LI:=(List.range rows.length).map fun k=>x.getD (pvt (jX O rows n) k) 0
def xI(rows:LL)(set:LI):Nat->LL
 |0=>[]
 |k+1=>xI rows set k++[nB (rows.getD k []) set]
theorem kH(rows:LL)(set:LI):∀k,(xI rows set k).length=k
 |0=>rfl
 |k+1=>by rw[xI,aZ1,kH rows set k];rfl
theorem BY(rows:LL)(set:LI):∀k j,j<k->(xI rows set k).getD j []=nB (rows.getD j []) set
 |0,j,h=>by omega
 |k+1,j,h=>by
  rw[xI];by_cases e:j<k
  .rw[sM (by rw[kH];exact e),BY rows set k j e]
  .obtain rfl:j=k:=by omega
   rw[qN (by rw[kH];exact Nat.le_refl _),kH,Nat.sub_self];rfl
theorem MU(rows:LL)(set:LI):xI rows set rows.length=dH rows set:=
 kL (by rw[kH,dX]) fun j A=>by rw[kH] at A;rw[BY rows set _ j A];unfold dH;rw[lR _ _ _ A]
theorem FMQ.grN{w w1 w2:World}{P M A:Int}{mv B:Value}(h:FMQ w w1 P M mv A B){row:Option Nat}(hg:w1.grownBy w2 row)(hn:∀g,row=some g->w.heap.size+1+1<g):FMQ w w2 P M mv A B:=
 ⟨⟨⟨h.fm.fb.blk.grown hg (fun e=>by have:=hn _ e.symm;omega),h.fm.fb.bel.grown hg h.fm.fb.bel.size (fun k e=>by have:=hn _ e;omega)⟩,h.fm.mb.grown hg (fun e=>by have:=hn _ e.symm;omega)⟩,h.q.grown hg (fun e=>by have:=hn _ e.symm;omega)⟩
theorem FMQ.gr{w w1 w2:World}{P M A:Int}{mv B:Value}(h:FMQ w w1 P M mv A B){g:Nat}(hg:w1.grownBy w2 (some g))(hn:w.heap.size+1+1<g):FMQ w w2 P M mv A B:=h.grN hg (fun b e=>by cases e;exact hn)
theorem qQ(w:World)(P M:Int)(n:Nat)(mv Bj sv:Value)(Mod set:LI)(rows:LL)(hm:SI w mv Mod)(Bf:SS w Bj rows)(Bc:SI w sv set)(σ:dK P M Mod n rows=0)(Be:∀k,k<set.length->0<=set.getD k 0/\set.getD k 0<n)(Cp:set.length<=256):
   Calls Tryz.prog 57 #[.agg #[.int .i64 P,.int .i64 M,mv],.agg #[.int .i64 (n:Int),Bj],sv] w (mR w set.length (dH rows set)):=by
 have Br:=zh hm;have θ:=zh Bf;have U:=zh Bc;have Bp:=zh σ;have η:=zh Be;obtain⟨Ci,_,hn,Ck,hR⟩:=dE σ;rw[aZ8] at hR;have Bv:=zh hR;have Dh:=aK P M;have Ah:Hid (xI rows set rows.length=dH rows set):=MU rows set;obtain⟨Aw,Bi,rfl,_⟩:=Bf;obtain⟨Cy,Dt,rfl,_⟩:=Bc;clear hm σ Be Ci hR;obtain⟨m,ψ⟩:∃m,m=set.length:=⟨_,rfl⟩
 rw[<-ψ] at U η Cp|-;have G:=zh ψ;obtain⟨r,ω⟩:∃r,r=rows.length:=⟨_,rfl⟩
 rw[<-ω] at θ Ah Ck|-;have ζ:=zh ω;clear ψ ω;have Dg:=fun(w:World)=>dV m (by omega) w;obtain⟨w1,F,hq,Cq⟩:=FMQ.mk' w P M mv n (.slice Aw r Bi);have A:=zh hq;have Ae:=zh F;clear hq F;go_enter Tryz.func57,Tryz.ntmps57;go_upto_region 1 with fail;rw[Ae.out];clear Ae;have c0:=A.fm.fb.c0;have c1:=A.fm.fb.c1;have c2:=A.fm.fb.c2;have d0:=A.fm.d0;have d1:=A.fm.d1;go_wp2_with fail;refine(oF w w1 P M n _ mv _ Mod rows A.fm.fb.bel Cq Br θ Bp).mono ?_;rintro e w2 ⟨a,rfl,hg,ξ⟩;have δ:=zh (A.on ξ);have Di:=ξ.size;clear hg ξ c0 c1 c2 d0 d1 A;have d0:=δ.fm.d0;go_wp2_with fail;go_loop [35] (fun i=>∃k:Nat,k<=m/\i=.int .i64 (k:Int)) (fun i=>m-(intOf i).toNat)
 case atStart=>exact⟨0,aZ5 _,rfl⟩
 case round=>
   obtain⟨k,Az,rfl⟩:=hrel;by_cases χ:k<m
   . obtain⟨Cd,x,rfl,ρ,_,E⟩:=(U.below δ.fm.fb.bel zr).elt (k:=k) (by rw[<-G.out];exact χ);have Bg:=η.out k χ;rw[E.out] at Bg;obtain⟨Dn,Do⟩:=Bg;have Dp:decide (x<0)=false:=by simp;omega
     have Dq:decide ((n:Int)<=x)=false:=by simp;omega
     go_wp2_with fail;go_round
     case rel=>exact⟨k+1,by omega,by go_num⟩
     case measure=>simp[intOf];omega
   . obtain rfl:m=k:=by omega
     clear χ Az;go_upto_region 13 with fail;obtain⟨C,W,F,L,ν,π⟩:=bB w2 86 [.int .i64 (m:Int),.slice none 0 0];rw[F,L];have ε:=zh (δ.on π);have K:=zh ν;have Dj:=π.size;have Cj:w2.heap.size<=W/\W<C.heap.size:=⟨by omega,ν.lt⟩
     clear F L ν π d0;have d1:=ε.fm.d1;go_wp2_with fail;clear d1;go_loopw [55] (fun i wr=>∃(k:Nat) (H:Option Addr) (J:Nat),k<=r/\i=.int .i64 (k:Int)/\Hid (OS C.heap.size (fun g=>g<C.heap.size) wr (.slice H k J) (xI rows set k))/\Hid (Blk wr W 86 [.int .i64 (m:Int),.slice H k J])/\Hid (FMQ w wr P M mv n (.slice Aw r Bi))/\C.heap.size<=wr.heap.size) (fun i _=>r-(intOf i).toNat)
     case atStart=>exact⟨0,none,0,aZ5 _,rfl,OS.nil _ _ _,K,ε,Nat.le_refl _⟩
     case round=>
       clear K ε;obtain⟨k,H,J,Az,rfl,O,K,A,Dm⟩:=hrel;by_cases Ba:k<r
       . obtain⟨Cd,Bm,Ce,row,rfl,ρ,Ar,Aq⟩:=(θ.below A.fm.fb.bel zr).eltA (k:=k) (by rw[<-ζ.out];exact Ba);have N:row.length=n/\∀i,0<=row.getD i 0/\row.getD i 0<aC P M:=by rw[<-Aq.out];exact Bv.out k (by rw[<-ζ.out];exact Ba)
         obtain⟨N,Cl⟩:=N;have Bs:Hid (xI rows set (k+1)=xI rows set k++[nB row set]):=by show _=_;rw[xI,Aq.out]
         have By:=zh Cl;have T:=zh (Ar.si);rw[N] at T;rw[N] at ρ;have Bw:Hid (0<n->∀g,(Value.slice Bm n Ce).ownBlock=some g->g<wr.heap.size):=aD fun Ch g hg=>T.lt (by rw[N];exact Ch) hg;go_upto_region 17 with fail;obtain⟨Cx,gx,F,L,Ay,I⟩:=vZ wr m;rw[F,L];have At:=zh Ay;have Ai:=zh ((O.names (Y:=fun g=>g<C.heap.size\/g=gx) (fun g Df Cs=>Cs.resolve_right (by omega))).below I);have Ac:=zh (K.belowS I);have Ao:=zh (A.on I);have Bx:=zh (T.below I zr);have Dk:=I.size;have Dd:wr.heap.size=gx:=L;have Am:Hid (∀g,(Value.slice H k J).ownBlock=some g->g<wr.heap.size):=aD fun g hg=>(O.lt hg).2;have Ca:=zh ((U.below A.fm.fb.bel zr).below I zr);clear F L Ay I O K A T Ar ρ;obtain⟨f,τ⟩:∃f:Nat->Int,f=fun j=>row.getD (set.getD j 0).toNat 0:=⟨_,rfl⟩
         have An:Hid (nB row set=aQ m f):=by show _=_;unfold nB;rw[<-G.out,τ]
         have Af:=zh τ;clear τ;go_wp2_with fail;go_loopw [64] (fun i Bl=>∃j:Nat,j<=m/\i=.int .i64 (j:Int)/\Hid (RI Bl gx (bY m f (fun _=>0) j))/\Hid (Cx.grownBy Bl (some gx))) (fun i _=>m-(intOf i).toNat)
         case atStart=>exact⟨0,aZ5 _,rfl,by rw[dA,gH];exact At,World.grownBy.refl _ _⟩
         case round=>
           clear At;obtain⟨j,De,rfl,E,D⟩:=hrel;by_cases Q:j<m
           . obtain ⟨Cw, z, rfl, Bd, _, Av⟩ := (Ca.grown D (fun _ g hg e => by
               have V:=aZ0 e;obtain⟨Cw,z,Cf,Bd,_,_⟩:=U.elt (k:=j) (by rw[<-G.out];exact Q);rw[Cf] at hg;have X:=World.block_lt_of_cell? _ _ Bd;rw[bS] at X;simp[Value.ownBlock] at hg;omega)).elt (k:=j) (by rw[<-G.out];exact Q)
             have Bh:=η.out j Q;rw[Av.out] at Bh;obtain⟨d,rfl⟩:∃d:Nat,z=(d:Int):=⟨z.toNat,by omega⟩
             have Ct:d<n:=by omega
             obtain⟨Ds,y,rfl,Dr,_,Cc⟩:=(Bx.grown D (fun _ g hg e=>by have V:=aZ0 e;have X:=Bw.out (by omega) g hg;omega)).elt (k:=d) (by rw[N];exact Ct);have Bq:Hid (f j=y):=by show _=_;rw[Af.out];dsimp only;rw[Av.out,aZ8,Cc.out]
             have Ag:=zh (dO (f:=f) (g:=fun _=>0) Q);rw[Bq.out] at Ag;have Du:=E.cell j (by rw[cU];exact Q);have Dv:=E.frozen j;clear Bh;go_wp2_with fail;exact⟨⟨j+1,by omega,by push_cast;rfl,by rw[<-Ag.out];exact E.set j y,aP (p:=⟨gx,j,none⟩) D (.inl rfl) _⟩,by simp only[intOf];omega⟩
           . obtain rfl:j=m:=by omega
             rw[cZ,<-An.out] at E;have Dc:=E.lt;have Au:Hid (SI wr (.slice (some ⟨gx,0,none⟩) j j) (nB row set)):=aD (by
               have h:=E.si (by rw[jA,<-G.out];omega) (fun i=>by
                 by_cases hi:i<j
                 . rw[An.out,aS hi,Af.out];dsimp only;have Db:=By.out (set.getD i 0).toNat
                   exact I64.of_small (by omega) (by omega)
                 . rw[aW (by rw[jA,<-G.out];omega)];exact I64.zero)
               rwa[jA,<-G.out] at h)
             have Aj:=zh ((Ai.grown D (fun g e=>by have V:=aZ0 e;subst V;exact⟨fun h=>by have:=Am.out _ h;omega,.inr rfl⟩)).names (Y:=fun g=>g<C.heap.size) (fun g _ h=>.inl h));have o:=zh (Ac.grown D (by intro e;have:=aZ0 e;omega));have Ap:=zh (FMQ.gr Ao D (by omega));have Dl:=D.size;have s:=zh (Aj.alloc (.cells #[.slice (some ⟨gx,0,none⟩) j j] 22));have Bo:=zh (T9 (w:=wr) (u:=.slice (some ⟨gx,0,none⟩) j j) (t:=22));have Z:=aF wr (.cells #[.slice (some ⟨gx,0,none⟩) j j] 22);have Cb:=zh (Au.below Z zr);have As:=zh (fM (w:=wr) (B:=C.heap.size) (by omega) (.cells #[.slice (some ⟨gx,0,none⟩) j j] 22));have Bn:=zh (o.belowS Z);have Bt:=zh (Ap.on Z);obtain⟨Aa,Ab,κ,μ⟩:=o.two;clear Z Aj o Ap Au Ai Ac Ao D;go_wp2_with (at_builtin;refine jM rfl _ _ rfl C.heap.size (fun g=>g<C.heap.size) _ (xI rows set k) rfl s wr.heap.size 1 _ (nB row set) rfl Bo Cb (fun _ g hg=>by have V:gx=g:=aZ0 hg;exact⟨fun e=>by have Ax:=Am.out g e;omega,by show ¬g<C.heap.size;omega⟩) (by rw[kH];omega) As ?_;(intro Dw Bk R c Cr);rw[<-Bs.out] at R;obtain⟨l,ι,rfl⟩:=R.form;rw[kH] at R|-;have Bb:∀b,b<C.heap.size->some b≠(Value.slice H k J).ownBlock:=(fun b hb e=>by have Ax:=(s.lt e.symm).1;omega);have Ad:=zh (Bn.grown c (Bb _ (by omega)));have Bu:=zh (Bt.grN c (fun b hb=>by have Ax:=(s.lt hb).1;omega));have Cm:=c.size;have Al:=zh R;clear R c Cr Bb Aa Ab κ μ;obtain⟨Aa,Ab,κ,μ⟩:=Ad.two)
             have Co:C.heap.size<=Bk.heap.size:=aZ6 As.out Cm;have φ:=bF Bk W 1 (.slice l (k+1) ι);refine⟨⟨k+1,l,ι,by omega,by push_cast;rfl,Al.grown φ (fun g e=>?_),Ad.set_ 1 (.slice l (k+1) ι),FMQ.gr Bu φ (by omega),aZ6 Co φ.size⟩,by simp only[intOf];omega⟩;cases e;exact⟨fun e=>by have:=Al.lt e;omega,Cj.2⟩
       . obtain rfl:k=r:=by omega
         rw[Ah.out] at O;obtain⟨Aa,Ab,κ,μ⟩:=K.two;obtain⟨Dy,Dz,Cz,Da⟩:=A.q.two;have Bz:=zh (O.sep (fun g hg=>hg) (by rw[dX,<-ζ.out];omega));go_wp2_with fail;obtain⟨Dx,X,S⟩:=oD (x:=.int .i64 (m:Int)) (y:=.slice H k J) A.q;rw[X];have Cu:=S.c0;have Cv:=S.c1;refine bodyPost_ret (v:=.tuple #[.agg #[.int .i64 (m:Int),.slice H k J],.int .i64 0]) (by simp[results,Tryz.results57,go_sem,Cu,Cv]) rfl ?_;exact⟨_,rfl,(Bz.grown S.gr (by rintro g e;cases e;omega)).mono (by omega),S.below A.fm.fb.bel A.fm.fb.bel.size (by omega)⟩
theorem R3(w:World)(a:Nat)(P M:Int)(n:Nat)(Mod x:LI)(δ y:Value)(rows:LL)(S:GF w a P M Mod)(v:SI w δ x)(V:SS w y rows)(hR:Rows (aC P M) n rows)(G:x.length=rows.length)(hn:n<=100000):
  Calls Tryz.prog 158 #[.pointer (some ⟨a,0,none⟩),δ,y,.int .i64 (n:Int)] w (pX w (gP (aB P M Mod) x rows n)):=by
 have θ:=zh S;have N:=zh v;have L:=zh V;have μ:=zh hR;have π:=zh G;have s:=S.fld;have ι:=zh (eW s.1 Mod);have Ae:=aK P M;have I:Hid (gP (aB P M Mod) x rows n=eG (aB P M Mod) x rows n x.length):=by show _=_;unfold gP;rw[G,Nat.min_self]
 have φ:=V.len';obtain⟨ω,Am,rfl,_⟩:=v;obtain⟨ψ,Ag,rfl,_⟩:=V;clear S hR s;rw[G] at N I|-;clear G;obtain⟨r,U⟩:∃r,r=rows.length:=⟨_,rfl⟩
 rw[<-U] at N L I φ|-;have D:=zh U;clear U;have σ:=fun(w:World)=>dV n (by omega) w;go_enter Tryz.func158,Tryz.ntmps158;go_upto_region 2 with fail;obtain⟨w1,g,d,f,o,hb⟩:=vZ w n;rw[d,f];have Y:Hid (OI w.heap.size w1 (.slice (some ⟨g,0,none⟩) n n) (eG (aB P M Mod) x rows n 0)):=aD (by have h:=o.oi (B:=w.heap.size) (by omega) (by simp;omega);rw[List.length_replicate] at h;exact h)
 have X:=zh hb;have hg:w.heap.size<=g:=by omega
 clear d f o hb σ;go_wp2_with fail;go_loopw [16] (fun i wr=>∃k:Nat,k<=r/\i=.int .i64 (k:Int)/\Hid (OI w.heap.size wr (.slice (some ⟨g,0,none⟩) n n) (eG (aB P M Mod) x rows n k))/\Hid (Below w.heap.size w wr)) (fun i _=>r-(intOf i).toNat)
 case atStart=>exact⟨0,aZ5 _,rfl,Y,X⟩
 case round=>
  clear Y X;obtain⟨k,Ad,rfl,C,A⟩:=hrel;by_cases E:k<r
  .obtain⟨Aa,z,rfl,Ac,_,O⟩:=(N.below A zr).elt (k:=k) (by rw[π.out,<-D.out];exact E);by_cases H:z=0
   .subst H;have J:Hid (eG (aB P M Mod) x rows n (k+1)=eG (aB P M Mod) x rows n k):=by show _=_;rw[eG,if_neg (by rw[O.out];simp)]
    go_wp2_with fail;exact⟨⟨k+1,by omega,by push_cast;rfl,by rw[J.out];exact C,A⟩,by simp only[intOf];omega⟩
   .have Af:(z !=0)=true:=by simpa using H
    obtain⟨Ah,W,c,row,rfl,p,ξ,K⟩:=(L.below A zr).eltA (k:=k) (by rw[<-D.out];exact E);have F:row.length=n:=by rw[<-K.out];exact(μ k (by rw[<-D.out];exact E)).1
    have J:Hid (eG (aB P M Mod) x rows n (k+1)=cH (aB P M Mod) (eG (aB P M Mod) x rows n k) z row):=by show _=_;rw[eG,if_pos (by rw[O.out];exact H),O.out,K.out]
    have ν:Hid (0<n->∀b,(Value.slice W n c).ownBlock=some b->b<w.heap.size):=aD (fun R b hb=>by
     obtain⟨Ai,χ,Ab,Aj,Q,ρ,u,τ⟩:=L.eltA (k:=k) (by rw[<-D.out];exact E);injection Q with Q;subst Q;have q:=aE A.out ρ;rw[p] at q;have l:=aZ0 q;rw[<-τ.out,K.out] at l u;injection l with h5 h6 h7
     subst h5;subst h7;have m:=u.out.si;rw[F] at m;exact m.lt (by rw[F];exact R) hb)
    have Z:=zh ξ.si;rw[F] at Z p;have ζ:Hid ((eG (aB P M Mod) x rows n k).length=n):=aD (fX _ _ _ _ _);have η:Hid (∀j,I64 ((eG (aB P M Mod) x rows n k).getD j 0)):=aD (fun j=>by have h:=jR ι x rows n k j;exact I64.of_small (by omega) (by omega));clear H;go_wp2_with fail;refine(GC w wr w.heap.size a g n n 0 P M z Mod _ row W c θ A zr C ζ Z F (fun R b hb e=>by have:=ν.out R b hb;omega) hn η).mono ?_;rintro e Al ⟨rfl,T,t⟩;rw[<-J.out] at T;have κ:=zh T;have ε:=zh (A.grown t A.size (fun b e=>by cases e;exact hg));clear T t;go_wp2_with fail;exact⟨⟨k+1,by omega,by push_cast;rfl,κ,ε⟩,by simp only[intOf];omega⟩
  .obtain rfl:k=r:=by omega
   rw[<-I.out] at C;go_wp2_with fail;go_ret;exact⟨_,rfl,C.out,A.out⟩
theorem NU(w:World)(P M c1 c2:Int)(mv b sv:Value)(G:Nat)(Mod:LI)(A B:LL)(hm:SI w mv Mod)(Z:SS w b A)(Y:SS w sv B)(hA:dK P M Mod c1 A=0)(hB:dK P M Mod c2 B=0)
  (U:w.cell? ⟨G,0,none⟩=some (.int .i64 c1))(V:w.cell? ⟨G,1,none⟩=some b)(W:w.cell? ⟨G,2,none⟩=some (.int .i64 c2))(X:w.cell? ⟨G,3,none⟩=some sv):
  Calls Tryz.prog 111 #[.agg #[.int .i64 P,.int .i64 M,mv],.slice (some ⟨G,0,none⟩) 2 2] w (fun e w2=>∃a,e=.returned (.tuple #[.pointer (some ⟨a,0,none⟩),.int .i64 0])/\GF w2 a P M Mod/\Below w.heap.size w w2):=by
 have m:=zh hm;have R:=zh Z;have Q:=zh Y;have O:=(dE hA).1;have c:Hid (pY (aC P M) c1 A=0):=aD (by rw[<-uT O];exact hA);have d:Hid (pY (aC P M) c2 B=0):=aD (by rw[<-uT O];exact hB);obtain⟨n,s,rfl,_⟩:=R.out;obtain⟨o,t,rfl,_⟩:=Q.out;have F:=zh (cV.mk' w P M mv);have g:=zh U;have h:=zh V;have j:=zh W;have l:=zh X;clear hm Z Y hA hB U V W X;go_enter Tryz.func111,Tryz.ntmps111;go_wp2_with fail;generalize hw0:w.alloc (.cells #[.int .i64 P,.int .i64 M,mv] 24)=w0 at*;have c0:=F.c0;have p:=F.c1;have q:=F.c2;go_wp2_with fail;refine(mK _ P M mv Mod (m.below F.bel zr) O).mono ?_;rintro e w1 ⟨a,rfl,T,S⟩;have K:=zh T.out;have f:=zh (aA F.bel S);clear S T c0 p q;go_wp2_with fail;go_loopw [20] (fun i wr=>∃k:Nat,k<=2/\i=.int .i64 (k:Int)/\Hid (Below w1.heap.size w1 wr)) (fun i _=>(2-intOf i).toNat)
 case atStart=>exact⟨0,by omega,rfl,bE _⟩
 case round=>
  obtain⟨k,r,rfl,E⟩:=hrel;have C:=aA f.out E.out
  match k,r with
  |0,_=>have L:=aE C g.out;have N:=aE C h.out;have D:=zh (aF wr (.cells #[.int .i64 c1,.slice n A.length s] 86));have J:=zh C;clear C;go_wp2_with fail;refine(tE _ a P M c1 Mod _ A ((K.on E).on D) ((R.below J zr).below D zr)).mono ?_;rintro e u ⟨rfl,H⟩;rw[c.out];have I:=zh (aA E (aA D H));clear H L N;go_wp2_with fail;exact⟨⟨1,by omega,rfl,I⟩,by simp only[intOf];omega⟩
  |1,_=>have L:=aE C j.out;have N:=aE C l.out;have D:=zh (aF wr (.cells #[.int .i64 c2,.slice o B.length t] 86));have J:=zh C;clear C;go_wp2_with fail;refine(tE _ a P M c2 Mod _ B ((K.on E).on D) ((Q.below J zr).below D zr)).mono ?_;rintro e u ⟨rfl,H⟩;rw[d.out];have I:=zh (aA E (aA D H));clear H L N;go_wp2_with fail;exact⟨⟨2,by omega,rfl,I⟩,by simp only[intOf];omega⟩
  |2,_=>go_wp2_with fail;go_ret2;exact⟨a,rfl,K.on E,C⟩
def xL(O:aO)(C rows:LL)(n:Nat):Nat->LL
 |0=>[]
 |k+1=>xL O C rows n k++[gP O (C.getD k []) rows n]
theorem kS(O:aO)(C rows:LL)(n:Nat):∀k,(xL O C rows n k).length=k
 |0=>rfl
 |k+1=>by rw[xL,aZ1,kS O C rows n k];rfl
theorem CS(O:aO)(C rows:LL)(n:Nat):∀k j,j<k->(xL O C rows n k).getD j []=gP O (C.getD j []) rows n
 |0,j,h=>by omega
 |k+1,j,h=>by
  rw[xL];by_cases e:j<k
  .rw[sM (by rw[kS];exact e),CS O C rows n k j e]
  .obtain rfl:j=k:=by omega
   rw[qN (by rw[kS];exact Nat.le_refl _),kS,Nat.sub_self];rfl
theorem NW(O:aO)(C rows:LL)(n:Nat):xL O C rows n C.length=mmL O C rows n:=
 kL (by rw[kS,mX]) fun j A=>by rw[kS] at A;rw[CS O C rows n _ j A];unfold mmL;rw[lR _ _ _ A]
theorem FPP.grN{w w1 w2:World}{P M A B:Int}{mv C D:Value}(h:FPP w w1 P M mv A C B D){row:Option Nat}(hg:w1.grownBy w2 row)(hn:∀g,row=some g->w.heap.size+1+1<g):FPP w w2 P M mv A C B D:=
 ⟨⟨h.fb.blk.grown hg (fun e=>by have:=hn _ e.symm;omega),h.fb.bel.grown hg h.fb.bel.size (fun k e=>by have:=hn _ e;omega)⟩,h.m1.grown hg (fun e=>by have:=hn _ e.symm;omega),h.m2.grown hg (fun e=>by have:=hn _ e.symm;omega)⟩
theorem LF(w:World)(P M:Int)(n r:Nat)(mv Au Be:Value)(Mod:LI)(C rows:LL)(hm:SI w mv Mod)(Az:SS w Au C)(Bd:SS w Be rows)(hC:dK P M Mod r C=0)(hA:dK P M Mod n rows=0)(ω:rows.length=r):
  Calls Tryz.prog 94 #[.agg #[.int .i64 P,.int .i64 M,mv],.agg #[.int .i64 (r:Int),Au],.agg #[.int .i64 (n:Int),Be]] w (mR w n (mmL (aB P M Mod) C rows n)):=by
 have Bq:=zh hm;have ζ:=zh Az;have κ:=zh Bd;have Bk:=zh hC;have Bj:=zh hA;obtain⟨Ba,_,hn,_,hR⟩:=dE hA;obtain⟨_,_,_,Ci,τ⟩:=dE hC;rw[aZ8] at hR τ;have Bt:=zh hR;have Bn:=zh τ;have Bp:=zh (eW Ba.1 Mod);have Cw:=aK P M;have Aj:Hid (xL (aB P M Mod) C rows n C.length=mmL (aB P M Mod) C rows n):=NW _ _ _ _;have Bu:=zh ω;obtain⟨Q,T,rfl,_⟩:=Az;obtain⟨I,L,rfl,_⟩:=Bd;clear hm hC hA Ba hR τ;rw[ω] at κ|-;clear ω;obtain⟨m,χ⟩:∃m,m=C.length:=⟨_,rfl⟩
 rw[<-χ] at ζ Aj Ci|-;have η:=zh χ;clear χ;obtain⟨w1,J,hq,Ck⟩:=FPP.mk' w P M mv r (.slice Q m T) n (.slice I r L);have A:=zh hq;have Ai:=zh J;clear hq J;go_enter Tryz.func94,Tryz.ntmps94;go_upto_region 1 with fail;rw[Ai.out];clear Ai;have O:=zh (Blk.new w1 86 [.int .i64 0,.slice none 0 0]);have Ax:=aF w1 (.cells #[.int .i64 0,.slice none 0 0] 86);have Bc:=World.size_alloc w1 (.cells #[.int .i64 0,.slice none 0 0] 86);have D:=zh (A.on Ax);generalize w1.alloc (.cells #[.int .i64 0,.slice none 0 0] 86)=w2 at*;rw[Ck] at O Bc;clear Ax A;have c0:=D.fb.c0;have c1:=D.fb.c1;have c2:=D.fb.c2;have ξ:=D.m1.cell 0;have π:=D.m1.cell 1;have W:=D.m2.cell 0;have m1:=D.m2.cell 1;have An:Hid (∀w',w2.alloc (.cells #[.int .i64 (r:Int),.slice Q m T,.int .i64 (n:Int),.slice I r L] 86)=w'->Calls Tryz.prog 111 #[.agg #[.int .i64 P,.int .i64 M,mv],.slice (some ⟨w.heap.size+1+1+1+1,0,none⟩) 2 2] w' (fun e N=>∃a,e=.returned (.tuple #[.pointer (some ⟨a,0,none⟩),.int .i64 0])/\GF N a P M Mod/\Below w2.heap.size w2 N)):=aD fun w' e=>by have hb:=aF w2 (.cells #[.int .i64 (r:Int),.slice Q m T,.int .i64 (n:Int),.slice I r L] 86);have hB:=Blk.new w2 86 [.int .i64 (r:Int),.slice Q m T,.int .i64 (n:Int),.slice I r L];rw[e] at hb;have Z:Blk w' w2.heap.size 86 [.int .i64 (r:Int),.slice Q m T,.int .i64 (n:Int),.slice I r L]:=e▸hB;rw[Bc] at Z;have φ:=aA D.fb.bel hb;refine(NU w' P M r n mv _ _ _ Mod C rows (Bq.below φ zr) (ζ.below φ zr) (κ.below φ zr) Bk Bj (Z.cell 0) (Z.cell 1) (Z.cell 2) (Z.cell 3)).mono ?_;rintro e N ⟨a,rfl,hg,U⟩;exact⟨a,rfl,hg,aA hb U⟩
 go_wp2_with fail;refine(An _ rfl).mono ?_;rintro e N ⟨a,rfl,hg,U⟩;have Bo:=zh hg;have X:=zh (D.on U);have Ad:=zh (O.belowS U);have Cz:=U.size;clear hg U c0 c1 c2 ξ π W m1 An O D;have ξ:=X.m1.cell 0;have W:=X.m2.cell 0;have m1:=X.m2.cell 1;have Cy:(((r:Nat):Int) !=(r:Int))=false:=by simp
 go_upto_region 7 with fail;obtain⟨H,g4,J,Y,σ,c⟩:=bB N 86 [.int .i64 (n:Int),.slice none 0 0];rw[J,Y];have θ:=zh (X.on c);have Ae:=zh (Ad.belowS c);have Ag:=zh c;have R:=zh σ;have Da:=c.size;have Cj:N.heap.size<=g4/\g4<H.heap.size:=⟨by omega,σ.lt⟩
 clear J Y σ c ξ W m1 X Ad;have π:=θ.m1.cell 1;go_wp2_with fail;clear π;go_loopw [38] (fun i wr=>∃(k:Nat) (F:Option Addr) (G:Nat),k<=m/\i=.int .i64 (k:Int)/\Hid (OS H.heap.size (fun g=>g<H.heap.size) wr (.slice F k G) (xL (aB P M Mod) C rows n k))/\Hid (Blk wr g4 86 [.int .i64 (n:Int),.slice F k G])/\Hid (FPP w wr P M mv r (.slice Q m T) n (.slice I r L))/\Hid (Blk wr (w.heap.size+1+1+1) 86 [.int .i64 0,.slice none 0 0])/\Hid (Below N.heap.size N wr)/\H.heap.size<=wr.heap.size) (fun i _=>m-(intOf i).toNat)
 case atStart=>exact⟨0,none,0,aZ5 _,rfl,OS.nil _ _ _,R,θ,Ae,Ag,Nat.le_refl _⟩
 case round=>
  clear R θ Ae Ag;obtain⟨k,F,G,Cv,rfl,q,R,A,O,ε,Dd⟩:=hrel;by_cases Bb:k<m
  .obtain⟨Cs,Bh,Cb,x,rfl,Ch,Ao,Ap⟩:=(ζ.below A.fb.bel zr).eltA (k:=k) (by rw[<-η.out];exact Bb);have Aa:x.length=r:=by rw[<-Ap.out];exact(Bn k (by rw[<-η.out];exact Bb)).1
   have Br:Hid (xL (aB P M Mod) C rows n (k+1)=xL (aB P M Mod) C rows n k++[gP (aB P M Mod) x rows n]):=by show _=_;rw[xL,Ap.out]
   have Aq:=zh Ao.si;rw[Aa] at Aq Ch;have Ca:=zh Aa;clear Aa Ao;have By:=zh (fun(w':World) (hb:Below wr.heap.size wr w')=>R3 w' a P M n Mod x (.slice Bh r Cb) (.slice I r L) rows ((Bo.on ε).on hb) (Aq.below hb zr) ((κ.below A.fb.bel zr).below hb zr) Bt (by rw[Ca.out,Bu.out]) (by omega));have Bm:Hid ((gP (aB P M Mod) x rows n).length=n):=aD (fX _ _ _ _ _);have Bl:Hid (∀j,I64 ((gP (aB P M Mod) x rows n).getD j 0)):=aD (fun j=>by have h:=jR Bp x rows n (min rows.length x.length) j;unfold gP;exact I64.of_small (by omega) (by omega));generalize gP (aB P M Mod) x rows n=y at*;have s:Hid (∀g,(Value.slice F k G).ownBlock=some g->H.heap.size<=g/\g<wr.heap.size):=aD fun g hg=>q.lt hg;have W:=A.m2.cell 0;have m1:=A.m2.cell 1;have Ac:wr.cell? ⟨g4,1,none⟩=some (.slice F k G):=R.cell 1;have Ar:=zh W;have As:=zh m1;have At:=zh Ac;go_wp2_with fail;refine aM.start (S:=fun w'=>w'.cell? ⟨g4,1,none⟩=some (.slice F k G)/\w'.cell? ⟨w.heap.size+1+1,0,none⟩=some (.int .i64 (n:Int))/\w'.cell? ⟨w.heap.size+1+1,1,none⟩=some (.slice I r L)) (by kernel_rfl) (⟨Ac,W,m1⟩) (fun t=>?_);change aM _ _ _ _ 13 _ _ _;refine dq 0 ?_;refine dq 1 ?_;refine dq 2 ?_;refine dq 3 ?_;refine dq 4 ?_;refine dq 5 ?_;refine dq 6 ?_;refine dq 7 ?_;try simp only[tz]
   refine aM.only (i:=8) (by kernel_rfl) rfl (fun K hK=>?_);go_simp;refine(By _ (aH wr)).mono ?_;rintro e Cp ⟨u,rfl,z,Ay⟩;obtain⟨μ,Ab,rfl⟩:=z.form';have l:=zh (aA (aH wr) Ay);have Al:Hid (∀g,(Value.slice μ y.length Ab).ownBlock=some g->wr.heap.size<=g):=aD (fun g hg=>(z.lt hg).1);have Bw:=zh (z.si (by rw[Bm.out];omega) Bl);clear z Ay;refine hK.out _ _ (fun _=>⟨aE l At,aE l Ar,aE l As⟩) (fun E=>?_);clear hK K;replace t:=E (by decide);clear E;try simp only[tz]
   refine aM.only (i:=9) (o:=?op1) (by kernel_rfl) ?ho1 (fun K hK=>?_)
   case ho1=>(conv=>lhs;simp only[tdg,tdh,tdi])
   go_simp;obtain⟨Bf,Av,J,Y,Aw,hb⟩:=bB Cp 22 [.slice μ y.length Ab];rw[J,Y];have B:=zh (aA l hb);have Bx:=zh (Bw.below hb zr);have Bs:=zh (q.below B);have Bz:Hid (Bf.cell? ⟨Av,0,none⟩=some (.slice μ y.length Ab)):=aD (Aw.cell 0);have Db:=B.size;clear J Y Aw hb;refine hK.out _ _ (fun _=>⟨aE B At,aE B Ar,aE B As⟩) (fun E=>?_);clear hK K;replace t:=E (by decide);clear E;try simp only[tz]
   refine aM.only (i:=10) (o:=?op2) (by kernel_rfl) ?ho2 (fun K hK=>?_)
   case ho2=>(conv=>lhs;simp only[tdg,tdh,tdi])
   refine AO rfl _ _ rfl H.heap.size (fun g=>g<H.heap.size) _ (xL (aB P M Mod) C rows n k) rfl Bs.out Av 1 _ y rfl Bz.out Bx.out (fun _ g hg=>⟨fun e=>by have Ce:=Al.out g hg;have ρ:=s.out g e;omega,by have Ce:=Al.out g hg;show ¬g<H.heap.size;omega⟩) (by rw[kS];omega) (by omega) ?_;intro De Cq f V Cl;rw[<-Br.out] at f;obtain⟨δ,ν,rfl⟩:=f.form;rw[kS] at f|-;have ψ:∀b,b<H.heap.size->some b≠(Value.slice F k G).ownBlock:=(fun b hb e=>by have ρ:=s.out b e.symm;omega);have Af:=zh ((R.belowS B).grown V (ψ _ (by omega)));have Bi:=zh ((O.belowS B).grown V (ψ _ (by omega)));have ι:=zh ((A.on B).grN V (fun b hb=>by have ρ:=s.out b hb;omega));have Ah:=zh ((aA ε B).grown V (aA ε B).size (fun b hb=>by have ρ:=s.out b hb;omega));have Dc:=V.size;have Am:=zh f;clear f V Cl ψ;obtain⟨Cr,Bg,Cc,Cd⟩:=Af.two;refine hK.out _ _ (fun _=>⟨Bg,ι.m2.cell 0,ι.m2.cell 1⟩) (fun E=>?_);clear hK K;replace t:=E (by decide);clear E;try simp only[tz]
   refine dq 11 ?_;try simp only[tz]
   refine aM.only (i:=12) (by kernel_rfl) rfl (fun K hK=>?_);go_simp;refine hK.out _ _ (fun h=>absurd rfl h) (fun E=>?_);clear hK K;clear E;refine aM.done (by kernel_rfl) ?_;try simp only[tz]
   clear t;go_wp2_with fail;have d:=bF Cq g4 1 (.slice δ (k+1) ν);refine⟨⟨k+1,δ,ν,by omega,by push_cast;rfl,Am.grown d (fun g e=>?_),Af.set_ 1 (.slice δ (k+1) ν),FPP.gr ι d (by omega),Bi.grown d (by intro e;have:=aZ0 e;omega),Ah.grown d Ah.size (fun b e=>by cases e;omega),by have:=d.size;omega⟩,by simp only[intOf];omega⟩;cases e;exact⟨fun e=>by have:=Am.lt e;omega,Cj.2⟩
  .obtain rfl:k=m:=by omega
   rw[Aj.out] at q;obtain⟨Df,Ac,Cc,Cd⟩:=R.two;obtain⟨Cr,Bg,Ct,Cu⟩:=O.two;have Bv:=zh (q.sep (fun g hg=>hg) (by rw[mX,<-η.out];omega));go_wp2_with fail;obtain⟨Bf,Cf,p⟩:=oD (x:=.int .i64 (n:Int)) (y:=.slice F k G) O.out;rw[Cf];have Cm:=p.c0;have Co:=p.c1;refine bodyPost_ret (v:=.tuple #[.agg #[.int .i64 (n:Int),.slice F k G],.int .i64 0]) (by simp[results,Tryz.results94,go_sem,Cm,Co]) rfl ?_;have Cx:=A.fb.bel.size;exact⟨_,rfl,(Bv.grown p.gr (by rintro g e;cases e;omega)).mono (by omega),p.below A.fb.bel A.fb.bel.size (by omega)⟩
end Go.Proofs.YtpfhoemohibniaaGreatDoor
