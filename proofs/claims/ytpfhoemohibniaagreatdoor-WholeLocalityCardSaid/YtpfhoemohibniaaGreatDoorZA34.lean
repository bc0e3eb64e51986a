/- Texts of a claim, merged. -/
import Derived.Test.YtpfhoemohibniaaGreatDoorZA31
set_option maxRecDepth 100000
set_option maxHeartbeats 32000000
namespace Go.Proofs.YtpfhoemohibniaaGreatDoor
open Go.RowKit
def pR(rows:LL)(n:Nat):Nat->LL
 |0=>List.replicate n []
 |j+1=>(pR rows n j).set j (aQ rows.length fun i=>ent rows i j)
theorem rD(rows:LL)(n:Nat):∀j,(pR rows n j).length=n
 |0=>by simp[pR]
 |j+1=>by rw[pR,aZ9,rD rows n j]
theorem DJ(rows:LL)(n:Nat):∀k j,j<k->j<n->(pR rows n k).getD j []=aQ rows.length fun i=>ent rows i j
 |0,j,h,_=>by omega
 |k+1,j,h,hj=>by
  rw[pR,cE,rD];by_cases e:k=j
  .subst e;rw[if_pos ⟨rfl,hj⟩]
  .rw[if_neg (fun h=>e h.1)];exact DJ rows n k j (by omega) hj
theorem PG(rows:LL)(n:Nat):pR rows n n=gU rows n:=
 kL (by rw[rD,iD]) fun j A=>by rw[rD] at A;rw[DJ rows n n j A A,rE rows A]
theorem VG(w:World)(n:Nat):∃w' g,(w.alloc (.cells (madeCells #[.int .i64 0] n) 3)).drew=w'/\w.heap.size=g/\RI w' g (List.replicate n 0)/\Below w.heap.size w w':=
 ⟨_,_,rfl,rfl,RI.made w n,aA (aF w _) (aH _)⟩
theorem zP(w:World)(n:Nat)(h:n<=1000000):∃w' g,w.alloc (.cells (madeCells #[.slice none 0 0] n) 22)=w'/\w.heap.size=g/\OM w.heap.size (fun g=>g<w.heap.size) w' (.slice (some ⟨g,0,none⟩) n n) (List.replicate n [])/\Below w.heap.size w w':=
 ⟨_,_,rfl,rfl,OM.made w n zr h,aF w _⟩
theorem NQ(w:World)(P M:Int)(n:Nat)(mv Aw:Value)(Mod:LI)(rows:LL)(hm:SI w mv Mod)(Au:SS w Aw rows)(Ac:dK P M Mod n rows=0):
  Calls Tryz.prog 92 #[.agg #[.int .i64 P,.int .i64 M,mv],.agg #[.int .i64 (n:Int),Aw]] w (mR w rows.length (gU rows n)):=by
 have Be:=zh hm;have τ:=zh Au;have Az:=zh Ac;obtain⟨Bm,_,hn,Bo,hR⟩:=dE Ac;rw[aZ8] at hR;have An:=zh hR;have Ct:=aK P M;have Bc:Hid (pR rows n n=gU rows n):=PG rows n;obtain⟨s,ζ,rfl,_⟩:=Au;clear hm Ac Bm hR;obtain⟨r,ξ⟩:∃r,r=rows.length:=⟨_,rfl⟩
 have Bj:Hid (∀j,pR rows n (j+1)=(pR rows n j).set j (aQ r fun i=>ent rows i j)):=aD fun j=>by rw[pR,ξ]
 rw[<-ξ] at τ Bo|-;have ι:=zh ξ;clear ξ;have Cs:=fun(w:World)=>xZ n (by omega) w;have Cr:=fun(w:World)=>dV r (by omega) w;obtain⟨w1,F,hq,Bp⟩:=FMQ.mk' w P M mv n (.slice s r ζ);have D:=zh hq;have Ai:=zh F;clear hq F;go_enter Tryz.func92,Tryz.ntmps92;go_upto_region 1 with fail;rw[Ai.out];clear Ai;have c0:=D.fm.fb.c0;have c1:=D.fm.fb.c1;have c2:=D.fm.fb.c2;have d0:=D.fm.d0;have d1:=D.fm.d1;go_wp2_with fail;refine(oF w w1 P M n _ mv _ Mod rows D.fm.fb.bel Bp Be τ Az).mono ?_;rintro e w2 ⟨a,rfl,hg,ω⟩;have θ:=zh (D.on ω);have Cx:=ω.size;clear hg ω c0 c1 c2 d0 d1 D;have d0:=θ.fm.d0;have d1:=θ.fm.d1;go_upto_region 4 with fail;have U:=zh d0;have L:=zh d1;go_cut [8] from 23 to 29 (fun Bu wc=>∃C gv,Bu=.pointer (some ⟨C,0,none⟩)/\w2.heap.size<=C/\C<wc.heap.size/\Hid (Blk wc C 86 [.int .i64 (r:Int),.slice (some ⟨gv,0,none⟩) n n])/\Hid (OM w2.heap.size (fun g=>g<w2.heap.size\/g=C) wc (.slice (some ⟨gv,0,none⟩) n n) (pR rows n 0))/\Hid (Below w2.heap.size w2 wc))
 case first=>
  refine aG.start (S:=fun w'=>w'.cell? ⟨w.heap.size+1,0,none⟩=some (.int .i64 (n:Int))/\w'.cell? ⟨w.heap.size+1,1,none⟩=some (.slice s r ζ)) (by kernel_rfl) (⟨d0,d1⟩) (fun G=>?_);change aG _ _ _ _ 9 _ _ _;have Ab:=aH w2;generalize w2.drew=Ax at Ab G|-;have A:=zh Ab;clear d0 d1;clear Ab;refine tq 0 ?_;refine tq 1 ?_;refine tq 2 ?_;refine tq 3 ?_;refine tq 4 ?_;try simp only[tz]
  refine aG.two (i:=5) (j:=7) (oi:=?opa2) (oj:=?opb2) (by kernel_rfl) ?hoa2 ?hob2 (fun K hK=>?way12) (fun K hK=>?way22)
  case hoa2=>(conv=>lhs;simp only[tdg,tdh,tdi])
  case hob2=>(conv=>lhs;simp only[tdg,tdh,tdi])
  case way12=>
   go_simp;obtain⟨Bx,gv,F,X,I,hb⟩:=zP Ax n (by omega);rw[F,X];have Aa:=A.size;have E:=zh (I.mono Aa);replace A:=zh (aA A hb);clear F I hb;refine hK.out _ _ (⟨cb A U,cb A L⟩) ?_;clear hK K G;intro G;try simp only[tz]
   refine tq 6 ?_;try simp only[tz]
   refine aG.only (i:=7) (o:=?op4) (by kernel_rfl) ?ho4 (fun K hK=>?_)
   case ho4=>(conv=>lhs;simp only[tdg,tdh,tdi])
   go_simp;obtain⟨By,C,F,ψ,I,hb⟩:=bB Bx 86 [.int .i64 0,.slice none 0 0];rw[F,ψ];have N:=zh I;have ε:w2.heap.size<=C:=(by have:=A.size;omega)
   have ρ:Hid (OM w2.heap.size (fun g=>g<w2.heap.size\/g=C) By (.slice (some ⟨gv,0,none⟩) n n) (pR rows n 0)):=aD ((E.names (Y:=fun g=>g<w2.heap.size\/g=C) (fun g Bn hg=>by have:=A.size;rcases hg with hg|hg<;>(show g<_;omega))).below hb);replace A:=zh (aA A hb);clear F I hb;refine hK.out _ _ (⟨cb A U,cb A L⟩) ?_;clear hK K G;intro G;try simp only[tz]
   refine aG.only (i:=8) (o:=?op6) (by kernel_rfl) ?ho6 (fun K hK=>?_)
   case ho6=>(conv=>lhs;simp only[tdg,tdh,tdi])
   obtain⟨χ,J,l,t⟩:=N.two;go_simp;obtain⟨Dc,Z,H⟩:=oD (x:=.int .i64 (r:Int)) (y:=.slice (some ⟨gv,0,none⟩) n n) N.out;rw[Z];have W:=zh (ρ.grown H.gr (by rintro b e;cases e;exact .inr rfl));have Q:=zh H.blk;replace A:=zh (H.below A A.size ε);clear χ J l t Z H N;refine hK.out _ _ (⟨cb A U,cb A L⟩) (fun O=>?_);clear hK K;clear O G;refine aG.done (by kernel_rfl) ?_;try simp only[tz]
   go_wp2_with fail;go_meet;exact⟨C,gv,rfl,ε,Q.lt,Q,W,A⟩
  case way22=>
   go_simp;obtain⟨Bz,C,F,ψ,I,hb⟩:=bB Ax 86 [.int .i64 0,.slice none 0 0];rw[F,ψ];have N:=zh I;have ε:w2.heap.size<=C:=(by have:=A.size;omega)
   replace A:=zh (aA A hb);clear F I hb;refine hK.out _ _ (⟨cb A U,cb A L⟩) ?_;clear hK K G;intro G;try simp only[tz]
   refine aG.only (i:=5) (o:=?op9) (by kernel_rfl) ?ho9 (fun K hK=>?_)
   case ho9=>(conv=>lhs;simp only[tdg,tdh,tdi])
   go_simp;obtain⟨Bw,gv,F,X,I,hb⟩:=zP Bz n (by omega);rw[F,X];have Aa:=A.size;have ρ:Hid (OM w2.heap.size (fun g=>g<w2.heap.size\/g=C) Bw (.slice (some ⟨gv,0,none⟩) n n) (pR rows n 0)):=aD ((I.mono Aa).names (fun g _ hg=>by have Bn:=N.lt;rcases hg with hg|hg<;>(show g<_;omega)));replace N:=zh (N.belowS hb);replace A:=zh (aA A hb);clear F I hb;refine hK.out _ _ (⟨cb A U,cb A L⟩) ?_;clear hK K G;intro G;try simp only[tz]
   refine tq 6 ?_;try simp only[tz]
   refine aG.only (i:=8) (o:=?op11) (by kernel_rfl) ?ho11 (fun K hK=>?_)
   case ho11=>(conv=>lhs;simp only[tdg,tdh,tdi])
   obtain⟨χ,J,l,t⟩:=N.two;go_simp;obtain⟨Db,Z,H⟩:=oD (x:=.int .i64 (r:Int)) (y:=.slice (some ⟨gv,0,none⟩) n n) N.out;rw[Z];have W:=zh (ρ.grown H.gr (by rintro b e;cases e;exact .inr rfl));have Q:=zh H.blk;replace A:=zh (H.below A A.size ε);clear χ J l t Z H N;refine hK.out _ _ (⟨cb A U,cb A L⟩) (fun O=>?_);clear hK K;clear O G;refine aG.done (by kernel_rfl) ?_;try simp only[tz]
   go_wp2_with fail;go_meet;exact⟨C,gv,rfl,ε,Q.lt,Q,W,A⟩
 case rest=>
  clear d0 d1;obtain⟨C,gv,rfl,Ci,Cj,Q,E,A⟩:=hcut;have Am:=zh (θ.on A);have Cy:=A.size;have Co:=E.lt (g:=gv) rfl;have Cm:gv≠C:=fun e=>E.notX (g:=gv) rfl (.inr e);clear A θ U L;have J:wc.cell? ⟨C,1,none⟩=some (.slice (some ⟨gv,0,none⟩) n n):=Q.cell 1;go_wp2_with fail;clear J;go_loopw [33] (fun i wr=>∃j:Nat,j<=n/\i=.int .i64 (j:Int)/\Hid (OM w2.heap.size (fun g=>g<w2.heap.size\/g=C) wr (.slice (some ⟨gv,0,none⟩) n n) (pR rows n j))/\Hid (Blk wr C 86 [.int .i64 (r:Int),.slice (some ⟨gv,0,none⟩) n n])/\Hid (FMQ w wr P M mv n (.slice s r ζ))/\wc.heap.size<=wr.heap.size) (fun i _=>n-(intOf i).toNat)
  case atStart=>exact⟨0,aZ5 _,rfl,E,Q,Am,Nat.le_refl _⟩
  case round=>
   clear E Q Am;obtain⟨j,Cp,rfl,E,T,D,At⟩:=hrel;by_cases m:j<n
   .have η:Hid ((pR rows n j).length=n):=aD (rD _ _ _);have J:wr.cell? ⟨C,1,none⟩=some (.slice (some ⟨gv,0,none⟩) n n):=T.cell 1;have d1:=D.fm.d1;have Ag:=zh J;have L:=zh d1;go_wp2_with fail;refine aM.start (S:=fun w'=>w'.cell? ⟨C,1,none⟩=some (.slice (some ⟨gv,0,none⟩) n n)/\w'.cell? ⟨w.heap.size+1,1,none⟩=some (.slice s r ζ)) (by kernel_rfl) (⟨J,d1⟩) (fun G=>?_);change aM _ _ _ _ 9 _ _ _;refine dq 0 ?_;refine dq 1 ?_;refine dq 2 ?_;refine dq 3 ?_;refine dq 4 ?_;refine dq 5 ?_;try simp only[tz]
    refine aM.only (i:=6) (o:=?op13) (by kernel_rfl) ?ho13 (fun K hK=>?_)
    case ho13=>(conv=>lhs;simp only[tdg,tdh,tdi])
    go_simp;obtain⟨π,z,F,X,I,hb⟩:=VG wr r;rw[F,X];have V:=zh hb;have φ:=zh I;have W:=zh (E.below V);obtain⟨Bv,δ,_,_⟩:=W.row (k:=j) (by rw[η.out];exact m);have l:=W.frozen j;have Ck:wr.heap.size=z:=X;clear F X I hb;refine hK.out _ _ (fun _=>⟨aE V Ag,aE V L⟩) (fun O=>?_);clear hK K;replace G:=O (by decide);clear O;try simp only[tz]
    refine dq 7 ?_;try simp only[tz]
    refine aM.only (i:=8) (by kernel_rfl) rfl (fun K hK=>?_);go_simp;refine hK.out _ _ (fun h=>absurd rfl h) (fun O=>?_);clear hK K;clear O;refine aM.done (by kernel_rfl) ?_;try simp only[tz]
    clear G;have Al:=zh (E.put V (fun g hg=>by rcases hg with hg|hg<;>omega) (i:=j) (by rw[η.out];exact m) (u:=.slice (some ⟨z,0,none⟩) r r) (ys:=List.replicate r 0) (by have h:=φ.oi (B:=wr.heap.size) (by omega) (by simp;omega);rw[List.length_replicate] at h;exact h));have R:=bF π gv j (.slice (some ⟨z,0,none⟩) r r);have Ah:=zh ((T.belowS V).grown R (by intro e;have:=aZ0 e;omega));have σ:=zh (FMQ.gr (D.on V) R (by omega));have As:wc.heap.size<=(π.setCell ⟨gv,j,none⟩ (.slice (some ⟨z,0,none⟩) r r)).heap.size:=by have Bl:=V.size;have Cf:=R.size;omega
    have Cl:=φ.lt;clear J d1 Ag L δ l E W T D φ R;generalize π.setCell ⟨gv,j,none⟩ (.slice (some ⟨z,0,none⟩) r r)=Da at*;have d1:=σ.fm.d1;go_wp2_with fail;clear d1;obtain⟨f,Ad⟩:∃f:Nat->Int,f=fun i=>ent rows i j:=⟨_,rfl⟩
    have Ap:=zh (Bj j);rw[<-Ad] at Ap;have Ba:=zh Ad;clear Ad;go_loopw [47] (fun i wr=>∃k:Nat,k<=r/\i=.int .i64 (k:Int)/\Hid (OM w2.heap.size (fun g=>g<w2.heap.size\/g=C) wr (.slice (some ⟨gv,0,none⟩) n n) ((pR rows n j).set j (bY r f (fun _=>0) k)))/\Hid (Blk wr C 86 [.int .i64 (r:Int),.slice (some ⟨gv,0,none⟩) n n])/\Hid (FMQ w wr P M mv n (.slice s r ζ))/\wc.heap.size<=wr.heap.size) (fun i _=>r-(intOf i).toNat)
    case atStart=>exact⟨0,aZ5 _,rfl,by rw[dA,gH];exact Al,Ah,σ,As⟩
    case round=>
     clear Al Ah σ As;obtain⟨k,Cq,rfl,E,T,D,At⟩:=hrel;by_cases μ:k<r
     .obtain⟨Cb,Ca,Cc,row,rfl,κ,Bh,Ao⟩:=(τ.below D.fm.fb.bel zr).eltA (k:=k) (by rw[<-ι.out];exact μ);have ν:row.length=n:=by rw[<-Ao.out];exact(An k (by rw[<-ι.out];exact μ)).1
      obtain⟨Bt,y,rfl,Bq,_,Bk⟩:=Bh.elt (k:=j) (by rw[ν];exact m);rw[ν] at κ;have Ae:((pR rows n j).set j (bY r f (fun _=>0) k)).length=n:=by rw[aZ9,η.out]
      obtain⟨Bv,δ,d,Af⟩:=E.row (k:=j) (by rw[Ae];exact m);have Aq:((pR rows n j).set j (bY r f (fun _=>0) k)).getD j []=bY r f (fun _=>0) k:=by rw[cE,if_pos ⟨rfl,by rw[η.out];exact m⟩]
      rw[Aq] at d;obtain⟨p,Bs,rfl,Cu,Cv⟩:=d.form (by rw[cU];omega);rw[cU] at d δ Af;have Ar:=Af p rfl;have Cz:=d.cell k (by rw[cU];exact μ);have t:=d.frozen k;have J:wr.cell? ⟨C,1,none⟩=some (.slice (some ⟨gv,0,none⟩) n n):=T.cell 1;have Aj:=zh (dO (f:=f) (g:=fun _=>0) μ);have Bb:Hid (f k=y):=by show _=_;rw[Ba.out];dsimp only;unfold ent;rw[Ao.out,Bk.out]
      rw[Bb.out] at Aj;have Ay:=zh δ;have Bg:=zh d;have Bd:=zh Ae;have Bf:=zh Ar;have Ch:=zh ν;clear ν Ae Aq d Af Ar;go_wp2_with fail;refine aM.start (S:=fun w'=>w'.cell? ⟨C,1,none⟩=some (.slice (some ⟨gv,0,none⟩) n n)/\w'.cell? ⟨gv,j,none⟩=some (.slice (some ⟨p,0,none⟩) r Bs)/\w'.cell? (Bt.add j)=some (.int .i64 y)) (by kernel_rfl) (⟨J,δ,Bq⟩) (fun G=>?_);change aM _ _ _ _ 12 _ _ _;refine dq 0 ?_;refine dq 1 ?_;refine dq 2 ?_;refine dq 3 ?_;refine dq 4 ?_;refine dq 5 ?_;refine dq 6 ?_;refine dq 7 ?_;refine dq 8 ?_;refine dq 9 ?_;refine dq 10 ?_;try simp only[tz]
      refine aM.only (i:=11) (by kernel_rfl) rfl (fun K hK=>?_);go_simp;refine hK.out _ _ (fun h=>absurd rfl h) (fun O=>?_);clear hK K;clear O;refine aM.done (by kernel_rfl) ?_;try simp only[tz]
      clear G;go_wp2_with fail;have R:=bF wr p k (.int .i64 y);have Av:=E.write (i:=j) (by rw[Bd.out];exact m) Ay.out R (Bg.set k y);rw[List.set_set,Aj.out] at Av;refine⟨⟨k+1,by omega,by push_cast;rfl,aD (Av.below (aH _)),(T.grown R (fun e=>Bf.2 (.inr (aZ0 e).symm))).belowS (aH _),(FMQ.gr D R (by omega)).on (aH _),?_⟩,by simp only[intOf];omega⟩;have Bl:=R.size;show wc.heap.size<=(wr.setCell ⟨p,k,none⟩ (.int .i64 y)).heap.size;omega
     .obtain rfl:k=r:=by omega
      rw[cZ,<-Ap.out] at E;go_wp2_with fail;exact⟨⟨j+1,by omega,by push_cast;rfl,E,T,D,At⟩,by simp only[intOf];omega⟩
   .obtain rfl:j=n:=by omega
    rw[Bc.out] at E;obtain⟨Df,Dg,l,t⟩:=T.two;obtain⟨Dd,De,Cd,Ce⟩:=D.q.two;have Bi:=zh ((E.os (fun c κ=>by
     rw[iD] at κ;rw[rE rows κ,aT,<-ι.out];refine⟨by omega,fun i=>?_⟩;by_cases hi:i<r
     .rw[aS hi];have h:=(An.out i (by rw[<-ι.out];exact hi)).2 c;show I64 ((rows.getD i []).getD c 0);exact I64.of_small (by omega) (by omega)
     .rw[aW (by rw[aT];omega)];exact I64.zero)).ssb (by rw[iD];omega) (fun g hg=>.inl hg))
    go_wp2_with fail;obtain⟨π,Z,H⟩:=oD (x:=.int .i64 (r:Int)) (y:=.slice (some ⟨gv,0,none⟩) j j) D.q;rw[Z];have p:=H.c0;have Br:=H.c1;refine bodyPost_ret (v:=.tuple #[.agg #[.int .i64 (r:Int),.slice (some ⟨gv,0,none⟩) j j],.int .i64 0]) (by simp[results,Tryz.results92,go_sem,p,Br]) rfl ?_;have Cw:=D.fm.fb.bel.size;exact⟨_,rfl,(Bi.grown H.gr (by rintro g e;cases e;show ¬w2.heap.size<=_;omega)).sep (fun g hg=>by omega),H.below D.fm.fb.bel D.fm.fb.bel.size (by omega)⟩
def nN(set:LI):Nat->LI
 |0=>[]
 |c+1=>if(set.any fun x=>x==(c:Int)) then nN set c else nN set c++[(c:Int)]
theorem rX(set:LI):∀n,nN set n=bT set n
 |0=>rfl
 |n+1=>by rw[nN,rX set n];unfold bT;rw[List.range_succ,List.filter_append,List.map_append];cases h:(set.any fun x=>x==(n:Int))<;>simp[h]
theorem vC(set:LI):∀c,(nN set c).length<=c
 |0=>by simp[nN]
 |c+1=>by
  have:=vC set c;rw[nN];split
  .omega
  .rw[aZ1,aZ2];omega
theorem AC(set:LI)(n:Nat):∀k,k<(bT set n).length->0<=(bT set n).getD k 0/\(bT set n).getD k 0<n:=fun k A=>by have:=JP.1 (F1 A);exact⟨this.1,this.2.1⟩
theorem SF(set:LI)(c:Nat):∀k,0<=(nN set c).getD k 0/\(nN set c).getD k 0<=c:=fun k=>by
 rw[rX];by_cases A:k<(bT set c).length
 .have:=AC set c k A;omega
 .rw[aW (by omega)];omega
def YK(set:LI)(n:Nat):Prop:=∀k,k<set.length->0<=set.getD k 0/\set.getD k 0<n/\(0<k->set.getD (k-1) 0<set.getD k 0)
theorem S9(w:World)(P M:Int)(n:Nat)(mv Ae sv:Value)(Mod set:LI)(A:LL)(hm:SI w mv Mod)(ψ:SS w Ae A)(Dg:SI w sv set)(hA:spaceE P M Mod n A=0)(Dh:YK set n):
  Calls Tryz.prog 49 #[.agg #[.int .i64 P,.int .i64 M,mv],.agg #[.int .i64 (n:Int),Ae],sv] w (mR w n (KF (aB P M Mod) A n (bT set n))):=by
 have K:=SpP.of hA;have hO:=K.hO;have V:=K.fld;have hn:=K.n256;have χ:=K.r256;have Dd:0<aC P M:=by have:=aK P M;have:=V.1;omega
 have Eg:(bT set n).length<=n:=by rw[<-rX];exact vC _ _
 have hC:=rP Dd K.rref.rows (bT set n);have hT:=rF hO K.rref (bT set n);have Aw:=Cn.null hO hT;have Eb:=Aw.le;have η:=zh (fun(w':World) (hb:Below w.heap.size w w')=>IA w' P M n mv _ Mod A (hm.below hb zr) (ψ.below hb zr) hA);have X:=zh (fun(w':World) (u:Value) (hb:Below w.heap.size w w') (G:SI w' u (bT set n))=>qQ w' P M n mv Ae u Mod (bT set n) A (hm.below hb zr) (ψ.below hb zr) G (kY hA).1 (AC set n) (by omega));have U:=zh (fun(w':World) (u:Value) (hb:Below w.heap.size w w') (G:SS w' u (dH A (bT set n)))=>NQ w' P M (bT set n).length mv u Mod _ (hm.below hb zr) G (jI V (by omega) (by rw[dX];exact χ) hC));have Y:=zh (fun(w':World) (u:Value) (hb:Below w.heap.size w w') (G:SS w' u (gU (dH A (bT set n)) (bT set n).length))=>zM w' P M A.length mv u Mod _ (hm.below hb zr) G (jI V χ (by rw[iD];omega) hT));have d:=zh (fun(w':World) (u:Value) (hb:Below w.heap.size w w') (G:SS w' u (cA (aB P M Mod) (gU (dH A (bT set n)) (bT set n).length) A.length))=>LF w' P M n A.length mv u Ae Mod _ A (hm.below hb zr) G (ψ.below hb zr) (jI V χ (by omega) Aw.rows) (kY hA).1 rfl);have L:=zh (fun(w':World) (u:Value) (hb:Below w.heap.size w w') (G:SS w' u (mmL (aB P M Mod) (cA (aB P M Mod) (gU (dH A (bT set n)) (bT set n).length) A.length) A n))=>kC w' P M n mv u Mod _ (hm.below hb zr) G (jI V hn (by rw[mX];omega) (qS hO)));have Cb:Hid (bC (aB P M Mod) (mmL (aB P M Mod) (cA (aB P M Mod) (gU (dH A (bT set n)) (bT set n).length) A.length) A n) n=KF (aB P M Mod) A n (bT set n)):=rfl;have Dr:Hid (nN set n=bT set n):=rX set n;rw[dX] at U;unfold WC at η;unfold mR at X U Y d;unfold PV at L;rw[Cb.out] at L;have ι:=zh Dg;have Dt:=zh Dh;obtain⟨Ar,Bo,rfl,_⟩:=ψ;obtain⟨Es,Fu,rfl,_⟩:=Dg;clear hm hA K hO V hC hT Aw Dh Dd;obtain⟨r,Df⟩:∃r,r=A.length:=⟨_,rfl⟩
 rw[<-Df] at η X U Y d L χ Eb|-;clear Df Cb;obtain⟨m,Bi⟩:∃m,m=set.length:=⟨_,rfl⟩
 rw[<-Bi] at ι|-;have t:=zh Bi;clear Bi;obtain⟨W,Bh⟩:∃W,W=(bT set n).length:=⟨_,rfl⟩
 rw[<-Bh] at X U Y d L Eg;have Ep:=zh Bh;clear Bh;generalize (cA (aB P M Mod) (gU (dH A (bT set n)) W) r)=N at*;generalize mmL (aB P M Mod) N A n=Dx at*;generalize KF (aB P M Mod) A n (bT set n)=Dy at*;generalize (gU (dH A (bT set n)) W)=T at*;generalize dH A (bT set n)=Dn at*;have Ez:m<=17592186044416:=by rw[t.out];exact ι.len'
 obtain⟨w1,B,hq,Fp⟩:=FMQ.mk' w P M mv n (.slice Ar r Bo);have I:=zh hq;have Bu:=zh B;clear hq B;go_enter Tryz.func49,Tryz.ntmps49;go_upto_region 1 with fail;rw[Bu.out];clear Bu;have c0:=I.fm.fb.c0;have c1:=I.fm.fb.c1;have c2:=I.fm.fb.c2;have d0:=I.fm.d0;have d1:=I.fm.d1;go_wp2_with fail;refine(η.out w1 I.fm.fb.bel).mono ?_;rintro e w2 ⟨a,Cm,c,rfl,_,Bb⟩;have Bc:=aF w2 (.cells #[.pointer (some ⟨a,0,none⟩),.int .i64 (n:Int),.slice Ar r Bo,.slice Cm r c] 152);have f:=zh ((I.on Bb).on Bc);have Fh:=aZ6 Bb.size Bc.size;clear Bb Bc c0 c1 c2 d0 d1 η I;go_upto_region 2 with fail;generalize w2.alloc (.cells #[.pointer (some ⟨a,0,none⟩),.int .i64 (n:Int),.slice Ar r Bo,.slice Cm r c] 152)=p at*;have d0:=f.fm.d0;go_wp2_with fail;go_loop [32] (fun i=>∃k:Nat,k<=m/\i=.int .i64 (k:Int)) (fun i=>m-(intOf i).toNat)
 case atStart=>exact⟨0,aZ5 _,rfl⟩
 case round=>
  obtain⟨k,Bf,rfl⟩:=hrel;by_cases Bg:k<m
  .have κ:=ι.below f.fm.fb.bel zr;obtain⟨Et,x,rfl,Ev,_,Dv⟩:=κ.elt (k:=k) (by rw[<-t.out];exact Bg);obtain⟨Ei,Ej,ω⟩:=Dt.out k (by rw[<-t.out];exact Bg);rw[Dv.out] at Ei Ej ω;have Fq:decide (x<0)=false:=by simp;omega
   have Fr:decide ((n:Int)<=x)=false:=by simp;omega
   by_cases Ec:0<k
   .obtain⟨Eu,z,Cr,Ew,_,Cl⟩:=κ.elt (k:=k-1) (by rw[<-t.out];omega);have Ea:=aZ0 Cr;subst Ea;have Aa:=ω Ec;rw[Cl.out] at Aa;have Fs:decide (x<=z)=false:=by simp;omega
    have Ed:decide ((0:Int)<(k:Int))=true:=by simp;omega
    have Fa:k-1<m:=by omega
    clear ω κ Aa Cr Cl;go_wp2_with fail;go_round
    case rel=>exact⟨k+1,by omega,by go_num⟩
    case measure=>simp[intOf];omega
   .have Ed:decide ((0:Int)<(k:Int))=false:=by simp;omega
    clear ω κ;go_wp2_with fail;go_round
    case rel=>exact⟨k+1,by omega,by go_num⟩
    case measure=>simp[intOf];omega
  .obtain rfl:m=k:=by omega
   clear Bg Bf;go_wp2_with fail;clear d0;go_loopw [12,62] (fun u i wr=>∃(k l:Nat) (g:Option Addr) (o:Nat),k<=n/\i=.int .i64 (k:Int)/\u=.slice g l o/\Hid ((nN set k).length=l)/\Hid (OI p.heap.size wr (.slice g l o) (nN set k))/\Hid (Below p.heap.size p wr)) (fun _ i _=>n-(intOf i).toNat)
   case atStart=>exact⟨0,0,none,0,aZ5 _,rfl,rfl,rfl,OI.nil _ _,bE _⟩
   case round=>
    obtain⟨k,l,g,o,Bf,rfl,rfl,ζ,ε,H⟩:=hrel;by_cases Ee:k<n
    .have D:=zh (f.on H);have Cc:=zh (ι.below D.fm.fb.bel zr);cases hcn:(set.any fun x=>x==(k:Int))
     .have Ah:=zh hcn;have δ:Hid (nN set (k+1)=nN set k++[(k:Int)]):=aD (by show _=_;rw[nN,if_neg (by rw[hcn];decide)]);have Ef:=vC set k;have Ds:Hid ((nN set k).length+[(k:Int)].length<=17592186044416):=by show _<=_;rw[aZ2];omega
      have Bv:=zh (ε.alloc (.cells #[.int .i64 (k:Int)] 3));have Du:Hid (SI (wr.alloc (.cells #[.int .i64 (k:Int)] 3)) (.slice (some ⟨wr.heap.size,0,none⟩) 1 1) [(k:Int)]):=SI.lit wr [(k:Int)] (by simp) (fun j=>by
       rcases j with _|j
       .exact I64.of_small (by show _<=(k:Int);omega) (by show(k:Int)<=_;omega)
       .exact I64.zero)
      have Cd:Hid (p.heap.size<=(wr.alloc (.cells #[.int .i64 (k:Int)] 3)).heap.size):=fM H.size _;have Dp:=zh (H.alloc H.size (.cells #[.int .i64 (k:Int)] 3));clear hcn Ef;go_wp2_with fail;refine(cQ _ _ set (k:Int) Cc).mono ?_;rintro e Af ⟨rfl,rfl⟩;rw[Ah.out];go_wp2_with (at_builtin;go_must (refine dW rfl _ _ rfl p.heap.size _ (nN set k) rfl Bv _ [(k:Int)] rfl Du Ds Cd ?_);(intro Fz Ag φ hg Eh);have Do:=zh (Bv.bgrown Dp Cd hg);rw[<-δ.out] at φ;obtain⟨Dm,Dz,rfl⟩:=φ.form';have Dq:=zh φ;clear φ hg Eh)
      exact⟨⟨k+1,_,Dm,Dz,by omega,by push_cast;rfl,rfl,rfl,Dq,Do⟩,by simp only[intOf];omega⟩
     .have Ah:=zh hcn;have δ:Hid (nN set (k+1)=nN set k):=aD (by show _=_;rw[nN,if_pos hcn]);clear hcn;go_wp2_with fail;refine(cQ _ _ set (k:Int) Cc).mono ?_;rintro e Af ⟨rfl,rfl⟩;rw[Ah.out];go_wp2_with fail;exact⟨⟨k+1,l,g,o,by omega,by push_cast;rfl,rfl,by rw[δ.out];exact ζ,by rw[δ.out];exact ε,H⟩,by simp only[intOf];omega⟩
    .obtain rfl:k=n:=by omega
     have D:=zh (f.on H);have Fi:=H.size;have De:=SF set k;have Al:Hid (SI wr (.slice g l o) (nN set k)):=aD (ε.si (by rw[ζ.out];have:=vC set k;rw[ζ.out] at this;omega) (fun j=>by have:=De j;exact I64.of_small (by omega) (by omega)));rw[Dr.out] at Al ζ;clear Ee Bf De ε H f;have c0:=D.fm.fb.c0;have c1:=D.fm.fb.c1;have c2:=D.fm.fb.c2;have d0:=D.fm.d0;have d1:=D.fm.d1;go_wp2_with fail;refine(X wr _ D.fm.fb.bel Al).mono ?_;rintro e Af ⟨Fx,rfl,Bm,Bd⟩;obtain⟨Cq,Dk,rfl,_⟩:=Bm.out;have Ap:=zh Bm.out;have Bz:=zh (D.on Bd);have Fj:=Bd.size;clear Bm Bd c0 c1 c2 d0 d1 D X Al;obtain⟨Ab,Cy⟩:∃Ab,Ab=Dn.length:=⟨_,rfl⟩
     rw[<-Cy] at Ap|-;clear Cy;go_upto_region 18 with fail;obtain⟨Ag,F,B,C,Cv,σ⟩:=bB Af 86 [.int .i64 (W:Int),.slice Cq Ab Dk];rw[B,C];have R:=zh (Bz.on σ);have Ci:=zh (Ap.below σ zr);have O:=zh Cv;have Fk:=σ.size;have Ex:Af.heap.size<=F:=by omega
     clear B C Cv σ Bz Ap;have c0:=R.fm.fb.c0;have c1:=R.fm.fb.c1;have c2:=R.fm.fb.c2;have x0:Ag.cell? ⟨F,0,none⟩=some (.int .i64 (W:Int)):=O.cell 0;have x1:Ag.cell? ⟨F,1,none⟩=some (.slice Cq Ab Dk):=O.cell 1;go_wp2_with fail;refine(U.out Ag _ R.fm.fb.bel Ci).mono ?_;rintro e Ga ⟨Fy,rfl,Bn,τ⟩;obtain⟨As,Bp,rfl,_⟩:=Bn.out;have Aq:=zh Bn;have Cx:=O.lt;have Ca:=zh (R.on τ);have Ai:=zh (O.belowS τ);have Fl:=τ.size;have Ey:=O.lt;clear Bn τ c0 c1 c2 x0 x1 R Ci O U;obtain⟨lt,Db⟩:∃lt,lt=T.length:=⟨_,rfl⟩
     rw[<-Db] at Aq|-;clear Db;obtain⟨x0,x1,ν,ξ⟩:=Ai.two;go_upto_region 21 with fail;obtain⟨Bs,Cw,Z⟩:=oD (x:=.int .i64 (r:Int)) (y:=.slice As lt Bp) Ai.out;rw[Cw];have Am:=zh (FMQ.gr Ca Z.gr (by omega));have Cj:=zh (Aq.grown Z.gr (by rintro b e;cases e;exact Cx));have Aj:=zh Z.blk;have Fm:=Z.gr.size;clear Cw Z x0 x1 ν ξ Ca Aq Ai;obtain⟨x0,x1,ν,ξ⟩:=Aj.two;have d1:=Am.fm.d1;go_upto_region 22 with fail;have Be:=bF Bs F 0 (.int .i64 (r:Int));have S:=zh (FMQ.gr Am Be (by omega));have Ak:=zh (Aj.set_ 0 (.int .i64 (r:Int)));have Fo:=Be.size;have Ck:Hid (SS (Bs.setCell ⟨F,0,none⟩ (.int .i64 (r:Int))) (.slice As lt Bp) T):=(Cj.setCell (a:=⟨F,0,none⟩) Cx _).out;generalize Bs.setCell ⟨F,0,none⟩ (.int .i64 (r:Int))=Bt at*;clear Be x0 x1 ν ξ d1 Am Cj Aj;have c0:=S.fm.fb.c0;have c1:=S.fm.fb.c1;have c2:=S.fm.fb.c2;have x0:Bt.cell? ⟨F,0,none⟩=some (.int .i64 (r:Int)):=Ak.cell 0;have x1:Bt.cell? ⟨F,1,none⟩=some (.slice As lt Bp):=Ak.cell 1;go_wp2_with fail;refine(Y.out Bt _ S.fm.fb.bel Ck).mono ?_;rintro e Em ⟨Fv,rfl,Bj,Ax⟩;obtain⟨Co,Di,rfl,_⟩:=Bj.out;have An:=zh Bj.out;have Bw:=zh (S.on Ax);have Fb:=Ax.size;clear Bj Ax c0 c1 c2 x0 x1 S Ck Ak Y;obtain⟨Ad,Da⟩:∃Ad,Ad=N.length:=⟨_,rfl⟩
     rw[<-Da] at An|-;clear Da;go_upto_region 23 with fail;obtain⟨Bq,Cs,B,C,At,π⟩:=bB Em 86 [.int .i64 (r:Int),.slice Co Ad Di];rw[B,C];have J:=zh (Bw.on π);have Ce:=zh (An.below π zr);have Fc:=π.size;have x0:Bq.cell? ⟨Cs,0,none⟩=some (.int .i64 (r:Int)):=At.cell 0;have x1:Bq.cell? ⟨Cs,1,none⟩=some (.slice Co Ad Di):=At.cell 1;clear B C At π Bw An;have c0:=J.fm.fb.c0;have c1:=J.fm.fb.c1;have c2:=J.fm.fb.c2;have d0:=J.fm.d0;have d1:=J.fm.d1;go_wp2_with fail;refine(d.out Bq _ J.fm.fb.bel Ce).mono ?_;rintro e En ⟨Fw,rfl,Bk,Ay⟩;obtain⟨Cp,Dj,rfl,_⟩:=Bk.out;have Ao:=zh Bk.out;have Bx:=zh (J.on Ay);have Fe:=Ay.size;clear Bk Ay c0 c1 c2 d0 d1 x0 x1 J Ce d;obtain⟨Ac,Cz⟩:∃Ac,Ac=Dx.length:=⟨_,rfl⟩
     rw[<-Cz] at Ao|-;clear Cz;go_upto_region 26 with fail;obtain⟨Br,Ct,B,C,Au,ρ⟩:=bB En 86 [.int .i64 (k:Int),.slice Cp Ac Dj];rw[B,C];have Q:=zh (Bx.on ρ);have Cf:=zh (Ao.below ρ zr);have Ff:=ρ.size;have x0:Br.cell? ⟨Ct,0,none⟩=some (.int .i64 (k:Int)):=Au.cell 0;have x1:Br.cell? ⟨Ct,1,none⟩=some (.slice Cp Ac Dj):=Au.cell 1;clear B C Au ρ Bx Ao;have c0:=Q.fm.fb.c0;have c1:=Q.fm.fb.c1;have c2:=Q.fm.fb.c2;go_wp2_with fail;refine(L.out Br _ Q.fm.fb.bel Cf).mono ?_;rintro e Eo ⟨μ,Er,Ft,rfl,Bl,_,Az⟩;obtain⟨E,Dc⟩:∃E,E=Dy.length:=⟨_,rfl⟩
     rw[<-Dc] at Bl|-;clear Dc;have Ch:=zh (Bl.imp fun _ h=>h.1);have By:=zh (Q.on Az);have Fg:=Az.size;clear Bl Az c0 c1 c2 x0 x1 Cf L;go_upto_region 29 with fail;obtain⟨Dl,Cu,B,C,Av,Ba⟩:=bB Eo 86 [.int .i64 (k:Int),.slice μ E E];rw[B,C];have θ:=zh (By.on Ba);have Dw:=zh (Ch.on Ba);have x0:Dl.cell? ⟨Cu,0,none⟩=some (.int .i64 (k:Int)):=Av.cell 0;have x1:Dl.cell? ⟨Cu,1,none⟩=some (.slice μ E E):=Av.cell 1;clear B C Av Ba By Ch;obtain⟨Gc,Gd,ν,ξ⟩:=θ.q.two;go_wp2_with fail;obtain⟨Gb,Aa,s⟩:=oD (x:=.int .i64 (k:Int)) (y:=.slice μ E E) θ.q;rw[Aa];have Ek:=s.c0;have El:=s.c1;refine bodyPost_ret (v:=.tuple #[.agg #[.int .i64 (k:Int),.slice μ E E],.int .i64 0]) (by simp[results,Tryz.results49,go_sem,Ek,El]) rfl ?_;exact⟨_,rfl,(Dw.grown s.gr (by rintro b e;cases e;omega)).mono Q.fm.fb.bel.size,s.below θ.fm.fb.bel θ.fm.fb.bel.size (by omega)⟩
end Go.Proofs.YtpfhoemohibniaaGreatDoor
