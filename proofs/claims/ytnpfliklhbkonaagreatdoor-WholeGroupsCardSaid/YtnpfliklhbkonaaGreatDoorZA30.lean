/- Parts. -/
import Derived.Test.YtnpfliklhbkonaaGreatDoorZA28
set_option maxRecDepth 99999
set_option maxHeartbeats 0
set_option linter.unusedSimpArgs false
namespace Go.Proofs.YtnpfliklhbkonaaGreatDoor
open Go.Proofs.Tryz
section
open Go.RowKit
theorem XO(w:Wo)(a:Nat)(P M:Int)(n:Nat)(Mq x:LI)(δ rv:Va)(rows:LL)(T:GF w a P M Mq)(y:SI w δ x)(W:SS w rv rows)(hR:Rows (aF P M) n rows)(H:x.length=rows.length)(hn:n<=100000):
 Calls prog 253 #[.pointer a,δ,rv,n] w (sN w (kZ (aD P M Mq) x rows n)):=by
 have θ:=zh T;have O:=zh y;have N:=zh W;have μ:=zh hR;have π:=zh H;have t:=T.fld;have ι:=zh (iJ t.1 Mq);have Ae:=aM P M;have J:Hid (kZ (aD P M Mq) x rows n=fX (aD P M Mq) x rows n x):=by show _=_;unfold kZ;rw[H,Nat.min_self]
 have χ:=W.len';obtain⟨Aa,Am,rfl,_⟩:=y;obtain⟨ω,Ag,rfl,_⟩:=W;clear T hR t;rw[H] at O J|-;clear H;obtain⟨r,V⟩:=xE rows.length;rw[<-V] at O N J χ|-;have E:=zh V;clear V;have τ:=fun(w:Wo)=>dX n om w;go_enter func253,ntmps253;go_upto_region 2 with fail;obtain⟨w1,g,f,l,p,C⟩:=zO w n;rw[f,l];have Z:Hid (OI w w1 (.slice g n n) (fX (aD P M Mq) x rows n 0)):=aG (by have h:=p.oi (B:=w.heap.size) om (by simp;omega);rw[eG] at h;exact h)
 have Y:=zh C;have σ:w<=g:=om;clear f l p C τ;go_wp2;go_loopw [16] (fun i wr=>∃k:Nat,k<=r/\i=(k:aV)/\Hid (OI w wr (.slice g n n) (fX (aD P M Mq) x rows n k))/\Hid (Below w w wr)) (fun i _=>r-(intOf i).toNat)
 .exact⟨0,aZ5 _,rfl,Z,Y⟩
 .
  clear Z Y;obtain⟨k,hk,rfl,D,A⟩:=hrel;by_cases F:k<r
  .obtain⟨Ab,z,rfl,Ad,_,Q⟩:=(O.below A zr).elt (k:=k) (by rw[π.out,<-E.out];exact F);by_cases I:z=0
   .subst I;have K:Hid (fX (aD P M Mq) x rows n (k+1)=fX (aD P M Mq) x rows n k):=by show _=_;rw[fX,iN (by rw[Q.out];simp)]
    go_wp2;exact⟨⟨k+1,om,pC,K.out▸D,A⟩,oI⟩
   .have Af:(z !=0)=true:=by simpa using I
    obtain⟨Ah,X,d,row,rfl,q,ξ,L⟩:=(N.below A zr).eltA (k:=k) (E.out▸F);have G:row=n:=by rw[<-L.out];exact(μ k (E.out▸F)).1
    have K:Hid (fX (aD P M Mq) x rows n (k+1)=cQ (aD P M Mq) (fX (aD P M Mq) x rows n k) z row):=by show _=_;rw[fX,iP (Q.out▸I),Q.out,L.out]
    have ν:Hid (0<n->∀b,(Value.slice X n d).ownBlock=some b->b<w.heap.size):=aG (fun S b C=>by
     obtain⟨Ai,ψ,Ac,Aj,R,ρ,v,φ⟩:=N.eltA (k:=k) (E.out▸F);injection R with R;subst R;have s:=aE A.out ρ;rw[q] at s;have m:=aZ0 s;rw[<-φ.out,L.out] at m v;injection m with h5 h6 h7;subst h5;subst h7;have o:=v.out.si;rw[G] at o;exact o.lt (by rw[G];exact S) C)
    have c:=zh ξ.si;rw[G] at c q;have ζ:Hid ((fX (aD P M Mq) x rows n k).length=n):=aG (lT _ _ _ _ _);have η:Hid (∀j,I64 ((fX (aD P M Mq) x rows n k).getD j 0)):=aG (fun j=>by have h:=lU ι x rows n k j;exact I64.of_small om om);clear I;go_wp2_with fail;apply(KG w wr w a g n n 0 P M z Mq _ row X d θ A zr D ζ c G (fun S b C e=>oA (ν.out S b C)) hn η).mono;rintro e Al⟨rfl,U,u⟩;rw[<-K.out] at U;have κ:=zh U;have ε:=zh (A.grown u A.size (fun b e=>by cases e;exact σ));clear U u;go_wp2;exact⟨⟨k+1,om,pC,κ,ε⟩,oI⟩
  .obtain rfl:k=r:=om;rw[<-J.out] at D;go_wp2;go_ret;exact⟨_,rfl,D.out,A.out⟩
theorem SJ(w:Wo)(P M c1 c2:Int)(mv rv sv:Va)(gl:Nat)(Mq:LI)(A B:LL)(X:SI w mv Mq)(Z:SS w rv A)(Y:SS w sv B)(hA:fB P M Mq c1 A=0)(hB:fB P M Mq c2 B=0)
 (T:w.cell? gl=some (c1:aV))(U:w.cell? (gl 1 none)=some rv)(V:w.cell? (gl 2 none)=some (c2:aV))(W:w.cell? (gl 3 none)=some sv):
 Calls prog 111 #[.agg #[P,M,mv],.slice gl 2 2] w (fun e w2=>∃a,e=.returned (.tuple #[.pointer (some ⟨a,0,none⟩),z0])/\GF w2 a P M Mq/\Below w w w2):=by
 have l:=zh X;have Q:=zh Z;have O:=zh Y;have N:=(fM hA).1;have b:Hid (sO (aF P M) c1 A=0):=aG (by rw[<-yG N];exact hA);have c:Hid (sO (aF P M) c2 B=0):=aG (by rw[<-yG N];exact hB);obtain⟨m,q,rfl,_⟩:=Q.out;obtain⟨n,sc,rfl,_⟩:=O.out;have F:=zh (dM.mk' w P M mv);have f:=zh T;have g:=zh U;have h:=zh V;have j:=zh W;clear X Z Y hA hB T U V W;go_enter func111,ntmps111;go_wp2_with fail;generalize hw0:w.alloc (.cells #[P,M,mv] 24)=w0 at*;have c0:=F.c0;have o:=F.c1;have p:=F.c2;go_wp2_with fail;apply(oO _ P M mv Mq (l.below F.bel zr) N).mono;rintro e w1⟨a,rfl,S,R⟩;have J:=zh S.out;have d:=zh (aC F.bel R);clear R S c0 o p;go_wp2;go_loopw [20] (fun i wr=>∃k:Nat,k<=2/\i=(k:aV)/\Hid (Below w1 w1 wr)) (fun i _=>(2-intOf i).toNat)
 .exact⟨0,om,rfl,bE _⟩
 .
  obtain⟨k,hk,rfl,E⟩:=hrel;have C:=aC d.out E.out
  match k,hk with
  |0,_=>have K:=aE C f.out;have L:=aE C g.out;have D:=zh (aH wr (.cells #[c1,.slice m A q] 74));have I:=zh C;clear C;go_wp2_with fail;apply(wJ _ a P M c1 Mq _ A ((J.on E).on D) ((Q.below I zr).below D zr)).mono;rintro e r⟨rfl,G⟩;rw[b.out];have H:=zh (aC E (aC D G));clear G K L;go_wp2;exact⟨⟨1,om,rfl,H⟩,oI⟩
  |1,_=>have K:=aE C h.out;have L:=aE C j.out;have D:=zh (aH wr (.cells #[c2,.slice n B sc] 74));have I:=zh C;clear C;go_wp2_with fail;apply(wJ _ a P M c2 Mq _ B ((J.on E).on D) ((O.below I zr).below D zr)).mono;rintro e r⟨rfl,G⟩;rw[c.out];have H:=zh (aC E (aC D G));clear G K L;go_wp2;exact⟨⟨2,om,rfl,H⟩,oI⟩
  |2,_=>go_wp2;go_ret2;exact⟨a,rfl,J.on E,C⟩
def A8(O:aQ)(C rows:LL)(n:Nat):Nat->LL
 |0=>[]
 |k+1=>A8 O C rows n k++[kZ O (C k []) rows n]
theorem mR(O:aQ)(C rows:LL)(n:Nat):∀k,(A8 O C rows n k).length=k
 |0=>rfl
 |k+1=>by rw[A8,aZ1,mR O C rows n k];rfl
theorem FR(O:aQ)(C rows:LL)(n:Nat):∀k j,j<k->(A8 O C rows n k).getD j []=kZ O (C j []) rows n
 |0,j,h=>om
 |k+1,j,h=>by
  rw[A8];by_cases e:j<k
  .rw[pV (by rw[mR];exact e),FR O C rows n k j e]
  .obtain rfl:j=k:=om;rw[oJ (by rw[mR];exact zr),mR,Nat.sub_self];rfl
theorem SM(O:aQ)(C rows:LL)(n:Nat):A8 O C rows n C=mmL O C rows n:=
 oH (by rw[mR,yI]) fun j A=>by rw[mR] at A;rw[FR O C rows n _ j A];unfold mmL;rw[qI _ _ _ A]
theorem FPP.grN{w w1 w2:Wo}{P M B C:Int}{mv D E:Va}(h:FPP w w1 P M mv B D C E){row:Option Nat}(A:w1.grownBy w2 row)(hn:∀g,row=some g->w.heap.size+1+1<g):FPP w w2 P M mv B D C E:=
 ⟨⟨h.fb.blk.grown A (fun e=>oA (hn _ e.symm)),h.fb.bel.grown A h.fb.bel.size (fun k e=>oA (hn _ e))⟩,h.m1.grown A (fun e=>oA (hn _ e.symm)),h.m2.grown A (fun e=>oA (hn _ e.symm))⟩
theorem bo(w:Wo)(P M:Int)(n r:Nat)(mv Av rv:Va)(Mq:LI)(C rows:LL)(Bd:SI w mv Mq)(Ba:SS w Av C)(Bf:SS w rv rows)(τ:fB P M Mq r C=0)(hA:fB P M Mq n rows=0)(Aa:rows=r):
 Calls prog 136 #[.agg #[P,M,mv],.agg #[r,Av],.agg #[n,rv]] w (wW w n (mmL (aD P M Mq) C rows n)):=by
 have Br:=zh Bd;have ζ:=zh Ba;have κ:=zh Bf;have Bl:=zh τ;have Bk:=zh hA;obtain⟨Bb,_,hn,_,hR⟩:=fM hA;obtain⟨_,_,_,Cl,φ⟩:=fM τ;rw[aZ8] at hR φ;have Bu:=zh hR;have Bo:=zh φ;have Bq:=zh (iJ Bb.1 Mq);have Cy:=aM P M;have Al:Hid (A8 (aD P M Mq) C rows n C=mmL (aD P M Mq) C rows n):=SM _ _ _ _;have Bv:=zh Aa;obtain⟨S,U,rfl,_⟩:=Ba;obtain⟨Q,R,rfl,_⟩:=Bf;clear Bd τ hA Bb hR φ;rw[Aa] at κ|-;clear Aa;obtain⟨m,ψ⟩:=xE C.length;rw[<-ψ] at ζ Al Cl|-;have η:=zh ψ;clear ψ;obtain⟨w1,J,hq,Co⟩:=FPP.mk' w P M mv r (.slice S m U) n (.slice Q r R);have D:=zh hq;have Aj:=zh J;clear hq J;go_enter func136,ntmps136;go_upto_region 1 with fail;rw[Aj.out];clear Aj;have O:=zh (Blk.new w1 74 [.int .i64 0,.slice none 0 0]);have Ay:=aH w1 (.cells #[z0,()] 74);have Be:=World.size_alloc w1 (.cells #[z0,()] 74);have F:=zh (D.on Ay);generalize w1.alloc (.cells #[z0,()] 74)=w2 at*;rw[Co] at O Be;clear Ay D;have c0:=F.fb.c0;have c1:=F.fb.c1;have c2:=F.fb.c2;have ξ:=F.m1.cell 0;have π:=F.m1.cell 1;have X:=F.m2.cell 0;have m1:=F.m2.cell 1;have Ao:Hid (∀w',w2.alloc (.cells #[r,.slice S m U,n,.slice Q r R] 74)=w'->Calls prog 111 #[.agg #[P,M,mv],.slice (some ⟨w.heap.size+1+1+1+1,0,none⟩) 2 2] w' (fun e N=>∃a,e=.returned (.tuple #[.pointer (some ⟨a,0,none⟩),z0])/\GF N a P M Mq/\Below w2 w2 N)):=aG fun w' e=>by have A:=aH w2 (.cells #[r,.slice S m U,n,.slice Q r R] 74);have hB:=Blk.new w2 74 [(r:aV),.slice S m U,(n:aV),.slice Q r R];rw[e] at A;have c:Blk w' w2 74 [(r:aV),.slice S m U,(n:aV),.slice Q r R]:=e▸hB;rw[Be] at c;have χ:=aC F.fb.bel A;apply(SJ w' P M r n mv _ _ _ Mq C rows (Br.below χ zr) (ζ.below χ zr) (κ.below χ zr) Bl Bk (c.cell 0) (c.cell 1) (c.cell 2) (c.cell 3)).mono;rintro e N⟨a,rfl,B,V⟩;exact⟨a,rfl,B,aC A V⟩
 go_wp2_with fail;apply(Ao _ rfl).mono;rintro e N⟨a,rfl,B,V⟩;have Bp:=zh B;have Y:=zh (F.on V);have Ae:=zh (O.belowS V);have Db:=V.size;clear B V c0 c1 c2 ξ π X m1 Ao O F;have ξ:=Y.m1.cell 0;have X:=Y.m2.cell 0;have m1:=Y.m2.cell 1;have Da:(((r:Nat):Int) !=(r:Int))=false:=by simp
 go_upto_region 7 with fail;obtain⟨H,g4,J,Z,σ,d⟩:=aR N 74 [(n:aV),.slice none 0 0];rw[J,Z];have θ:=zh (Y.on d);have Af:=zh (Ae.belowS d);have Ah:=zh d;have T:=zh σ;have Dc:=d.size;have Cm:N<=g4/\g4<H.heap.size:=⟨om,σ.lt⟩
 clear J Z σ d ξ X m1 Y Ae;have π:=θ.m1.cell 1;go_wp2_with fail;clear π;go_loopw [38] (fun i wr=>∃(k:Nat) (I:OA) (L:Nat),k<=m/\i=(k:aV)/\Hid (OS H (fun g=>g<H) wr (.slice I k L) (A8 (aD P M Mq) C rows n k))/\Hid (Blk wr g4 74 [(n:aV),.slice I k L])/\Hid (FPP w wr P M mv r (.slice S m U) n (.slice Q r R))/\Hid (Blk wr (w.heap.size+1+1+1) 74 [.int .i64 0,.slice none 0 0])/\Hid (Below N N wr)/\H.heap.size<=wr.heap.size) (fun i _=>m-(intOf i).toNat)
 .exact⟨0,none,0,aZ5 _,rfl,OS.nil _ _ _,T,θ,Af,Ah,zr⟩
 .
  clear T θ Af Ah;obtain⟨k,I,L,hk,rfl,q,T,D,O,ε,Df⟩:=hrel;by_cases Bc:k<m
  .obtain⟨Cv,Bi,Cd,x,rfl,Ck,Ap,Aq⟩:=(ζ.below D.fb.bel zr).eltA (k:=k) (η.out▸Bc);have Ab:x=r:=by rw[<-Aq.out];exact(Bo k (η.out▸Bc)).1
   have Bs:Hid (A8 (aD P M Mq) C rows n (k+1)=A8 (aD P M Mq) C rows n k++[kZ (aD P M Mq) x rows n]):=by show _=_;rw[A8,Aq.out]
   have Ar:=zh Ap.si;rw[Ab] at Ar Ck;have Cc:=zh Ab;clear Ab Ap;have Ca:=zh (fun(w':Wo) (A:Below wr wr w')=>XO w' a P M n Mq x (.slice Bi r Cd) (.slice Q r R) rows ((Bp.on ε).on A) (Ar.below A zr) ((κ.below D.fb.bel zr).below A zr) Bu (by rw[Cc.out,Bv.out]) om);have Bn:Hid ((kZ (aD P M Mq) x rows n).length=n):=aG (lT _ _ _ _ _);have Bm:Hid (∀j,I64 ((kZ (aD P M Mq) x rows n).getD j 0)):=aG (fun j=>by have h:=lU Bq x rows n (min rows x) j;unfold kZ;exact I64.of_small om om);generalize kZ (aD P M Mq) x rows n=y at*;have s:Hid (∀g,(Value.slice I k L).ownBlock=some g->H.heap.size<=g/\g<wr.heap.size):=aG fun g B=>q.lt B;have X:=D.m2.cell 0;have m1:=D.m2.cell 1;have Ad:wr.cell? (g4 1 none)=some (.slice I k L):=T.cell 1;have As:=zh X;have At:=zh m1;have Au:=zh Ad;go_wp2_with fail;refine dc 13 Ad X m1 fun t=>?_;refine dq 0 ?_;refine dq 1 ?_;refine dq 2 ?_;refine dq 3 ?_;refine dq 4 ?_;refine dq 5 ?_;refine dq 6 ?_;refine dq 7 ?_;try simp only[tz]
   refine dn 8 fun K hK=>?_;go_simp;apply(Ca _ (aI wr)).mono;rintro e Cs⟨u,rfl,z,Az⟩;obtain⟨μ,Ac,rfl⟩:=z.form';have o:=zh (aC (aI wr) Az);have Am:Hid (∀g,(Value.slice μ y Ac).ownBlock=some g->wr.heap.size<=g):=aG (fun g B=>(z.lt B).1);have Bx:=zh (z.si (oA Bn.out) Bm);clear z Az;refine hK.out _ _ (fun _=>⟨aE o Au,aE o As,aE o At⟩) (fun G=>?_);replace t:=G dC;clear G;try simp only[tz]
   refine dp 9 fun K hK=>?_;go_simp;obtain⟨Bg,Aw,J,Z,Ax,A⟩:=aR Cs 22 [.slice μ y Ac];rw[J,Z];have E:=zh (aC o A);have Bz:=zh (Bx.below A zr);have Bt:=zh (q.below E);have Cb:Hid (Bg.cell? Aw=some (.slice μ y Ac)):=aG (Ax.cell 0);have Dd:=E.size;clear J Z Ax A;refine hK.out _ _ (fun _=>⟨aE E Au,aE E As,aE E At⟩) (fun G=>?_);replace t:=G dC;clear G;try simp only[tz]
   refine dp 10 fun K hK=>?_;refine sB rfl _ _ rfl H (fun g=>g<H) _ (A8 (aD P M Mq) C rows n k) rfl Bt.out Aw 1 _ y rfl Cb.out Bz.out (fun _ g B=>⟨fun e=>by have Ci:=Am.out g B;have ρ:=s.out g e;omega,by have Ci:=Am.out g B;show ¬g<H;omega⟩) (by rw[mR];omega) om ?_;intro Dg Ct l W Cp;rw[<-Bs.out] at l;obtain⟨δ,ν,rfl⟩:=l.form;rw[mR] at l|-;have ω:∀b,b<H.heap.size->some b≠(Value.slice I k L).ownBlock:=(fun b A e=>by have ρ:=s.out b e.symm;omega);have Ag:=zh ((T.belowS E).grown W (ω _ om));have Bj:=zh ((O.belowS E).grown W (ω _ om));have ι:=zh ((D.on E).grN W (fun b A=>by have ρ:=s.out b A;omega));have Ai:=zh ((aC ε E).grown W (aC ε E).size (fun b A=>by have ρ:=s.out b A;omega));have De:=W.size;have An:=zh l;clear l W Cp ω;obtain⟨Cu,Bh,Ce,Cf⟩:=Ag.two;refine hK.out _ _ (fun _=>⟨Bh,ι.m2.cell 0,ι.m2.cell 1⟩) (fun G=>?_);replace t:=G dC;clear G;try simp only[tz]
   refine dq 11 ?_;try simp only[tz]
   refine dn 12 fun K hK=>?_;go_simp;refine hK.out _ _ (fun h=>aB rfl h) fun _=>?_;refine dw ?_;try simp only[tz]
   clear t;go_wp2_with fail;have f:=aU Ct g4 1 (.slice δ (k+1) ν);refine⟨⟨k+1,δ,ν,om,pC,An.grown f (fun g e=>?_),Ag.set_ 1 (.slice δ (k+1) ν),FPP.gr ι f om,Bj.grown f (by intro e;have:=aZ0 e;omega),Ai.grown f Ai.size (fun b e=>by cases e;omega),oA f.size⟩,oI⟩;cases e;exact⟨fun e=>oA (An.lt e),Cm.2⟩
  .obtain rfl:k=m:=om;rw[Al.out] at q;obtain⟨Dh,Ad,Ce,Cf⟩:=T.two;obtain⟨Cu,Bh,Cw,Cx⟩:=O.two;have Bw:=zh (q.sep (fun g B=>B) (by rw[yI,<-η.out];omega));go_wp2_with fail;obtain⟨Bg,Cj,p⟩:=sQ (x:=(n:aV)) (y:=.slice I k L) O.out;rw[Cj];have Cq:=p.c0;have Cr:=p.c1;refine bodyPost_ret (v:=.tuple #[.agg #[n,.slice I k L],z0]) (by simp[results,results136,go_sem,Cq,Cr]) rfl ?_;have Cz:=D.fb.bel.size;exact⟨_,rfl,(Bw.grown p.gr (by rintro g e;cases e;omega)).mono om,p.below D.fb.bel D.fb.bel.size om⟩
theorem XF(w:Wo)(n:Nat)(h:n<=1000000):∃w' g,w.alloc (.cells (madeCells #[()] n) 22)=w'/\w.heap.size=g/\OM w (fun g=>g<w.heap.size) w' (.slice (some ⟨g,0,none⟩) n n) (List.replicate n [])/\Below w w w':=
 ⟨_,_,rfl,rfl,OM.made w n zr h,aH w _⟩
end
section
def xA:LL:=[[1,0,1],[0,1,1]]
def xB:LL:=[[1,0,0]]
def xS:LL:=[[1,0,0],[0,1,0],[0,0,1]]
theorem x1:og (aD 2 1 []) xA xB 3=xS:=by decide+kernel
theorem x2:lx (aD 2 1 []) xA xB 3=[]:=by decide+kernel
theorem x3:iT (aD 2 1 []) xA 3=[[1,1,1]]:=by decide+kernel
theorem x4:mh (aD 2 1 []) xA 3 [1,1,0]=[1,1]:=by decide+kernel
theorem x5:YM (aD 2 1 []) xA [1,0,0]=[0,0,1]:=by decide+kernel
theorem x6:oe (aD 2 1 []) xB xS 3=[[0,1,0],[0,0,1]]:=by decide+kernel
theorem x7:oh (aD 2 1 []) xA 3 (ef [1,2] 3)=[[0,1,1]]:=by decide+kernel
theorem x8:inL (aD 2 1 []) xA [1,0,0]=false:=by decide+kernel
theorem x9:mj (aD 2 1 []) xB xS=true:=by decide+kernel
theorem x10:inL (aD 2 1 []) xA [1,1,0]=true:=by decide+kernel
theorem x11:bC (aD 2 1 []) xA 3=xA:=by decide+kernel
theorem x12:bC (aD 2 1 []) xB 3=xB:=by decide+kernel
theorem x13:bC (aD 2 1 []) xS 3=xS:=by decide+kernel
end
section
open Go.RowKit
def EW(n:Nat):Nat->LL
 |0=>[]
 |k+1=>EW n k++[vN n k]
theorem uG(n:Nat):∀k,(EW n k).length=k
 |0=>rfl
 |k+1=>by rw[EW,aZ1,uG n k];rfl
def IZ(n:Nat):Nat->LL
 |0=>List.replicate n []
 |j+1=>(IZ n j).set j (vN n j)
theorem uF(n:Nat):∀j,(IZ n j).length=n
 |0=>by simp[IZ]
 |j+1=>by rw[IZ,aZ9,uF n j]
theorem PQ(n:Nat):∀k j,j<k->j<n->(IZ n k).getD j []=vN n j
 |0,j,h,_=>om
 |k+1,j,h,hj=>by
  rw[IZ,fL,uF];by_cases e:k=j
  .subst e;rw[iP ⟨rfl,hj⟩]
  .rw[iN (fun h=>e h.1)];exact PQ n k j om hj
theorem I0(n:Nat):∀k j,j<k->(EW n k).getD j []=vN n j
 |0,j,h=>om
 |k+1,j,h=>by
  rw[EW];by_cases e:j=k
  .subst e;simp[List.getD,eL,uG]
  .have:=I0 n k j om;rw[<-this];simp[List.getD,aY2 (show j<(EW n k).length by rw[uG];omega)]
theorem UH(n:Nat):IZ n n=EW n n:=
 oH (by rw[uF,uG]) fun j A=>by rw[uF] at A;rw[PQ n n j A A,I0 n n j A]
theorem rB(n p:Nat):(vN n p).length=n:=by simp[vN]
theorem ZC{n p j:Nat}(A:j<n):(vN n p).getD j 0=if p=j then 1 else 0:=by
 unfold vN;by_cases e:p=j
 .subst e;rw[iP rfl];simp[List.getD,A]
 .rw[iN e,List.getD,List.getElem?_set_ne e];simp[A]
theorem cg(w:Wo)(n:Nat):∃w' g,w.alloc (.cells (madeCells #[z0] n) 3)=w'/\w.heap.size=g/\RI w' g (List.replicate n 0)/\Below w w w':=
 ⟨_,_,rfl,rfl,RI.made w n,aH w _⟩
theorem XN(w:Wo)(n:Nat)(hn:n<=256):Calls prog 252 #[n] w (fun e w'=>∃g,e=.returned (.slice (some ⟨g,0,none⟩) n n)/\OM w (fun g=>g<w.heap.size) w' (.slice (some ⟨g,0,none⟩) n n) (EW n n)/\Below w w w'):=by
 have b:=fun(w:Wo)=>BK n om w;have q:=fun(w:Wo)=>dX n om w;have W:=zh (UH n);go_enter func252,ntmps252;go_upto_region 2 with fail;obtain⟨w0,gv,E,Y,F,G⟩:=XF w n om;rw[E,Y];have A:=zh F;have D:=zh G;clear E F G b;go_wp2_with fail;go_loopw [4,9] (fun _ i wr=>∃j:Nat,j<=n/\i=(j:aV)/\Hid (OM w (fun g=>g<w) wr (.slice gv n n) (IZ n j))/\Hid (Below w w wr)) (fun _ i _=>n-(intOf i).toNat)
 case atStart=>exact⟨0,aZ5 _,rfl,A,D⟩
 case round=>
  clear A D;obtain⟨j,p,rfl,A,D⟩:=hrel;by_cases I:j<n
  .have L:Hid ((IZ n j).length=n):=aG (uF _ _);have H:=zh (A.below (aH wr (.cells (madeCells #[z0] n) 3)));obtain⟨s,O,_,_⟩:=H.row (k:=j) (by rw[L.out];exact I);have T:=H.frozen j;go_upto_region 6 with fail;obtain⟨J,C,E,Z,F,G⟩:=cg wr n;rw[E] at H O T|-;rw[Z];have M:=zh F;have K:=zh G;have r:=D.size;have o:=A.lt (g:=gv) rfl;have m:w<=C/\gv<C:=om;have X:=zh (A.put K (fun g l=>om) (i:=j) (by rw[L.out];exact I) (u:=.slice C n n) (ys:=List.replicate n 0) (by have h:=M.oi (B:=wr.heap.size) om (by simp;omega);rw[eG] at h;exact h));have a:(J.setCell ⟨gv,j,none⟩ (.slice C n n)).cell? ⟨gv,j,none⟩=some (.slice C n n):=World.cell?_setCell_same J ⟨gv,j,none⟩ _ O;have P:=aU J gv j (.slice C n n);have N:=zh (M.grown P (by intro e;have:=aZ0 e;omega));have Q:=zh ((aC D K).grown P (by have:=K.size;omega) (fun k e=>by have:=aZ0 e;omega));clear E F G O T A H M P;generalize J.setCell ⟨gv,j,none⟩ (.slice C n n)=c at*;have f:=N.cell j (by simp;exact I);have d:=N.frozen j;go_wp2_with fail;have S:=zh (N.set j 1);change Hid (RI _ C (vN n j)) at S;have U:=aU c C j (.int .i64 1);have R:=zh (X.write (i:=j) (by rw[aZ9,L.out];exact I) a U (ys:=vN n j) (by have h:=S.oi (B:=w.heap.size) om (by rw[rB];omega);rw[rB] at h;exact h));rw[List.set_set] at R;have V:=zh (Q.grown U Q.size (fun k e=>by have:=aZ0 e;omega));exact⟨⟨j+1,om,pC,R,V⟩,oI⟩
  .obtain rfl:n=j:=om;rw[W.out] at A;go_wp2_with fail;go_ret;exact⟨gv,rfl,A.out,D.out⟩
theorem fI(w:Wo)(a:Nat)(P M:Int)(Mq:LI)(h:GF w a P M Mq):Calls prog 22 #[.pointer a] w (fun e w'=>e=.returned (.int .i64 (aF P M))/\w=w'):=by obtain⟨q,mv,C,A,gl,B,E,L,h⟩:=h;have c3:=h.c3;rw[h.ord];clear h;go_enter func22,ntmps22;go_wp2;go_ret;exact⟨rfl,rfl⟩
