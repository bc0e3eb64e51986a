/- Parts. -/
import Derived.Test.YtnpfliklhbkonaaGreatDoorZA49
set_option maxRecDepth 99999
set_option maxHeartbeats 0
namespace Go.Proofs.YtnpfliklhbkonaaGreatDoor
open Go.Proofs.Tryz
section
open Go.RowKit
theorem ZX{w:Wo}{T:Nat}{t:TypeId}(h:Blk w T t [.int .i64 0,.slice none 0 0]){p:Addr}{x:Va}(B:p.block=T)(A:w.cell? p=some x):(p.off=0/\x=.int .i64 0)\/(p.off=1/\x=.slice none 0 0):=by
 unfold World.cell? at A;rw[B,show w.heap[T]?=_ from h] at A;dsimp only at A;split at A
 .cases A
 .rcases(by omega:p.off=0\/p.off=1\/2<=p.off) with e|e|e
  .rw[e] at A;exact .inl ⟨e,(aZ0 A).symm⟩
  .rw[e] at A;exact .inr ⟨e,(aZ0 A).symm⟩
  .rw[Array.getElem?_eq_none (by simp;omega)] at A;cases A
theorem oX(a:Addr)(k:Nat):(a.add k).off=a.off+k/\(a.add k).block=a.block:=by
 unfold Addr.add;by_cases h:k=0
 .rw[iP h,h];exact⟨rfl,rfl⟩
 .rw[iN h];exact⟨rfl,rfl⟩
section
variable {w w':Wo} {T:Nat} {t:TypeId} (h:Blk w T t [.int .i64 0,.slice none 0 0]) (hk:∀p:Addr,p.block≠T->w'.cell? p=w.cell? p)
include h hk
theorem SI.offT{v:Va}{xs:LI}(N:SI w v xs)(Q:2<=xs.length):SI w' v xs:=by
 obtain⟨A,c,e,C⟩:=N;refine⟨A,c,e,C.len,C.cap,fun k M=>?_,C.wf⟩;obtain⟨B,D,L⟩:=C.cell k M;refine⟨B,D,?_⟩;rw[hk _ fun E=>?_]
 .exact L
 .rw[(oX B k).2] at E;obtain⟨F,H,J⟩:=C.cell 0 om;obtain⟨G,I,K⟩:=C.cell 1 om;obtain rfl:B=F:=aZ0 (D.symm.trans H);obtain rfl:B=G:=aZ0 (D.symm.trans I);rcases ZX h ((oX B 0).2.trans E) J with⟨O,_⟩|⟨_,q⟩
  .rcases ZX h ((oX B 1).2.trans E) K with⟨P,_⟩|⟨_,q⟩
   .rw[(oX B 0).1] at O;rw[(oX B 1).1] at P;omega
   .cases q
  .cases q
theorem SS.offT{v:Va}{D:LL}(N:SS w v D)(I:∀k,k<D.length->2<=(D k []).length):SS w' v D:=by
 obtain⟨A,c,e,F⟩:=N;refine⟨A,c,e,F.len,F.cap,fun k E=>?_⟩;obtain⟨K,u,L,J,C⟩:=F.cell k E;refine⟨K,u,L,?_,SI.offT h hk C (I k E)⟩;rw[hk _ fun M=>?_]
 .exact J
 .obtain⟨B,d,H,C⟩:=C;rcases ZX h M J with⟨_,q⟩|⟨_,q⟩
  .rw[H] at q;cases q
  .rw[H] at q;injection q with q1 _ _
   obtain⟨O,G,_⟩:=C.cell 0 (oA (I k E));rw[q1] at G;cases G
theorem ChR.offT{lv:Va}{ls:List LvP}(O:ChR w lv ls)(H:∀k,k<ls.length->2<=(ls k default).orb.length/\∀j,j<(ls k default).reps.length->2<=((ls k default).reps.getD j []).length):ChR w' lv ls:=by
 obtain⟨cs,⟨A,c,e,M⟩,J,K⟩:=O;refine⟨cs,⟨A,c,e,fun k B=>?_⟩,J,fun k B=>?_⟩
 .obtain⟨C,L,I⟩:=M k B;refine⟨C,L,fun j u N=>?_⟩;rw[hk _ fun G=>?_]
  .exact I j u N
  .rw[(oX _ _).2] at G;obtain⟨ov,rv,D,_,_⟩:=K k (by rw[<-J];exact B);have E:=I 2 rv (by rw[D];rfl);have F:=ZX h ((oX C (k*3+2)).2.trans G) E;rw[(oX C (k*3+2)).1] at F;omega
 .obtain⟨ov,rv,D,E,F⟩:=K k B;exact⟨ov,rv,D,SI.offT h hk E (H k B).1,SS.offT h hk F (H k B).2⟩
end
theorem vS{Γ:LI->Prop}{n:Nat}:∀{k:Nat} {l:List LvP},k<=n->CanCh Γ n k l->∀x,x∈l->x.pt<n/\1<x.orb.length/\vP Γ n x.pt x.orb x.reps
 |0,_,_,.nil,x,A=>aB A List.not_mem_nil
 |k+1,_,hk,.skip h1 h2 h3,x,A=>vS om h1 x A
 |k+1,_,hk,.put h1 h2 h3,x,A=>by
  rcases List.mem_append.1 A with A|A
  .exact vS om h1 x A
  .obtain rfl:=List.mem_singleton.1 A;exact⟨by show k<n;omega,h3,h2⟩
theorem E2{Γ:LI->Prop}{n:Nat}(hΓ:lQ n Γ){ls:List LvP}(h:CanCh Γ n n ls):∀k,k<ls.length->2<=(ls k default).orb.length/\∀j,j<(ls k default).reps.length->2<=((ls k default).reps.getD j []).length:=fun k hk=>by
 obtain⟨C,D,A⟩:=vS (Nat.le_refl n) h (ls k default) (by rw[aZ4,aZ3 hk];exact aY6 _);generalize ls k default=l at C D A;have hn:2<=n:=by
  have E:∀j,j<l.orb.length->0<=l.orb j 0/\l.orb j 0<n:=fun j B=>by obtain⟨q,hq,_,e⟩:=(A.mem (l.orb j 0)).1 (by rw[aZ4,aZ3 B];exact aY6 _);rw[<-e];exact(hΓ.is q hq).rng l.pt C
  have G:=E 0 om;have H:=E 1 om;have I:=List.pairwise_iff_getElem.1 A.asc 0 1 om om om;have J:l.orb 0 0=l.orb[0]:=by simp[List.getD,show 0<l.orb.length from om]
  have K:l.orb 1 0=l.orb[1]:=by simp[List.getD,show 1<l.orb.length from om]
  omega
 refine⟨D,fun j B=>?_⟩;obtain⟨r,L,_,_,F⟩:=A.rep j (by rw[<-A.len];exact B);obtain⟨⟨q,hq,_,e⟩,_⟩:=F;rw[e,cR,(hΓ.is q hq).len];exact hn
theorem dA.mon{q M:Int}{n:Nat}{perm sc:LI}(h:dA q n perm sc)(A:0<M):lN q M n perm sc 0:=
 ⟨h.isP.len,h.sl,⟨fun i hi=>h.isP.rng i (by rw[<-h.isP.len];exact hi),fun i j hi B e=>h.isP.inj i j (by rw[<-h.isP.len];exact hi) (by rw[<-h.isP.len];exact B) e⟩,⟨Int.le_refl _,A⟩,fun i hi=>h.nz i (by rw[<-h.sl];exact hi)⟩
theorem SH{w:Wo}{cs:List (List Va)}{ml:List nW}{A:OA}{n c k:Nat}(h:RG 3 w (.slice A n c) cs)(H:MsR w cs ml)(hk:k<ml.length):∃(B:Addr) (E:OA) (tl tc:Nat) (C:OA) (D sc:Nat),A=some B/\
 w.cell? (B.add (k*3))=some (.slice E tl tc)/\w.cell? ⟨(B.add (k*3)).block,(B.add (k*3)).off+1,none⟩=some (.slice C D sc)/\w.cell? ⟨(B.add (k*3)).block,(B.add (k*3)).off+2,none⟩=some (.int .i64 0)/\SI w (.slice E tl tc) (ml k default).1/\SI w (.slice C D sc) (ml k default).2:=by
 obtain⟨B,e,G,F⟩:=h.elt (k:=k) (by rw[H.1];exact hk);obtain⟨tv,sv,K,J,I⟩:=H.2 k hk;obtain⟨E,tl,tc,rfl⟩:∃(A:OA) (l c:Nat),tv=.slice A l c:=(by obtain⟨x,y,e,_⟩:=J;exact⟨_,_,_,e⟩)
 obtain⟨C,D,sc,rfl⟩:∃(A:OA) (l c:Nat),sv=.slice A l c:=(by obtain⟨x,y,e,_⟩:=I;exact⟨_,_,_,e⟩)
 rw[K] at G F;exact⟨B,E,tl,tc,C,D,sc,e,G _ rfl,F 0 _ rfl,F 1 _ rfl,J,I⟩
theorem P1(w:Wo)(a n q:Nat)(P M:Int)(Mq:LI)(uv:Va)(ms:List (List Va))(ml:List nW)(δ:GF w a P M Mq)(hO:(aD P M Mq).Fld (aF P M))(hq:aF P M=(q:Int))(Br:2<=q)(Bs:q<=256)(Bp:0<M)(hn:n<=64)(hn1:1<=n)(T:n*(q-1)<=64)(κ:RG 3 w uv ms)(G:MsR w ms ml)(ε:∀m,m∈ml->dA (q:Int) n m.1 m.2)(θ:ml.length<=2000000):
 Calls prog 19 #[.pointer a,n,uv] w (fun e w'=>∃(A:OA) (l c:Nat) (ls:List LvP),e=.returned (.tuple #[.agg #[.int .i64 ((n*(q-1):Nat):Int),.slice A l c],z0])/\ChR w' (.slice A l c) ls/\CanCh (GenP (n*(q-1)) (fun g=>g∈ml.map fun m=>ofL (aD P M Mq) q n m.1 m.2)) (n*(q-1)) (n*(q-1)) ls/\Below w w w'):=by
 have Aq:=zh δ;have Bh:=zh κ;have Av:=zh G;have Ak:=zh ε;have Bb:=zh hq;obtain⟨f,W⟩:∃f:nW->LI,∀m,f m=ofL (aD P M Mq) q n m.1 m.2:=⟨_,fun _=>rfl⟩
 have Af:(fun m:nW=>ofL (aD P M Mq) q n m.1 m.2)=f:=funext fun m=>(W m).symm;rw[Af];have Ba:Hid (∀(w':Wo) (E:Below w w w') (pv sv:Va) (m:nW) (R:SI w' pv m.1) (S:SI w' sv m.2) (Ah:dA (q:Int) n m.1 m.2),Calls prog 23 #[.pointer a,.agg #[pv,sv,z0]] w' (sN w' (f m))):=aG fun w' E pv sv m R S Ah=>by rw[W];exact VD w' a n q P M Mq pv sv m.1 m.2 (δ.on E) hO hq Br Bs R S (by rw[hq];exact Ah.mon Bp) hn T
 have Ac:(aD P M Mq).Fld (q:Int):=(by rw[<-hq];exact hO)
 have i:Hid (∀m:nW,m∈ml->IsP (n*(q-1)) (f m)):=aG fun m G=>by rw[W];exact IF Ac (ε m G)
 have Bq:1<=n*(q-1):=Nat.mul_pos hn1 om;have Am:=zh (fun(w':Wo) (v:Va) (xs:LL) (Bt:SS w' v xs) (Bv:∀k,k<xs.length->IsP (n*(q-1)) (xs k []))=>F2 w' (n*(q-1)) v xs Bt Bv Bq T);have Ab:((n:Int)*((q:Int)-1))=((n*(q-1):Nat):Int):=by
  obtain⟨p,rfl⟩:∃p,q=p+1:=⟨q-1,om⟩
  rw[Nat.add_sub_cancel];push_cast;rw[Int.add_sub_cancel]
 have Ar:Hid (∀l:List nW,(∀m,m∈l->m∈ml)->lQ (n*(q-1)) (GenP (n*(q-1)) fun g=>g∈l.map f)):=aG fun l θ=>GenP.grp fun g Q=>by obtain⟨m,G,rfl⟩:=List.mem_map.1 Q;exact i.out m (θ m G)
 have Ax:Hid ((n:Int)*((q:Int)-1)=((n*(q-1):Nat):Int)):=aG Ab;generalize n*(q-1)=N at*;obtain⟨r,b⟩:=xE ml.length;have J:=zh b;obtain⟨Cd,Cp,rfl⟩:∃(A:OA) (c:Nat),uv=.slice A r c:=(by obtain⟨x,y,e,_⟩:=κ;exact⟨_,_,by rw[e,G.1,b]⟩)
 rw[<-b] at θ;clear δ κ G ε hO Ac b hq Ab W Af;have Cm:wrap64 (N:Int)=(N:Int):=(by unfold wrap64;omega)
 have Cl:wrap64 ((q:Int)-1)=(q:Int)-1:=(by unfold wrap64;omega)
 go_enter func19,ntmps19;go_upto_region 1 with fail;obtain⟨w1,Ai,L,O,E,Ad⟩:=aR w 37 [.int .i64 0,.slice none 0 0];rw[L,O];have ξ:=zh Ad;have ψ:=zh E;have Bf:Hid (w<=Ai):=aG om;have τ:Hid (OS w (fun _=>False) w1 (():aV) ((ml.take 0).map f)):=aG (OS.nil _ _ _);clear L O E Ad;go_wp2;go_loopw [8,13] (fun v μ wr=>∃j:Nat,j<=r/\μ=(j:aV)/\Hid (OS w (fun _=>False) wr v ((ml.take j).map f))/\Hid (Below w w wr)/\Hid (Blk wr Ai 37 [.int .i64 0,.slice none 0 0])) (fun _ μ _=>r-(intOf μ).toNat)
 .exact⟨0,aZ5 _,rfl,τ,ξ,ψ⟩
 .
  clear τ ξ ψ;obtain⟨j,Cj,rfl,o,H,t⟩:=hrel;by_cases X:j<r
  .obtain⟨Ce,Cb,tl,tc,Bz,Ca,sc,rfl,Bm,Bn,Bo,Ag,S⟩:=SH (k:=j) (Bh.below H zr) (Av.on H) (J.out▸X);have χ:=zh Ag;have φ:=zh S;have Y:ml j default∈ml:=(by rw[aZ4,aZ3 (J.out▸X)];exact aY6 _)
   have Bi:=zh (Ak _ Y);have Bd:Hid ((ml.take (j+1)).map f=(ml.take j).map f++[f (ml j default)]):=aG (by rw[List.take_add_one,List.map_append,aZ4,aZ3 (J.out▸X)];rfl);clear Ag S Y;go_upto_region 5 with fail;obtain⟨Aj,Co,L,O,E,I⟩:=aR wr 29 [.slice Cb tl tc,.slice Bz Ca sc,.int .i64 0];rw[L,O];have π:=zh (aC H I);have Bj:=zh (t.belowS I);have Aa:=zh E;have σ:=zh (o.below I);have Bg:=zh (χ.below I zr);have Be:=zh (φ.below I zr);clear L O E I Bm Bn Bo χ φ H t o;obtain⟨c0,c1,Bl⟩:=Aa.monB;have An:=zh (Ba.out Aj π _ _ _ Bg Be Bi);go_wp2_with fail;apply An.mono;rintro e U⟨Cc,rfl,Z,F⟩;obtain⟨B,C,D,rfl⟩:∃(B:OA) (C D:Nat),Cc=.slice B C D:=(by obtain⟨x,y,e⟩:=Z.form';exact⟨_,_,_,e⟩)
   have V:=zh (aC π F);have K:=zh (Bj.belowS F);have s:=zh ((σ.below F).alloc (.cells #[.slice B C D] 22));have Aw:=zh (Blk.new U 22 [.slice B C D]);have d:=zh (aC V (aH U (.cells #[.slice B C D] 22)));have ω:=zh (K.alloc (.cells #[.slice B C D] 22));have Bc:Hid (SI (U.alloc (.cells #[.slice B C D] 22)) (.slice B C D) (f (ml j default))):=aG (by
    have Y:ml j default∈ml:=(by rw[aZ4,aZ3 (J.out▸X)];exact aY6 _)
    have hi:=i.out _ Y;exact(Z.alloc (.cells #[.slice B C D] 22)).si (by rw[hi.len];omega) (hi.i64 om))
   have Ay:Hid (∀g,(Value.slice B C D).ownBlock=some g->u8.ownBlock≠some g):=aG fun g Q e=>by have:=(Z.lt Q).1;have:=(σ.lt e).2;omega
   have At:Hid (((ml.take j).map f).length+1<=4398046511104):=aG (by rw[aY7,aY3];omega);clear Z F c0 c1 Bl Aa;go_wp2_with (
    at_builtin;refine iB rfl _ _ rfl w (fun _=>False) u8 _ rfl s.out U 1 (.slice B C D) (f (ml j default)) rfl (Aw.cell 0) Bc.out (fun _ g Q=>⟨Ay.out g Q,fun h=>h⟩) At.out d.size ?_;intro v9 w9 ι η Bu;rw[<-Bd.out] at ι;have Az:=zh ι;have Al:=zh (s.bgrown d d.size η);have Bk:=zh (ω.grown η fun e=>s.ne_blk ω dC e.symm);clear ι η Bu)
   exact⟨⟨j+1,om,pC,Az,Al,Bk⟩,oI⟩
  .obtain rfl:r=j:=om;have Au:Hid (SS wr u8 (ml.map f)):=aG (by have:=o.ss (by rw[aY7,aY3];omega);rw[J.out,List.take_length] at this;exact this);have Ao:=zh (Am wr u8 (ml.map f) Au fun k hk=>by
    rw[aY7] at hk;have e:(ml.map f).getD k []=f (ml k default):=by simp[List.getD,hk]
    rw[e];exact i.out _ (by rw[aZ4,aZ3 hk];exact aY6 _))
   have As:=zh (Aq.on H);have Ck:=Ax.out;go_wp2_with fail;apply(fI wr a P M Mq As).mono;rintro e Aj⟨rfl,rfl⟩;rw[Bb.out];go_wp2_with fail;apply Ao.mono;rintro e U⟨lv,ls,rfl,ζ,Ae,F⟩;have Ap:=zh ζ;have ρ:=zh Ae;have V:=zh (aC H F);have K:=zh (t.belowS F);obtain⟨z,LL,ν,rfl⟩:∃(A:OA) (l c:Nat),lv=.slice A l c:=(by obtain⟨cs,⟨x,y,e,_⟩,_⟩:=ζ;exact⟨_,_,_,e⟩)
   obtain⟨_,_,Cf,Ci⟩:=K.two;clear ζ Ae F;go_wp2_with fail;obtain⟨Cq,T,u⟩:=sQ (x:=(N:aV)) (y:=.slice z LL ν) K.out;rw[T];have Bw:=u.c0;have Bx:=u.c1;refine bodyPost_ret (v:=.tuple #[.agg #[N,.slice z LL ν],z0]) (by simp[results,results19,go_sem,Bw,Bx]) rfl ?_;refine⟨z,LL,ν,ls,rfl,Ap.offT K (fun p R=>?_) (E2 (Ar ml fun _ h=>h) ρ),ρ.out,u.below V V.size Bf⟩;refine World.cell?_of_block ?_;rw[<-T];exact(Below.heap_setCell _ _ _ _ R).trans (Below.heap_setCell _ _ _ _ R)
def EX(w:Wo)(P M:Int)(Mq:LI)(n q:Nat)(gen:LL)(e:Ending)(w':Wo):Prop:=
 Below w w w'/\(e=.returned (.tuple #[.agg #[z0,()],.int .i64 8])\/
 ∃(A:OA) (l c:Nat) (ls:List LvP),e=.returned (.tuple #[.agg #[.int .i64 ((n*(q-1):Nat):Int),.slice A l c],z0])/\ChR w' (.slice A l c) ls/\CanCh (sT (aD P M Mq) q n gen) (n*(q-1)) (n*(q-1)) ls)
theorem PY(w:Wo)(P M:Int)(n q:Nat)(mv gv:Va)(Mq:LI)(gen:LL)(b:SI w mv Mq)(Z:SS w gv gen)(W:fE P M Mq (n:Int) gen=0)(hq:aF P M=(q:Int))(ρ:2<=q)(σ:q<=256)(Ai:0<M)(C:n*(q-1)<=64)(Al:gen.length<=64):
 Calls prog 8 #[.agg #[P,M,mv,n,gv]] w (EX w P M Mq n q gen):=by
 obtain⟨η,hn1,An,Am,F,Ak⟩:=fP W;have hO:=dR η;rw[aZ8] at F;rw[hq] at F;have θ:(aD P M Mq).Fld (q:Int):=(by rw[<-hq];exact hO)
 have Ab:=zh (fun(w':Wo) (ι:Below w w w')=>ZU w' P M n q mv gv Mq gen (b.below ι zr) (Z.below ι zr) W hq ρ σ C Al);have ω:=zh (fun(w':Wo) (a:Nat) (uv:Va) (ms:List (List Va)) (ml:List nW) (E:GF w' a P M Mq) (D:RG 3 w' uv ms) (J:MsR w' ms ml) (G:∀m,m∈ml->dA (q:Int) n m.1 m.2) (I:ml.length<=2000000)=>P1 w' a n q P M Mq uv ms ml E hO hq ρ σ Ai om om C D J G I);have s:=zh (BW θ F);obtain⟨χ,gl,Ah,rfl⟩:∃(A:OA) (l c:Nat),gv=.slice A l c:=(by obtain⟨x,y,e,_⟩:=Z;exact⟨_,_,_,e⟩)
 obtain⟨T,U,f,rfl⟩:∃(T:OA) (U f:Nat),mv=.slice T U f:=(by obtain⟨x,y,e,_⟩:=b;exact⟨_,_,_,e⟩)
 clear b Z W hq η hn1 An Am F Ak hO θ;go_enter func8,ntmps8;go_upto_region 1 with fail;obtain⟨w1,Ao,t2,δ,ε,ζ,τ,φ,κ⟩:=FQ w [(P:aV),(M:aV),.slice T U f,(n:aV),.slice χ gl Ah] [.int .i64 0,.slice none 0 0] 27 37;rw[δ,ζ,ε];have k:=zh κ;have O:=zh τ;have z:=zh φ;have u:Hid (w<=t2):=aG om;clear δ ε ζ τ φ κ;obtain⟨c0,c1,Ad,V,Ae,_,_,_,_,_⟩:=O.five;go_wp2_with fail;apply(Ab.out w1 k).mono;rintro e w2⟨H,Aj⟩;have K:=zh (aC k H);have Ac:=zh (O.belowS H);have Q:=zh (z.belowS H);clear H c0 c1 Ad V Ae O z;rcases Aj with rfl|⟨a,uv,As,ms,ml,rfl,E,D,J,G,ξ,I⟩
 .obtain⟨_,_,Af,Ag⟩:=Q.two;go_wp2_with fail;obtain⟨Ap,C,B⟩:=sQ (x:=.int .i64 0) (y:=.slice none 0 0) Q.out;rw[C];have i:=B.c0;have j:=B.c1;refine bodyPost_ret (v:=.tuple #[.agg #[z0,()],.int .i64 8]) (by simp[results,results8,go_sem,i,j]) rfl ?_;exact⟨B.below K K.size u,.inl rfl⟩
 .have r:=zh (ω.out w2 a uv ms ml E D J (fun m h=>(G m h).1) I);have t:=zh ξ;obtain⟨Aq,Ar,At,rfl⟩:∃(A:OA) (l c:Nat),uv=.slice A l c:=(by obtain⟨x,y,e,_⟩:=D;exact⟨_,_,_,e⟩)
  clear E D J G ξ I;have V:w2.cell? (Ao 3 none)=some (n:aV):=Ac.cell 3;go_wp2_with fail;apply r.mono;rintro e Au⟨S,LL,d,ls,rfl,ν,μ,Y⟩;have ψ:=zh ν;have L:Hid (CanCh (sT (aD P M Mq) q n gen) (n*(q-1)) (n*(q-1)) ls):=aG (by have e:GenP (n*(q-1)) (fun g=>g∈ml.map fun m=>ofL (aD P M Mq) q n m.1 m.2)=sT (aD P M Mq) q n gen:=funext fun p=>propext (t p);rw[<-e];exact μ);have o:=zh (aC K Y);have R:=zh (Q.belowS Y);clear ν μ Y V;obtain⟨_,_,Af,Ag⟩:=R.two;obtain⟨N,X⟩:=xE (n*(q-1));have Aa:=zh X;rw[<-X] at L s|-;clear X r t;go_wp2_with fail;obtain⟨Ap,C,B⟩:=sQ (x:=(N:aV)) (y:=.slice S LL d) R.out;rw[C];have i:=B.c0;have j:=B.c1;refine bodyPost_ret (v:=.tuple #[.agg #[N,.slice S LL d],z0]) (by simp[results,results8,go_sem,i,j]) rfl ?_;unfold EX;rw[<-Aa.out];refine⟨B.below o o.size u,.inr ⟨S,LL,d,ls,rfl,ψ.offT R (fun p π=>?_) (E2 s L),L.out⟩⟩;refine World.cell?_of_block ?_;rw[<-C];exact(Below.heap_setCell _ _ _ _ π).trans (Below.heap_setCell _ _ _ _ π)
theorem ZI(w:Wo)(P M n fr:Int)(mv gv pv sv:Va)(Mq perm sc:LI)(gen:LL)(Ar:SI w mv Mq)(Ac:SS w gv gen)(hn:I64 n)(Bq:SI w pv perm)(Bs:SI w sv sc)(Gb:I64 fr):
 Calls prog 3 #[.agg #[P,M,mv,n,gv],.agg #[pv,sv,fr]] w (nX w true):=by
 obtain⟨b,Bl⟩:∃b:Bool,b=true↔RP P M n Mq gen:=by
  by_cases h:RP P M n Mq gen
  .exact⟨true,⟨fun _=>h,fun _=>rfl⟩⟩
  .exact⟨false,⟨fun e=>Bool.noConfusion e,fun e=>aB e h⟩⟩
 have ξ:Hid (∀w',Below w w w'->Calls prog 5 #[.agg #[P,M,mv,n,gv],.int .i64 4,.int .i64 81] w' (nX w' b)):=aG fun w' T=>
  ZH w' P M n mv gv Mq gen (Ac.below T zr) hn b Bl (fun w2 η=>K2 w2 P M n mv gv Mq gen ((Ar.below T zr).below η zr) ((Ac.below T zr).below η zr)) fun h=>by
   obtain⟨Ga,Fu,Fv,Fw,hR,Dp⟩:=fP h;have Ff:n=((n.toNat:Nat):Int):=om;rw[Ff] at h;have ι:=nE.mk' h;have Gc:=aM P M;have Gd:=ι.O.lt.pos;have hk:=ι.kn;exact⟨om,om,om,om,om⟩
 have π:=zh Ar;have Ax:=zh Ac;have Az:=zh Bq;have Ba:=zh Bs;obtain⟨σ,τ,Ad,rfl⟩:∃(A:OA) (l c:Nat),mv=.slice A l c:=(by obtain⟨x,y,e,_⟩:=Ar;exact⟨_,_,_,e⟩)
 obtain⟨Bt,gl,Dh,rfl⟩:∃(A:OA) (l c:Nat),gv=.slice A l c:=(by obtain⟨x,y,e,_⟩:=Ac;exact⟨_,_,_,e⟩)
 obtain⟨De,pl,Dy,rfl⟩:∃(A:OA) (l c:Nat),pv=.slice A l c:=(by obtain⟨x,y,e,_⟩:=Bq;exact⟨_,_,_,e⟩)
 obtain⟨Df,Ea,Dz,rfl⟩:∃(A:OA) (l c:Nat),sv=.slice A l c:=(by obtain⟨x,y,e,_⟩:=Bs;exact⟨_,_,_,e⟩)
 clear Ar Ac Bq Bs;have Ca:=zh Bl;clear Bl;go_enter func3,ntmps3;go_upto_region 1 with fail;obtain⟨w1,t2,t3,k,m,Dg,Dv,Dw,Dm⟩:=FQ w [(P:aV),(M:aV),.slice σ τ Ad,(n:aV),.slice Bt gl Dh] [.slice De pl Dy,.slice Df Ea Dz,(fr:aV)] 27 29;rw[k,Dg,m];have Bv:=zh Dm;have Cs:=zh Dv;have Ct:=zh Dw;clear k m Dg Dv Dw Dm;go_wp2_with fail;apply(P4 w1).mono;rintro e w2⟨rfl,η⟩;have V:=zh (aC Bv η);have Bb:=zh (Cs.belowS η);have Bc:=zh (Ct.belowS η);clear η Cs Ct Bv;obtain⟨G,H,I,J,L,_,_,_,_,_⟩:=Bb.five;obtain⟨Q,R,S⟩:=Bc.monB;go_upto_region 3 with fail;by_cases Bh:RP P M n Mq gen
 .obtain rfl:b=true:=Ca.2 Bh;obtain⟨Aa,Fh,Fi,Fj⟩:=Bh;obtain⟨C,rfl⟩:∃C:Nat,n=(C:Int):=⟨n.toNat,oA ((fP Aa).2.1)⟩
  have ι:=nE.mk' Aa;obtain⟨Bi,hn1,Fg,Fe,Dl,Dr⟩:=fP Aa;obtain⟨q,hq⟩:∃q:Nat,aF P M=(q:Int):=⟨(aF P M).toNat,oA (aM P M)⟩
  have Br:2<=q:=by have:=ι.O.lt.pos;omega
  have Dt:q<=256:=by have:=aM P M;omega
  have j:=zh hq;have Aw:=zh (fun(w':Wo) (T:Below w w w')=>CJ w' P M fr C _ _ _ Mq perm sc (π.below T zr) Bi om om (Az.below T zr) (Ba.below T zr));have Dk:((C:Int)*((q:Int)-1))=((C*(q-1):Nat):Int):=by
   obtain⟨p,rfl⟩:∃p,q=p+1:=⟨q-1,om⟩
   rw[Nat.add_sub_cancel];push_cast;rw[Int.add_sub_cancel]
  have Fb:C*(q-1)<=1024:=aZ6 (Nat.mul_le_mul (show C<=4 from om) (show q-1<=255 from om)) dC;have Co:=zh Aa;have Cf:=zh ι;have Ck:=zh Bi;have Es:=zh Dl;have Ci:=zh Dr;have ρ:Hid (1<=C/\C<=4):=aG ⟨om,om⟩;have Cj:Hid (∃N,N=C*(q-1)):=aG ⟨_,rfl⟩;obtain⟨N,Bj⟩:=Cj.out;rw[<-Bj] at Dk Fb;have θ:=zh Bj;clear Aa ι Bi Dl Dr Fi Fj Fe Fg hn1 Fh Bj Cj hq;have Ge:IntKind.i64.wrap ((q:Int)-1)=(q:Int)-1:=IntWalk.i64_in _ om;have Gf:IntKind.i64.wrap ((C:Int)*((q:Int)-1))=(N:Int):=by rw[Dk,IntWalk.i64_in _ om]
  have Gg:IntKind.i64.wrap (N:Int)=(N:Int):=IntWalk.i64_in _ om;by_cases Gh:12<N
  .have Fk:(12:Int)<(N:Int):=om;refine th 27 G H I J L Q R S fun E=>?_;refine tq 0 ?_;try simp only[tz]
   refine tn 1 fun K hK=>?_;go_simp;apply(ξ _ (aC V (aI w2))).mono;rintro e ν⟨rfl,W⟩;have B:=zh (aC (aI w2) W);have X:=aE B.out G;have Y:=aE B.out H;have Z:=aE B.out I;have a:=aE B.out J;have d:=aE B.out L;have r:=aE B.out Q;have s:=aE B.out R;have t:=aE B.out S;clear W;refine hK.out _ _ (⟨X,Y,Z,a,d,r,s,t⟩) ?_;clear hK K E;intro E;try simp only[tz]
   refine tq 2 ?_;refine tq 3 ?_;refine tq 4 ?_;refine tq 5 ?_;refine tq 6 ?_;refine tq 7 ?_;try simp only[tz]
   refine tn 8 fun K hK=>?_;go_simp;apply(jH ν P M (.slice σ τ Ad)).mono;rintro e As⟨rfl,o⟩;have D:=zh (aC B o);have f:=aE D.out G;have g:=aE D.out H;have i:=aE D.out I;have v:=aE D.out J;have z:=aE D.out L;have δ:=aE D.out Q;have ε:=aE D.out R;have ζ:=aE D.out S;rw[j.out];clear o;refine hK.out _ _ (⟨f,g,i,v,z,δ,ε,ζ⟩) ?_;clear hK K E;intro E;try simp only[tz]
   refine tq 9 ?_;refine tq 10 ?_;refine tq 11 ?_;refine tq 12 ?_;refine tq 13 ?_;try simp only[tz]
   refine tu 14 ?_;try simp only[tz]
   refine tu 15 ?_;try simp only[tz]
   refine tu 16 ?_;try simp only[tz]
   refine tu 17 ?_;try simp only[tz]
   refine tu 18 ?_;try simp only[tz]
   refine tn 19 fun K hK=>?_;go_simp;refine hK.out _ _ E fun _=>?_;try simp only[tz]
   refine tu 20 ?_;try simp only[tz]
   refine tq 21 ?_;refine tq 22 ?_;try simp only[tz]
   refine tu 23 ?_;try simp only[tz]
   refine tu 24 ?_;try simp only[tz]
   refine tu 25 ?_;try simp only[tz]
   refine tn 26 fun K hK=>?_;go_simp;refine hK.out _ _ E fun _=>?_;refine tw ?_;try simp only[tz]
   clear E;clear G H I J L Q R S X Y Z a d r s t f g i v z δ ε ζ;go_wp2;go_ret;exact⟨rfl,aC V D⟩
  .have Fk:¬(12:Int)<(N:Int):=om;by_cases φ:lN (aF P M) M C perm sc fr
   .have Ep:=zh φ;refine th 27 G H I J L Q R S fun E=>?_;refine tq 0 ?_;try simp only[tz]
    refine tn 1 fun K hK=>?_;go_simp;apply(ξ _ (aC V (aI w2))).mono;rintro e ν⟨rfl,W⟩;have B:=zh (aC (aI w2) W);have X:=aE B.out G;have Y:=aE B.out H;have Z:=aE B.out I;have a:=aE B.out J;have d:=aE B.out L;have r:=aE B.out Q;have s:=aE B.out R;have t:=aE B.out S;clear W;refine hK.out _ _ (⟨X,Y,Z,a,d,r,s,t⟩) ?_;clear hK K E;intro E;try simp only[tz]
    refine tq 2 ?_;refine tq 3 ?_;refine tq 4 ?_;refine tq 5 ?_;refine tq 6 ?_;refine tq 7 ?_;try simp only[tz]
    refine tn 8 fun K hK=>?_;go_simp;apply(jH ν P M (.slice σ τ Ad)).mono;rintro e As⟨rfl,o⟩;have D:=zh (aC B o);have f:=aE D.out G;have g:=aE D.out H;have i:=aE D.out I;have v:=aE D.out J;have z:=aE D.out L;have δ:=aE D.out Q;have ε:=aE D.out R;have ζ:=aE D.out S;rw[j.out];clear o;refine hK.out _ _ (⟨f,g,i,v,z,δ,ε,ζ⟩) ?_;clear hK K E;intro E;try simp only[tz]
    refine tq 9 ?_;refine tq 10 ?_;refine tq 11 ?_;refine tq 12 ?_;refine tq 13 ?_;refine tq 14 ?_;refine tq 15 ?_;refine tq 16 ?_;refine tq 17 ?_;refine tq 18 ?_;try simp only[tz]
    refine tn 19 fun K hK=>?_;go_simp;apply(Aw.out As (aC V D)).mono;rintro e At⟨Bg,rfl,Ab,ψ⟩;have F:=zh (aC D ψ);have Ae:=aE F.out G;have Af:=aE F.out H;have Ag:=aE F.out I;have Ah:=aE F.out J;have Ai:=aE F.out L;have Aj:=aE F.out Q;have Ak:=aE F.out R;have Al:=aE F.out S;obtain rfl:Bg=0:=Ab.2 φ;clear Ab;clear ψ;refine hK.out _ _ (⟨Ae,Af,Ag,Ah,Ai,Aj,Ak,Al⟩) ?_;clear hK K E;intro E;try simp only[tz]
    refine tq 20 ?_;refine tq 21 ?_;refine tq 22 ?_;refine tq 23 ?_;refine tq 24 ?_;refine tq 25 ?_;try simp only[tz]
    refine tn 26 fun K hK=>?_;go_simp;refine hK.out _ _ E fun _=>?_;refine tw ?_;try simp only[tz]
    clear E;clear G H I J L Q R S X Y Z a d r s t f g i v z δ ε ζ B D;by_cases Ds:fr=0
    .subst Ds;have Am:=zh φ;have Cl:=zh (fun(w':Wo) (T:Below w w w')=>PY w' P M C q _ _ Mq gen (π.below T zr) (Ax.below T zr) Co j Br Dt (oA Am.fr) (oA θ.out) (oB Cf.kn ρ.out));have Er:=zh (fun(w':Wo) (T:Below w w w')=>L0 w' C q P M _ _ _ Mq perm sc (π.below T zr) Ck ρ.1 (oA ρ.out) j Br Dt (Az.below T zr) (Ba.below T zr) Am (oA θ.out));have Bu:=zh (fun(w':Wo) (T:Below w w w')=>QW w' P M C _ _ _ _ Mq perm sc gen (π.below T zr) (Ax.below T zr) Co (Az.below T zr) (Ba.below T zr) Am (oB Cf.kn ρ.out));have Av:=zh (aC V F);have Cu:Hid (Blk At t2 27 [(P:aV),(M:aV),.slice σ τ Ad,(C:aV),.slice Bt gl Dh]):=aG (Bb.belowS F);have Cx:Hid (Blk At t3 29 [.slice De pl Dy,.slice Df Ea Dz,.int .i64 0]):=aG (Bc.belowS F);clear Bb Bc F V ξ Aw;have κ:(aD P M Mq).Fld (q:Int):=(by have:=dR Ck.out;rwa[j.out] at this)
     have An:Rows (q:Int) C gen:=(by have:=Es.out;rwa[j.out,aZ8] at this)
     have Ao:dA (q:Int) C perm sc:=(by have:=Am.whole;rwa[j.out] at this)
     have Ek:Hid (sT (aD P M Mq) q C gen (ofL (aD P M Mq) q C perm sc)↔bC (aD P M Mq) (gen.map (fY (aD P M Mq) C perm sc)) C=gen):=aG ((VG κ Br Ao).trans ⟨fun h=>(E3 κ An (by have:=Ci.out;rwa[aZ8] at this)).2 h.2,fun h=>⟨Ao,(E3 κ An (by have:=Ci.out;rwa[aZ8] at this)).1 h⟩⟩);have Ay:Hid (IsP N (ofL (aD P M Mq) q C perm sc)):=aG (θ.out▸IF κ Ao);have El:Hid (lQ N (sT (aD P M Mq) q C gen)):=aG (θ.out▸BW κ An);have Cp:Hid (1<=N/\N<=64):=aG ⟨by rw[θ.out];exact Nat.mul_pos ρ.1 om,om⟩;clear κ An Ao;go_wp2_with fail;apply(Cl.out At Av).mono;rintro e Eb⟨Ap,Fc⟩;have Bw:=zh (aC Av Ap);have Cv:=zh (Cu.belowS Ap);have Cy:=zh (Cx.belowS Ap);clear Ap Ae Af Ag Ah Ai Aj Ak Al Cu Cx Av Cl;rcases Fc with rfl|⟨Dd,LL,Dx,ls,rfl,Dq,Bm⟩
     .go_wp2;go_ret;exact⟨rfl,aC Bw (aH Eb _)⟩
     .rw[<-θ.out] at Bm|-;have Ce:=zh Dq;have Ei:=zh Bm;clear Dq Bm;go_upto_region 6 with fail;obtain⟨Fr,t5,k,m,Dj,ω⟩:=aR Eb 37 [(N:aV),.slice Dd LL Dx];rw[k,m];have Bx:=zh (aC Bw ω);have Bd:=zh (Cv.belowS ω);have Bf:=zh (Cy.belowS ω);have Cc:=zh (Ce.on ω);have Db:=zh Dj;clear k m Dj ω Cv Cy Ce;obtain⟨G,H,I,J,L,_,_,_,_,_⟩:=Bd.five;obtain⟨Q,R,S⟩:=Bf.monB;go_wp2_with fail;apply(Er.out Fr Bx).mono;rintro e Ec⟨u,rfl,Bp,μ⟩;have Eg:=zh (aC Bx μ);have Cw:=zh (Bd.belowS μ);have Cz:=zh (Bf.belowS μ);have Cd:=zh (Cc.on μ);have Dc:=zh (Db.belowS μ);have Cq:Hid (SI Ec u (ofL (aD P M Mq) q C perm sc)):=aG (Bp.si (by rw[Ay.out.len];omega) (Ay.i64 om));obtain⟨Ex,Ey,Fo,rfl⟩:∃(A:OA) (l c:Nat),u=.slice A l c:=(by obtain⟨x,y,e⟩:=Bp.form';exact⟨_,_,_,e⟩)
      clear Bp μ G H I J L Q R S Bd Bf Cc Db;obtain⟨Fs,Ft,_,_⟩:=Dc.two;have Cm:=zh (en Ec N (.slice Dd LL Dx) (.slice Ex Ey Fo) ls _ _ Cd Ei El Cp.1 Cp.2 Cq Ay);go_wp2_with fail;apply Cm.mono;rintro e w9⟨b,rfl,T,Aq⟩;have Cb:=zh (T.trans Ek);have Bz:=zh (aC Eg Aq);have Be:=zh (Cw.belowS Aq);have Da:=zh (Cz.belowS Aq);clear T Aq Fs Ft Cw Cz Cd Dc Cq Cm;obtain⟨G,H,I,J,L,_,_,_,_,_⟩:=Be.five;obtain⟨Q,R,S⟩:=Da.monB;go_wp2_with fail;apply(Bu.out w9 Bz).mono;rintro e Fp⟨Fl,gu,rfl,Du,Bk⟩;obtain⟨Bo,Bn⟩:=Du.out;have Eo:=zh Bo;have Em:=zh Bn;obtain⟨Ev,Ew,Fm,rfl⟩:∃(A:OA) (l c:Nat),Fl=.slice A l c:=(by obtain⟨x,y,e,_⟩:=Bo;exact⟨_,_,_,e⟩)
      obtain⟨Ed,En,Dp,rfl⟩:∃(A:OA) (l c:Nat),gu=.slice A l c:=(by obtain⟨x,y,e,_⟩:=Bn;exact⟨_,_,_,e⟩)
      have Ee:=zh (aC Bz Bk);have Cr:=zh (Be.belowS Bk);clear Du Bo Bn Bk G H I J L Q R S Be Da Bu;go_upto_region 11 with fail;obtain⟨Fq,Gi,k,m,Di,χ⟩:=aR Fp 27 [(P:aV),(M:aV),.slice Ev Ew Fm,(C:aV),.slice Ed En Dp];rw[k,m];have Au:=zh (aC Ee χ);have Eu:=zh (Cr.belowS χ);have Ej:=zh Di;have Et:=zh (NN Fq P M C _ _ _ _ Mq _ gen (Eo.below χ zr) (π.below Au zr) (Em.below χ zr) (Ax.below Au zr));clear k m Di χ Cr;obtain⟨G,H,I,J,L,_,_,_,_,_⟩:=Eu.five;obtain⟨Q,R,S,Ez,Fa,_,_,_,_,_⟩:=Ej.five;have Do:b=decide (bC (aD P M Mq) (gen.map (fY (aD P M Mq) C perm sc)) C=gen):=(by
       by_cases h:bC (aD P M Mq) (gen.map (fY (aD P M Mq) C perm sc)) C=gen
       .rw[Cb.out.2 h,dE h]
       .rw[dG h];cases b
        .rfl
        .exact aB (Cb.1 rfl) h)
      have Eh:=zh Do;clear Do;generalize decide (bC (aD P M Mq) (gen.map (fY (aD P M Mq) C perm sc)) C=gen)=sb at*;obtain rfl:b=sb:=Eh.out;have Fx:(b==b)=true:=sM;go_wp2_with fail;apply Et.mono;rintro e Gj⟨rfl,Dn⟩;have Ef:=zh (aC Au Dn);clear Dn G H I J L Q R S Ez Fa;go_wp2;go_ret;exact⟨rfl,Ef.out⟩
    .have Fz:(fr !=0)=true:=eC.2 Ds;go_wp2;go_ret;exact⟨rfl,aC V F⟩
   .have Ep:=zh φ;refine th 27 G H I J L Q R S fun E=>?_;refine tq 0 ?_;try simp only[tz]
    refine tn 1 fun K hK=>?_;go_simp;apply(ξ _ (aC V (aI w2))).mono;rintro e ν⟨rfl,W⟩;have B:=zh (aC (aI w2) W);have X:=aE B.out G;have Y:=aE B.out H;have Z:=aE B.out I;have a:=aE B.out J;have d:=aE B.out L;have r:=aE B.out Q;have s:=aE B.out R;have t:=aE B.out S;clear W;refine hK.out _ _ (⟨X,Y,Z,a,d,r,s,t⟩) ?_;clear hK K E;intro E;try simp only[tz]
    refine tq 2 ?_;refine tq 3 ?_;refine tq 4 ?_;refine tq 5 ?_;refine tq 6 ?_;refine tq 7 ?_;try simp only[tz]
    refine tn 8 fun K hK=>?_;go_simp;apply(jH ν P M (.slice σ τ Ad)).mono;rintro e As⟨rfl,o⟩;have D:=zh (aC B o);have f:=aE D.out G;have g:=aE D.out H;have i:=aE D.out I;have v:=aE D.out J;have z:=aE D.out L;have δ:=aE D.out Q;have ε:=aE D.out R;have ζ:=aE D.out S;rw[j.out];clear o;refine hK.out _ _ (⟨f,g,i,v,z,δ,ε,ζ⟩) ?_;clear hK K E;intro E;try simp only[tz]
    refine tq 9 ?_;refine tq 10 ?_;refine tq 11 ?_;refine tq 12 ?_;refine tq 13 ?_;refine tq 14 ?_;refine tq 15 ?_;refine tq 16 ?_;refine tq 17 ?_;refine tq 18 ?_;try simp only[tz]
    refine tn 19 fun K hK=>?_;go_simp;apply(Aw.out As (aC V D)).mono;rintro e At⟨Bg,rfl,Ab,ψ⟩;have F:=zh (aC D ψ);have Ae:=aE F.out G;have Af:=aE F.out H;have Ag:=aE F.out I;have Ah:=aE F.out J;have Ai:=aE F.out L;have Aj:=aE F.out Q;have Ak:=aE F.out R;have Al:=aE F.out S;have Fy:(Bg !=0)=true:=eC.2 (fun e=>φ (Ab.1 e));clear Ab;clear ψ;refine hK.out _ _ (⟨Ae,Af,Ag,Ah,Ai,Aj,Ak,Al⟩) ?_;clear hK K E;intro E;try simp only[tz]
    refine tq 20 ?_;refine tq 21 ?_;refine tq 22 ?_;try simp only[tz]
    refine tu 23 ?_;try simp only[tz]
    refine tu 24 ?_;try simp only[tz]
    refine tu 25 ?_;try simp only[tz]
    refine tn 26 fun K hK=>?_;go_simp;refine hK.out _ _ E fun _=>?_;refine tw ?_;try simp only[tz]
    clear E;clear G H I J L Q R S X Y Z a d r s t f g i v z δ ε ζ Ae Af Ag Ah Ai Aj Ak Al;go_wp2;go_ret;exact⟨rfl,aC V F⟩
 .obtain rfl:b=false:=(by cases b;rfl;exact aB (Ca.1 rfl) Bh)
  refine th 27 G H I J L Q R S fun E=>?_;refine tq 0 ?_;try simp only[tz]
  refine tn 1 fun K hK=>?_;go_simp;apply(ξ _ (aC V (aI w2))).mono;rintro e ν⟨rfl,W⟩;have B:=zh (aC (aI w2) W);have X:=aE B.out G;have Y:=aE B.out H;have Z:=aE B.out I;have a:=aE B.out J;have d:=aE B.out L;have f:=aE B.out Q;have g:=aE B.out R;have i:=aE B.out S;clear W;refine hK.out _ _ (⟨X,Y,Z,a,d,f,g,i⟩) ?_;clear hK K E;intro E;try simp only[tz]
  refine tq 2 ?_;refine tq 3 ?_;try simp only[tz]
  refine tu 4 ?_;try simp only[tz]
  refine tu 5 ?_;try simp only[tz]
  refine tu 6 ?_;try simp only[tz]
  refine tu 7 ?_;try simp only[tz]
  refine tn 8 fun K hK=>?_;go_simp;refine hK.out _ _ E fun _=>?_;try simp only[tz]
  refine tu 9 ?_;try simp only[tz]
  refine tu 10 ?_;try simp only[tz]
  refine tu 11 ?_;try simp only[tz]
  refine tq 12 ?_;refine tq 13 ?_;try simp only[tz]
  refine tu 14 ?_;try simp only[tz]
  refine tu 15 ?_;try simp only[tz]
  refine tu 16 ?_;try simp only[tz]
  refine tu 17 ?_;try simp only[tz]
  refine tu 18 ?_;try simp only[tz]
  refine tn 19 fun K hK=>?_;go_simp;refine hK.out _ _ E fun _=>?_;try simp only[tz]
  refine tu 20 ?_;try simp only[tz]
  refine tq 21 ?_;refine tq 22 ?_;try simp only[tz]
  refine tu 23 ?_;try simp only[tz]
  refine tu 24 ?_;try simp only[tz]
  refine tu 25 ?_;try simp only[tz]
  refine tn 26 fun K hK=>?_;go_simp;refine hK.out _ _ E fun _=>?_;refine tw ?_;try simp only[tz]
  clear E;clear G H I J L Q R S X Y Z a d f g i;go_wp2;go_ret;exact⟨rfl,aC V B⟩
theorem lz(w:Wo){v u:Va}(h:∃P M mv Mq n gv gen,v=.agg #[.int .i64 P,.int .i64 M,mv,.int .i64 n,gv]/\I64 n/\SI w mv Mq/\SS w gv gen)(k:∃pv perm sv sc fr,u=.agg #[pv,sv,.int .i64 fr]/\I64 fr/\SI w pv perm/\SI w sv sc):Calls prog 3 #[v,u] w (nX w true):=by obtain⟨P,M,mv,Mq,n,gv,gen,rfl,hn,C,B⟩:=h;obtain⟨pv,perm,sv,sc,fr,rfl,A,D,E⟩:=k;exact ZI w P M n fr mv gv pv sv Mq perm sc gen C B hn D E A
