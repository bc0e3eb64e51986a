/- Parts. -/
import Derived.Test.YtnpfliklhbkonaaGreatDoorZA45
import Derived.Test.YtnpfliklhbkonaaGreatDoorZA46
set_option maxRecDepth 99999
set_option maxHeartbeats 0
set_option linter.unusedVariables false
namespace Go.Proofs.YtnpfliklhbkonaaGreatDoor
open Go.Proofs.Tryz
section
open Go.RowKit
theorem RJ(w:Wo)(P M:Int)(n:Nat)(mv gv tv sv:Va)(Mq tl sc:LI)(gen:LL)(L:SI w mv Mq)(ζ:SS w gv gen)(ε:fE P M Mq (n:Int) gen=0)(θ:SI w tv tl)(η:SI w sv sc)(N:nC (aF P M) n tl sc):
 Calls prog 93 #[.agg #[P,M,mv,n,gv],.agg #[P,M,mv,n,gv],.agg #[tv,sv]] w (fun e w'=>∃(wA:Wo) (sb a:Nat),e=.returned (.tuple #[.pointer sb,z0])/\GF wA a P M Mq/\Below w w wA/\wA.heap.size<=sb/\kX w' sb a P M mv n gv 0/\Below wA wA w'):=by
 obtain⟨Ag,hn1,Bj,Bh,Bc,Bg⟩:=fP ε;have m:=zh (fun(w':Wo) (B:Below w w w')=>kG w' P M n mv gv Mq gen (L.below B zr) (ζ.below B zr));rw[ε] at m;have Aw:=zh (fun(w':Wo) (B:Below w w w')=>RN w' P M P M mv mv Mq Mq (L.below B zr) (L.below B zr));have At:=zh (fun(w':Wo) (B:Below w w w')=>JP w' tv tl (n:Int) (θ.below B zr));have Aq:=zh (fun(w':Wo) (B:Below w w w') (a:Nat) (k:GF w' a P M Mq)=>JO w' a P M Mq sv sc k (η.below B zr));have Au:=zh (fun(w':Wo) (B:Below w w w')=>oO w' P M mv Mq (L.below B zr) Ag);have As:Hid (PX (n:Int) tl):=aG ⟨N.rng,N.inj⟩;have Ap:Hid (PW (aF P M) sc):=aG N.nz;have Av:Hid (pL P M Mq P M Mq=true):=aG (by simp[pL]);obtain⟨b,gl,j,rfl⟩:∃(A:OA) (l c:Nat),gv=.slice A l c:=(by obtain⟨x,y,e,_⟩:=ζ;exact⟨_,_,_,e⟩)
 obtain⟨D,E,O,rfl⟩:∃(D:OA) (E O:Nat),mv=.slice D E O:=(by obtain⟨x,y,e,_⟩:=L;exact⟨_,_,_,e⟩)
 obtain⟨Bb,F,tc,Be,Ai⟩:∃(A:OA) (l c:Nat),tv=.slice A l c/\l=tl:=(by obtain⟨x,y,e,_⟩:=θ;exact⟨_,_,_,e,rfl⟩)
 obtain⟨Az,Ba,Bl,Bd,Ah⟩:∃(A:OA) (l c:Nat),sv=.slice A l c/\l=sc:=(by obtain⟨x,y,e,_⟩:=η;exact⟨_,_,_,e,rfl⟩)
 obtain rfl:F=Ba:=by rw[Ai,Ah,N.len]
 have Bq:¬(n:Int)<(F:Int):=by have:=N.le;omega
 subst Be Bd;clear L ζ ε θ η N Ag hn1 Bj Bh Bc Bg Ai Ah;go_enter func93,ntmps93;go_upto_region 1 with fail;obtain⟨w1,t3,Bm,t5,i,Q,Ae,Af,Ak,Al,Am,Aj⟩:=G9 w 27 27 105 [(P:aV),(M:aV),.slice D E O,(n:aV),.slice b gl j] [(P:aV),(M:aV),.slice D E O,(n:aV),.slice b gl j] [.slice Bb F tc,.slice Az F Bl];rw[i,Af,Ae,Q];have κ:=zh Aj;have o:=zh Ak;have χ:=zh Al;have Aa:=zh Am;clear i Q Ae Af Ak Al Am Aj;obtain⟨G,H,I,C,J,_,_,_,_,_⟩:=o.five;go_wp2_with fail;apply(m.out w1 κ).mono;rintro e w2⟨rfl,R⟩;have μ:=zh (aC κ R);have τ:=zh (o.belowS R);have s:=zh (χ.belowS R);have Ab:=zh (Aa.belowS R);clear R G H I C J o χ Aa;obtain⟨G,H,I,C,J,_,_,_,_,_⟩:=s.five;go_wp2_with fail;apply(m.out w2 μ).mono;rintro e Bn⟨rfl,S⟩;have ν:=zh (aC μ S);have p:=zh (τ.belowS S);have t:=zh (s.belowS S);have v:=zh (Ab.belowS S);clear S G H I C J τ s Ab;obtain⟨G,H,I,C,J,_,_,_,_,_⟩:=t.five;obtain⟨d,f,g,K,h,_,_,_,_,_⟩:=p.five;obtain⟨Y,Z,_,_⟩:=v.two;go_wp2_with fail;apply(Aw.out Bn ν).mono;rw[Av.out];rintro e ι⟨rfl,T⟩;have ξ:=zh (aC ν T);have q:=zh (p.belowS T);have u:=zh (t.belowS T);have z:=zh (v.belowS T);clear T G H I C J d f g K h Y Z p t v;have C:ι.cell? (Bm 3 none)=some (n:aV):=u.cell 3;have K:ι.cell? (t3 3 none)=some (n:aV):=q.cell 3;obtain⟨Y,Z,_,_⟩:=z.two;have Bk:((n:Int) !=(n:Int))=false:=sM
 have Bi:((F:Int) !=(F:Int))=false:=sM;go_wp2_with fail;apply(At.out ι ξ).mono;rintro e Bo⟨δ,rfl,X,U⟩;obtain rfl:δ=0:=X.2 As.out;have π:=zh (aC ξ U);have r:=zh (q.belowS U);have ψ:=zh (u.belowS U);have Ac:=zh (z.belowS U);clear U X C K Y Z Bk Bi q u z;obtain⟨d,f,g,K,h,_,_,_,_,_⟩:=r.five;go_wp2_with fail;apply(Au.out Bo π).mono;rintro e Bp⟨a,rfl,k,V⟩;have ρ:=zh (aC π V);have φ:=zh (r.belowS V);have ω:=zh (ψ.belowS V);have Ad:=zh (Ac.belowS V);have σ:=zh k.out;clear V k d f g K h r ψ Ac;obtain⟨Y,Z,_,_⟩:=Ad.two;go_wp2_with fail;apply(Aq.out Bp ρ.out a σ).mono;rintro e An⟨δ,rfl,X,W⟩;obtain rfl:δ=0:=X.2 Ap.out;have Ao:=zh (aC ρ W);have Ax:=zh (φ.belowS W);have Ay:=zh (ω.belowS W);have Ar:=zh (σ.on W);clear W X Y Z φ ω Ad;obtain⟨G,H,I,C,J,_,_,_,_,_⟩:=Ay.five;obtain⟨d,f,g,K,h,_,_,_,_,_⟩:=Ax.five;go_wp2_with fail;obtain⟨Br,sb,i,Q,B,Bf⟩:=aR An 229 [.pointer a,(P:aV),(M:aV),.slice D E O,(n:aV),.slice b gl j,(P:aV),(M:aV),.slice D E O,(n:aV),.slice b gl j,.int .i64 0];rw[i,Q];go_ret2;exact⟨An,sb,a,rfl,Ar.out,Ao.out,Nat.le_of_eq Q,B,Bf⟩
theorem bz(w:Wo)(ta tb tc td:TypeId)(A cb B C:List Va):∃w' g h k m,(((w.alloc (.cells A.toArray ta)).alloc (.cells cb.toArray tb)).alloc (.cells B.toArray tc)).alloc (.cells C.toArray td)=w'/\w.heap.size=g/\w.heap.size+1=h/\w.heap.size+1+1=k/\w.heap.size+1+1+1=m/\Blk w' g ta A/\Blk w' h tb cb/\Blk w' k tc B/\Blk w' m td C/\Below w w w':=by
 obtain⟨D,g,h,k,E,G,H,I,J,K,L,M⟩:=G9 w ta tb tc A cb B;have F:=Blk.new D td C;have N:D.heap.size=w.heap.size+1+1+1:=by rw[<-E,World.size_alloc,World.size_alloc,World.size_alloc]
 rw[E];rw[N] at F;exact⟨_,_,_,_,_,rfl,G,H,I,rfl,J.alloc _,K.alloc _,L.alloc _,F,aC M (aH D _)⟩
def ik(w:Wo)(P M:Int)(Mq:LI)(n:Nat)(gen:LL)(tl sc:LI)(e:Ending)(w':Wo):Prop:=
 ∃(B:Int) (A:OA) (l c:Nat) (C:OA) (l' c':Nat),e=.returned (.tuple #[.agg #[.slice A l c,.slice C l' c',z0],B])/\Below w w w'/\
  (B=8\/(B=0/\∃D ls,vO (aD P M Mq) (aF P M) n gen tl sc D ls/\OI w w' (.slice A l c) D/\OI w w' (.slice C l' c') ls)\/(B=11/\NoX (aD P M Mq) (aF P M) n gen tl sc))
theorem V9(w:Wo)(P M:Int)(n q:Nat)(mv gv tv sv:Va)(Mq tl sc:LI)(gen:LL)(Ao:SI w mv Mq)(ε:SS w gv gen)(Ak:fE P M Mq (n:Int) gen=0)(hq:aF P M=(q:Int))(Ds:q<=256)(Do:gen.length<=64)(ι:SI w tv tl)(θ:SI w sv sc)(Z:0<sc.length)(Ar:nC (aF P M) n tl sc):
 Calls prog 46 #[.agg #[P,M,mv,n,gv],.agg #[P,M,mv,n,gv],.agg #[tv,sv]] w (ik w P M Mq n gen tl sc):=by
 obtain⟨Cb,hn1,Dq,Dp,Al,Dn⟩:=fP Ak;have hO:=dR Cb;rw[aZ8] at Al;have Bl:=zh (fun(w':Wo) (D:Below w w w')=>RJ w' P M n mv gv tv sv Mq tl sc gen (Ao.below D zr) (ε.below D zr) Ak (ι.below D zr) (θ.below D zr) Ar);have Bk:=zh (fun(wA:Wo) (sb I a:Nat) (D:Below w w wA) (r:GF wA a P M Mq) (ζ:wA<=sb/\wA.heap.size<=I) (Dr:sb≠I)=>CN wA sb I a q P M Mq mv n gv gen ⟨r,ε.below D zr,hO,Al,om,Do,ζ,Dr⟩ hq Ds n);have Bn:=zh ι;have Bm:=zh θ;have Bh:=zh Ar;have Cu:=zh Z;obtain⟨ρ,gl,Aj,rfl⟩:∃(A:OA) (l c:Nat),gv=.slice A l c:=(by obtain⟨x,y,e,_⟩:=ε;exact⟨_,_,_,e⟩)
 obtain⟨X,Y,d,rfl⟩:∃(X:OA) (Y d:Nat),mv=.slice X Y d:=(by obtain⟨x,y,e,_⟩:=Ao;exact⟨_,_,_,e⟩)
 obtain⟨Ae,Af,tc,rfl⟩:∃(A:OA) (l c:Nat),tv=.slice A l c:=(by obtain⟨x,y,e,_⟩:=ι;exact⟨_,_,_,e⟩)
 obtain⟨Ac,Ad,Ax,rfl⟩:∃(A:OA) (l c:Nat),sv=.slice A l c:=(by obtain⟨x,y,e,_⟩:=θ;exact⟨_,_,_,e⟩)
 clear Ao ε Ak ι θ Ar Cb hn1 Dq Dp Al Dn hO Z;go_enter func46,ntmps46;go_upto_region 1 with fail;obtain⟨w1,t3,Ef,t5,Ay,J,C,Bw,Bx,Bz,Cj,Ck,Cl,Cm,Cd⟩:=bz w 27 27 105 29 [(P:aV),(M:aV),.slice X Y d,(n:aV),.slice ρ gl Aj] [(P:aV),(M:aV),.slice X Y d,(n:aV),.slice ρ gl Aj] [.slice Ae Af tc,.slice Ac Ad Ax] [.slice none 0 0,.slice none 0 0,.int .i64 0];rw[J,Bz,Bx,Bw,C];have Ba:=zh Cd;have Bo:=zh Cj;have Bp:=zh Ck;have i:=zh Cl;have Ab:=zh Cm;have Aa:Hid (w<=Ay):=aG om;clear J C Bw Bx Bz Cj Ck Cl Cm Cd;obtain⟨c0,c1,c2,De,Df,_,_,_,_,_⟩:=Bo.five;obtain⟨Dg,Dh,Di,Dj,Dk,_,_,_,_,_⟩:=Bp.five;obtain⟨Au,Av,_,_⟩:=i.two;go_wp2_with fail;apply(Bl.out w1 Ba).mono;rintro e w2⟨wA,sb,a,rfl,r,b,ζ,Ci,δ⟩;have R:Hid (Below w w wA):=aG (aC Ba b);have Bb:Hid (Below w w w2):=aG (R.trans (δ.mono R.size));have An:Below w1 w1 w2:=b.trans (δ.mono b.size);have Bq:=zh (i.belowS An);have Bs:=zh (Ab.belowS An);have Cy:=zh r;have W:=zh ζ;have ψ:=zh Ci;have τ:=zh δ;have ω:Hid (t5<wA/\Ay<wA):=aG (by have:=i.lt;have:=Ab.lt;have:=b.size;omega);clear r b ζ Ci δ An c0 c1 c2 De Df Dg Dh Di Dj Dk Au Av Bo Bp i Ab;go_upto_region 5 with fail;obtain⟨π,I,J,C,D,U⟩:=aR w2 105 [.slice none 0 0,.slice none 0 0];rw[J,C];have T:Hid (sb<I/\wA.heap.size<=I):=aG (oB ψ.lt W.out);have Br:=zh (Bq.belowS U);have Bt:=zh (Bs.belowS U);have Bi:Hid (kX π sb a P M (.slice X Y d) n (.slice ρ gl Aj) 0):=aG (ψ.belowS U);have Bv:=zh D;have σ:=zh (aC Bb U);have h:Hid (Below wA wA π):=aG (τ.trans (U.mono τ.size));have Bj:Hid (PV sb I π (.slice Ae Af tc) (.slice Ac Ad Ax) tl sc):=aG (by have Co:=R.size;have Eb:=W.out;have Ec:=T.out;have Z:=Cu.out;have Ee:=Bh.len;exact⟨Bn.below σ zr,Bm.below σ zr,om,Z,fun g L=>oA (Bn.lt om L),fun g L=>oA (Bm.lt Z L)⟩)
 have φ:=zh (Bk wA sb I a R Cy ⟨W.out,T.2⟩ (oA T.out) π tl sc (.slice Ae Af tc) (.slice Ac Ad Ax) (():aV) (():aV) 0 om Bh Bj h Bi om Bv);unfold qP at φ;clear J C D U Bq Bs ψ Bb τ;obtain⟨Au,Av,_,_⟩:=Br.two;go_wp2_with fail;apply φ.mono;rintro e E⟨Ea,seen',Dw,Dv,rfl,N,O,Ct,Aw,Dx⟩;have G:Hid (Blk E Ay 29 [.slice none 0 0,.slice none 0 0,.int .i64 0]):=aG (Bt.two_ Aw (oB ω.out W.out) (oB ω.out T.out));have Cx:Hid (Below wA wA E):=aG (Aw.below h W (oA h.size) fun g e=>by injection e with e;subst e;exact T.2);have F:Hid (Below w w E):=aG (R.trans (Cx.mono R.size));have Bc:=zh Ct;clear N O Ct Aw Au Av Br Bt Bi Bv φ Bl Bk h Bj σ;rcases Dx with rfl|⟨rfl,lt,ls,Cc,η⟩|⟨rfl,Cf⟩
 .obtain⟨_,_,_,Ag,Ah,Ai⟩:=G.three;go_wp2_with fail;obtain⟨Az,p,B⟩:=vB (x:=.slice none 0 0) (y:=.slice none 0 0) (z:=.int .i64 0) G.out;rw[p];have f:=B.c0;have N:=B.c1;have O:=B.c2;refine bodyPost_ret (v:=.tuple #[.agg #[(),(),z0],.int .i64 8]) (by simp[results,results46,go_sem,f,N,O]) rfl ?_;exact⟨8,_,_,_,_,_,_,rfl,B.below F F.size Aa,.inl rfl⟩
 .have Cv:=zh Cc;have Bg:=zh η;obtain⟨Dd,LL,Du,rfl⟩:∃(A:OA) (l c:Nat),Dw=.slice A l c:=(by obtain⟨x,y,e,_⟩:=η.t;exact⟨_,_,_,e⟩)
  obtain⟨Db,Dc,Dt,rfl⟩:∃(A:OA) (l c:Nat),Dv=.slice A l c:=(by obtain⟨x,y,e,_⟩:=η.s;exact⟨_,_,_,e⟩)
  clear Cc η;obtain⟨κ,μ,_,_⟩:=Bc.two;have Dz:=zh (G.belowS (aI E));go_upto_region 9 with fail;refine tb 9 κ μ fun H=>?_;refine tq 0 ?_;refine tq 1 ?_;refine tq 3 ?_;refine tq 4 ?_;try simp only[tz]
  refine tn 2 fun K hK=>?_;go_simp;apply(iH E.drew (.slice Dd LL Du) lt (Bg.t.below (aI E) zr)).mono;rintro e Az⟨u,rfl,Ap,Ce⟩;have V:=zh (aC (aI E) Ce);have Da:=zh Ap;obtain⟨j,k,ν,rfl⟩:∃(j:OA) (k ν:Nat),u=.slice j k ν:=(by obtain⟨x,y,e⟩:=Ap.form';exact⟨_,_,_,e⟩);have Cp:=aE V.out κ;have Cq:=aE V.out μ;clear Ap Ce;refine hK.out _ _ (⟨Cp,Cq⟩) ?_;clear hK K H;intro H;try simp only[tz]
  refine tn 5 fun K hK=>?_;go_simp;apply(iH Az (.slice Db Dc Dt) ls (Bg.s.below V zr)).mono;rintro e Eg⟨v,rfl,Aq,Am⟩;have Q:=zh (aC V Am);have Bf:=zh Aq;have Be:=zh (Da.below Am zr);obtain⟨m,o,ξ,rfl⟩:∃(m:OA) (o ξ:Nat),v=.slice m o ξ:=(by obtain⟨x,y,e⟩:=Aq.form';exact⟨_,_,_,e⟩);have Cr:=aE Q.out κ;have Cs:=aE Q.out μ;have Bu:=zh (G.belowS Q);clear Aq Am;refine hK.out _ _ (⟨Cr,Cs⟩) ?_;clear hK K H;intro H;try simp only[tz]
  refine tq 6 ?_;try simp only[tz]
  refine tp 7 fun K hK=>?_;obtain⟨Dl,J,C,Ag,Ah,Ai⟩:=Bu.three;go_simp;obtain⟨Dy,Ca,χ⟩:=vB (x:=.slice j k ν) (y:=.slice m o ξ) (z:=.int .i64 0) Bu.out;rw[Ca];have S:=zh χ;have Bd:=zh ((Bc.belowS Q).grown χ.gr (fun e=>by have:=aZ0 e;have:=ω.out;have:=T.out;omega));have As:=Bd.cell 0;have At:=Bd.cell 1;simp only[eE,eF] at As At;clear Dl J C Ag Ah Ai Ca χ;refine hK.out _ _ (⟨As,At⟩) ?_;clear hK K H;intro H;try simp only[tz]
  refine tn 8 fun K hK=>?_;go_simp;refine hK.out _ _ H fun _=>?_;refine tw ?_;try simp only[tz]
  clear H;have Cw:Hid (Below w w Dy):=aG (S.below (F.trans (Q.mono F.size)) (oB F.size Q.size) Aa);have f:=S.c0;have N:=S.c1;have O:=S.c2;clear κ μ Cp Cq Cr Cs As At;go_wp2;refine bodyPost_ret (v:=.tuple #[.agg #[.slice j k ν,.slice m o ξ,z0],z0]) (by simp[results,results46,go_sem,f,N,O]) rfl ?_;have Co:=F.size;refine⟨0,_,_,_,_,_,_,rfl,Cw.out,.inr (.inl ⟨rfl,lt,ls,Cv.out,?_,?_⟩)⟩
  .refine(Be.mono Co).grown S.gr fun g L e=>?_;have:=(Be.lt L).1;have C:=aZ0 e;have:=G.lt;have Ed:E.drew.heap.size=E.heap.size:=rfl;omega
  .have p:=V.size;refine(Bf.mono om).grown S.gr fun g L e=>?_;have:=(Bf.lt L).1;have C:=aZ0 e;have:=G.lt;omega
 .have Cz:=zh Cf;clear Cf;obtain⟨_,_,_,Ag,Ah,Ai⟩:=G.three;go_wp2_with fail;obtain⟨Az,p,B⟩:=vB (x:=.slice none 0 0) (y:=.slice none 0 0) (z:=.int .i64 0) G.out;rw[p];have f:=B.c0;have N:=B.c1;have O:=B.c2;refine bodyPost_ret (v:=.tuple #[.agg #[(),(),z0],.int .i64 11]) (by simp[results,results46,go_sem,f,N,O]) rfl ?_;exact⟨11,_,_,_,_,_,_,rfl,B.below F F.size Aa,.inr (.inr ⟨rfl,Cz.out⟩)⟩
theorem infoGoal:(prog.info? 107).map (fun i=>(i.zero,i.size,i.bytes))=some (some (.agg #[z0,z0,z0,(),()]),5,72):=by kernel_rfl
structure GoP where
 i:Nat
 j:Nat
 a:Nat
instance:Inhabited GoP:=⟨⟨0,0,0⟩⟩
def GoP.pl(g:GoP):LI:=idP g.i++[(g.j:Int)]
def GoP.sc(g:GoP):LI:=List.replicate g.i 1++[(g.a:Int)]
structure GoS(n q i j a:Nat)(gl:List GoP):Prop where
 ok:∀g,g∈gl->g.i<=g.j/\g.j<n/\1<=g.a/\g.a<q
 all:∀g:GoP,g.i<=g.j->g.j<n->1<=g.a->g.a<q->(g.i<i\/(g.i=i/\(g.j<j\/(g.j=j/\g.a<a))))->g∈gl
 len:gl.length<=i*16384+j*256+a
theorem GoS.start(n q:Nat):GoS n q 0 0 0 []:=⟨fun g h=>aB h List.not_mem_nil,fun g A B C D h=>om,aZ5 _⟩
section
variable {n q i j a:Nat} {gl:List GoP}
theorem GoS.toJ(h:GoS n q i 0 0 gl):GoS n q i i 1 gl:=⟨h.ok,fun g A B C D E=>h.all g A B C D om,oA h.len⟩
theorem GoS.toA(h:GoS n q i j 0 gl):GoS n q i j 1 gl:=⟨h.ok,fun g A B C D E=>h.all g A B C D om,oA h.len⟩
theorem GoS.put(h:GoS n q i j a gl)(H:i<=j)(I:j<n)(J:1<=a)(K:a<q):GoS n q i j (a+1) (gl++[⟨i,j,a⟩]):=by
 refine⟨fun g A=>?_,fun g E F G g4 A=>?_,by have:=h.len;rw[aZ1,aZ2];omega⟩
 .rcases List.mem_append.1 A with A|A
  .exact h.ok g A
  .obtain rfl:=List.mem_singleton.1 A;exact⟨H,I,J,K⟩
 .by_cases e:g.i=i/\g.j=j/\g.a=a
  .obtain⟨gi,L,ga⟩:=g;obtain⟨B,C,D⟩:=e;dsimp only at B C D;subst B C D;exact List.mem_append_right _ (List.mem_singleton.2 rfl)
  .exact List.mem_append_left _ (h.all g E F G g4 om)
theorem GoS.endA(h:GoS n q i j q gl)(hq:q<=256):GoS n q i (j+1) 0 gl:=⟨h.ok,fun g A B C D E=>h.all g A B C D om,oA h.len⟩
theorem GoS.endJ(h:GoS n q i n 0 gl)(hn:n<=64):GoS n q (i+1) 0 0 gl:=⟨h.ok,fun g A B C D E=>h.all g A B C D om,oA h.len⟩
end
def GoR(w:Wo)(cs:List Va)(g:GoP):Prop:=∃tv sv,cs=[.int .i64 (g.i:Int),.int .i64 (g.j:Int),.int .i64 (g.a:Int),tv,sv]/\SI w tv g.pl/\SI w sv g.sc
theorem GoR.on{w w':Wo}{cs:List Va}{g:GoP}(h:GoR w cs g)(A:Below w w w'):GoR w' cs g:=by obtain⟨ov,rv,e,B,C⟩:=h;exact⟨ov,rv,e,B.below A zr,C.below A zr⟩
def GsR(w:Wo)(cs:List (List Va))(gl:List GoP):Prop:=cs.length=gl.length/\∀k,k<gl.length->GoR w (cs k []) (gl k default)
theorem GsR.on{w w':Wo}{cs:List (List Va)}{gl:List GoP}(h:GsR w cs gl)(A:Below w w w'):GsR w' cs gl:=⟨h.1,fun k hk=>(h.2 k hk).on A⟩
theorem GsR.snoc{w:Wo}{cs:List (List Va)}{gl:List GoP}(h:GsR w cs gl){c:List Va}{g:GoP}(B:GoR w c g):GsR w (cs++[c]) (gl++[g]):=by
 refine⟨by rw[aZ1,aZ1,h.1];rfl,fun k hk=>?_⟩;rw[aZ1,aZ2] at hk;by_cases e:k<gl.length
 .rw[show(cs++[c]).getD k []=cs k [] by simp[List.getD,aY2 (show k<cs.length by rw[h.1];exact e)],show(gl++[g]).getD k default=gl k default by simp[List.getD,aY2 e]];exact h.2 k e
 .have A:k=gl.length:=om;rw[A,show(gl++[g]).getD gl.length default=g by simp[List.getD],show(cs++[c]).getD gl.length []=c by rw[<-h.1];simp[List.getD]];exact B
def yN(v:Va):Nat->Prop:=fun g=>v.ownBlock≠some g
structure GoO(B:Nat)(v:Va)(cs:List (List Va))(gl:List GoP)(w:Wo):Prop where
 size:B<=w
 l:RO B 107 5 w v cs
 fin:gU (yN v) w fun w2=>GsR w2 cs gl
structure GoI(B t9 i j a:Nat)(σ:Nat->Nat)(tv sv v:Va)(pl sc:LI)(cs:List (List Va))(gl:List GoP)(w:Wo):Prop where
 size:B<=w
 lo:∀g,σ g≠0->B<=g/\g<w.heap.size
 s9:σ t9=2
 st:∀g,tv.ownBlock=some g->σ g=3
 ss:∀g,sv.ownBlock=some g->σ g=4
 sl:∀g,v.ownBlock=some g->σ g=5
 b9:Blk w t9 107 [(i:aV),(j:aV),(a:aV),tv,sv]
 t:OI B w tv pl
 s:OI B w sv sc
 l:RO B 107 5 w v cs
 fin:gU (fun g=>σ g=0) w fun w2=>GsR w2 cs gl
theorem GoO.start(w:Wo):GoO w (():aV) [] [] w:=⟨zr,RO.nil _ _ _ _,fun w2 _=>⟨rfl,fun k hk=>aB hk (aY5 _)⟩⟩
section
variable {B t9 i j a:Nat} {σ:Nat->Nat} {tv sv v tv' sv' v':Va} {pl sc pl' sc':LI} {cs:List (List Va)} {gl:List GoP} {w w' w9:Wo}
theorem GoI.on(h:GoI B t9 i j a σ tv sv v pl sc cs gl w)(A:Below w w w'):GoI B t9 i j a σ tv sv v pl sc cs gl w':=by have hk:=KX.of (X:=fun g=>σ g=0) A h.size;have D:=A.size;exact⟨aZ6 h.size D,fun g C=>⟨(h.lo g C).1,oA ((h.lo g C).2)⟩,h.s9,h.st,h.ss,h.sl,h.b9.belowS A,h.t.below A zr,h.s.below A zr,h.l.below A zr,h.fin.on hk⟩
theorem GoO.next(h:GoO B v cs gl w)(C:Below w w w')(J:w<=t9)(F:Blk w' t9 107 [(i:aV),(j:aV),(a:aV),.slice none 0 0,.slice none 0 0]):GoI B t9 i j a (fun g=>if g=t9 then 2 else if v.ownBlock=some g then 5 else 0) (():aV) (():aV) v [] [] cs gl w':=by
 have I:=F.lt;have K:=C.size;have hB:=h.size;refine⟨om,fun g A=>?_,iP rfl,fun g A=>by simp[Value.ownBlock] at A,fun g A=>by simp[Value.ownBlock] at A,fun g A=>?_,F,OI.nil _ _,OI.nil _ _,h.l.below C zr,fun w2 G=>h.fin w2 fun g A H=>?_⟩
 .by_cases e:g=t9
  .subst e;omega
  .have D:(if g=t9 then 2 else if v.ownBlock=some g then 5 else 0)≠0:=A;rw[iN e] at D;by_cases E:v.ownBlock=some g
   .have:=h.l.lt E;omega
   .rw[iN E] at D;exact aB rfl D
 .have:=(h.l.lt A).2;show(if g=t9 then 2 else if v.ownBlock=some g then 5 else 0)=5;rw[iN om,iP A]
 .refine(G g ?_ om).trans (C.block g H);show(if g=t9 then 2 else if v.ownBlock=some g then 5 else 0)=0;rw[iN om,iN A]
theorem GoI.pushT(h:GoI B t9 i j a σ tv sv v pl sc cs gl w)(K:OI B w9 tv' pl')(C:w.grownBy w9 tv.ownBlock)(D:tv'.ownBlock=tv.ownBlock\/tv'.ownBlock=some w.heap.size):GoI B t9 i j a (eW σ tv' 3) tv' sv v pl' sc cs gl (w9.setCell (t9 3 none) tv'):=by
 have T:=C.size;have S:(w9.setCell (t9 3 none) tv').heap.size=w9.heap.size:=by simp[World.setCell]
 have F:=aU w9 t9 3 tv';have I:∀{g t:Nat},σ g=t->t≠0->eW σ tv' 3 g=t:=fun e hn=>(fF D h.st (h.lo _ (by rw[e];exact hn)).2).trans e;have O:∀{g:Nat},σ g≠3->some g≠tv.ownBlock:=fun hn e=>hn (h.st _ e.symm);have L:∀{u:Va} {t:Nat},(∀g,u.ownBlock=some g->σ g=t)->t≠3->∀g,u.ownBlock=some g->tv.ownBlock≠some g:=fun E R g C e=>by have:=h.st g e;have:=E g C;omega
 have M:∀{u:Va} {t:Nat},(∀g,u.ownBlock=some g->σ g=t)->t≠2->∀g,u.ownBlock=some g->some t9≠some g:=fun E R g C e=>by injection e with e;have:=E g C;have:=h.s9;subst e;omega
 have hB:=h.size;have hk:KX B (fun g=>σ g=0) w (w9.setCell (t9 3 none) tv'):=(KX.gr C hB fun g e=>⟨(h.lo g (by rw[h.st g e];decide)).1,fun H=>by have:=h.st g e;have P:σ g=0:=H;omega⟩).trans (KX.gr F om fun g e=>by injection e with e;subst e;exact⟨(h.lo t9 (by rw[h.s9];decide)).1,fun H=>by have:=h.s9;have P:σ t9=0:=H;omega⟩);have Q:∀{Φ:Wo->Prop},gU (fun g=>σ g=0) w Φ->gU (fun g=>eW σ tv' 3 g=0) (w9.setCell (t9 3 none) tv') Φ:=fun E=>(E.more fun g G e=>(fF D h.st G).trans e).on (B:=B) ⟨hk.bel,fun g e G=>hk.box g ((fF D h.st G).symm.trans e) G⟩;refine⟨om,fun g J=>?_,I h.s9 dC,fun g A=>lM A,fun g A=>I (h.ss g A) dC,fun g A=>I (h.sl g A) dC,(h.b9.grown C (O (by rw[h.s9];decide))).set_ 3 tv',?_,(h.s.grown C (L h.ss dC)).grown F (M h.ss dC),(h.l.grown C (L h.sl dC)).grown F (M h.sl dC),Q h.fin⟩
 .rw[S];by_cases e:tv'.ownBlock=some g
  .exact K.lt e
  .have N:eW σ tv' 3 g=σ g:=by unfold eW;rw[iN e]
   rw[N] at J;have:=h.lo g J;omega
 .refine K.grown F fun g A e=>?_;injection e with e;subst e;rcases D with D|D
  .rw[D] at A;have:=h.st _ A;have:=h.s9;omega
  .rw[D] at A;injection A with A;have:=(h.lo t9 (by rw[h.s9];decide)).2;omega
theorem GoI.pushS(h:GoI B t9 i j a σ tv sv v pl sc cs gl w)(K:OI B w9 sv' sc')(C:w.grownBy w9 sv.ownBlock)(D:sv'.ownBlock=sv.ownBlock\/sv'.ownBlock=some w.heap.size):GoI B t9 i j a (eW σ sv' 4) tv sv' v pl sc' cs gl (w9.setCell (t9 4 none) sv'):=by
 have T:=C.size;have S:(w9.setCell (t9 4 none) sv').heap.size=w9.heap.size:=by simp[World.setCell]
 have F:=aU w9 t9 4 sv';have I:∀{g t:Nat},σ g=t->t≠0->eW σ sv' 4 g=t:=fun e hn=>(fF D h.ss (h.lo _ (by rw[e];exact hn)).2).trans e;have O:∀{g:Nat},σ g≠4->some g≠sv.ownBlock:=fun hn e=>hn (h.ss _ e.symm);have L:∀{u:Va} {t:Nat},(∀g,u.ownBlock=some g->σ g=t)->t≠4->∀g,u.ownBlock=some g->sv.ownBlock≠some g:=fun E R g C e=>by have:=h.ss g e;have:=E g C;omega
 have M:∀{u:Va} {t:Nat},(∀g,u.ownBlock=some g->σ g=t)->t≠2->∀g,u.ownBlock=some g->some t9≠some g:=fun E R g C e=>by injection e with e;have:=E g C;have:=h.s9;subst e;omega
 have hB:=h.size;have hk:KX B (fun g=>σ g=0) w (w9.setCell (t9 4 none) sv'):=(KX.gr C hB fun g e=>⟨(h.lo g (by rw[h.ss g e];decide)).1,fun H=>by have:=h.ss g e;have P:σ g=0:=H;omega⟩).trans (KX.gr F om fun g e=>by injection e with e;subst e;exact⟨(h.lo t9 (by rw[h.s9];decide)).1,fun H=>by have:=h.s9;have P:σ t9=0:=H;omega⟩);have Q:∀{Φ:Wo->Prop},gU (fun g=>σ g=0) w Φ->gU (fun g=>eW σ sv' 4 g=0) (w9.setCell (t9 4 none) sv') Φ:=fun E=>(E.more fun g G e=>(fF D h.ss G).trans e).on (B:=B) ⟨hk.bel,fun g e G=>hk.box g ((fF D h.ss G).symm.trans e) G⟩;refine⟨om,fun g J=>?_,I h.s9 dC,fun g A=>I (h.st g A) dC,fun g A=>lM A,fun g A=>I (h.sl g A) dC,(h.b9.grown C (O (by rw[h.s9];decide))).set_ 4 sv',(h.t.grown C (L h.st dC)).grown F (M h.st dC),?_,(h.l.grown C (L h.sl dC)).grown F (M h.sl dC),Q h.fin⟩
 .rw[S];by_cases e:sv'.ownBlock=some g
  .exact K.lt e
  .have N:eW σ sv' 4 g=σ g:=by unfold eW;rw[iN e]
   rw[N] at J;have:=h.lo g J;omega
 .refine K.grown F fun g A e=>?_;injection e with e;subst e;rcases D with D|D
  .rw[D] at A;have:=h.ss _ A;have:=h.s9;omega
  .rw[D] at A;injection A with A;have:=(h.lo t9 (by rw[h.s9];decide)).2;omega
theorem GoI.pushG(h:GoI B t9 i j a σ tv sv v pl sc cs gl w)(L:RO B 107 5 w9 v' (cs++[[(i:aV),(j:aV),(a:aV),tv,sv]]))(F:w.grownBy w9 v.ownBlock)(D:v'.ownBlock=v.ownBlock\/v'.ownBlock=some w.heap.size)(I:pl=GoP.pl ⟨i,j,a⟩)(A:sc=GoP.sc ⟨i,j,a⟩)(H:pl.length<=17592186044416/\sc.length<=17592186044416)(P:∀k,I64 (pl k 0))(O:∀k,I64 (sc k 0)):GoO B v' (cs++[[(i:aV),(j:aV),(a:aV),tv,sv]]) (gl++[⟨i,j,a⟩]) w9:=by
 have V:=F.size;have hB:=h.size;have E:∀g,g<w.heap.size->σ g≠5->yN v' g/\yN v g:=fun g G T=>by
  have A:yN v g:=fun e=>T (h.sl g e);refine⟨fun e=>?_,A⟩;rcases D with D|D
  .rw[D] at e;exact A e
  .rw[D] at e;injection e with e;omega
 have key:gU (fun g=>yN v' g/\yN v g) w fun w2=>GsR w2 cs gl/\SI w2 tv pl/\SI w2 sv sc:=by have M:gU (fun g=>yN v' g/\yN v g) w fun w2=>SI w2 tv pl:=fun w2 A=>(h.t.keep fun g C=>A g (E g (h.t.lt C).2 (by rw[h.st g C];decide)) (h.t.lt C).2).si H.1 P;have N:gU (fun g=>yN v' g/\yN v g) w fun w2=>SI w2 sv sc:=fun w2 A=>(h.s.keep fun g C=>A g (E g (h.s.lt C).2 (by rw[h.ss g C];decide)) (h.s.lt C).2).si H.2 O;have K:=h.fin.more (Y:=fun g=>yN v' g/\yN v g) fun g G e=>E g G (by have U:σ g=0:=e;omega);exact K.and (M.and N)
 have hk:KX B (fun g=>yN v' g/\yN v g) w w9:=KX.gr F hB fun g e=>⟨(h.l.lt e).1,fun J=>J.2 e⟩
 refine⟨om,L,((key.on hk).more fun g _ e=>e.1).imp fun w2⟨Q,R,S⟩=>Q.snoc ⟨tv,sv,rfl,I▸R,A▸S⟩⟩
end
