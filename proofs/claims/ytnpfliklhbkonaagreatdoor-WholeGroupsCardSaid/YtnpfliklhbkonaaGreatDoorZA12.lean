/- Parts. -/
import Derived.Test.YtnpfliklhbkonaaGreatDoorZA9
import Derived.Test.YtnpfliklhbkonaaGreatDoorZA10
import Derived.Deep.RegionWith
set_option maxRecDepth 99999
set_option maxHeartbeats 0
set_option linter.unusedVariables false
namespace Go.Proofs.YtnpfliklhbkonaaGreatDoor
open Go.Proofs.Tryz
section
open Go.RowKit
section
variable {F:TwF} {V V':TwV} {w w1 w':Wo} {b y:Nat} {p q r:LI} {pv u:Va}
theorem kY.down(h:kY F V w b p pv)(B:Below w w w')(D:V.R b (p b 0).toNat=some r)(E:jR F.t0 V.τ w' u (aL p (bX r))):pO F V w' (b+1) (aL p (bX r)) u:=by have A:=GV h.ok.rep h.is h.fix h.lt D;exact⟨h.tw.on B,h.ok,fun c G C=>h.caps c om C,E,A.1,A.2,h.lt,h.small⟩
theorem kY.hasEnd{e:Ending}(h:kY F V w b p pv)(I:Below w w w1)(A:V.R b (p b 0).toNat=some r)(hi:uH F V w1 (b+1) (aL p (bX r)) e w'):GN F V w b p e w':=by obtain⟨B,V',C,D,E,G,H⟩:=hi;exact⟨B,V',C,(TwS.below h.tw I).trans D,UI h.ok.rep h.lt h.is (fun g L=>(h.gis g L).1) h.gen (h.rg _ _ A) h.up A E,fun c J K=>G c om K,fun c J=>H c om⟩
theorem aq{m n:Nat}(h:LO V n b<m+1)(A:b<n):R8 V n (b+1)<m:=by unfold LO at h;unfold R8;omega
theorem kY.loop(h:kY F V w b p pv)(D:p b 0=(y:Int))(hn:V.R b y=none)(C:TW F (V.setRep b y p pv) w1):iS F (V.setRep b y p pv) w1 b (fun _=>False) (V.setRep b y p pv) w1:=by refine⟨C,TwS.refl _ _ _,BR.start (YU h.ok h.lt h.is h.fix D hn) h.up,fun c A B=>?_,fun _ _=>rfl⟩;have E:=h.caps c A B;have H:=yC (tZ (G:=V.G) (p:=p) hn).r F.n F.n;show(V.gl c).length+dZ (mD V.R b y p) F.n F.n<=_;omega
theorem kY.rg1(h:kY F V w b p pv):∀x r,(V.setRep b y p pv).R b x=some r->GenP F.n (V.G b) r:=fun x r A=>by
 change mD V.R b y p b x=some r at A;unfold mD at A;split at A
 .obtain rfl:=aZ0 A;exact h.gen
 .exact h.rg x r A
theorem kY.less(h:kY F V w b p pv)(D:y<F.n)(hn:V.R b y=none){m:Nat}(C:LO V F.n b<m+1)(B:dZ V'.R F.n F.n<=dZ (V.setRep b y p pv).R F.n F.n):LO V' F.n b<m:=by have E:dZ (mD V.R b y p) F.n F.n<dZ V.R F.n F.n:=C5 (tZ (G:=V.G) hn).r D hn (by unfold mD;rw[iP ⟨rfl,rfl⟩];simp) F.n h.lt;change dZ V'.R F.n F.n<=dZ (mD V.R b y p) F.n F.n at B;unfold LO at C|-;have A:(dZ V'.R F.n F.n+1)*(2*F.n+2)<=dZ V.R F.n F.n*(2*F.n+2):=Nat.mul_le_mul_right _ om;rw[Nat.add_mul] at A;omega
theorem kY.newEnd(h:kY F V w b p pv)(hn:V.R b y=none)(G:TwS F V (V.setRep b y p pv) w w1)(B:iS F (V.setRep b y p pv) w1 b (fun q=>∃t,t<(V.gl b).length/\q=aL p ((V.gl b).getD t [])) V' w'):GN F V w b p (.returned (.tuple #[])) w':=by
 refine⟨rfl,V',B.tw,G.trans B.st,?_,B.caps,fun c D=>B.gl c D⟩;have A:=B.vl;refine UJ h.gen hn A.ext A.ok A.same A.up (fun g E=>?_) ?_ A.new
 .obtain⟨t,C,e⟩:=eI.1 E;exact A.has _ ⟨t,C,by rw[aZ4,aZ3 C,e];rfl⟩
 .exact NT A.ok.rep (A.ext.r b y p (by show mD V.R b y p b y=some p;unfold mD;rw[iP ⟨rfl,rfl⟩]))
end
theorem K1(F:TwF)(m:Nat)(Aw:US F m)(Ax:OJ F m):OJ F (m+1):=by
 intro V w b p pv An Q;have Bh:=zh Aw;have Bi:=zh Ax;clear Aw Ax;have A:=zh Q;obtain⟨j,i,rfl⟩:=Q.row.form;have Bl:=Q.small;have B:=Q.lt;rw[Q.is.len] at A|-;have Ao:=An;clear Q An;have Bs:=fun(w:Wo) (l c:Nat)=>run_neq_slice_nil (P:=prog) w 22 3 none l c underlying22;have Bt:=fun(w:Wo) (Ad:Addr) (l c:Nat)=>run_neq_slice_nil (P:=prog) w 22 3 (some Ad) l c underlying22;obtain⟨n,T⟩:=xE F.n;have E:=zh T;have Br:b<n:=by rw[T];exact B
 rw[<-T] at Bl|-;have Y:Hid (IsP n p):=aG (by rw[T];exact A.is);clear T;obtain⟨Ad,y,e,Al,h,Ac⟩:=A.row.si.perm A.is B;obtain rfl:=aZ0 e;clear e;have Bg:Hid ((p b 0).toNat=y):=aG (by rw[Ac.out,aZ8]);obtain⟨K,M,N⟩:=A.tw.box3;have ι:=A.tw.repsAt B;have η:=A.tw.rowAt B h;have H:=A.tw.rep b y B h;have Aj:=(A.tw.row b B).frozen y;have Av:=h;rw[<-E.out] at K M N ι h;go_enter func154,ntmps154;generalize V.ru b y=ru at*;cases hrr:V.R b y with
 |some r=>
  rw[hrr] at H;have Aa:=zh H.row;obtain⟨Bv,Bu,rfl⟩:=H.row.form;have I:Hid (IsP n r):=aG (E.out▸A.ok.rep.is _ _ _ hrr);have J:Hid (V.R b (p b 0).toNat=some r):=aG (Bg.out▸hrr);rw[I.out.len] at Aa η;clear H hrr;go_wp2_with fail;apply(DP w n _ r Aa.si I om).mono;rintro e π⟨ν,rfl,U,O⟩;have ρ:=zh O;have Z:=zh (U.si (by rw[I.out.inv.len];omega) (I.inv.i64 om));have Ab:=zh (A.row.si.below O zr);rw[<-E.out] at Ab;clear U O K M N ι η Aj Al;go_wp2_with fail;apply(nS _ n _ _ p (bX r) Ab Z Y I.inv om).mono;rintro e W⟨ξ,rfl,Ap,Af⟩;have σ:=zh (aC ρ Af);have D:=zh (Y.then I.inv);have ε:Hid (jR F.t0 V.τ W ξ (aL p (bX r))):=aG ((A.tw.on ρ).rowNew Ap (by rw[D.out.len];omega) (by rw[D.out.len];omega) (D.i64 om));have Ai:=Bh.out V W (b+1) _ ξ (aq Ao B) (A.down σ J ε);have o:Hid (Calls prog 98 #[.pointer F.tb,ξ,.int .i64 ((b:Int)+1)] W (uH F V W (b+1) (aL p (bX r)))):=aG (by
   have e:(((b+1:Nat)):Int)=(b:Int)+1:=by push_cast;rfl
   rwa[e] at Ai)
  clear Ap Af Ai;go_wp2_with fail;apply o.mono;intro e Bw hi;have s:=zh (A.hasEnd σ J hi);obtain⟨rfl,hi⟩:=hi;clear hi;go_wp2;refine bodyPost_end (results_none rfl _ _ _) rfl ?_;exact s.out
 |none=>
  rw[hrr] at H;have Bm:ru=.slice none 0 0:=H;subst Bm;have J:=zh hrr;rw[<-E.out] at A;have f:=A.tw.setRep B Av A.row;clear H hrr;have Be:=zh (A.loop Ac J f.1);have Bf:=zh f.2;have Ay:=zh (fun(w1 w':Wo) (V':TwV)=>A.newEnd (w1:=w1) (w':=w') (V':=V') J);have Bc:=zh (A.rg1 (y:=y));have Az:=zh (fun(V':TwV)=>A.less (V':=V') Av J Ao);have Bb:=zh (A.row.on f.2);have u:Hid ((V.setRep b y p (.slice (some j) n i)).G b=V.G b):=aG rfl;have χ:Hid ((V.setRep b y p (.slice (some j) n i)).gl b=V.gl b):=aG rfl;clear f;generalize V.setRep b y p (.slice (some j) n i)=V1 at*;obtain⟨L,ζ⟩:=xE ((V.gl b).length);have X:=zh ζ;have Bq:L<=5000:=by have Bo:=A.cap1;have Bp:F.n*F.n<=64*64:=Nat.mul_le_mul A.small A.small;rw[ζ];omega
  clear ζ;go_upto_region 5 with fail;generalize w.setCell ⟨F.rb b,y,none⟩ (.slice (some j) n i)=w1 at*;clear K M N ι η Aj Al;go_loopw [7] (fun μ wr=>∃(k:Nat) (V':TwV),k<=L/\μ=(k:aV)/\Hid (iS F V1 w1 b (fun q=>∃t,t<k/\q=aL p ((V.gl b).getD t [])) V' wr)) (fun μ _=>L-(intOf μ).toNat)
  .exact⟨0,V1,aZ5 _,rfl,aG (Be.less fun q⟨t,At,_⟩=>aB At (aY5 _))⟩
  .
   obtain⟨k,V',hk,rfl,C⟩:=hrel;obtain⟨K,M,N⟩:=C.tw.box3;have Ak:=C.tw.gensAt B;rw[<-E.out] at K M N;have ψ:=zh (C.tw.gro b B);have z:Hid ((V'.gl b)=V.gl b):=aG (by rw[C.out.gl b zr,χ.out]);have δ:Hid ((V'.gu b).length=L):=aG (by rw[C.out.tw.gln b B,z.out,X.out]);obtain⟨ga,Bj,a⟩:=ψ.form';rw[aY7,δ.out] at a;rw[a] at Ak;by_cases d:k<L
   .obtain⟨Bn,Bk,Ag,_⟩:=(show RG 1 wr (.slice ga L Bj) (oR (V'.gu b)) from a▸ψ.rg).elt (k:=k) (by rw[iF,δ.out];exact d);subst Bk;have θ:=Ag ((V'.gu b).getD k (():aV)) (by rw[BI (δ.out▸d)];rfl);rw[Nat.mul_one] at θ;have S:=C.tw.gen b B k (by rw[z.out,<-X.out];exact d);rw[z.out] at S;obtain⟨g,κ⟩:=xE ((V.gl b).getD k []);have φ:=zh κ;rw[<-κ] at S;clear Ag κ;have x:Hid (V.G b g):=aG (by show g∈V.gl b;rw[φ.out,aZ4,aZ3 (X.out▸d)];exact aY6 _);have v:Hid (IsP n g):=aG (by rw[E.out];exact(A.gis g x).1);generalize (V'.gu b).getD k (():aV)=gu at*;have ω:=zh S;obtain⟨Bz,Bx,rfl⟩:=S.form;rw[v.out.len] at ω θ;clear S a;have Ba:=zh (Bb.on C.st);go_wp2_with fail;apply(nS wr n _ _ p g Ba.si ω.si Y v om).mono;rintro e π⟨ν,rfl,U,O⟩;have Z:=zh (C.on O);have D:=zh (Y.then v);have ε:Hid (jR F.t0 V'.τ π ν (aL p g)):=aG (C.tw.rowNew U (by rw[D.out.len];omega) (by rw[D.out.len];omega) (D.i64 om));have Ar:=Z.pre B A.small (χ.out▸A.cap1) (u.out▸A.gis) (u.out▸Bc.out) (u.out▸GenP.mul A.gen x) (E.out▸D.out) (dN.mul (n:=F.n) A.is (Nat.le_of_lt B) A.fix (A.gis g x).2) ε.out;have o:=zh (Bi V' π b _ ν (Az V' C.lack) Ar);clear U O Ar K M N Ak θ;go_wp2_with fail;apply o.mono;rintro e W⟨rfl,V2,Au,As,Aq,Ah,Am⟩;have Bd:=zh ((Z.step Au As Aq Ah Am).less (S':=fun q=>∃t,t<k+1/\q=aL p ((V.gl b).getD t [])) fun q⟨t,At,Ae⟩=>by
     by_cases e:t=k
     .subst e;exact .inr (φ.out▸Ae)
     .exact .inl ⟨t,om,Ae⟩)
    clear Au As Aq Ah Am;go_wp2;exact⟨⟨k+1,V2,om,pC,Bd⟩,oI⟩
   .obtain rfl:L=k:=om;have s:=zh (Ay.out w1 wr V' Bf (X.out▸C.out));go_wp2;refine bodyPost_end (results_none rfl _ _ _) rfl ?_;exact s.out
theorem BF(F:TwF):∀m,US F m/\OJ F m
 |0=>⟨fun V w b p pv A=>aB A (aY5 _),fun V w b p pv A=>aB A (aY5 _)⟩
 |m+1=>⟨IK F m (BF F m).2,K1 F m (BF F m).1 (BF F m).2⟩
theorem NG(F:TwF)(V:TwV)(w:Wo)(b:Nat)(p:LI)(pv:Va)(h:pO F V w b p pv):Calls prog 98 #[.pointer F.tb,pv,b] w (uH F V w b p):=
 (BF F (R8 V F.n b+1)).1 V w b p pv (Nat.lt_succ_self _) h
def UX(w:Wo)(xss:LL)(ys:LI)(e:Ending)(w':Wo):Prop:=∃A B,e=.returned (.tuple #[A,B])/\OS w (fun g=>g<w) w' A xss/\OI w w' B ys/\Below w w w'
theorem pA{O:aQ}{rows:LL}{c:Nat}{l:LL}{piv:LI}{k:Nat}(A:(aJ O rows c)=(l,piv))(B:piv.length<l.length)(hk:gG l c l (l.length-piv.length) piv=k):
 aJ O rows (c+1)=if k=l then(l,piv) else(lP O c l piv k,piv++[(c:Int)]):=by
 rw[aJ,A];show(if piv.length<l.length then _ else _)=_;rw[iP B];show(if gG l c l (l.length-piv.length) piv.length=l.length then _ else _)=_;rw[hk]
theorem tI{O:aQ}{rows:LL}{c:Nat}{l:LL}{piv:LI}(A:(aJ O rows c)=(l,piv))(B:¬piv.length<l.length):∀d,c<=d->aJ O rows d=(l,piv)
 | 0, h => by obtain rfl : c = 0 := by omega
              exact A
 |d+1,h=>by
   by_cases e:c=d+1
   . rw[<-e];exact A
   . have C:=tI A B d om;rw[aJ,C];show(if piv.length<l.length then _ else _)=_;rw[iN B]
theorem TM(w:Wo)(P M F:Int)(mv v:Va)(Mq:LI)(B:SS w v []):
 Calls prog 144 #[.agg #[P,M,mv],v,F] w (UX w [] []):=by
 obtain⟨A,c,rfl,B⟩:=B;have E:=zh (show SS w (.slice A ([]:LL).length c) [] from⟨A,c,rfl,B⟩);clear B;have G:([]:LL).length=0:=rfl;rw[G] at E|-;clear G;go_enter func144,ntmps144;go_wp2_with fail;apply(F4 _ _ [] (E.below (aH _ _) zr) sM sM).mono;rintro e w1⟨u,rfl,D,C⟩;obtain⟨K,L,rfl⟩:=D.form;have I:=zh D;have H:=zh (aC (aH _ _) C);have O:=C.size;clear D C;go_wp2;go_loop [9,10,11] (fun u a x=>u=.slice none 0 0/\a=.int .i64 0/\x=.int .i64 0) (fun _ _ _=>0)
 .exact⟨rfl,rfl,rfl⟩
 .
  obtain⟨rfl,rfl,rfl⟩:=hrel;by_cases N:0<F
  all_goals
   go_wp2;go_ret2;exact⟨_,_,rfl,(I.mono (B':=w.heap.size) (by rw[World.size_alloc];omega)).names (fun g _ J=>by rw[World.size_alloc];exact Nat.lt_succ_of_lt J),OI.nil _ _,H.out⟩
theorem qG{O:aQ}{q:Int}(hO:O.Lt q){L:Nat}{rows:LL}(hR:Rows q L rows)(c:Nat){l:LL}{piv:LI}(h:aJ O rows c=(l,piv)):Rows q L l/\l.length=rows.length/\piv.length<=rows.length/\piv<=c:=by have B:=Rows.elim hO hR c;have C:=gK O rows c;have A:=lW O rows c;rw[h] at B C A;exact⟨B,C,A.1,A.2⟩
theorem NP(w:Wo)(P M:Int)(N L:Nat)(mv v:Va)(Mq:LI)(rows:LL)(Cc:SI w mv Mq)(ψ:SS w v rows)(Y:aF P M≠0)(Cd:sL P M Mq)
 (hR:Rows (aF P M) L rows)(Fc:N<=L)(Ey:L<=100000)(Ce:0<rows.length)(hn:rows.length<=100000):
 Calls prog 144 #[.agg #[P,M,mv],v,N] w (UX w (aJ (aD P M Mq) rows N).1 (aJ (aD P M Mq) rows N).2):=by
 have Df:=zh ψ;clear ψ;have Ao:=zh Cc;clear Cc;have Aq:=zh Cd;clear Cd;have θ:=zh (iJ Y Mq);obtain⟨Ds,Dt,Dq,Dr,hq,Eb⟩:=bO Y;clear hq Eb Dq Dr Ds Dt;have Ai:=aM P M;have f:=zh Y;clear Y;obtain⟨O,hO⟩:=xE (aD P M Mq);rw[<-hO] at θ|-;have Bl:=zh hO;clear hO;obtain⟨q,hq⟩:=xE (aF P M);rw[<-hq] at θ hR Ai;have Db:=zh hq;clear hq;obtain⟨Fj,Fk⟩:=Ai;have Bm:=zh hR;clear hR;obtain⟨n,Bc⟩:=xE rows.length;rw[<-Bc] at Ce hn;have ι:=zh Bc;clear Bc;have T:=zh (dM.mk' w P M mv);go_enter func144,ntmps144;go_wp2_with fail;obtain⟨w0,Ci⟩:=xE (w.alloc (.cells #[P,M,mv] 24));rw[<-Ci] at T|-;clear Ci;refine(F4 _ _ rows (Df.below T.bel zr) (oA ι.out) (fun k hk=>oA ((Bm k hk).1))).mono ?_;rintro e w1 ⟨Fl,rfl,Ah,Ax⟩;obtain⟨g,μ,rfl,Ff,Fg⟩:=Ah.formP (ι.out▸Ce);rw[<-ι.out] at Ah|-;have Bi:Hid (EL w0 w0 w1 (.slice g n μ) (():aV) rows [] (fun g=>g<w0)):=⟨Ah,OI.nil _ _,fun g W=>by simp[Value.ownBlock] at W,fun g W=>by have:=Ax.size;show g<_;omega,fun g W=>W,Ax⟩
 clear Ah Ax;have Ex:=T.lt;go_wp2_with fail;go_loopw [9,10,11] (fun u a x wr=>∃(c at_:Nat) (l:LL) (piv:LI) (X:Nat->Prop),c<=N/\x=(c:aV)/\a=(at_:aV)/\Hid (at_=piv)/\Hid (aJ O rows c=(l,piv))/\Hid (EL w0 w0 wr (.slice g n μ) u l piv X)) (fun _ _ x _=>(N-intOf x).toNat)
 case atStart=>exact⟨0,0,rows,[],_,aZ5 _,rfl,rfl,rfl,rfl,Bi⟩
 case round=>
  clear Bi;obtain⟨c,a,l,piv,X,Fb,rfl,rfl,J,δ,B⟩:=hrel;have Aj:=qG θ.out Bm.out c δ.out;have A:Hid (l=n):=by rw[ι.out];exact Aj.2.1
  have η:=zh Aj.1;have Fa:a<=n:=by have:=Aj.2.2.1;rw[<-ι.out,<-J.out] at this;exact this
  clear Aj;by_cases Fe:c<N
  case neg=>
   obtain rfl:N=c:=om;go_wp2_with fail;go_ret2;rw[δ.out];exact⟨_,_,rfl,(B.os.mono om).names (fun ν _ Ay=>B.low ν om),B.oi.mono om,aC T.bel B.bel⟩
  by_cases D:a<n
  case neg=>
   have Cr:Hid (aJ O rows N=(l,piv)):=tI δ.out (by rw[A.out,<-J.out];exact D) N om;have Fi:n<=a:=om;go_wp2_with fail;go_ret2;rw[Cr.out];exact⟨_,_,rfl,(B.os.mono om).names (fun ν _ Ay=>B.low ν om),B.oi.mono om,aC T.bel B.bel⟩
  have ρ:c<L:=om;go_wp2_with fail;go_loop [12] (fun x=>∃k:Nat,a<=k/\k<=n/\x=(k:aV)/\Hid (gG l c n (n-a) a=gG l c n (n-k) k)) (fun x=>(n-intOf x).toNat)
  case atStart=>exact⟨a,zr,om,rfl,rfl⟩
  case round=>
   obtain⟨k,Ez,Fh,rfl,Am⟩:=hrel;by_cases φ:k<n
   .obtain⟨Bs,Cq,x,σ,Ee,Bp,Eu⟩:=B.os.elt (k:=k) (j:=c) (A.out▸φ) (by rw[(η.out k (A.out▸φ)).1];exact ρ);rw[(η.out k (A.out▸φ)).1] at σ;by_cases m:x=0
    .have Ei:(x==0)=true:=by rw[eD];exact m
     have Dg:=zh m;clear m;go_wp2_with fail;exact⟨⟨k+1,om,om,rfl,by rw[Am.out,show n-k=(n-(k+1))+1 from om,gG,iP (Bp.out▸Dg.out)];rfl⟩,oI⟩
    .have Ei:(x==0)=false:=by rw[eA];exact m
     have An:Hid (gG l c l (l.length-piv.length) piv=k):=by show _=_;rw[A.out,<-J.out,Am.out,show n-k=(n-(k+1))+1 from om,gG,iN (Bp.out▸m)]
     have Ea:(((k:Nat):Int)==(n:Int))=false:=by rw[eA];omega
     have Ar:Hid (aJ O rows (c+1)=(lP O c l piv k,piv++[(c:Int)])):=by show _=_;rw[pA δ.out (by rw[A.out,<-J.out];exact D) An.out,iN (oA A.out)]
     clear m;obtain⟨Dj,En,x2,Az,Eg,Ew,Ev⟩:=B.os.elt (k:=a) (j:=c) (A.out▸D) (by rw[(η.out a (A.out▸D)).1];exact ρ);rw[(η.out a (A.out▸D)).1] at Az;have Dl:=B.os.frozen a;have Dm:=B.os.frozen k;have Cv:=zh σ;have Cw:=zh Az;obtain⟨z,ω⟩:∃z,(wr.setCell ⟨g,a,none⟩ (.slice (some Bs) L Cq)).cell? ⟨g,k,none⟩=some z:=by
      by_cases Bx:a=k
      .exact⟨_,by rw[Bx];exact World.cell?_setCell_same _ _ _ σ⟩
      .exact⟨_,gJ σ (fun e=>Bx (by injection e with e1 e2;exact e2.symm))⟩
     go_wp2_with fail
     go_region
     obtain⟨Ak,Be⟩:=xE (((wr.setCell ⟨g,a,none⟩ (.slice (some Bs) L Cq)).setCell ⟨g,k,none⟩ (.slice (some Dj) L En)).drew);have Z:Hid (EL w0 w0 Ak (.slice g n μ) u9 (cY l a k) piv X):=by have El:=B.os.row (k:=k) (A.out▸φ);have Em:=B.os.row (k:=a) (A.out▸D);obtain⟨Fp,Cl,Ec,Ef⟩:=El;obtain⟨Fq,Cm,Ed,Cj⟩:=Em;rw[Cv.out] at Cl;rw[Cw.out] at Cm;obtain rfl:=aZ0 Cl;obtain rfl:=aZ0 Cm;have Do:=B.setRow zr a Ec Ef;have Dp:=Do.setRow zr k (Ed.grown (aU wr g a _) (fun Dn ν Ay e=>(Cj Dn ν Ay).1 (aZ0 e).symm)) Cj;rw[Be];exact Dp.drew
     rw[<-Be];clear Be σ Ee Az Eg ω Dl Dm;have V:Hid ((cY l a k).length=n):=by show _=_;rw[gQ,A.out]
     have κ:=zh (η.swap (a:=a) (b:=k) (A.out▸D) (A.out▸φ));obtain⟨ls,Bb⟩:=xE (cY l a k);rw[<-Bb] at Z V κ;have Cy:=zh Bb;clear Bb;obtain⟨Bt,Eo,x3,Ae,Bf,Aw,At⟩:=Z.os.elt (k:=a) (j:=c) (V.out▸D) (by rw[(κ.out a (V.out▸D)).1];exact ρ);rw[(κ.out a (V.out▸D)).1] at Ae At
     go_upto_if 69 with(fail)
     go_cut [] from 16 to 134 (fun wc=>EL w0 w0 wc (.slice g n μ) u9 (dW O c a ls) piv X)
     case first=>
      by_cases o:x3=1
      .have Dv:(x3 !=1)=false:=by simp[o]
       have Ab:Hid (dW O c a ls=ls):=by show _=_;unfold dW;rw[iN (by rw[Aw.out];simpa using o)]
       clear o;go_wp2_with fail;go_meet
       case rel=>rw[Ab.out];exact Z.out
      .have Dv:(x3 !=1)=true:=by simp[o]
       have Ab:Hid (dW O c a ls=ls.set a (bN (aD P M Mq) (lY P M Mq x3) (ls a []))):=by show _=_;unfold dW;rw[iP (Aw.out▸o),Aw.out,Bl.out];rfl
       clear o;obtain⟨row,Bd⟩:=xE (ls a []);rw[<-Bd] at Ab At;have Bn:Hid (row=L):=by show _=_;rw[Bd];exact(κ.out a (V.out▸D)).1
       clear Bd;have C:=zh (T.on Z.bel);have c0:=C.c0;have c1:=C.c1;have c2:=C.c2;have Ct:=zh Ae;have Dh:=zh Bf;go_wp2_with fail;refine cJ.start (S:=(fun w'=>w'.cell? w.heap.size=some (P:aV)/\w'.cell? ⟨w.heap.size,1,none⟩=some (M:aV)/\w'.cell? ⟨w.heap.size,2,none⟩=some mv/\w'.cell? (Bt.add c)=some (x3:aV)/\w'.cell? ⟨g,a,none⟩=some (.slice (some Bt) L Eo))) kr (⟨C.drew.c0,C.drew.c1,C.drew.c2,Bf,Ae⟩) (fun ξ=>?_);change cJ _ _ _ _ 19 _ _ _;refine dq 0 ?_;refine dq 1 ?_;refine dq 2 ?_;refine dq 3 ?_;refine dq 4 ?_;refine dq 5 ?_;refine dq 6 ?_;refine dq 7 ?_;refine dq 8 ?_;refine dq 9 ?_;refine dq 10 ?_;refine dq 12 ?_;refine dq 13 ?_;refine dq 14 ?_;refine dq 15 ?_;try simp only[tz]
       refine dn 11 fun K hK=>?_;go_simp
       (refine(YH _ P M x3 mv Mq (Ao.below C.drew.bel zr) f Aq).mono ?_;rintro e Es ⟨rfl,π⟩;have E:=zh (aC (aI Ak) π);have H:=zh (C.on E);have Bz:=aE E Ct.out;have Ck:=aE E Dh.out;have Au:=zh (At.below E zr);have ε:=zh (Z.on E);clear π)
       refine hK.out _ _ (fun _=>⟨H.c0,H.c1,H.c2,Ck,Bz⟩) (fun I=>?_);clear hK K;replace ξ:=I dC;clear I;try simp only[tz]
       refine dn 16 fun K hK=>?_;go_simp
       (refine(NQ _ P M _ mv _ Mq row (Ao.below H.bel zr) Au (oA Bn.out) f Aq).mono ?_;rintro e Et ⟨y,rfl,Bg,F⟩;obtain⟨Fr,Fs,rfl⟩:=Bg.form';have Bq:=zh Bg;have ζ:=zh (ε.on F);have U:=zh (H.on F);have Dx:=aE F Bz;have Eh:=aE F Ck;have Dw:=ζ.os.frozen a;clear F Bg)
       refine hK.out _ _ (fun _=>⟨U.c0,U.c1,U.c2,Eh,Dx⟩) (fun I=>?_);clear hK K;replace ξ:=I dC;clear I;try simp only[tz]
       refine dq 17 ?_;try simp only[tz]
       refine dn 18 fun K hK=>?_;go_simp;refine hK.out _ _ (fun h=>aB rfl h) (fun _=>?_);clear hK K;refine dw ?_;try simp only[tz]
       go_wp2_with fail;go_meet
       case rel=>rw[Ab.out];have Cf:=Rows.scale (iJ f Mq) (lY P M Mq x3) row;exact ζ.setRow zr a (Bq.si (by rw[Cf.1,Bn.out];omega) (fun j=>by have:=Cf.2 j;have Ai:=aM P M;exact I64.of_small om om)) (ε.fresh Bq)
     case rest=>
      have Al:=zh hcut;clear hcut;have Ap:Hid ((dW O c a ls).length=n):=by show _=_;rw[oM,V.out]
      have Bj:=zh (Rows.monic θ κ c (a:=a) (V.out▸D));have Bk:Hid (aJ O rows (c+1)=(bH O c a (dW O c a ls) n,piv++[(c:Int)])):=by show _=_;rw[Ar.out,<-J.out];unfold lP;rw[<-Cy.out,A.out]
      obtain⟨G,Cb⟩:=xE (dW O c a ls);rw[<-Cb] at Al Ap Bj Bk;clear Cb Ae Bf Z;go_wp2_with fail;go_loopw [13] (fun x wr=>∃i:Nat,i<=n/\x=(i:aV)/\Hid (EL w0 w0 wr (.slice g n μ) u9 (bH O c a G i) piv X)) (fun x _=>(n-intOf x).toNat)
      case atStart=>exact⟨0,aZ5 _,rfl,Al⟩
      case round=>
       clear Al;obtain⟨i,hi,rfl,Q⟩:=hrel;have d:Hid ((bH O c a G i).length=n):=by show _=_;rw[kN,Ap.out]
       have Aa:=zh (Rows.clear θ Bj c a i (Ap.out▸hi));by_cases Ag:i<n
       .obtain⟨Bu,Er,y,Af,Cp,Ad,Av⟩:=Q.os.elt (k:=i) (j:=c) (d.out▸Ag) (by rw[(Aa.out i (d.out▸Ag)).1];exact ρ);obtain⟨s,R⟩:=xE ((bH O c a G i).getD i []);rw[<-R] at Af Ad Av;have Ac:Hid (s=L):=by show _=_;rw[R];exact(Aa.out i (d.out▸Ag)).1
        rw[Ac.out] at Af Av;by_cases τ:i=a
        .have Dz:(((i:Nat):Int) !=(a:Int))=false:=by rw[eB];omega
         have t:Hid (bH O c a G (i+1)=bH O c a G i):=by show _=_;rw[bH,iN (fun h=>h.1 τ)]
         clear τ R;go_wp2_with fail;exact⟨⟨i+1,om,rfl,t.out▸Q⟩,oI⟩
        .have Dz:(((i:Nat):Int) !=(a:Int))=true:=by rw[eC];omega
         by_cases p:y=0
         .have Ek:(y !=0)=false:=by simp[p]
          have t:Hid (bH O c a G (i+1)=bH O c a G i):=by show _=_;rw[bH,iN (fun h=>h.2 (by rw[<-R,Ad.out];exact p))]
          clear τ R p;go_wp2_with fail;exact⟨⟨i+1,om,rfl,t.out▸Q⟩,oI⟩
         .have Ek:(y !=0)=true:=by simp[p]
          obtain⟨r,χ⟩:=xE ((bH O c a G i).getD a []);have As:Hid (r=L):=by show _=_;rw[χ];exact(Aa.out a (d.out▸D)).1
          have t:Hid (bH O c a G (i+1)=(bH O c a G i).set i (cQ (aD P M Mq) s (iO P M y) r)):=by show _=_;rw[bH,iP ⟨τ,by rw[<-R,Ad.out];exact p⟩,<-R,<-χ,Ad.out,Bl.out];rfl
          obtain⟨Dk,Ep,_,Ba,_,_,Bo⟩:=Q.os.elt (k:=a) (j:=c) (d.out▸D) (by rw[<-χ,As.out];exact ρ);rw[<-χ,As.out] at Ba Bo;have Bw:=Rows.addTo (iJ f Mq) (v:=s) (by rw[R,<-Db.out];exact(Aa.out i (d.out▸Ag)).2) (iO P M y) r;have Bh:=zh Bw;clear τ R p χ Bw;have C:=zh (T.on Q.bel);have c0:=C.c0;have c1:=C.c1;have c2:=C.c2;have Cx:=zh Af;have Cu:=zh Ba;have Di:=zh Cp;go_wp2_with fail;refine cJ.start (S:=(fun w'=>w'.cell? w.heap.size=some (P:aV)/\w'.cell? ⟨w.heap.size,1,none⟩=some (M:aV)/\w'.cell? ⟨w.heap.size,2,none⟩=some mv/\w'.cell? (Bu.add c)=some (y:aV)/\w'.cell? ⟨g,i,none⟩=some (.slice (some Bu) L Er)/\w'.cell? ⟨g,a,none⟩=some (.slice (some Dk) L Ep))) kr (⟨C.drew.c0,C.drew.c1,C.drew.c2,Cp,Af,Ba⟩) (fun ξ=>?_);change cJ _ _ _ _ 23 _ _ _;refine dq 0 ?_;refine dq 1 ?_;refine dq 2 ?_;refine dq 3 ?_;refine dq 4 ?_;refine dq 5 ?_;refine dq 6 ?_;refine dq 7 ?_;refine dq 8 ?_;refine dq 9 ?_;refine dq 10 ?_;refine dq 11 ?_;refine dq 12 ?_;refine dq 13 ?_;refine dq 14 ?_;refine dq 16 ?_;refine dq 17 ?_;refine dq 18 ?_;refine dq 19 ?_;try simp only[tz]
          refine dn 15 fun K hK=>?_;go_simp
          (refine(YI _ P M y mv f).mono ?_;rintro e Es ⟨rfl,π⟩;have E:=zh (aC (aI wr) π);have H:=zh (C.on E);have Ca:=aE E Cx.out;have Bv:=aE E Cu.out;have Co:=aE E Di.out;have Au:=zh (Av.below E zr);have Dc:=zh (Bo.below E zr);have ε:=zh (Q.on E);clear π)
          refine hK.out _ _ (fun _=>⟨H.c0,H.c1,H.c2,Co,Ca,Bv⟩) (fun I=>?_);clear hK K;replace ξ:=I dC;clear I;try simp only[tz]
          refine dn 20 fun K hK=>?_;go_simp
          (refine(NM _ P M _ mv _ _ Mq s r (Ao.below H.bel zr) Au Dc (oA Ac.out) (by rw[Ac.out,As.out];exact zr) f Aq).mono ?_;rintro e Et ⟨z,rfl,ω,F⟩;obtain⟨Ft,Fu,rfl⟩:=ω.form';have Br:=zh ω;have ζ:=zh (ε.on F);have U:=zh (H.on F);have Dy:=aE F Ca;have Du:=aE F Bv;have Ej:=aE F Co;have Dw:=ζ.os.frozen i;clear F ω)
          refine hK.out _ _ (fun _=>⟨U.c0,U.c1,U.c2,Ej,Dy,Du⟩) (fun I=>?_);clear hK K;replace ξ:=I dC;clear I;try simp only[tz]
          refine dq 21 ?_;try simp only[tz]
          refine dn 22 fun K hK=>?_;go_simp;refine hK.out _ _ (fun h=>aB rfl h) (fun _=>?_);clear hK K;refine dw ?_;try simp only[tz]
          go_wp2_with fail;refine⟨⟨i+1,om,rfl,?_⟩,oI⟩;rw[t.out];exact ζ.setRow zr i (Br.si (by rw[Bh.out.1,Ac.out];omega) (fun j=>by have:=Bh.2 j;have Ai:=aM P M;exact I64.of_small om om)) (ε.fresh Br)
       .obtain rfl:n=i:=om;have Da:Hid (piv.length+[(c:Int)].length<=17592186044416):=by show _<=_;rw[<-J.out,aZ2];omega
        have Cz:=zh (Q.oi.alloc (.cells #[c] 3));have Dd:Hid (SI (wr.alloc (.cells #[c] 3)) (.slice wr 1 1) [(c:Int)]):=SI.lit wr [(c:Int)] sM (fun j=>by
         rcases j with _|j
         .exact I64.of_small (by show _<=(c:Int);omega) (by show(c:Int)<=_;omega)
         .exact I64.zero)
        have De:Hid (w0.heap.size<=(wr.alloc (.cells #[c] 3)).heap.size):=jZ Q.bel.size _;go_wp2_with (at_builtin;go_must (refine kT rfl _ _ rfl w0 _ piv rfl Cz _ [(c:Int)] rfl Dd Da De ?_);(intro Fm Fo Y W ψ);have Cs:=zh (Q.push zr Y W ψ);clear Y W ψ)
        exact⟨⟨c+1,a+1,_,_,_,om,rfl,rfl,by show _=_;rw[aZ1,aZ2,J.out],Bk.out,Cs⟩,oI⟩
   .obtain rfl:n=k:=om;have An:Hid (gG l c l (l.length-piv.length) piv=n):=by show _=_;rw[A.out,<-J.out,Am.out,Nat.sub_self,gG]
    have Ea:(((n:Nat):Int)==(n:Int))=true:=by simp
    have Ar:Hid (aJ O rows (c+1)=(l,piv)):=by show _=_;rw[pA δ.out (by rw[A.out,<-J.out];exact D) An.out,iP A.out.symm]
    go_wp2_with fail;exact⟨⟨c+1,a,l,piv,X,om,rfl,rfl,J,Ar,B⟩,oI⟩
theorem TK(w:Wo)(P M:Int)(A L:Nat)(mv v:Va)(Mq:LI)(rows:LL)(E:SI w mv Mq)(B:SS w v rows)(G:aF P M≠0)(F:sL P M Mq)
 (hR:Rows (aF P M) L rows)(D:A<=L)(C:L<=100000)(hn:rows.length<=100000):
 Calls prog 144 #[.agg #[P,M,mv],v,A] w (UX w (aJ (aD P M Mq) rows A).1 (aJ (aD P M Mq) rows A).2):=by
 rcases Nat.eq_zero_or_pos rows with h|h
 .obtain rfl:=eH h;have e:∀c,aJ (aD P M Mq) [] c=([],[]):=fun c=>by
   induction c with
   |zero=>rfl
   |succ c ih=>rw[aJ,ih];rfl
  rw[e];exact TM w P M _ mv v Mq B
 .exact NP w P M A L mv v Mq rows E B G F hR D C h hn
