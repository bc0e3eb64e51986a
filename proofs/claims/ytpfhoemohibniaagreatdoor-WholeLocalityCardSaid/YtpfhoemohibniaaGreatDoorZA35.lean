/- Texts of a claim, merged. -/
import Derived.Test.YtpfhoemohibniaaGreatDoorZA30
import Derived.Test.YtpfhoemohibniaaGreatDoorZA32
set_option maxRecDepth 100000
set_option linter.unusedVariables false
set_option maxHeartbeats 32000000
namespace Go.Proofs.YtpfhoemohibniaaGreatDoor
open Go.RowKit
theorem F6(w:World)(P M n:Int)(mv gv:Value)(Mod:LI)(gen:LL)(hm:SI w mv Mod)(H:cK P M Mod)
  (G:∀w',Below w.heap.size w w'->Calls Tryz.prog 17 #[.agg #[.int .i64 P,.int .i64 M,mv,.int .i64 n,gv]] w' (iJ w' 0)):
  Calls Tryz.prog 115 #[.agg #[.int .i64 P,.int .i64 M,mv,.int .i64 n,gv]] w (WG w P M Mod):=by
 have I:=zh G;have K:=zh hm;have J:=zh H;have B:=zh (dD.mk' w P M mv n gv);clear G hm H;go_enter Tryz.func115,Tryz.ntmps115;go_upto_region 1 with fail;generalize w.alloc (.cells #[.int .i64 P,.int .i64 M,mv,.int .i64 n,gv] 27)=w0 at*;obtain⟨C,D,E,L,N,_,_,_,_,_⟩:=B.blk.five;go_wp2_with fail;refine(I.out w0 B.bel).mono ?_;rintro e w1 ⟨rfl,F⟩;have A:=zh (B.on F);clear F C D E L N;obtain⟨C,D,E,_,_,_,_,_,_,_⟩:=A.blk.five;go_wp2_with fail;refine(mK w1 P M mv Mod (K.below A.bel zr) J).mono ?_;rintro e w2 ⟨a,rfl,Q,O⟩;go_wp2_with fail;refine bodyPost_ret (v:=.tuple #[.pointer (some ⟨a,0,none⟩),.int .i64 0]) (by simp[results,Tryz.results115,go_sem]) rfl ?_;exact⟨a,rfl,Q.mono A.bel.size,aA A.bel O⟩
def zl(S:List Nat):LI:=S.map fun(i:Nat)=>(i:Int)
theorem aY(S:List Nat):(zl S).length=S.length:=by simp[zl]
theorem gJ{S:List Nat}{k:Nat}(h:k<S.length):(zl S).getD k 0=(S.getD k 0:Nat):=by simp[zl,List.getD,h]
theorem nF(S:List Nat)(i:Nat):zl (S++[i])=zl S++[(i:Int)]:=by simp[zl]
theorem KQ(S T:List Nat):zl (S++T)=zl S++zl T:=by simp[zl]
theorem fG{S:List Nat}{n:Nat}(hn:n<=1000000)(h:∀i,i∈S->i<n)(k:Nat):I64 ((zl S).getD k 0):=by
 by_cases A:k<S.length
 .rw[gJ A];have B:=h _ (by rw[aZ4,aZ3 A];exact aY6 A:S.getD k 0∈S);exact I64.of_small (by omega) (by omega)
 .rw[aZ4,aY4 (by rw[aY];omega)];exact I64.zero
structure GrW(O:aO)(q:Int)(gen:LL)(B b a:Nat)(w0 wr:World)(ov:Value)(order:List Nat)(k:Nat):Prop where
 inv:∃R pl S rv pv,GrI O q gen R pl (order.take k) S/\Blk wr b 236 [.pointer (some ⟨a,0,none⟩),rv,pv]/\
  OS B (fun g=>g=b\/pv.ownBlock=some g\/ov.ownBlock=some g\/g=B) wr rv R/\OI B wr pv pl/\OI B wr ov (zl S)/\
  (∀g,rv.ownBlock=some g->¬(g=b\/pv.ownBlock=some g\/ov.ownBlock=some g\/g=B))/\(∀g,pv.ownBlock=some g->g≠b/\¬(ov.ownBlock=some g\/g=B))/\(∀g,ov.ownBlock=some g->g≠b/\g≠B)
 bel:Below B w0 wr
theorem wV(w:World)(a:Nat)(P M:Int)(n:Nat)(mv gv ov:Value)(Mod:LI)(gen:LL)(order:List Nat)(Ax:GF w a P M Mod)(hg:SS w gv gen)(hR:∀k,k<gen.length->(gen.getD k []).length=n)
   (Ct:SI w ov (zl order))(Bf:∀i,i∈order->i<n)(hO:(aB P M Mod).Fld (aC P M))(hq:gW (aC P M) gen)(Ba:gen.length<=1000)(Cu:order.length<=1000):
   Calls Tryz.prog 116 #[.pointer (some ⟨a,0,none⟩),.agg #[.int .i64 P,.int .i64 M,mv,.int .i64 (n:Int),gv],ov] w (fun e w'=>∃S:List Nat,GrP (aB P M Mod) (aC P M) gen order S/\pX w (zl S) e w'):=by
 have z:=zh (dD.mk' w P M mv n gv);have Bm:=zh Ax;have Cd:=zh hg;have Bz:=zh hR;have Bt:=zh Bf;have l:=zh hO;have χ:=zh hq;obtain⟨Dd,Dj,rfl,Be⟩:=Ct;rw[aY];have Bu:=zh Be;obtain⟨r,Ai⟩:∃r,r=order.length:=⟨_,rfl⟩
 have ψ:=zh Ai;obtain⟨m,Ah⟩:∃m,m=gen.length:=⟨_,rfl⟩
 have o:=zh Ah;rw[<-Ai] at Cu|-;rw[<-Ah] at Ba;clear Ax hg hR Bf hO hq Be Ai Ah;go_enter Tryz.func116,Tryz.ntmps116;go_upto_region 1 with fail;generalize w.alloc (.cells #[.int .i64 P,.int .i64 M,mv,.int .i64 (n:Int),gv] 27)=w0 at*;go_upto_region 2 with fail;have Ac:=Blk.new w0 236 [.pointer (some ⟨a,0,none⟩),.slice none 0 0,.slice none 0 0];have Ae:=aF w0 (.cells #[.pointer (some ⟨a,0,none⟩),.slice none 0 0,.slice none 0 0] 236);have Bl:=zh (aE Ae (show w0.cell? ⟨w.heap.size,4,none⟩=some gv from z.c4));have τ:=zh (z.on Ae);obtain⟨b,Af⟩:∃b,b=w0.heap.size:=⟨_,rfl⟩
 rw[<-Af] at Ac|-;generalize w0.alloc (.cells #[.pointer (some ⟨a,0,none⟩),.slice none 0 0,.slice none 0 0] 236)=w1 at*;have At:Hid (GrW (aB P M Mod) (aC P M) gen w.heap.size b a w w1 (.slice none 0 0) order 0):=aD ⟨⟨[],[],[],.slice none 0 0,.slice none 0 0,(by rw[List.take_zero];exact GrI.nil gen),Ac,OS.nil _ _ _,OI.nil _ _,OI.nil _ _,(fun g h=>by cases h),(fun g h=>by cases h),(fun g h=>by cases h)⟩,τ.bel⟩;have y:Hid (w.heap.size<b):=aD (by rw[Af];exact z.blk.lt);clear Af Ac Ae;go_wp2_with fail;go_loopw [8,16] (fun ov Al wr=>∃k:Nat,k<=r/\Al=.int .i64 (k:Int)/\Hid (GrW (aB P M Mod) (aC P M) gen w.heap.size b a w wr ov order k)/\Hid (dD w wr P M mv n gv)) (fun _ Al _=>r-(intOf Al).toNat)
 case atStart=>exact⟨0,aZ5 _,rfl,At,τ⟩
 case round=>
   clear At τ Bl z;obtain⟨k,Df,rfl,L,π⟩:=hrel;by_cases Bc:k<r
   . obtain⟨De,x,rfl,Cp,_,Cf⟩:=(Bu.below L.bel zr).elt (k:=k) (by rw[aY,<-ψ.out];exact Bc);have Z:k<order.length:=by rw[<-ψ.out];exact Bc
     obtain⟨D,κ⟩:∃D,D=order.getD k 0:=⟨_,rfl⟩
     have Cx:x=(D:Int):=by rw[<-Cf.out,gJ Z,κ]
     have Cw:D<n:=Bt.out D (by rw[κ,aZ4,aZ3 Z];exact aY6 Z);have Aw:Hid (order.take (k+1)=order.take k++[D]):=aD (by rw[List.take_add_one,aZ3 Z,κ,aZ4,aZ3 Z];rfl);subst Cx;obtain⟨Ci,Cj,Ck,Cl,c4,_,_,_,_,_⟩:=π.blk.five;clear κ Z;go_wp2_with fail;refine(F4 wr P M n D mv gv gen (Cd.below L.bel zr) Bz Cw (by rw[<-o.out];omega)).mono ?_;rintro e w2 ⟨g,rfl,hg,d,hb⟩;rw[mB,<-o.out];have J:=zh hb;have Bo:=zh hg;have Ch:=zh d;have ρ:=zh (π.on hb);clear hb hg d Cp Ci Cj Ck Cl c4;obtain⟨R,pl,S,An,ν,hI,s,u,t,I,O,c,v⟩:=L.inv;obtain⟨F,G,rfl⟩:=I.form';have Cr:wr.heap.size<=g:=Bo.out;have Ag:b<wr.heap.size:=s.lt;have Ad:w.heap.size<wr.heap.size:=Nat.lt_trans y.out Ag;have θ:S.length<=k:=aZ6 hI.grp.sub.length_le (by rw[aY3];exact Nat.min_le_left _ _);have Cc:=zh θ;have Aq:=zh hI;have Da:=zh Ag;have Bv:=zh (I.below J zr);have Bn:Hid (∀Ao,Below w.heap.size w2 Ao->GF Ao a P M Mod):=aD fun Ao h=>Bm.below (L.bel.trans ((J.mono (Nat.le_of_lt Ad)).trans h)) zr;have Dc:Hid (∀g,(Value.slice F (zl S).length G).ownBlock=some g->g<wr.heap.size):=aD fun g h=>(I.lt h).2;have p:Hid (∀g,(Value.slice F (zl S).length G).ownBlock=some g->g≠b/\g≠w.heap.size):=aD v;have Av:Hid (wr.heap.size<=w2.heap.size):=aD J.size;go_wp2_with fail
     refine(P6 w2 (fun A=>(Value.slice F (zl S).length G).ownBlock=some A\/A=w.heap.size) w.heap.size a b g m ?_ P M Mod An ν R pl (fR gen D) Bn (s.belowS J) (Nat.le_of_lt y) (by omega) (by omega)
       ((u.names (Y:=fun A=>A=b\/A=g\/ν.ownBlock=some A\/(Value.slice F (zl S).length G).ownBlock=some A\/A=w.heap.size) fun A B C=>by
         rcases C with h|h|h|h
         . exact .inl h
         . omega
         . exact .inr (.inl h)
         . exact .inr (.inr h)).below J.out) ?_ (t.below J.out zr) ?_ Ch.out (by rw[mB,o.out]) Ba l.out (yT l.out χ.out D) (by rw[o.out];exact hI.bas) (by rw[hI.len];omega)).mono ?_
     . intro A h;rcases h with h|h
       . have B:=(I.lt h).2;exact⟨by have:=Av.out;omega,(v A h).1,by omega⟩
       . subst h;exact⟨by have:=Av.out;omega,fun e=>by have:=y.out;omega,by omega⟩
     . intro A h C;have B:=(u.lt h).2;rcases C with C|C|C|C
       . exact O A h (.inl C)
       . omega
       . exact O A h (.inr (.inl C))
       . exact O A h (.inr (.inr C))
     . intro A h;have B:=(t.lt h).2;exact⟨(c A h).1,by omega,(c A h).2⟩
     rintro e E ⟨Dk,rfl,X,Cq⟩;have Db:=zh X;have φ:=zh (X.oi Bv (fun g h=>.inl h));have σ:Hid (dD w E P M mv n gv):=aD ⟨X.blk ρ.blk (.inr rfl),ρ.bel.trans X.bel⟩;have f:Hid (Below w.heap.size w E):=aD (L.bel.trans ((J.mono (Nat.le_of_lt Ad)).trans X.bel));have Ca:=zh O;have By:=zh c;clear hI s u t I O c v X θ Cr Ag Ad π ρ;rcases Cq with⟨rfl,Bi,U,V,W⟩|⟨rfl,μ,Bj,Am,Bb,Bd,U,V,W,Bh,Bg⟩
     . have Cb : Hid (GrW (aB P M Mod) (aC P M) gen w.heap.size b a w E (.slice F (zl S).length G) order (k + 1)) := aD ⟨⟨R, pl, S, An, ν, (by rw [Aw.out]; exact Aq.skip l χ Bi), U, (V.names fun A _ C => by
           rcases C with h|h|h|h
           . exact .inl h
           . exact .inr (.inr (.inl h))
           . exact .inr (.inr (.inr (.inl h)))
           . exact .inr (.inr (.inr (.inr h)))),W,φ.out,Ca.out,By.out,p.out⟩,f.out⟩
       clear Bi U V W;go_wp2_with fail;exact⟨⟨k+1,by omega,by push_cast;rfl,Cb,σ⟩,by simp only[intOf];omega⟩
     . have Au : Hid (GrI (aB P M Mod) (aC P M) gen (R ++ [bR (aB P M Mod) ((aB P M Mod).inv (dL (aB P M Mod) R pl (fun j => (fR gen D).getD j 0) R.length μ)) (gT (aB P M Mod) R pl (fR gen D) R.length)]) (pl ++ [(μ : Int)]) (order.take (k + 1)) (S ++ [D])) := aD (by
         rw[Aw.out];refine Aq.take l.out χ.out (by rw[<-o.out];exact Bb) Bd (by rw[gI,qV,mB]) fun j Cs=>?_;rw[jB l.out,gT,aS (by rw[mB];exact Cs)])
       have N := aF E (.cells #[.int .i64 (D : Int)] 3);have Br := zh (Blk.new E 3 [.int .i64 (D : Int)]);have Bk := zh (U.belowS N);have Bx := zh (W.below N zr);have q := zh (φ.below N zr);have ε := zh ((V.names (Y := fun A => (A = b \/ Am.ownBlock = some A \/ (Value.slice F (zl S).length G).ownBlock = some A \/ A = w.heap.size) \/ E.heap.size <= A) fun A B C => by
           rcases C with(h|h|h|h)|h
           . exact .inl h
           . exact .inr (.inr (.inl h))
           . exact .inr (.inr (.inr (.inl h)))
           . exact .inr (.inr (.inr (.inr h)))
           . omega).below N)
       have Ap:=zh (σ.on N);have δ:=zh (f.trans (N.mono f.size));have K:=zh Bh;have T:=zh Bg;have Bq:Hid ((∀A,Bj.ownBlock=some A->A<E.heap.size)/\(∀A,Am.ownBlock=some A->A<E.heap.size)/\b<E.heap.size/\w.heap.size<=E.heap.size/\w.heap.size<b):=aD ⟨fun g h=>(V.lt h).2,fun g h=>(W.lt h).2,U.lt,f.size,y.out⟩;have θ:=Cc.out;obtain⟨Aa,Ay⟩:∃Aa,Aa=R++[bR (aB P M Mod) ((aB P M Mod).inv (dL (aB P M Mod) R pl (fun j=>(fR gen D).getD j 0) R.length μ)) (gT (aB P M Mod) R pl (fR gen D) R.length)]:=⟨_,rfl⟩
       rw[<-Ay] at Au ε;have ω:=zh (aY S);rw[ω.out] at q ε T K p|-;obtain⟨H,Aj⟩:∃H,H=S.length:=⟨_,rfl⟩
       have As:=zh Aj;rw[<-Aj] at q ε T K p θ|-;clear N U V W Bh Bg Bd Bb Ay Aj φ σ f;go_wp2_with (
         at_builtin;refine nP rfl _ _ rfl w.heap.size (.slice F H G) (zl S) rfl q.out E.heap.size 1 (D:Int) rfl (Br.cell 0) (by rw[ω.out,<-As.out];omega) δ.size ?_;intro Dl Dm ι Az Ak;obtain⟨ζ,ξ,rfl⟩:=ι.form';rw[aZ1,aZ2,ω.out,<-As.out] at ι Ak|-;have Bs:=zh ι;have Q:=zh Az;have Ce:=zh Ak;clear ι Az Ak)
       refine⟨⟨k+1,by omega,by push_cast;rfl,aD ?_,aD ?_⟩,by simp only[intOf];omega⟩
       . obtain⟨Cy,Cz,Dg,Dh,Di⟩:=Bq.out;have Cv:(E.alloc (.cells #[.int .i64 (D:Int)] 3)).heap.size=E.heap.size+1:=by simp
         have η:∀A,(Value.slice ζ (H+1) ξ).ownBlock=some A->(Value.slice F H G).ownBlock=some A\/E.heap.size<=A:=fun A h=>by
           rcases Ce.out with e|e
           . have Ab:(Value.slice ζ (H+1) ξ).ownBlock=(Value.slice F H G).ownBlock:=e;exact .inl (by rw[<-Ab];exact h)
           . have Ab:(Value.slice ζ (H+1) ξ).ownBlock=some (E.alloc (.cells #[.int .i64 (D:Int)] 3)).heap.size:=e;rw[Ab,Cv] at h;have:=aZ0 h;exact .inr (by omega)
         have Ar:∀A,(Value.slice F H G).ownBlock=some A->A≠b/\A≠w.heap.size:=p.out;have Co:∀A,(Value.slice ζ (H+1) ξ).ownBlock=some A->A≠b/\A≠w.heap.size:=fun A h=>by
           rcases η A h with B|B
           . exact Ar A B
           . exact⟨by omega,by omega⟩
         refine⟨⟨Aa,pl++[(μ:Int)],S++[D],Bj,Am,Au.out,Bk.grown Q (fun e=>(Ar b e.symm).1 rfl),?_,Bx.grown Q (fun A h e=>(T.out A h).2.2 (.inl e)),by rw[nF];exact Bs.out,?_,?_,Co⟩,δ.grown Q δ.size (fun A h=>(q.lt h).1)⟩
         . refine(ε.grown Q (fun A e=>⟨fun h=>K.out A h (.inr (.inr (.inr (.inl e)))),.inl (.inr (.inr (.inl e)))⟩)).names fun A _ h=>?_;rcases h with h|h|h|h
           . exact .inl (.inl h)
           . exact .inl (.inr (.inl h))
           . rcases η A h with B|B
             . exact .inl (.inr (.inr (.inl B)))
             . exact .inr B
           . exact .inl (.inr (.inr (.inr h)))
         . intro A h d;have Cm:=Cy A h;rcases d with B|B|B|B
           . exact K.out A h (.inl B)
           . exact K.out A h (.inr (.inr (.inl B)))
           . rcases η A B with C|C
             . exact K.out A h (.inr (.inr (.inr (.inl C))))
             . omega
           . exact K.out A h (.inr (.inr (.inr (.inr B))))
         . intro A h;have Cm:=Cz A h;refine⟨(T.out A h).1,fun d=>?_⟩;rcases d with B|B
           . rcases η A B with C|C
             . exact(T.out A h).2.2 (.inl C)
             . omega
           . exact(T.out A h).2.2 (.inr B)
       . exact⟨Ap.blk.grown Q (fun e=>(p _ e.symm).2 rfl),Ap.bel.grown Q δ.size (fun A h=>(q.lt h).1)⟩
   . obtain rfl:r=k:=by omega
     obtain⟨R,pl,S,An,ν,hI,s,u,t,I,O,c,v⟩:=L.inv;have Bw:=zh I;have Bp:Hid (GrP (aB P M Mod) (aC P M) gen order S):=aD (by have:=hI.grp;rwa[ψ.out,List.take_length] at this);clear hI s u t I O c v;go_wp2_with fail;go_ret;exact⟨S,Bp.out,_,rfl,Bw.out,L.bel⟩
noncomputable def jO(P M:Int)(Mod:LI)(n:Int)(gen:LL):Int:=if cS P M Mod n gen=0 then xJ (aC P M).toNat gen.length else cS P M Mod n gen
noncomputable def xF(P M:Int)(Mod:LI)(n:Int)(gen:LL):Int:=if cS P M Mod n gen=0 then BB (aC P M).toNat gen.length else 0
def XO(w:World)(x A:Int)(e:Ending)(w':World):Prop:=e=.returned (.tuple #[.int .i64 x,.int .i64 A])/\Below w.heap.size w w'
theorem lK(w:World)(a:Nat)(P M:Int)(Mod:LI)(h:GF w a P M Mod):Calls Tryz.prog 121 #[.pointer (some ⟨a,0,none⟩)] w (fun e w'=>e=.returned (.int .i64 (aC P M))/\w=w'):=by obtain⟨q,mv,C,A,D,B,E,L,h⟩:=h;have c3:=h.c3;rw[h.ord];clear h;go_enter Tryz.func121,Tryz.ntmps121;go_wp2_with fail;go_ret;exact⟨rfl,rfl⟩
theorem R5(w:World)(P M:Int)(mv:Value)(Mod:LI)(h:SI w mv Mod):
  Calls Tryz.prog 39 #[.agg #[.int .i64 P,.int .i64 M,mv]] w (fun e w'=>∃C B,e=.returned (.tuple #[C,.int .i64 B])/\Below w.heap.size w w'):=by
 by_cases A:cK P M Mod
 .refine(mK w P M mv Mod h A).mono ?_;rintro e w1 ⟨a,rfl,_,hb⟩;exact⟨_,_,rfl,hb⟩
 .refine(R6 w P M mv Mod h A).mono ?_;rintro e w1 ⟨rfl,hb⟩;exact⟨_,_,rfl,hb⟩
theorem BW(w:World)(P M n:Int)(mv gv:Value)(Mod:LI)(gen:LL)(hm:SI w mv Mod)(hg:SS w gv gen):
  Calls Tryz.prog 148 #[.agg #[.int .i64 P,.int .i64 M,mv,.int .i64 n,gv]] w (XO w (xF P M Mod n gen) (jO P M Mod n gen)):=by
 have O:=zh (fun(w':World) (hb:Below w.heap.size w w')=>eO w' P M n mv gv Mod gen (hm.below hb zr) (hg.below hb zr));obtain⟨H,L,rfl,_⟩:=hg;by_cases C:cS P M Mod n gen=0
 .obtain⟨R,hn1,r,d,_,_⟩:=iL C;have Q:=zh (fun(w':World) (hb:Below w.heap.size w w')=>mK w' P M mv Mod (hm.below hb zr) R);have g:=aK P M;have f:=cG R.1;obtain⟨q,hq⟩:∃q:Nat,aC P M=(q:Int):=⟨(aC P M).toNat,by omega⟩
  have I:Hid (xF P M Mod n gen=BB q gen.length):=aD (by unfold xF;rw[if_pos C,hq,aZ8]);have J:Hid (jO P M Mod n gen=xJ q gen.length):=aD (by unfold jO;rw[if_pos C,hq,aZ8]);have T:2<=q:=by omega
  have U:q<=256:=by omega
  rw[I.out,J.out];rw[C] at O;have W:=zh (fun(w':World)=>K2 w' q gen.length T U d);have Y:=zh (fun(w':World) (a:Nat) (h:GF w' a P M Mod)=>by have:=lK w' a P M Mod h;rw[hq] at this;exact this);clear I J g f hq C R hm T U;generalize gen.length=D at*;generalize BB q D=v at*;generalize xJ q D=x at*;have B:=zh (dD.mk' w P M mv n (.slice H D L));go_enter Tryz.func148,Tryz.ntmps148;go_upto_region 1 with fail;generalize w.alloc (.cells #[.int .i64 P,.int .i64 M,mv,.int .i64 n,.slice H D L] 27)=w0 at*;have c0:=B.c0;have c1:=B.c1;have c2:=B.c2;go_wp2_with fail;refine(Q.out w0 B.bel).mono ?_;rintro e w1 ⟨a,rfl,V,F⟩;have Z:=zh V;have j:=zh F;have A:=zh (B.on F);clear F V c0 c1 c2;have c0:=A.c0;have c1:=A.c1;have c2:=A.c2;have c3:=A.c3;have c4:=A.c4;go_wp2_with fail;refine(O.out w1 A.bel).mono ?_;rintro e w2 ⟨rfl,G⟩;have N:=zh (A.on G);have X:Hid (GF w2.drew a P M Mod):=aD (Z.out w2.drew fun p o b=>World.cell?_of_block ((aA G (aH w2)).block _ b));clear G c0 c1 c2 c3 c4;have c4:=N.c4;go_upto_region 7 with fail;refine aG.start (S:=fun w'=>w'.cell? ⟨w.heap.size,4,none⟩=some (.slice H D L)) (by kernel_rfl) (c4) (fun E=>?_);change aG _ _ _ _ 10 _ _ _;refine tq 0 ?_;refine tq 2 ?_;refine tq 3 ?_;refine tq 4 ?_;try simp only[tz]
  refine aG.only (i:=1) (by kernel_rfl) rfl (fun K hK=>?_);go_simp;refine(Y.out w2.drew a X).mono ?_;rintro e t ⟨rfl,rfl⟩;refine hK.out _ _ (c4) ?_;clear hK K E;intro E;try simp only[tz]
  refine aG.only (i:=5) (by kernel_rfl) rfl (fun K hK=>?_);go_simp;refine(W _).mono ?_;rintro e u ⟨rfl,rfl⟩;refine hK.out _ _ (c4) ?_;clear hK K E;intro E;try simp only[tz]
  refine tq 6 ?_;refine tq 7 ?_;refine tq 8 ?_;try simp only[tz]
  refine aG.only (i:=9) (by kernel_rfl) rfl (fun K hK=>?_);go_simp;refine hK.out _ _ E (fun c=>?_);clear hK K;clear c;refine aG.done (by kernel_rfl) ?_;try simp only[tz]
  clear E;clear c4;go_wp2_with fail;go_ret2;exact⟨rfl,N.bel.drew⟩
 .have Q:=zh (fun(w':World) (hb:Below w.heap.size w w')=>R5 w' P M mv Mod (hm.below hb zr));have I:Hid (xF P M Mod n gen=0):=aD (by unfold xF;rw[if_neg C]);have J:Hid (jO P M Mod n gen=cS P M Mod n gen):=aD (by unfold jO;rw[if_neg C]);rw[I.out,J.out];have k:(cS P M Mod n gen !=0)=true:=by rw[bne_iff_ne];exact C
  clear C hm I J;generalize cS P M Mod n gen=l at*;generalize gen.length=D at*;have B:=zh (dD.mk' w P M mv n (.slice H D L));go_enter Tryz.func148,Tryz.ntmps148;go_upto_region 1 with fail;generalize w.alloc (.cells #[.int .i64 P,.int .i64 M,mv,.int .i64 n,.slice H D L] 27)=w0 at*;have c0:=B.c0;have c1:=B.c1;have c2:=B.c2;go_wp2_with fail;refine(Q.out w0 B.bel).mono ?_;rintro e w1 ⟨s,m,rfl,F⟩;have A:=zh (B.on F);clear F c0 c1 c2;have c0:=A.c0;have c1:=A.c1;have c2:=A.c2;have c3:=A.c3;have c4:=A.c4;go_wp2_with fail;refine(O.out w1 A.bel).mono ?_;rintro e w2 ⟨rfl,G⟩;have N:=zh (A.on G);clear G c0 c1 c2 c3 c4;go_wp2_with fail;go_ret2;exact⟨rfl,N.bel⟩
end Go.Proofs.YtpfhoemohibniaaGreatDoor
