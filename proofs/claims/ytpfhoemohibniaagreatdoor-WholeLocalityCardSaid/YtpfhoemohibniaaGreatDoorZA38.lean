/- Texts of a claim, merged. -/
import Derived.Test.YtpfhoemohibniaaGreatDoorZA33
set_option maxRecDepth 100000
set_option maxHeartbeats 32000000
namespace Go.Proofs.YtpfhoemohibniaaGreatDoor
open Go.RowKit
theorem Off.trans2{X Y:Nat->Prop}{A B C:World}(h:Off X A B)(k:Off Y B C)(E:∀i,i<A.heap.size->Y i->X i):Off X A C:=
 ⟨k.os.trans h.os,k.tape.trans h.tape,k.output.trans h.output,aZ6 h.size k.size,fun i hi D=>(k.block i (aY1 hi h.size) fun F=>D (E i hi F)).trans (h.block i hi D)⟩
theorem SI.off{X:Nat->Prop}{W C:World}{v:Value}{xs:LI}(h:SI W v xs)(G:Off X W C)(hn:∀i,v.ownBlock=some i->¬X i):SI C v xs:=by obtain⟨A,c,rfl,B⟩:=h;refine⟨A,c,rfl,B.len,B.cap,fun k F=>?_,B.wf⟩;obtain⟨D,e,E⟩:=B.cell k F;refine⟨D,e,?_⟩;subst e;have hb:=World.block_lt_of_cell? _ _ E;rw[World.cell?_of_block (G.block _ hb (by rw[bS];exact hn D.block rfl))];exact E
def IP(B:World)(A Kp:Nat->Prop)(J C:Nat->(Nat->Prop)->World->Prop)(O:aO)(q N K:Nat)(gen L:LL)(cb ba F E D r:Nat):Prop:=
 ∀(row s:Nat) (X:Nat->Prop) (W:World) (wv:Value),row+r=K->s<q^row->WS B A Kp ba J (s*q^r) X W->SI W wv (pwL O q N gen row s)->(∀i,wv.ownBlock=some i->i≠ba/\¬X i)->
  Calls Tryz.prog 277 #[.int .i64 (row:Int),wv,.pointer (some ⟨cb,0,none⟩),.pointer (some ⟨ba,0,none⟩),.pointer (some ⟨F,0,none⟩),.pointer (some ⟨E,0,none⟩),.pointer (some ⟨D,0,none⟩)] W (tQ B A Kp ba J C L.length ((s+1)*q^r) X W)
theorem NB{G:World}{D Kp:Nat->Prop}{P M:Int}{Mod:LI}{gen L:LL}{Bs:Option Addr}{K N q Ct cb ba t Y V a l r:Nat}(d:WD G D P M Mod gen Bs K Ct cb ba t Y V a l)
   {J ν:Nat->(Nat->Prop)->World->Prop}(Ab:pT J)(hq:aC P M=(q:Int))(χ:cK P M Mod)(hK:gen.length=K)(Dl:K<=1000)(Cv:1<=N)(Dm:N<=1000)(hR:Rows (q:Int) N gen)
   (Ay:IP G D Kp J ν (aB P M Mod) q N K gen L cb ba t Y V r):IP G D Kp J ν (aB P M Mod) q N K gen L cb ba t Y V (r+1):=by
 intro row s X W wv Cz Bp I Bq Br;have hO:=dU χ;rw[hq] at hO;have Do:2<=q:=by have:=hO.lt.pos;omega
 have Dq:q<=256:=by have:=aK P M;omega
 have O:=zh d;have Aq:=zh Ab;have Cd:=zh Ay;have Av:=zh Bq;have Aw:=zh Br;have Cj:=zh hq;have Ca:=zh χ.1;have η:Hid (∀j,0<=(pwL (aB P M Mod) q N gen row s).getD j 0/\(pwL (aB P M Mod) q N gen row s).getD j 0<(q:Int)):=aD (LU hO N gen row s);have Am:Hid (∀a,a<q->pwL (aB P M Mod) q N gen (row+1) (s*q+a)=aQ N fun j=>dT P M ((pwL (aB P M Mod) q N gen row s).getD j 0) (bO P M Mod (a:Int) (ent gen row j))):=aD fun a Bj=>SQ Bj;have Bt:Hid (∀x,0<=x->x<(q:Int)->∀a y,(a=0\/y=0)->dT P M x (bO P M Mod a y)=x):=aD fun x Bc b a y h=>by
   have e:bO P M Mod a y=0:=by
     rcases h with rfl|rfl
     . exact hO.zero_mul y
     . exact hO.mul_zero a
   rw[e];exact hO.add_zero x Bc b
 have Cf:Hid (∀a,a<q->s*q+a<q^(row+1)):=aD fun a Bj=>by rw[Nat.pow_succ];have:=Nat.mul_le_mul_right q (show s+1<=q^row from Bp);rw[Nat.add_mul,Nat.one_mul] at this;omega
 have n:Hid ((pwL (aB P M Mod) q N gen row s).length=N):=aD (vG _ _ _ _ _ _);have ζ:=zh hK;have Aj:=zh hR;obtain⟨A,Bo⟩:∃A,A=pwL (aB P M Mod) q N gen row s:=⟨_,rfl⟩
 rw[<-Bo] at Av η Am n;clear Bo;have ω:row<K:=by omega
 have c4:=d.c4 W I.hd;have Z:=d.gp W I.hd;have Cc:=zh (d.gf W I.hd);have Dt:((row:Int)==(K:Int))=false:=by rw[beq_eq_false_iff_ne];omega
 have Ar:Hid (∃B,WS G D Kp ba J ((s*q+0)*q^r) B W/\(∀i,B i->X i\/W.heap.size<=i)/\Off (fun i=>X i\/i=ba) W W):=aD ⟨X,by rw[Nat.add_zero,show s*q*q^r=s*q^(r+1) by rw[Nat.pow_succ',Nat.mul_assoc]];exact I,fun i hi=>.inl hi,Off.refl _ _⟩;have By:Hid ((s*q+q)*q^r=(s+1)*q^(r+1)):=aD (by rw[Nat.pow_succ',<-Nat.mul_assoc,Nat.add_mul s 1 q,Nat.one_mul]);have Ck:Hid (row+1+r=K):=aD (by omega);have Dg:Hid (∀i,X i->i<W.heap.size):=aD (Ab.lt _ _ _ I.j);have Bx:Hid (ba<W.heap.size):=aD I.at_.lt;clear d Ab hq χ hK Ay Cz Bp I Bq Br hO hR;go_enter Tryz.func277,Tryz.ntmps277;go_wp2_with fail;refine(tA _ a P M Mod Cc).mono ?_;rintro e w0 ⟨rfl,rfl⟩;rw[Cj.out];clear c4 Z;go_wp2_with fail;go_loopw [10,11,29] (fun _ _ i wr=>∃x:Nat,x<=q/\i=.int .i64 (x:Int)/\Hid (∃B,WS G D Kp ba J ((s*q+x)*q^r) B wr/\(∀i,B i->X i\/W.heap.size<=i)/\Off (fun i=>X i\/i=ba) W wr)) (fun _ _ i _=>q-(intOf i).toNat)
 case atStart=>exact⟨0,aZ5 _,rfl,Ar⟩
 case round=>
   clear Ar;obtain⟨x,Ds,rfl,Au⟩:=hrel;obtain⟨Az,Bg,Bi,Be⟩:=Au.out;have U:=zh Bg;have ι:=zh Bi;have T:=zh Be;clear Bg Bi Be Au;generalize wr=C at*;by_cases ε:x<q
   . have Cq : decide (x < q) = true := decide_eq_true ε;have Cm : Hid (SI C wv A) := aD (Av.off T fun i hi h => by rcases h with h | h; exact (Aw.out i hi).2 h; exact (Aw.out i hi).1 h);have π := O.c4 C U.hd;obtain ⟨Dh, De, Di, xs, Bl, φ, Ax, κ⟩ := (O.gn C U.hd).eltA (k := row) (by rw [ζ.out]; exact ω);have μ : Hid (xs.length = N /\ ∀ j, ent gen row j = xs.getD j 0) := aD ⟨by rw [<- κ.out]; exact (Aj row (by rw [ζ.out]; exact ω)).1, fun j => by unfold ent; rw [κ.out]⟩;have Df : Hid (∀ j, 0 <= xs.getD j 0 /\ xs.getD j 0 < (q : Int)) := aD fun j => by
       have:=(Aj row (by rw[ζ.out];exact ω)).2 j;rw[κ.out] at this;exact this
     have Aa:=Ax.si;rw[μ.out.1] at φ Aa;have Co:=zh Aa;rw[Bl] at π;clear Bl Aa Ax;go_wp2_with fail;refine(iV C wv A Cm).mono ?_;rintro e w1 ⟨u,rfl,δ,w⟩;obtain⟨g,c,rfl,Bk,Cx⟩:=δ.form (by rw[n.out];exact Cv);rw[n.out] at δ|-;have Ai:=zh Bk;obtain⟨f,ψ⟩:∃f:Nat->Int,f=fun j=>dT P M (A.getD j 0) (bO P M Mod (x:Int) (ent gen row j)):=⟨_,rfl⟩
     have Af:Hid (∀j,f j=dT P M (A.getD j 0) (bO P M Mod (x:Int) (xs.getD j 0))):=aD fun j=>by rw[ψ];dsimp only;rw[μ.out.2 j]
     have Ah:Hid (aQ N f=pwL (aB P M Mod) q N gen (row+1) (s*q+x)):=aD (by rw[Am.out x ε,ψ]);have An:Hid (OI C.heap.size w1 (.slice (some ⟨g,0,none⟩) N c) (bY N f (fun j=>A.getD j 0) 0)):=aD (by rw[dA,mP n.out];exact δ);have Ad:=zh w;have c4:=aE w π;have Cw:=aE w φ;clear δ w Bk Cx ψ π φ;go_wp2_with fail;clear c4 Cw;go_loopw [12,13,40] (fun _ _ i wr=>∃j:Nat,j<=N/\i=.int .i64 (j:Int)/\Hid (OI C.heap.size wr (.slice (some ⟨g,0,none⟩) N c) (bY N f (fun j=>A.getD j 0) j))/\Hid (Below C.heap.size C wr)) (fun _ _ i _=>N-(intOf i).toNat)
     case atStart=>exact⟨0,aZ5 _,rfl,An,Ad⟩
     case round=>
       clear An Ad;obtain⟨j,Dn,rfl,F,E⟩:=hrel;have o:=zh (U.bel Aq O.lt E);by_cases Q:j<N
       . have Cr : decide (j < N) = true := decide_eq_true Q;obtain ⟨Dw, y, rfl, Da, _, Cp⟩ := (Co.below E zr).elt (k := j) (by rw [μ.out.1]; exact Q);have v := F.cell j (by rw [cU]; exact Q);rw [eJ Q] at v;have Cs := F.frozen j;have Ag : Hid (f j = dT P M (A.getD j 0) (bO P M Mod (x : Int) y)) := aD (by rw [Af.out, Cp.out]);have At : Hid (((x : Int) = 0 \/ y = 0) -> bY N f (fun j => A.getD j 0) (j + 1) = bY N f (fun j => A.getD j 0) j) := aD fun h => qK fun _ => by
           rw[Ag.out];exact Bt.out _ (η j).1 (η j).2 _ _ h
         have As:=zh (dO (f:=f) (g:=fun j=>A.getD j 0) Q);rw[Ag.out] at As;generalize A.getD j 0=z at*;by_cases R:(x:Int)=0
         . have Db:((x:Int) !=0)=false:=by rw[bne_eq_false_iff_eq];exact R
           have θ:=zh (At (.inl R));clear R;go_wp2_with fail;exact⟨⟨j+1,by omega,by push_cast;rfl,by rw[θ.out];exact F,E⟩,by simp only[intOf];omega⟩
         have Db:((x:Int) !=0)=true:=by rw[bne_iff_ne];exact R
         by_cases m:y=0
         . have Dc:(y !=0)=false:=by rw[bne_eq_false_iff_eq];exact m
           have θ:=zh (At (.inr m));clear R m;go_wp2_with fail;exact⟨⟨j+1,by omega,by push_cast;rfl,by rw[θ.out];exact F,E⟩,by simp only[intOf];omega⟩
         have Dc:(y !=0)=true:=by rw[bne_iff_ne];exact m
         have Z:=O.gp wr o.hd;have Al:=zh (O.gf wr o.hd);clear R m;go_wp2_with fail;refine aM.start (S:=fun w'=>w'.cell? ⟨Y,0,none⟩=some (.pointer (some ⟨a,0,none⟩))/\w'.cell? ⟨g,j,none⟩=some (.int .i64 z)) (by kernel_rfl) (⟨Z,v⟩) (fun τ=>?_);change aM _ _ _ _ 14 _ _ _;refine dq 0 ?_;refine dq 1 ?_;refine dq 2 ?_;refine dq 3 ?_;refine dq 4 ?_;refine dq 5 ?_;refine dq 6 ?_;refine dq 7 ?_;refine dq 8 ?_;refine dq 9 ?_;try simp only[tz]
         refine aM.only (i:=10) (by kernel_rfl) rfl (fun K hK=>?_);go_simp;refine(mH _ a P M (x:Int) y Mod (Al.on (aH wr))).mono ?_;rintro e Du ⟨rfl,hb⟩;have hb:=aA (aH wr) hb;have Cb:=zh (Al.on hb);have Bu:=zh (aA E hb);have Ci:=zh (F.below hb zr);have σ:=aE hb Z;have ρ:=aE hb v;clear hb;refine hK.out _ _ (fun _=>⟨σ,ρ⟩) (fun H=>?_);clear hK K;replace τ:=H (by decide);clear H;try simp only[tz]
         refine aM.only (i:=11) (by kernel_rfl) rfl (fun K hK=>?_);go_simp;refine(uL _ a P M z _ Mod Cb).mono ?_;rintro e Dv ⟨rfl,hb⟩;have Bv:=zh (aA Bu hb);have Ao:=zh (Ci.below hb zr);have g4:=aE hb σ;have Ba:=aE hb ρ;have Dj:=Ao.frozen j;clear hb;refine hK.out _ _ (fun _=>⟨g4,Ba⟩) (fun H=>?_);clear hK K;replace τ:=H (by decide);clear H;try simp only[tz]
         refine dq 12 ?_;try simp only[tz]
         refine aM.only (i:=13) (by kernel_rfl) rfl (fun K hK=>?_);go_simp;refine hK.out _ _ (fun h=>absurd rfl h) (fun H=>?_);clear hK K;clear H;refine aM.done (by kernel_rfl) ?_;try simp only[tz]
         clear τ;have Ap:=zh (Ao.set j (dT P M z (bO P M Mod (x:Int) y)));rw[As.out] at Ap;have Bw:=zh (Bv.setCell (p:=⟨g,j,none⟩) Ai (.int .i64 (dT P M z (bO P M Mod (x:Int) y))));clear Z v Cs σ ρ g4 Ba Da;go_wp2_with fail;exact⟨⟨j+1,by omega,by push_cast;rfl,Ap,Bw⟩,by simp only[intOf];omega⟩
       . have Cr:decide (j<N)=false:=decide_eq_false Q;obtain rfl:N=j:=by omega
         rw[cZ,Ah.out] at F;have Ch:Hid (SI wr (.slice (some ⟨g,0,none⟩) N c) (pwL (aB P M Mod) q N gen (row+1) (s*q+x))):=aD (by
           have h:=F.si (by rw[vG];omega) (fun k=>by
             rw[<-Ah.out];by_cases Cy:k<N
             . rw[aS Cy,Af.out];have:=DR Ca.out (A.getD k 0) (bO P M Mod (x:Int) (xs.getD k 0));have:=aK P M;exact I64.of_small (by omega) (by omega)
             . rw[aW (by rw[aT];omega)];exact I64.zero)
           exact h)
         have Bb:wr.cell? ⟨V,0,none⟩=some (.func (.func 277) #[] #[.pointer (some ⟨cb,0,none⟩),.pointer (some ⟨ba,0,none⟩),.pointer (some ⟨t,0,none⟩),.pointer (some ⟨Y,0,none⟩),.pointer (some ⟨V,0,none⟩)]):=O.fr wr o.hd;have Ae:=zh (Cd (row+1) (s*q+x) Az wr (.slice (some ⟨g,0,none⟩) N c) Ck (Cf x ε) o Ch (fun i hi=>by
           have e:g=i:=by simpa[Value.ownBlock] using hi
           subst e;have Bc:=Ai.out;have b:=Bx.out;have Cu:=T.size;exact⟨by omega,fun h=>by have:=Aq.lt _ _ _ U.j _ h;omega⟩))
         have Dr:wrap64 ((row:Int)+1)=(row:Int)+1:=by unfold wrap64;omega
         rw[show((row+1:Nat):Int)=(row:Int)+1 by push_cast;rfl] at Ae;go_wp2_with fail;refine Ae.mono ?_;rintro e Ac (⟨rfl,ξ,Bf,Bh,Bd⟩|⟨rfl,Dd,ξ,Bn,Bm⟩)
         . have Cl : Hid (∃ B, WS G D Kp ba J ((s * q + (x + 1)) * q ^ r) B Ac /\ (∀ i, B i -> X i \/ W.heap.size <= i) /\ Off (fun i => X i \/ i = ba) W Ac) := aD (by
             have Cu:=T.size;have Dk:=E.size;refine⟨ξ,by rw[<-Nat.add_assoc];exact Bf,fun i hi=>?_,?_⟩
             . rcases Bh i hi with h|h
               . exact ι.out i h
               . exact .inr (by omega)
             . refine(T.trans (oW E)).trans2 Bd fun i hi h=>?_;rcases h with h|h
               . rcases ι.out i h with b|b
                 . exact .inl b
                 . omega
               . exact .inr h)
           clear Bf Bh Bd Bb;go_wp2_with fail;exact⟨⟨x+1,by omega,by push_cast;rfl,Cl⟩,by simp only[intOf];omega⟩
         . have Ce:Hid (∃k B,k<L.length/\ν (k+1) B Ac):=aD ⟨Dd,ξ,Bn,Bm⟩;clear Bn Bm Bb;go_wp2_with fail;go_ret;exact .inr ⟨rfl,Ce.out⟩
   . have Cq:decide (x<q)=false:=decide_eq_false ε;obtain rfl:q=x:=by omega
     have Bz:Hid (∃B,WS G D Kp ba J ((s+1)*q^(r+1)) B C/\(∀i,B i->X i\/W.heap.size<=i)/\Off (fun i=>X i\/i=ba) W C):=aD ⟨Az,by rw[<-By.out];exact U.out,ι.out,T.out⟩;go_wp2_with fail;go_ret;exact .inl ⟨rfl,Bz.out⟩
theorem FY{G:World}{E Kp:Nat->Prop}{P M:Int}{Mod:LI}{gen:LL}{b:Option Addr}{K N q c cb ba O I H a l:Nat}(C:WD G E P M Mod gen b K c cb ba O I H a l)
  {J F:Nat->(Nat->Prop)->World->Prop}(D:pT J)(hq:aC P M=(q:Int))(Y:cK P M Mod)(hK:gen.length=K)(Q:K<=1000)(T:1<=N)(S:N<=1000)(hR:Rows (q:Int) N gen)(R:((iS (aB P M Mod) q N gen).length<=1000000\/∀k X W,J k X W->k<=1000000))
  (V:∀k B A u,k<(iS (aB P M Mod) q N gen).length->J k B A->SI A u ((iS (aB P M Mod) q N gen).getD k [])->(∀i,u.ownBlock=some i->i<A.heap.size/\¬B i)->YieldAt Fence.wide 2 Tryz.prog l #[.int .i64 (k:Int),u] A (yD Kp J F k B u A)):
  ∀r,IP G E Kp J F (aB P M Mod) q N K gen (iS (aB P M Mod) q N gen) cb ba O I H r
 |0=>fun row s X W wv g d U e f=>by
  obtain rfl:row=K:=by omega
  have Z:s<q^gen.length:=by rw[hK];exact d
  have:=NC (L:=iS (aB P M Mod) q N gen) C D R V (t:=s) (by rw[kA];exact Z) (X:=X) (W:=W) (by rw[Nat.pow_zero,Nat.mul_one] at U;exact U) (wv:=wv) (by rw[wN Z,hK];exact e) fun i hi=>(f i hi).1;rw[Nat.pow_zero,Nat.mul_one];exact this
 |r+1=>NB C D hq Y hK Q T S hR (FY C D hq Y hK Q T S hR R V r)
structure XH(w:World)(Kp:Nat->Prop)(cb:Nat)(P M:Int)(mv:Value)(n:Int)(gv:Value)(Mod:LI)(gen:LL):Prop where
 at_:∀W,w.heap.size<=W.heap.size->(∀i,Kp i->W.heap[i]?=w.heap[i]?)->Blk W cb 27 [.int .i64 P,.int .i64 M,mv,.int .i64 n,gv]/\SI W mv Mod/\SS W gv gen
 lt:∀i,Kp i->i<w.heap.size
theorem RX(w:World)(n:Nat):∃w' g,(w.alloc (.cells (madeCells #[.int .i64 0] n) 3)).drew=w'/\w.heap.size=g/\RI w' g (List.replicate n 0)/\Below w.heap.size w w':=
 ⟨_,_,rfl,rfl,RI.made w n,aA (aF w _) (aH _)⟩
theorem KJ(w:World)(A D E:TypeId)(B F G:Value):∃C,((w.alloc (.cells #[B] A)).alloc (.cells #[F] D)).alloc (.cells #[G] E)=C/\Blk C w.heap.size A [B]/\Blk C (w.heap.size+1) D [F]/\Blk C (w.heap.size+1+1) E [G]/\Below w.heap.size w C:=by
 refine⟨_,rfl,((Blk.new w A [B]).alloc _).alloc _,?_,?_,aA (aA (aF w _) (aF _ _)) (aF _ _)⟩
 .have:=(Blk.new (w.alloc (.cells #[B] A)) D [F]).alloc (.cells #[G] E);rwa[World.size_alloc] at this
 .have:=Blk.new ((w.alloc (.cells #[B] A)).alloc (.cells #[F] D)) E [G];rwa[World.size_alloc,World.size_alloc] at this
theorem I8{E:World}{C Kp:Nat->Prop}{ba n F:Nat}{J D:Nat->(Nat->Prop)->World->Prop}{X:Nat->Prop}{W B:World}{e:Ending}(h:tQ E C Kp ba J D n F X W e B):
  ∃b,e=.returned (.bool b)/\(b=true->∃A,WS E C Kp ba J F A B)/\(b=false->∃k A,k<n/\D (k+1) A B):=by
 rcases h with⟨rfl,A,h,_⟩|⟨rfl,h⟩
 .exact⟨true,rfl,fun _=>⟨A,h⟩,(fun h=>nomatch h)⟩
 .exact⟨false,rfl,(fun h=>nomatch h),fun _=>h⟩
theorem TU{w:World}{Kp:Nat->Prop}{cb N q:Nat}{P M:Int}{mv gv:Value}{Mod:LI}{gen:LL}(hC:XH w Kp cb P M mv (N:Int) gv Mod gen)(κ:cS P M Mod N gen=0)(hq:aC P M=(q:Int)):
  XV Fence.wide 3 Tryz.prog 276 #[.pointer (some ⟨cb,0,none⟩)] (iS (aB P M Mod) q N gen) Kp w:=by
 intro l J Bw X W Y Ar Bu Ai Aj Ag;refine callsIn_wide.2 ?_;show Calls Tryz.prog _ #[.func (.yield l) #[] #[],.pointer (some ⟨cb,0,none⟩)] W _;obtain⟨μ,hn1,Bs,Bp,hR,Bo⟩:=iL κ;obtain⟨f,n,rfl,_⟩:=(hC.at_ w zr fun _ _=>rfl).2.2;have U:=zh Y;rw[aZ8,hq] at hR;have v:Hid (∀A,Below W.heap.size W A->Blk A cb 27 [.int .i64 P,.int .i64 M,mv,.int .i64 (N:Int),.slice f gen.length n]/\SI A mv Mod/\SS A (.slice f gen.length n) gen):=aD fun A hb=>hC.at_ A (aZ6 Y.size hb.size) fun i hi=>by have C:=hC.lt i hi;rw[hb.block i (aY1 C Y.size),Y.block i C]
 have τ:=zh (fun(w':World) (C:SI w' mv Mod) (E:SS w' (.slice f gen.length n) gen)=>eO w' P M N mv _ Mod gen C E);rw[κ] at τ;have Bb:=zh (fun(w':World) (C:SI w' mv Mod)=>mK w' P M mv Mod C μ);obtain⟨w0,L,Ac,Ad,Am,Ak⟩:=bB W 286 [.func (.yield l) #[] #[]];have φ:=zh Ac;have At:=zh Am;have ξ:=zh Ak;have χ:=zh Ad;have R:=zh hC;have T:=zh Ag;have I:=zh Ar;have Bi:=zh Aj;clear Ac Ad Am Ak hC Y Ar Bu Aj Ag;go_enter Tryz.func276,Tryz.ntmps276;go_upto_region 1 with fail;rw[φ.out,χ.out];clear φ;obtain⟨G,C,E⟩:=v.out w0 ξ.out;have Az:=zh C;have Ax:=zh E;obtain⟨y,O,z,δ,m,_⟩:=G.five;clear C E G;go_wp2_with fail;refine(τ.out w0 Az Ax).mono ?_;rintro e w1 ⟨rfl,θ⟩;have x:=zh (aA ξ θ);have Au:=zh (At.belowS θ);clear θ y O z δ m;obtain⟨G,C,E⟩:=v.out w1 x.out;have Ba:=zh C;obtain⟨y,O,z,δ,m,_⟩:=G.five;clear C E G;go_wp2_with fail;refine(Bb.out w1 Ba).mono ?_;rintro e w2 ⟨a,rfl,Ap,ι⟩;have Be:=zh Ap;have π:=zh (aA x ι);have ρ:=zh (Au.belowS ι);have Bd:=zh (show W.heap.size<=w1.heap.size from x.size);clear Ap ι y O z δ m;go_upto_region 6 with fail;obtain⟨B,Al⟩:∃B,B=w2.heap.size:=⟨_,rfl⟩
 obtain⟨D,Ae,s,η,V,t⟩:=KJ w2 87 3 286 (.pointer (some ⟨a,0,none⟩)) (.int .i64 0) (.func (.func 277) #[] #[.pointer (some ⟨cb,0,none⟩),.pointer (some ⟨w2.heap.size+1,0,none⟩),.pointer (some ⟨L,0,none⟩),.pointer (some ⟨w2.heap.size,0,none⟩),.pointer (some ⟨w2.heap.size+1+1,0,none⟩)]);rw[Ae];rw[<-Al] at s η V|-;have Aq:=V.lt;have Bt:=π.size;have Bn:L<w2.heap.size:=ρ.lt;have g:=zh (aA π t);have σ:=zh (ρ.belowS t);obtain⟨H,Q⟩:∃H:Nat->Prop,H=fun i=>Kp i\/(W.heap.size<=i/\i<D.heap.size/\i≠B+1):=⟨_,rfl⟩
 have Z:∀{A:World},Hd D H A->∀{i},W.heap.size<=i->i<D.heap.size->i≠B+1->A.heap[i]?=D.heap[i]?:=fun{A} h {i} C E Ah=>h.2 i (by rw[Q];exact .inr ⟨C,E,Ah⟩);have c:∀{A:World},Hd D H A->w.heap.size<=A.heap.size/\∀i,Kp i->A.heap[i]?=w.heap[i]?:=fun{A} h=>by refine⟨aZ6 U.size (aZ6 g.size h.1),fun i hi=>?_⟩;have C:=R.lt i hi;have E:=U.size;rw[h.2 i (by rw[Q];exact .inl hi),g.out.block i (by omega),U.out.block i C]
 have Aa:Hid (WD D H P M Mod gen f gen.length n cb (B+1) L B (B+1+1) a l):=aD {
  c4:=fun A h=>((R.at_ A (c h).1 (c h).2).1).cell 4
  gn:=fun A h=>(R.at_ A (c h).1 (c h).2).2.2
  yl:=fun A h=>by have:Blk A L 286 [.func (.yield l) #[] #[]]:=(Z h (by rw[χ.out];exact Nat.le_refl _) (by have:=σ.lt;omega) (by omega)).trans σ.out;exact this.cell 0
  gp:=fun A h=>by have:Blk A B 87 [.pointer (some ⟨a,0,none⟩)]:=(Z h (by omega) (by have:=s.lt;omega) (by omega)).trans s;exact this.cell 0
  gf:=fun A h=>Be.out A fun p C E=>by
   have Ah:=Bd.out;have Bm:A.heap[p.block]?=w2.heap[p.block]?:=by rw[Z h (by omega) (by omega) (by omega),t.block _ E]
   exact World.cell?_of_block Bm
  fr:=fun A h=>by have:Blk A (B+1+1) 286 _:=(Z h (by omega) (by omega) (by omega)).trans V;exact this.cell 0
  nb:=by
   rw[Q];rintro (h|h)
   .have:=R.lt _ h;have:=U.size;omega
   .exact h.2.2 rfl
  lt:=fun i hi=>by
   rw[Q] at hi;rcases hi with h|h
   .have:=R.lt _ h;have:=U.size;omega
   .exact h.2.1}
 have Bh:Hid (∀A,Below D.heap.size D A->WS D H Kp (B+1) J 0 X A):=aD fun A hb=>{
  hd:=⟨hb.size,fun i hi=>hb.block i (Aa.lt i hi)⟩
  at_:=η.belowS hb
  j:=I.on _ _ _ _ T.out ((oW (X:=fun _=>False) (aA g hb)).on fun i hi=>⟨I.lt _ _ _ T.out i hi,fun k=>k⟩)
  nx:=fun i hi=>by
   rw[Q] at hi;rcases hi with h|h
   .exact .inl h
   .refine .inr fun d=>?_;have:=I.lt _ _ _ T.out i d;omega
  nb:=fun d=>by have:=I.lt _ _ _ T.out _ d;omega}
 have Aw:=zh (FY Aa I hq μ rfl (by omega) (by omega) (by omega) hR Ai Bi gen.length);have Bg:=zh V;have ω:Hid (B+1+1<D.heap.size/\W.heap.size<=B):=aD ⟨Aq,by omega⟩;obtain⟨G,_,_⟩:=v.out D g.out;have O:=G.cell 3;have Ab:D.cell? ⟨B+1+1,0,none⟩=some (.func (.func 277) #[] #[.pointer (some ⟨cb,0,none⟩),.pointer (some ⟨B+1,0,none⟩),.pointer (some ⟨L,0,none⟩),.pointer (some ⟨B,0,none⟩),.pointer (some ⟨B+1+1,0,none⟩)]):=Bg.cell 0;have Bx:N<=64:=by omega
 have Br:=fun(w:World)=>dV N (by omega) w;have Ay:Hid ((iS (aB P M Mod) q N gen).length=q^gen.length):=aD (kA _ _ _ _);clear Ae Al s η V t Aq Bt Bn Z c Q G hq μ hn1 Bs Bp hR Bo Ai κ;refine aM.start (S:=fun w'=>w'.cell? ⟨B+1+1,0,none⟩=some (.func (.func 277) #[] #[.pointer (some ⟨cb,0,none⟩),.pointer (some ⟨B+1,0,none⟩),.pointer (some ⟨L,0,none⟩),.pointer (some ⟨B,0,none⟩),.pointer (some ⟨B+1+1,0,none⟩)])/\w'.cell? ⟨cb,3,none⟩=some (.int .i64 (N:Int))) (by kernel_rfl) (⟨Ab,O⟩) (fun r=>?_);change aM _ _ _ _ 5 _ _ _;refine dq 0 ?_;try simp only[tz]
 refine aM.only (i:=1) (by kernel_rfl) rfl (fun K hK=>?_);go_simp;refine hK.out _ _ (fun _=>r) (fun F=>?_);clear hK K;clear F;try simp only[tz]
 refine aM.only (i:=2) (by kernel_rfl) rfl (fun K hK=>?_);go_simp;refine hK.out _ _ (fun _=>r) (fun F=>?_);clear hK K;clear F;try simp only[tz]
 refine aM.only (i:=3) (o:=?op1) (by kernel_rfl) ?ho1 (fun K hK=>?_)
 case ho1=>(conv=>lhs;simp only[tdg,tdh,tdi])
 go_simp;obtain⟨ν,g5,Af,ε,ζ,u⟩:=RX D N;rw[Af,ε];have As:=zh u;have Av:=zh ε;have Bv:=zh ζ;have Bf:Hid (SI ν (.slice (some ⟨g5,0,none⟩) N N) (pwL (aB P M Mod) q N gen 0 0)):=aD (by rw[SR];have h:=ζ.si (by rw[List.length_replicate];omega) (fun k=>by by_cases Bq:k<N<;>simp[List.getD,Bq]<;>exact I64.zero);rw[List.length_replicate] at h;exact h);have Bc:Hid (∀i,(Value.slice (some ⟨g5,0,none⟩) N N).ownBlock=some i->i≠B+1/\¬X i):=aD (fun i hi=>by have e:g5=i:=(by simpa[Value.ownBlock] using hi);subst e;have C:=Av.out;exact⟨by have:=ω.out;omega,fun d=>by have:=I.lt _ _ _ T _ d;have:=ω.out;omega⟩);have Bl:=aE u Ab;have Bk:=aE u O;clear Af ε ζ u Br;refine hK.out _ _ (fun _=>⟨Bl,Bk⟩) (fun F=>?_);clear hK K;replace r:=F (by decide);clear F;try simp only[tz]
 refine aM.only (i:=4) (by kernel_rfl) rfl (fun K hK=>?_);go_simp;refine((Aw 0 0 X ν (.slice (some ⟨g5,0,none⟩) N N) (Nat.zero_add _) (by rw[Nat.pow_zero];exact Nat.one_pos) (by rw[Nat.zero_mul];exact Bh.out ν As) (Bf.out) (Bc.out):Calls _ _ #[.int .i64 0,_,_,_,_,_,_] _ _)).mono ?_;rintro e By An;obtain⟨b,rfl,Ao⟩:=I8 An;have ψ:=zh Ao;clear An Ao;refine hK.out _ _ (fun h=>absurd rfl h) (fun F=>?_);clear hK K;clear F;refine aM.done (by kernel_rfl) ?_;try simp only[tz]
 clear r;go_wp2_with fail;refine bodyPost_end (results_none rfl _ _ _) rfl ?_;refine⟨⟨_,rfl⟩,?_⟩;cases b
 .exact .inr (ψ.2 rfl)
 .obtain⟨Bj,h⟩:=ψ.1 rfl;refine .inl ⟨Bj,?_⟩;rw[Ay.out];have:=h.j;rwa[Nat.zero_add,Nat.one_mul] at this
end Go.Proofs.YtpfhoemohibniaaGreatDoor
