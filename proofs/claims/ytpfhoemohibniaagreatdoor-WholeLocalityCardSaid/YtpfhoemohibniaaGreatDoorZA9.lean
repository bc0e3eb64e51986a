/- Texts of a claim, merged. -/
import Derived.Test.YtpfhoemohibniaaGreatDoorZA5
import Derived.Test.YtpfhoemohibniaaGreatDoorZA6
import Derived.Laws.RangeString
import Derived.Laws.RangeAny
import Derived.Laws.DeepStrings4
set_option maxRecDepth 100000
set_option linter.unusedSimpArgs false
set_option maxHeartbeats 32000000
namespace Go.Proofs.YtpfhoemohibniaaGreatDoor
open Go.RowKit
def YJ(w:World)(xss:LL)(e:Ending)(w':World):Prop:=∃u,e=.returned u/\OS w.heap.size (fun g=>g<w.heap.size) w' u xss/\Below w.heap.size w w'
theorem C7(w:World)(v:Value)(xss:LL)(h:SS w v xss)(hn:xss.length<=100000000)(W:∀k,k<xss.length->(xss.getD k []).length<=100000000):
  Calls Tryz.prog 270 #[v] w (YJ w xss):=by
 obtain⟨A,c,rfl,h⟩:=h;have H:=zh (show SS w (.slice A xss.length c) xss from⟨A,c,rfl,h⟩);clear h;have j:=zh W;clear W;obtain⟨n,M⟩:∃n,n=xss.length:=⟨_,rfl⟩
 rw[<-M] at hn H|-;have I:=zh M;clear M;go_enter Tryz.func270,Tryz.ntmps270;go_wp2_with fail;go_loopw [3,4] (fun out i wr=>∃k:Nat,k<=n/\i=.int .i64 (k:Int)/\Hid (OS w.heap.size (fun g=>g<w.heap.size) wr out (xss.take k))/\Hid (Below w.heap.size w wr)) (fun _ i _=>(n-intOf i).toNat)
 case atStart=>exact⟨0,aZ5 _,rfl,OS.nil _ _ _,bE _⟩
 case round=>
  obtain⟨k,ι,rfl,J,F⟩:=hrel;by_cases L:k<n
  .obtain⟨ε,δ,ζ,xs,rfl,s,K,S⟩:=(H.below F zr).eltA (k:=k) (by rw[<-I.out];exact L);have θ:=aE (aF wr (.cells #[] 3)) s;have z:=j.out k (by rw[<-I.out];exact L);rw[S.out] at z;have m:Hid (xss.take (k+1)=xss.take k++[xs]):=by
    show _=_;have U:k<xss.length:=by rw[<-I.out];exact L
    rw[List.take_succ_eq_append_getElem U];have:=S.out;simp[List.getD,U] at this;rw[this]
   have o:=zh (K.si.below (aF wr (.cells #[] 3)) zr);have p:=zh K.wf;have X:=F.size;have V:(xss.take k).length<=k:=List.length_take_le _ _;have b:=zh V;clear V;have N:=zh (OI.empty (B:=wr.heap.size) wr zr);have Y:=zh (aF wr (.cells #[] 3));have q:Hid (([]:LI).length+xs.length<=17592186044416):=by show _<=_;simp;omega
   have T:Hid (wr.heap.size<=(wr.alloc (.cells #[] 3)).heap.size):=by show _<=_;simp
   clear K
   go_wp2_with (first
    |(at_builtin;refine dW rfl _ _ rfl wr.heap.size _ _ rfl N _ xs rfl o q T ?_;(intro κ w1 C hg x);go_must (have G:=zh (N.bgrown Y T hg);rw[List.nil_append] at C;have Q:=zh (C.si (by omega) p);have O:=zh (C.new (w:=wr) zr);have f:=zh (J.below G);obtain⟨D,E,rfl,_⟩:=Q.out;have P:=zh (f.alloc (.cells #[.slice D xs.length E] 22));have l:=zh (Q.below (aF w1 (.cells #[.slice D xs.length E] 22)) zr);have a:=zh (T9 (w:=w1) (u:=.slice D xs.length E) (t:=22));have R:=zh (fM (w:=w1) (B:=w.heap.size) (aZ6 X G.size) (.cells #[.slice D xs.length E] 22));clear C hg x))
    |(at_builtin;refine jM rfl _ _ rfl w.heap.size (fun g=>g<w.heap.size) _ (xss.take k) rfl P.out w1.heap.size 1 _ xs rfl a l (fun _ g hg=>⟨fun e=>by have r:=O.out g hg;have η:=(J.lt e).2;omega,by have r:=O.out g hg;show ¬g<w.heap.size;omega⟩) (by have:=b.out;omega) R ?_;(intro μ w2 C hg y);go_must (have d:=zh C;have Z:=zh (P.bgrown ((aA F G).alloc (aZ6 X G.size) (.cells #[.slice D xs.length E] 22)) R hg);clear C hg y)))
   exact⟨⟨k+1,by omega,rfl,by rw[m.out];exact d,Z⟩,by simp only[intOf];omega⟩
  .obtain rfl:n=k:=by omega
   go_wp2_with fail;go_ret;refine⟨_,rfl,?_,F.out⟩;have:=J.out;rwa[List.take_of_length_le (by rw[<-I.out];exact Nat.le_refl _)] at this
theorem BM(w:World)(T U:Value)(a b:LI)(F:SI w T a)(hb:SI w U b):
  Calls Tryz.prog 146 #[T,U] w (sG w (decide (a=b))):=by
 obtain⟨A,c,rfl,F⟩:=F;obtain⟨B,d,rfl,hb⟩:=hb;have Y:=F.len;have Z:=hb.len;have J:=zh F.si;have K:=zh hb.si;clear F hb;by_cases H:a.length=b.length
 case neg=>
  have Q:(((a.length:Nat):Int) !=(b.length:Int))=true:=by rw[bne_iff_ne];omega
  have D:Hid (decide (a=b)=false):=by show _=_;exact decide_eq_false fun h=>H (by rw[h])
  clear H;go_enter Tryz.func146,Tryz.ntmps146;go_wp2_with fail;go_ret;exact⟨by rw[D.out];rfl,bE _⟩
 obtain⟨n,hn⟩:∃n,n=a.length:=⟨_,rfl⟩
 have I:n=b.length:=by omega
 rw[<-hn] at J Y|-;rw[<-I] at K|-;have G:=zh hn;have M:=zh I;clear hn I H Z;have Q:(((n:Nat):Int) !=(n:Int))=false:=by rw[bne_eq_false_iff_eq]
 go_enter Tryz.func146,Tryz.ntmps146;go_wp2_with fail;clear Q;go_loopw [5] (fun i wr=>∃k:Nat,k<=n/\i=.int .i64 (k:Int)/\Hid (∀j,j<k->a.getD j 0=b.getD j 0)/\Hid (Below w.heap.size w wr)) (fun i _=>(n-intOf i).toNat)
 case atStart=>exact⟨0,aZ5 _,rfl,aD fun j R=>absurd R (by omega),bE _⟩
 case round=>
  obtain⟨k,o,rfl,L,E⟩:=hrel;by_cases S:k<n
  .obtain⟨f,x,rfl,l,_,N⟩:=(J.below E zr).elt (k:=k) (by rw[<-G.out];exact S);obtain⟨g,y,rfl,m,_,O⟩:=(K.below E zr).elt (k:=k) (by rw[<-M.out];exact S);by_cases C:x=y
   .have X:(x !=y)=false:=by simp[C]
    have V:=zh C;clear C;go_wp2_with fail
    go_quiet (fail)
    go_wp2_with fail;exact⟨⟨k+1,by omega,rfl,aD fun j R=>by
     by_cases e:j=k
     .subst e;rw[N.out,O.out];exact V.out
     .exact L.out j (by omega),aA E.out (bI _ _)⟩,by simp only[intOf];omega⟩
   .have X:(x !=y)=true:=by simp[C]
    have D:Hid (decide (a=b)=false):=by show _=_;exact decide_eq_false fun h=>C (by rw[<-N.out,<-O.out,h])
    clear C;go_wp2_with fail
    go_quiet (fail)
    go_wp2_with fail;go_ret;exact⟨by rw[D.out];rfl,aA E (bI _ _)⟩
  .obtain rfl:n=k:=by omega
   have D:Hid (decide (a=b)=true):=by show _=_;refine decide_eq_true (List.ext_getElem (by rw[<-G.out,<-M.out]) fun i P W=>?_);have:=L.out i (by rw[G.out];exact P);simp[List.getD,P,W] at this;exact this
   go_wp2_with fail;go_ret;exact⟨by rw[D.out];rfl,E.out⟩
theorem BN(w:World)(V W:Value)(a b:LL)(E:SS w V a)(hb:SS w W b):
  Calls Tryz.prog 81 #[V,W] w (sG w (decide (a=b))):=by
 obtain⟨A,c,rfl,E⟩:=E;obtain⟨B,d,rfl,hb⟩:=hb;have m:=E.len;have o:=hb.len;have J:=zh (show SS w (.slice A a.length c) a from⟨A,c,rfl,E⟩);have K:=zh (show SS w (.slice B b.length d) b from⟨B,d,rfl,hb⟩);clear E hb;by_cases H:a.length=b.length
 case neg=>
  have S:(((a.length:Nat):Int) !=(b.length:Int))=true:=by rw[bne_iff_ne];omega
  have D:Hid (decide (a=b)=false):=by show _=_;exact decide_eq_false fun h=>H (by rw[h])
  clear H;go_enter Tryz.func81,Tryz.ntmps81;go_wp2_with fail;go_ret;exact⟨by rw[D.out];rfl,bE _⟩
 obtain⟨n,hn⟩:∃n,n=a.length:=⟨_,rfl⟩
 have I:n=b.length:=by omega
 rw[<-hn] at J m|-;rw[<-I] at K|-;have G:=zh hn;have N:=zh I;clear hn I H o;have S:(((n:Nat):Int) !=(n:Int))=false:=by rw[bne_eq_false_iff_eq]
 go_enter Tryz.func81,Tryz.ntmps81;go_wp2_with fail;clear S;go_loopw [5] (fun i wr=>∃k:Nat,k<=n/\i=.int .i64 (k:Int)/\Hid (∀j,j<k->a.getD j []=b.getD j [])/\Hid (Below w.heap.size w wr)) (fun i _=>(n-intOf i).toNat)
 case atStart=>exact⟨0,aZ5 _,rfl,aD fun j T=>absurd T (by omega),bE _⟩
 case round=>
  obtain⟨k,v,rfl,M,F⟩:=hrel;by_cases U:k<n
  .obtain⟨r,p,t,x,rfl,g,X,O⟩:=(J.below F zr).eltA (k:=k) (by rw[<-G.out];exact U);obtain⟨s,q,u,y,rfl,l,Z,P⟩:=(K.below F zr).eltA (k:=k) (by rw[<-N.out];exact U);go_wp2_with fail
   go_still_tail 8,(by kernel_rfl)
   change wpList _ _ _ _ _ wr.drew;go_wp2_with fail;refine(BM _ _ _ x y (X.si.below (aH _) zr) (Z.si.below (aH _) zr)).mono ?_;rintro e w1 ⟨rfl,R⟩;have L:=zh (aA (aA F (aH _)) R);clear R g l;by_cases C:x=y
   .rw[show decide (x=y)=true from decide_eq_true C];have Y:=zh C;clear C;go_wp2_with fail;exact⟨⟨k+1,by omega,rfl,aD fun j T=>by
     by_cases e:j=k
     .subst e;rw[O.out,P.out];exact Y.out
     .exact M.out j (by omega),L⟩,by simp only[intOf];omega⟩
   .rw[show decide (x=y)=false from decide_eq_false C];have D:Hid (decide (a=b)=false):=by show _=_;exact decide_eq_false fun h=>C (by rw[<-O.out,<-P.out,h])
    clear C;go_wp2_with fail;go_ret;exact⟨by rw[D.out];rfl,L.out⟩
  .obtain rfl:n=k:=by omega
   have D:Hid (decide (a=b)=true):=by show _=_;refine decide_eq_true (List.ext_getElem (by rw[<-G.out,<-N.out]) fun i Q f=>?_);have:=M.out i (by rw[G.out];exact Q);simp[List.getD,Q,f] at this;exact this
   go_wp2_with fail;go_ret;exact⟨by rw[D.out];rfl,F.out⟩
def aB(P M:Int)(Mod:LI):aO:=⟨dT P M,bO P M Mod,fZ P M,fJ P M Mod⟩
theorem lB{P M:Int}(C:aC P M≠0){r:LI}(B:r.length=M.toNat)(E:∀i,i<r.length->0<=r.getD i 0/\r.getD i 0<P):0<=bL P r/\bL P r<aC P M:=by obtain⟨A,_,_,_,_,D⟩:=bN C;have:=iF A r E;rw[D,<-B];exact this
theorem DR{P M:Int}(A:aC P M≠0)(x y:Int):0<=dT P M x y/\dT P M x y<aC P M:=by obtain⟨B,_,_,_,_,_⟩:=bN A;refine lB A (aT _ _) fun i hi=>?_;rw[aT] at hi;rw[aS hi];exact⟨Int.emod_nonneg _ (by omega),Int.emod_lt_of_pos _ (by omega)⟩
theorem VM{P M:Int}(A:aC P M≠0)(x:Int):0<=fZ P M x/\fZ P M x<aC P M:=by obtain⟨B,_,_,_,_,_⟩:=bN A;refine lB A (aT _ _) fun i hi=>?_;rw[aT] at hi;rw[aS hi];exact⟨Int.emod_nonneg _ (by omega),Int.emod_lt_of_pos _ (by omega)⟩
theorem mZ{P M:Int}(C:aC P M≠0)(Mod:LI)(x y:Int):0<=bO P M Mod x y/\bO P M Mod x y<aC P M:=by
 obtain⟨A,_,E,_,_,_⟩:=bN C;have D:=oN A Mod M.toNat _ (qH A (cJ P M x) (cJ P M y) M.toNat M.toNat) (M.toNat-1);have B:(mY P Mod (cJ P M x) (cJ P M y) M.toNat).length=M.toNat:=by unfold mY;rw[aY3,jZ,kI];omega
 refine lB C B fun i hi=>?_;rw[B] at hi;have:=D i;unfold mY;rw[show((jL P Mod M.toNat (conv P (cJ P M x) (cJ P M y) M.toNat M.toNat) (M.toNat-1)).take M.toNat).getD i 0=(jL P Mod M.toNat (conv P (cJ P M x) (cJ P M y) M.toNat M.toNat) (M.toNat-1)).getD i 0 by simp[List.getD,List.getElem?_take,hi]];exact this
theorem eW{P M:Int}(A:aC P M≠0)(Mod:LI):(aB P M Mod).Lt (aC P M):=
 ⟨by obtain⟨B,_,C,_,_,D⟩:=bN A;have:=cY B (show 1<=M.toNat by omega);rw[Int.pow_one] at this;omega,DR A,mZ A Mod⟩
theorem J4(w:World)(P M a:Int)(mv v:Value)(Mod xs:LI)(hm:SI w mv Mod)(J:SI w v xs)(hn:xs.length<=100000000)(X:aC P M≠0)(W:pW P M Mod):
  Calls Tryz.prog 271 #[.agg #[.int .i64 P,.int .i64 M,mv],.int .i64 a,v] w (pX w (bR (aB P M Mod) a xs)):=by
 obtain⟨A,c,rfl,J⟩:=J;have O:=zh J.si;clear J;have Y:=zh hm;clear hm;have Z:=zh W;clear W;have b:=zh X;clear X;obtain⟨n,I⟩:∃n,n=xs.length:=⟨_,rfl⟩
 rw[<-I] at hn O|-;have d:Hid (bR (aB P M Mod) a xs=aQ n fun i=>bO P M Mod a (xs.getD i 0)):=by rw[I];rfl
 have N:=zh I;clear I;have q:=fun(w:World)=>dV n (by omega) w;have R:=zh (cV.mk' w P M mv);go_enter Tryz.func271,Tryz.ntmps271;go_wp2_with fail;clear q;obtain⟨C,hC⟩:∃C,C=w.heap.size+1:=⟨_,rfl⟩
 have D:=zh (R.on (aF _ (.cells (madeCells #[.int .i64 0] n) 3)));have Q:Hid (RI ((w.alloc (.cells #[.int .i64 P,.int .i64 M,mv] 24)).alloc (.cells (madeCells #[.int .i64 0] n) 3)) C (List.replicate n 0)):=by have:=RI.made (w.alloc (.cells #[.int .i64 P,.int .i64 M,mv] 24)) n;rw[World.size_alloc,<-hC] at this;exact this
 rw[<-hC];have l:w.heap.size<C:=by omega
 clear hC R;go_loopw [8] (fun i wr=>∃k:Nat,k<=n/\i=.int .i64 (k:Int)/\Hid (RI wr C (bY n (fun i=>bO P M Mod a (xs.getD i 0)) (fun _=>0) k))/\Hid (cV w wr P M mv)) (fun i _=>(n-intOf i).toNat)
 case atStart=>exact⟨0,aZ5 _,rfl,by rw[dA,gH];exact Q,D⟩
 case round=>
  clear Q D;obtain⟨k,z,rfl,K,E⟩:=hrel;by_cases F:k<n
  .obtain⟨U,x,rfl,m,_,h⟩:=(O.below E.bel zr).elt (k:=k) (by rw[<-N.out];exact F);have c0:=E.c0;have c1:=E.c1;have c2:=E.c2;have S:=zh (dO (f:=fun i=>bO P M Mod a (xs.getD i 0)) (g:=fun _=>0) F);have r:U.add k≠⟨C,k,none⟩:=fun e=>by
    obtain⟨s,ι,V,o,_,_⟩:=O.elt (k:=k) (by rw[<-N.out];exact F);obtain rfl:=aZ0 V;have:=World.block_lt_of_cell? _ _ o;rw[e] at this;exact absurd this (by show ¬C<w.heap.size;omega)
   have δ:¬w.heap.size=C:=by omega
   go_wp2_with fail
   go_region_held3 (fun w'=>w'.cell? ⟨w.heap.size,0,none⟩=some (.int .i64 P)/\w'.cell? ⟨w.heap.size,1,none⟩=some (.int .i64 M)/\w'.cell? ⟨w.heap.size,2,none⟩=some mv/\w'.cell? (U.add k)=some (.int .i64 x)) (go_keep)
    (first
     |(go_at_call 338;refine(AG _ P M a x mv Mod (Y.below E.drew.bel zr) b Z).mono ?_;rintro e w1 ⟨rfl,H⟩;have L:=zh (K.drew.belowS H);have D:=zh (E.drew.on H);have p:=aE H m;clear H;have t:=D.c0;have V:=D.c1;have u:=D.c2;have j:=L.cell k (by rw[cU];exact F);rw[eJ F] at j;have y:=L.frozen k;have G:=zh (D.far (k:=k) l (.int .i64 (bO P M Mod a x)));have ε:=G.c0;have ζ:=G.c1;have η:=G.c2;have θ:=eP (a:=⟨C,k,none⟩) (v:=.int .i64 (bO P M Mod a x)) p r))
   go_wp2_with fail;rw[h.out] at S;exact⟨⟨k+1,by omega,rfl,by rw[<-S.out];exact L.set k _,G⟩,by simp only[intOf];omega⟩
  .obtain rfl:n=k:=by omega
   rw[cZ,<-d.out] at K;have T:Hid ((bR (aB P M Mod) a xs).length=n):=by show _=_;rw[gI,N.out]
   go_wp2_with fail;go_ret;have:=K.oi (B:=w.heap.size) (by omega) (by rw[T.out];omega);rw[T.out] at this;exact⟨_,rfl,this,E.bel⟩
theorem J1(w:World)(P M a:Int)(mv v u:Value)(Mod xs ys:LI)(hm:SI w mv Mod)(V:SI w v xs)(K:SI w u ys)(hn:xs.length<=100000000)(Ai:xs.length<=ys.length)(σ:aC P M≠0)(ξ:pW P M Mod):
  Calls Tryz.prog 273 #[.agg #[.int .i64 P,.int .i64 M,mv],v,.int .i64 a,u] w (pX w (cH (aB P M Mod) xs a ys)):=by
 obtain⟨A,c,rfl,V⟩:=V;obtain⟨B,d,rfl,K⟩:=K;have Y:=zh V.si;clear V;have As:=K.len;have ε:=zh K.si;clear K;have ψ:=zh hm;clear hm;have ω:=zh ξ;clear ξ;have z:=zh σ;clear σ;obtain⟨n,U⟩:∃n,n=xs.length:=⟨_,rfl⟩
 rw[<-U] at hn Y Ai|-;have δ:Hid (cH (aB P M Mod) xs a ys=aQ n fun i=>if ys.getD i 0≠0 then dT P M (xs.getD i 0) (bO P M Mod a (ys.getD i 0)) else xs.getD i 0):=by rw[U];rfl
 have X:=zh U;clear U;have Ah:=fun(w:World)=>dV n (by omega) w;have q:=zh (cV.mk' w P M mv);go_enter Tryz.func273,Tryz.ntmps273;go_wp2_with fail;clear Ah;obtain⟨C,hC⟩:∃C,C=w.heap.size+1:=⟨_,rfl⟩
 have F:=zh (q.on (aF _ (.cells (madeCells #[.int .i64 0] n) 3)));have o:Hid (RI ((w.alloc (.cells #[.int .i64 P,.int .i64 M,mv] 24)).alloc (.cells (madeCells #[.int .i64 0] n) 3)) C (List.replicate n 0)):=by have:=RI.made (w.alloc (.cells #[.int .i64 P,.int .i64 M,mv] 24)) n;rw[World.size_alloc,<-hC] at this;exact this
 rw[<-hC];have θ:w.heap.size<C:=by omega
 clear hC q;obtain⟨f,j⟩:∃f:Nat->Int,f=fun i=>if ys.getD i 0≠0 then dT P M (xs.getD i 0) (bO P M Mod a (ys.getD i 0)) else xs.getD i 0:=⟨_,rfl⟩
 rw[<-j] at δ;have χ:=zh j;clear j;go_loopw [10] (fun i wr=>∃k:Nat,k<=n/\i=.int .i64 (k:Int)/\Hid (RI wr C (bY n f (fun _=>0) k))/\Hid (cV w wr P M mv)) (fun i _=>(n-intOf i).toNat)
 case atStart=>exact⟨0,aZ5 _,rfl,by rw[dA,gH];exact o,F⟩
 case round=>
  clear o F;obtain⟨k,Ar,rfl,J,O⟩:=hrel;by_cases H:k<n
  .have ν:k<ys.length:=by omega
   obtain⟨R,x,rfl,ι,_,Aa⟩:=(Y.below O.bel zr).elt (k:=k) (by rw[<-X.out];exact H);obtain⟨ζ,y,rfl,κ,_,Ab⟩:=(ε.below O.bel zr).elt (k:=k) ν;have b:=J.cell k (by rw[cU];exact H);rw[eJ H] at b;have η:=J.frozen k;have s:=zh (dO (f:=f) (g:=fun _=>0) H);have π:R.add k≠⟨C,k,none⟩:=fun e=>by obtain⟨Ac,Ak,S,h,_,_⟩:=Y.elt (k:=k) (by rw[<-X.out];exact H);obtain rfl:=aZ0 S;have:=World.block_lt_of_cell? _ _ h;rw[e] at this;exact absurd this (by show ¬C<w.heap.size;omega)
   have ρ:ζ.add k≠⟨C,k,none⟩:=fun e=>by obtain⟨Ac,Ak,S,h,_,_⟩:=ε.elt (k:=k) ν;obtain rfl:=aZ0 S;have:=World.block_lt_of_cell? _ _ h;rw[e] at this;exact absurd this (by show ¬C<w.heap.size;omega)
   have μ:f k=if y≠0 then dT P M x (bO P M Mod a y) else x:=by rw[χ.out];show(if ys.getD k 0≠0 then _ else _)=_;rw[Aa.out,Ab.out]
   have r:=zh μ;clear μ;have T:=eP (a:=⟨C,k,none⟩) (v:=.int .i64 x) ι π;have D:=eP (a:=⟨C,k,none⟩) (v:=.int .i64 x) κ ρ;obtain⟨τ,G⟩:∃τ,τ=wr.setCell ⟨C,k,none⟩ (.int .i64 x):=⟨_,rfl⟩
   have E:=zh (O.far (k:=k) θ (.int .i64 x));have L:=zh (J.set k x);rw[<-G] at E L;have Al:Hid (R.block=R.block):=rfl;by_cases I:y=0
   .have Aj:(y !=0)=false:=by simp[I]
    have Z:=zh I;clear I;rw[G] at E L;clear G;go_wp2_with fail;exact⟨⟨k+1,by omega,rfl,by rw[<-s.out,r.out,if_neg (by rw[Z.out];simp)];exact L,E⟩,by simp only[intOf];omega⟩
   .have Aj:(y !=0)=true:=by simp[I]
    have Z:=zh I;clear I;rw[<-G] at T D;have l:=zh T;have m:=zh D;rw[G] at D;clear T;go_wp2_with fail;clear D ι κ b η;rw[<-G];clear G;have T:=l.out;have D:=m.out;have c0:=E.c0;have c1:=E.c1;have c2:=E.c2
    go_region_held3 (fun w'=>w'.cell? ⟨w.heap.size,0,none⟩=some (.int .i64 P)/\w'.cell? ⟨w.heap.size,1,none⟩=some (.int .i64 M)/\w'.cell? ⟨w.heap.size,2,none⟩=some mv/\w'.cell? (R.add k)=some (.int .i64 x)/\w'.cell? (ζ.add k)=some (.int .i64 y)) (go_keep)
     (first
      |(go_at_call 338;refine(AG _ P M a y mv Mod (ψ.below E.drew.bel zr) z ω).mono ?_;rintro e w1 ⟨rfl,D⟩;have φ:=zh (L.drew.belowS D);have F:=zh (E.drew.on D);have Ad:=aE D l.out;have Af:=aE D m.out;clear D;have Am:=F.c0;have S:=F.c1;have An:=F.c2)
      |(go_at_call 339;refine(ST _ P M x _ mv z).mono ?_;rintro e w2 ⟨rfl,D⟩;have W:=zh (φ.belowS D);have N:=zh (F.on D);have Ae:=aE D Ad;have Ag:=aE D Af;clear D;have Ao:=N.c0;have Ap:=N.c1;have Aq:=N.c2;have b:=W.cell k (by rw[aZ9,cU];exact H);have η:=W.frozen k;have Q:=zh (N.far (k:=k) θ (.int .i64 (dT P M x (bO P M Mod a y))));have At:=Q.c0;have Au:=Q.c1;have Av:=Q.c2;have Aw:=eP (a:=⟨C,k,none⟩) (v:=.int .i64 (dT P M x (bO P M Mod a y))) Ae π;have Ax:=eP (a:=⟨C,k,none⟩) (v:=.int .i64 (dT P M x (bO P M Mod a y))) Ag ρ))
    go_wp2_with fail;have p:=zh (W.set k (dT P M x (bO P M Mod a y)));rw[List.set_set] at p;exact⟨⟨k+1,by omega,rfl,by rw[<-s.out,r.out,if_pos Z.out];exact p,Q⟩,by simp only[intOf];omega⟩
  .obtain rfl:n=k:=by omega
   rw[cZ,<-δ.out] at J;have t:Hid ((cH (aB P M Mod) xs a ys).length=n):=by show _=_;rw[iK,X.out]
   go_wp2_with fail;go_ret;have:=J.oi (B:=w.heap.size) (by omega) (by rw[t.out];omega);rw[t.out] at this;exact⟨_,rfl,this,O.bel⟩
theorem X7{w:World}{g:Nat}{t:TypeId}{a b c d x y z u:Value}(h:Blk w g t [a,b,c,d]):∃w',(((w.setCell ⟨g,0,none⟩ x).setCell ⟨g,1,none⟩ y).setCell ⟨g,2,none⟩ z).setCell ⟨g,3,none⟩ u=w'/\nH w w' g t [x,y,z,u]:=
 ⟨_,rfl,(((h.set_ 0 x).set_ 1 y).set_ 2 z).set_ 3 u,aP (p:=⟨g,3,none⟩) (aP (p:=⟨g,2,none⟩) (iI w g 0 1 x y) (.inl rfl) _) (.inl rfl) _⟩
theorem yB{s:ByteArray}{i j:Nat}(B:i<=j)(C:j<=s.size){u:ByteArray}(A:s.extract i j=u)(w:World):(Instr.slice 9 (.string s) (some (.int .i64 (i:Int))) (some (.int .i64 (j:Int))) none).run Tryz.prog w=.ok (.string u) w:=by rw[run_slice_string_if (P:=Tryz.prog) w 9 s .i64 .i64 (i:Int) (j:Int) Tryz.underlying9,if_pos ⟨by omega,by omega⟩,if_pos ⟨by omega,by omega⟩];simp[A]
theorem JV(w:World)(s:ByteArray)(i:Nat)(S:s.size<=1000)(hi:i+1<s.size)(d:Nat)(ζ:d<=9)(hb:bAt s i=48+(d:Int))(b:Int)(F:bAt s (i+1)=b)(H:tV b=false)(I:yI b=false)(ε:(b==95)=false)
   (u:ByteArray)(K:s.extract i (i+1)=u)(ξ:u.size=1)(T:(u[0]'(by omega)).toNat=48+d):
   Calls Tryz.prog 68 #[.string s,.int .i64 (i:Int)] w (fun e w'=>e=.returned (.agg #[.int .i64 2,.string u,.int .i64 (d:Int),.int .i64 (i:Int)])/\Below w.heap.size w w'):=by
 obtain⟨j,D⟩:∃j,j=i+1:=⟨_,rfl⟩
 have M:=zh (fun C=>PJ C s i j S (by omega) (by omega) (fun k t δ=>by
   have e:k=i:=by omega
   subst e;rw[hb];unfold tV;rw[decide_eq_true (by omega),decide_eq_true (by omega)];decide) (fun _=>by rw[D,F];exact H))
 have θ:=fun C=>vH (s:=s) (k:=j) (x:=b) (by omega) (by rw[D];exact F) C;have ν:=fun C=>yB (s:=s) (i:=i) (j:=j) (by omega) (by omega) (u:=u) (by rw[D];exact K) C;have B:=zh (fun C=>eL C b);rw[I] at B;have Z:decide ((j:Int)<(s.size:Int))=true:=decide_eq_true (by omega);have a:decide (j<s.size)=true:=decide_eq_true (by omega);have c:decide ((i:Int)+1<(j:Int))=false:=decide_eq_false (by omega);have Y:=zh D;have ι:j<s.size:=by omega
 have η:i<=1000:=by omega
 have f:decide (i+1<j)=false:=decide_eq_false (by omega);clear D hb F H I K hi;go_enter Tryz.func68,Tryz.ntmps68;go_upto_region 1 with fail;have L:=zh (Blk.new w 129 [.int .i64 0,.string {data:=#[]},.int .i64 0,.int .i64 0]);have N:=zh (aF w (.cells #[.int .i64 0,.string {data:=#[]},.int .i64 0,.int .i64 0] 129));generalize w.alloc (.cells #[.int .i64 0,.string {data:=#[]},.int .i64 0,.int .i64 0] 129)=w0 at*;go_wp2_with fail;refine(M _).mono ?_;rintro e w1 ⟨rfl,rfl⟩;go_wp2_with fail;refine(B _).mono ?_;rintro e w1 ⟨rfl,rfl⟩;have μ:=run_range_string (P:=Tryz.prog) w0 9 u Tryz.underlying9;go_wp2_with fail;go_loopw [6] (fun n wr=>∃p:Nat,p<=1/\n=.int .i64 (if p=0 then 0 else(d:Int))/\wr=w0.iter u p) (fun _ wr=>1-wr.iterPos w0.heap.size)
 case atStart=>exact⟨0,aZ5 _,rfl,rfl⟩
 case round=>
   obtain⟨p,κ,rfl,rfl⟩:=hrel;rcases(by omega:p=0\/p=1) with rfl|rfl
   . have R : ∀ E, (Instr.next (.pointer (some ⟨w0.heap.size, 0, none⟩)) true E).run Tryz.prog (w0.iter u 0) = .ok (.tuple #[.bool true, .int .i64 0, .int .i32 (48 + (d : Int))]) (w0.iter u 1) := fun E => by
       rw[run_next_ascii w0 u 0 E (by omega) (by omega),T];push_cast;rfl
     have Q:¬(9999999:Int)<(d:Int):=by omega
     have g:decide ((9999999:Int)<(d:Int))=false:=decide_eq_false Q;have h:decide (9999999<d)=false:=decide_eq_false (by omega);have J:∀q,(w0.iter u q).iterPos w0.heap.size=q:=fun q=>by simp[World.iterPos,World.iter_heap]
     go_wp2_with fail;exact⟨⟨1,by omega,by rw[show(48+(d:Int)-48)=d by omega];rfl,rfl⟩,by rw[J,J];omega⟩
   . have R:=fun E=>run_next_end (P:=Tryz.prog) w0 u 1 E (by omega);have A:Hid (Blk (w0.iter u 1) w.heap.size 129 [.int .i64 0,.string {data:=#[]},.int .i64 0,.int .i64 0]):=aD (L.alloc _);have G:Hid (Below w.heap.size w (w0.iter u 1)):=aD (aA N (aF w0 _));go_upto_region 11 with fail;generalize w0.iter u 1=w1 at*;have c0:=A.cell 0;have c1:=A.cell 1;have c2:=A.cell 2;have c3:=A.cell 3;have l:=A.frozen 0;have m:=A.frozen 1;have o:=A.frozen 2;have r:=A.frozen 3;simp only[List.getElem?_cons_zero,List.getElem?_cons_succ] at c0 c1 c2 c3;go_wp2_with fail;obtain⟨π,O,B⟩:=X7 (x:=.int .i64 2) (y:=.string u) (z:=.int .i64 (d:Int)) (u:=.int .i64 (i:Int)) A.out;rw[O];have U:=B.c0;have V:=B.c1;have W:=B.c2;have X:=B.c3;refine bodyPost_ret (v:=.agg #[.int .i64 2,.string u,.int .i64 (d:Int),.int .i64 (i:Int)]) (by simp[results,Tryz.results68,go_sem,U,V,W,X]) rfl ?_;exact⟨rfl,B.below G G.size zr⟩
def scS:ByteArray:=⟨#[104,97,109,109,105,110,103,40,103,102,40,50,41,44,32,51,41]⟩
def eE(A:Int)(tx:ByteArray)(n p:Nat):List Value:=[.int .i64 A,.string tx,.int .i64 (n:Int),.int .i64 (p:Int)]
def eF:ByteArray:=⟨#[104,97,109,109,105,110,103]⟩
def lA:ByteArray:=⟨#[103,102]⟩
def scT:List (List Value):=[eE 1 eF 0 0,eE 3 ⟨#[40]⟩ 0 7,eE 1 lA 0 8,eE 3 ⟨#[40]⟩ 0 10,eE 2 ⟨#[50]⟩ 2 11,eE 3 ⟨#[41]⟩ 0 12,eE 3 ⟨#[44]⟩ 0 13,eE 2 ⟨#[51]⟩ 3 15,eE 3 ⟨#[41]⟩ 0 16]
def sS(p:Nat)(l:List (List Value)):Prop:=∃j,j<=10/\p=[0,7,8,10,11,12,13,14,15,16,17].getD j 0/\l=scT.take ([0,1,2,3,4,5,6,7,7,8,9].getD j 0)
def WI(p:Nat)(l:List (List Value))(b:Int):Prop:=∃e tx,p<e/\e<17/\e-p<=16/\yI b=true/\(∀k,p<=k->k<e->sU (bAt scS k)=true)/\sU (bAt scS e)=false/\scS.extract p e=tx/\tx.size=e-p/\sS e (l++[eE 1 tx 0 p])
def XU(p:Nat)(l:List (List Value))(b:Int):Prop:=∃(d:Nat) (u:ByteArray) (A:Int),p+1<17/\d<=9/\b=48+(d:Int)/\yI b=false/\tV b=true/\bAt scS (p+1)=A/\tV A=false/\yI A=false/\(A==95)=false/\scS.extract p (p+1)=u/\(∃h:u.size=1,(u[0]'(by omega)).toNat=48+d)/\sS (p+1) (l++[eE 2 u d p])
def WJ(p:Nat)(l:List (List Value))(b:Int):Prop:=∃u z,yI b=false/\tV b=false/\firstIdx ⟨#[40,41,91,93,44]⟩ b.toNat.toUInt8=z/\0<=z/\z<=4/\scS.extract p (p+1)=u/\u.size=1/\sS (p+1) (l++[eE 3 u 0 p])
theorem sS.step{p:Nat}{l:List (List Value)}(h:sS p l)(D:p<17):∃b,bAt scS p=b/\(l.length<=9)/\
  ((b=32/\sS (p+1) l)\/((b==32)=false/\(b==9)=false/\(b==10)=false/\(WI p l b\/XU p l b\/WJ p l b))):=by
 obtain⟨j,F,rfl,rfl⟩:=h;have hn:∀p e,(∀k,k<17->p<=k->k<e->sU (bAt scS k)=true)->e<17->∀k,p<=k->k<e->sU (bAt scS k)=true:=fun p e A E k B C=>A k (by omega) B C;rcases(by omega:j=0\/j=1\/j=2\/j=3\/j=4\/j=5\/j=6\/j=7\/j=8\/j=9\/j=10) with rfl|rfl|rfl|rfl|rfl|rfl|rfl|rfl|rfl|rfl|rfl
 .exact⟨104,rfl,by decide,.inr ⟨rfl,rfl,rfl,.inl ⟨7,eF,by decide,by decide,by decide,by decide,hn 0 7 (by decide) (by decide),by decide,by rfl,by rfl,1,by decide,rfl,rfl⟩⟩⟩
 .exact⟨40,rfl,by decide,.inr ⟨rfl,rfl,rfl,.inr (.inr ⟨⟨#[40]⟩,0,by decide,by decide,by decide,by decide,by decide,by rfl,by rfl,2,by decide,rfl,rfl⟩)⟩⟩
 .exact⟨103,rfl,by decide,.inr ⟨rfl,rfl,rfl,.inl ⟨10,lA,by decide,by decide,by decide,by decide,hn 8 10 (by decide) (by decide),by decide,by rfl,by rfl,3,by decide,rfl,rfl⟩⟩⟩
 .exact⟨40,rfl,by decide,.inr ⟨rfl,rfl,rfl,.inr (.inr ⟨⟨#[40]⟩,0,by decide,by decide,by decide,by decide,by decide,by rfl,by rfl,4,by decide,rfl,rfl⟩)⟩⟩
 .exact⟨50,rfl,by decide,.inr ⟨rfl,rfl,rfl,.inr (.inl ⟨2,⟨#[50]⟩,41,by decide,by decide,rfl,by decide,by decide,rfl,by decide,by decide,rfl,by rfl,⟨rfl,rfl⟩,5,by decide,rfl,rfl⟩)⟩⟩
 .exact⟨41,rfl,by decide,.inr ⟨rfl,rfl,rfl,.inr (.inr ⟨⟨#[41]⟩,1,by decide,by decide,by decide,by decide,by decide,by rfl,by rfl,6,by decide,rfl,rfl⟩)⟩⟩
 .exact⟨44,rfl,by decide,.inr ⟨rfl,rfl,rfl,.inr (.inr ⟨⟨#[44]⟩,4,by decide,by decide,by decide,by decide,by decide,by rfl,by rfl,7,by decide,rfl,rfl⟩)⟩⟩
 .exact⟨32,rfl,by decide,.inl ⟨rfl,8,by decide,rfl,rfl⟩⟩
 .exact⟨51,rfl,by decide,.inr ⟨rfl,rfl,rfl,.inr (.inl ⟨3,⟨#[51]⟩,41,by decide,by decide,rfl,by decide,by decide,rfl,by decide,by decide,rfl,by rfl,⟨rfl,rfl⟩,9,by decide,rfl,rfl⟩)⟩⟩
 .exact⟨41,rfl,by decide,.inr ⟨rfl,rfl,rfl,.inr (.inr ⟨⟨#[41]⟩,1,by decide,by decide,by decide,by decide,by decide,by rfl,by rfl,10,by decide,rfl,rfl⟩)⟩⟩
 .exact absurd D (by decide)
theorem sS.start:sS 0 []:=⟨0,by decide,rfl,rfl⟩
theorem sS.fin{p:Nat}{l:List (List Value)}(h:sS p l)(A:17<=p):p=17/\l=scT:=by
 obtain⟨j,B,rfl,rfl⟩:=h;rcases(by omega:j=0\/j=1\/j=2\/j=3\/j=4\/j=5\/j=6\/j=7\/j=8\/j=9\/j=10) with rfl|rfl|rfl|rfl|rfl|rfl|rfl|rfl|rfl|rfl|rfl
 all_goals first
  |exact absurd A (by decide)
  |exact⟨rfl,rfl⟩
theorem sS.le{p:Nat}{l:List (List Value)}(h:sS p l):p<=17:=by obtain⟨j,A,rfl,rfl⟩:=h;rcases(by omega:j=0\/j=1\/j=2\/j=3\/j=4\/j=5\/j=6\/j=7\/j=8\/j=9\/j=10) with rfl|rfl|rfl|rfl|rfl|rfl|rfl|rfl|rfl|rfl|rfl<;>decide
theorem Tryz.infoTok:(Tryz.prog.info? 129).map (fun i=>(i.zero,i.size,i.bytes))=some (some (.agg #[.int .i64 0,.string ByteArray.empty,.int .i64 0,.int .i64 0]),4,40):=by kernel_rfl
theorem AR(B:Int)(tx:ByteArray)(n p:Nat):∀u∈eE B tx n p,u.oneCell'=true:=by intro u A;simp[eE] at A;rcases A with rfl|rfl|rfl|rfl<;>rfl
theorem TB(w:World):Calls Tryz.prog 31 #[.string scS] w (fun e w'=>∃v,e=.returned v/\RO w.heap.size 129 4 w' v scT/\Below w.heap.size w w'):=by
 obtain⟨s,r⟩:∃s,s=scS:=⟨_,rfl⟩
 have Bn:s.size=17:=by rw[r];rfl
 have η:=zh (fun(p:Nat) (l:List (List Value)) (h:sS p l) (Ba:p<17)=>h.step Ba);have ι:=zh (fun(C:World) (i j:Nat)=>DM C scS i j);have ζ:=zh (fun(C:World) (i d:Nat) (b:Int) (u:ByteArray)=>fun μ ν Ap Aq Ar As At Au Av Ao=>JV C scS i (by decide) μ d ν Ap b Aq Ar As At u Au Av Ao);rw[<-r] at η ι ζ|-;have V:=zh r;clear r;have Bd:decide ((65536:Int)<(s.size:Int))=false:=decide_eq_false (by omega);have Be:decide (65536<s.size)=false:=decide_eq_false (by omega);go_enter Tryz.func31,Tryz.ntmps31;go_wp2_with fail;go_loopw [3,4] (fun out at_ wr=>∃(p:Nat) (l:List (List Value)) (A:Option Addr) (c:Nat),sS p l/\out=.slice A l.length c/\at_=.int .i64 (p:Int)/\Hid (RO w.heap.size 129 4 wr (.slice A l.length c) l)/\Hid (Below w.heap.size w wr)) (fun _ at_ _=>17-(intOf at_).toNat)
 case atStart=>exact⟨0,[],none,0,sS.start,rfl,rfl,RO.nil _ _ _ _,bE w⟩
 case round=>
  obtain⟨p,l,A,c,U,rfl,rfl,R,D⟩:=hrel;have Bl:=U.le;generalize hn:l.length=n at*;have F:=zh hn;clear hn;by_cases Az:p<17
  .obtain⟨b,hb,Ay,y⟩:=η.out p l U Az;rw[F.out] at Ay;have Bj:=fun C=>vH (s:=s) (k:=p) (x:=b) (by omega) hb C;have Am:decide ((p:Int)<(s.size:Int))=true:=decide_eq_true (by omega);have An:decide (p<s.size)=true:=decide_eq_true (by omega);rcases y with⟨rfl,T⟩|⟨Bq,Br,Bs,y⟩
   .clear hb U;go_wp2_with fail;exact⟨⟨p+1,l,A,c,T,by rw[F.out],by push_cast;rfl,by rw[F.out];exact R,D⟩,by simp only[intOf];omega⟩
   .rcases y with⟨e,tx,Bm,Bi,Bh,N,ω,ψ,Ac,Ad,T⟩|⟨d,u,Al,Bk,Ax,Aw,N,f,π,σ,τ,ξ,o,⟨Ag,Af⟩,T⟩|⟨u,z,N,f,Ah,Bb,Bp,o,Ag,T⟩
    .have J:=zh (fun C=>eL C b);rw[N] at J;have Aa:=fun C=>yB (s:=s) (i:=p) (j:=e) (by omega) (by omega) (u:=tx) (by rw[V.out];exact Ac) C;have Ak:=zh (fun C=>ι.out C p e (by omega) (by omega) (by omega) (by rw[V.out];exact ω) (fun _=>by rw[V.out];exact ψ));have Bf:decide ((16:Int)<(e:Int)-(p:Int))=false:=decide_eq_false (by omega);have Bc:=zh Ad;obtain⟨tz,Ae⟩:∃k,k=tx.size:=⟨_,rfl⟩
     have Bo:tz<=17:=by omega
     have Ab:p+tz=e:=by omega
     have θ:=zh Ab;clear hb U N ω ψ Ac Ad Ab;go_wp2_with fail;refine(J _).mono ?_;rintro S w1 ⟨rfl,rfl⟩;go_wp2_with fail;refine(Ak _).mono ?_;rintro S w1 ⟨rfl,rfl⟩;have L:=zh (R.alloc (w:=wr) (.cells (eE 1 tx 0 p).toArray 129));have Z:=zh (D.alloc D.size (.cells (eE 1 tx 0 p).toArray 129));have X:=zh (oH wr 129 (eE 1 tx 0 p));have M:=zh (fM (w:=wr) (B:=w.heap.size) D.size (.cells (eE 1 tx 0 p).toArray 129));go_wp2_with (
      at_builtin;refine fE rfl 129 72 4 40 _ Tryz.underlying72 Tryz.infoTok rfl (by decide) (by decide) _ _ rfl w.heap.size _ l rfl L.out wr.heap.size 1 (eE 1 tx 0 p) rfl rfl X.out (AR _ _ _ _) (by have:=F.out;omega) M.out ?_;intro Ai q E P _;obtain⟨δ,a,rfl⟩:=E.form';obtain⟨m,H,g⟩:∃m,(l++[(eE 1 tx 0 p)]).length=m/\m=n+1:=⟨_,rfl,by rw[aZ1,F.out];rfl⟩
      have φ:1<=m:=by omega
      have χ:m<=10:=by omega
      have Y:=zh (L.bgrown Z M P);obtain⟨G,rfl,_,O⟩:=E.rg.elt (k:=m-1) (by omega);have Q:(l++[(eE 1 tx 0 p)]).getD (m-1) []=(eE 1 tx 0 p):=by rw[show m-1=l.length by rw[F.out];omega];simp[List.getD]
      have ρ:q.cell? ⟨(G.add ((m-1)*4)).block,(G.add ((m-1)*4)).off+1,none⟩=some (.string tx):=O 0 _ (by rw[Q];rfl);have K:=zh E;rw[H] at K|-;have I:=zh H;clear H O Q E P g)
     exact⟨⟨e,l++[(eE 1 tx 0 p)],some G,a,T,by rw[I.out],by rw[<-θ.out,Ae];push_cast;rfl,by rw[I.out];exact K,Y⟩,by have μ:=θ.out;have ν:=Ae;simp only[intOf];omega⟩
    .subst Aw;have J:=zh (fun C=>eL C (48+(d:Int)));rw[N] at J;have W:=zh (fun C=>kQ C (48+(d:Int)));rw[f] at W;have Aj:=zh (fun C=>ζ.out C p d Al u (by omega) Ax hb (by rw[V.out];exact π) σ τ ξ (by rw[V.out];exact o) Ag Af);clear hb U N f π σ τ ξ o Af;go_wp2_with fail;refine(J _).mono ?_;rintro S w1 ⟨rfl,rfl⟩;go_wp2_with fail;refine(W _).mono ?_;rintro S w1 ⟨rfl,rfl⟩;go_wp2_with fail;refine(Aj _).mono ?_;rintro S w1 ⟨rfl,t⟩;replace R:=zh (R.below t zr);replace D:=zh (D.trans (t.mono D.size));clear t;have L:=zh (R.alloc (w:=w1) (.cells (eE 2 u d p).toArray 129));have Z:=zh (D.alloc D.size (.cells (eE 2 u d p).toArray 129));have X:=zh (oH w1 129 (eE 2 u d p));have M:=zh (fM (w:=w1) (B:=w.heap.size) D.size (.cells (eE 2 u d p).toArray 129));go_wp2_with (
      at_builtin;refine fE rfl 129 72 4 40 _ Tryz.underlying72 Tryz.infoTok rfl (by decide) (by decide) _ _ rfl w.heap.size _ l rfl L.out w1.heap.size 1 (eE 2 u d p) rfl rfl X.out (AR _ _ _ _) (by have:=F.out;omega) M.out ?_;intro Ai q E P _;obtain⟨δ,a,rfl⟩:=E.form';obtain⟨m,H,g⟩:∃m,(l++[(eE 2 u d p)]).length=m/\m=n+1:=⟨_,rfl,by rw[aZ1,F.out];rfl⟩
      have φ:1<=m:=by omega
      have χ:m<=10:=by omega
      have Y:=zh (L.bgrown Z M P);obtain⟨G,rfl,_,O⟩:=E.rg.elt (k:=m-1) (by omega);have Q:(l++[(eE 2 u d p)]).getD (m-1) []=(eE 2 u d p):=by rw[show m-1=l.length by rw[F.out];omega];simp[List.getD]
      have ρ:q.cell? ⟨(G.add ((m-1)*4)).block,(G.add ((m-1)*4)).off+1,none⟩=some (.string u):=O 0 _ (by rw[Q];rfl);have K:=zh E;rw[H] at K|-;have I:=zh H;clear H O Q E P g)
     exact⟨⟨p+1,l++[(eE 2 u d p)],some G,a,T,by rw[I.out],by push_cast;rfl,by rw[I.out];exact K,Y⟩,by simp only[intOf];omega⟩
    .have J:=zh (fun C=>eL C b);rw[N] at J;have W:=zh (fun C=>kQ C b);rw[f] at W;have ε:=zh (fun C=>JK C ⟨#[40,41,91,93,44]⟩ b);rw[Ah] at ε;have Aa:=fun C=>yB (s:=s) (i:=p) (j:=p+1) (by omega) (by omega) (u:=u) (by rw[V.out];exact o) C;have κ:((p+1:Nat):Int)=(p:Int)+1:=by omega
     rw[κ] at Aa;have Bg:decide ((0:Int)<=z)=true:=decide_eq_true Bb;clear hb U N f Ah o κ;go_wp2_with fail;refine(J _).mono ?_;rintro S w1 ⟨rfl,rfl⟩;go_wp2_with fail;refine(W _).mono ?_;rintro S w1 ⟨rfl,rfl⟩;go_wp2_with fail;refine(ε _).mono ?_;rintro S w1 ⟨rfl,rfl⟩;have L:=zh (R.alloc (w:=wr) (.cells (eE 3 u 0 p).toArray 129));have Z:=zh (D.alloc D.size (.cells (eE 3 u 0 p).toArray 129));have X:=zh (oH wr 129 (eE 3 u 0 p));have M:=zh (fM (w:=wr) (B:=w.heap.size) D.size (.cells (eE 3 u 0 p).toArray 129));go_wp2_with (
      at_builtin;refine fE rfl 129 72 4 40 _ Tryz.underlying72 Tryz.infoTok rfl (by decide) (by decide) _ _ rfl w.heap.size _ l rfl L.out wr.heap.size 1 (eE 3 u 0 p) rfl rfl X.out (AR _ _ _ _) (by have:=F.out;omega) M.out ?_;intro Ai q E P _;obtain⟨δ,a,rfl⟩:=E.form';obtain⟨m,H,g⟩:∃m,(l++[(eE 3 u 0 p)]).length=m/\m=n+1:=⟨_,rfl,by rw[aZ1,F.out];rfl⟩
      have φ:1<=m:=by omega
      have χ:m<=10:=by omega
      have Y:=zh (L.bgrown Z M P);obtain⟨G,rfl,_,O⟩:=E.rg.elt (k:=m-1) (by omega);have Q:(l++[(eE 3 u 0 p)]).getD (m-1) []=(eE 3 u 0 p):=by rw[show m-1=l.length by rw[F.out];omega];simp[List.getD]
      have ρ:q.cell? ⟨(G.add ((m-1)*4)).block,(G.add ((m-1)*4)).off+1,none⟩=some (.string u):=O 0 _ (by rw[Q];rfl);have K:=zh E;rw[H] at K|-;have I:=zh H;clear H O Q E P g)
     exact⟨⟨p+1,l++[(eE 3 u 0 p)],some G,a,T,by rw[I.out],by push_cast;rfl,by rw[I.out];exact K,Y⟩,by simp only[intOf];omega⟩
  .obtain⟨rfl,rfl⟩:=U.fin (by omega);have Am:decide ((17:Int)<(s.size:Int))=false:=decide_eq_false (by omega);have An:decide (17<s.size)=false:=decide_eq_false (by omega);go_wp2_with fail;go_ret;exact⟨_,rfl,R.out,D.out⟩
theorem Tryz.infoExpr:(Tryz.prog.info? 43).map (fun i=>(i.zero,i.size,i.bytes))=some (some (.agg #[.int .i64 0,.string ByteArray.empty,.int .i64 0,.slice none 0 0,.slice none 0 0]),5,80):=by kernel_rfl
def oU:List Value:=[.int .i64 0,.string {data:=#[]},.int .i64 0,.slice none 0 0,.slice none 0 0]
def Wnd(lo hi:Nat)(w:World)(Φ:World->Prop):Prop:=∀w2:World,(∀p:Addr,lo<=p.block->p.block<hi->w2.cell? p=w.cell? p)->Φ w2
theorem QV(w:World)(g:Nat)(lv:Value)(toks:List (List Value))(i n k dep x at_:Nat)(tx:ByteArray)(h:PS w g lv toks i n k)(hi:i<toks.length)(J:toks.getD i []=eE 2 tx x at_)(Ay:dep<=32)(Ba:k+1<=1000):
  Calls Tryz.prog 32 #[.pointer (some ⟨g,0,none⟩),.int .i64 (dep:Int)] w (fun e w'=>e=.returned (.agg #[.int .i64 1,.string {data:=#[]},.int .i64 (x:Int),.slice none 0 0,.slice none 0 0])/\w.grownBy w' (some g)/\PS w' g lv toks (i+1) n (k+1)):=by
 have Az:=h.blk.lt;have Ac:=h.small;obtain⟨A,c,rfl,_⟩:=id h.tok;obtain⟨G,rfl,_⟩:=h.tok.elt hi;have ε:=zh (fun(D:World) (I:PS D g (.slice (some G) toks.length c) toks i n k)=>SH D g _ toks i n k I hi _ (by rw[J];rfl));have π:=zh (fun(D:World) (I:PS D g (.slice (some G) toks.length c) toks i n k) (t:ByteArray)=>AE D g _ toks i n k I t hi 2 (by rw[J];rfl) (by decide));have ρ:=zh (fun(D:World) (I:PS D g (.slice (some G) toks.length c) toks i n k)=>qU D g _ toks i n k I hi 2 (by rw[J];rfl));have f:=zh (fun(D:World) (ψ:RG 4 D (.slice (some G) toks.length c) toks)=>ψ.elt hi);rw[J] at f;have ξ:=zh h;have Z:Hid (i<toks.length):=aD hi;clear h J hi;generalize hL:toks.length=L at*;have Ao:=zh hL;clear hL;go_enter Tryz.func32,Tryz.ntmps32;go_upto_region 1 with fail;have V:=zh (Blk.new w 43 oU);have M:=zh (ξ.grown (row:=none) (aN (aF w (.cells oU.toArray 43)) none) (fun b e=>by cases e));have Y:=zh (aN (aF w (.cells oU.toArray 43)) (some g));unfold oU at V M Y;generalize w.alloc (.cells #[.int .i64 0,.string {data:=#[]},.int .i64 0,.slice none 0 0,.slice none 0 0] 43)=w0 at*;have c1:w0.cell? ⟨g,1,none⟩=some (.int .i64 (i:Int)):=M.blk.cell 1;have d:=zh (M.grown (row:=none) (aN (aH w0) none) (fun b e=>by cases e));refine aG.start (S:=fun w'=>w'.cell? ⟨g,1,none⟩=some (.int .i64 (i:Int))) (by kernel_rfl) (c1) (fun O=>?_);change aG _ _ _ _ 8 _ _ _;refine tq 0 ?_;refine tq 1 ?_;refine tq 2 ?_;refine tq 3 ?_;refine tq 4 ?_;try simp only[tz]
 refine aG.only (i:=5) (by kernel_rfl) rfl (fun K hK=>?_);go_simp;refine(ε _ d).mono ?_;rintro e Bb ⟨rfl,m,rfl⟩;refine hK.out _ _ (c1) ?_;clear hK K O;intro O;try simp only[tz]
 refine tq 6 ?_;try simp only[tz]
 refine aG.only (i:=7) (by kernel_rfl) rfl (fun K hK=>?_);go_simp;refine hK.out _ _ O (fun Aa=>?_);clear hK K;clear Aa;refine aG.done (by kernel_rfl) ?_;try simp only[tz]
 clear O;have τ:=zh (M.drewN (1+m));have θ:=zh (V.belowS (bI w0 (1+m)));have ν:=zh (aX Y (aN (bI w0 (1+m)) (some g)));generalize w0.drewN (1+m)=w1 at*;clear c1 d;go_wp2_with fail;refine(π.out w1 τ _).mono ?_;rintro e w2 ⟨rfl,U,r⟩;have ζ:=zh (θ.grown U (fun e=>by have:=aZ0 e;omega));have ι:=zh (aX ν U);have a:=zh r;clear U r;go_wp2_with fail;refine(ρ.out w2 a).mono ?_;rintro e E ⟨rfl,R,rfl⟩;have F:=zh (a.drewN R);have η:=zh (ζ.belowS (bI _ R));have κ:=zh (aX ι (aN (bI w2 R) (some g)));generalize w2.drewN R=E at*;have c0:E.cell? ⟨g,0,none⟩=some (.slice (some G) L c):=F.blk.cell 0;have c1:E.cell? ⟨g,1,none⟩=some (.int .i64 (i:Int)):=F.blk.cell 1;have c3:E.cell? ⟨g,3,none⟩=some (.int .i64 (k:Int)):=F.blk.cell 3;have j:E.frozen? ⟨g,1,none⟩=false:=F.blk.frozen 1;have l:E.frozen? ⟨g,3,none⟩=false:=F.blk.frozen 3;have Aq:decide ((32:Int)<(dep:Int))=false:=decide_eq_false (by omega);have Ar:decide (32<dep)=false:=decide_eq_false (by omega);have As:((k:Int)==1024)=false:=by rw[beq_eq_false_iff_ne];omega
 go_upto_region 12 with fail;obtain⟨C,N⟩:∃C,C=(E.setCell ⟨g,3,none⟩ (.int .i64 ((k:Int)+1))).setCell ⟨g,1,none⟩ (.int .i64 ((i:Int)+1)):=⟨_,rfl⟩
 have P:E.grownBy C (some g):=by rw[N];exact aP (p:=⟨g,1,none⟩) (aP (p:=⟨g,3,none⟩) (World.grownBy.refl _ _) (.inl rfl) _) (.inl rfl) _
 have q:Blk C g 75 [.slice (some G) L c,.int .i64 ((i+1:Nat):Int),.int .i64 (n:Int),.int .i64 ((k+1:Nat):Int)]:=by rw[N];exact(F.blk.set_ 3 _).set_ 1 _
 have T:=zh (F.kept P q ⟨by have:=Z.out;have:=Ac.1;omega,by omega,by omega⟩);have W:=zh (η.grown P (fun e=>by have:=aZ0 e;omega));have μ:=zh (aX κ P);rw[<-N];clear N P q c0 c1 c3 j l;have c0:C.cell? ⟨g,0,none⟩=some (.slice (some G) L c):=T.blk.cell 0;obtain⟨Ap,o,s,Q⟩:=f.out C T.tok;obtain rfl:=aZ0 o;have Aj:=s _ rfl;have Ak:=Q 0 _ rfl;have δ:=Q 1 _ rfl;have Al:=Q 2 _ rfl;have χ:(i:Int)<(L:Int):=by have:=Z.out;omega
 have At:decide ((i:Int)<(L:Int))=true:=decide_eq_true χ;clear o s Q;go_upto_region 13 with fail;have φ:=zh (Blk.new C 129 [.int .i64 2,.string tx,.int .i64 (x:Int),.int .i64 (at_:Int)]);have σ:=zh (T.grown (row:=none) (aN (aF C (.cells [.int .i64 2,.string tx,.int .i64 (x:Int),.int .i64 (at_:Int)].toArray 129)) none) (fun b e=>by cases e));have X:=zh (W.alloc (.cells [.int .i64 2,.string tx,.int .i64 (x:Int),.int .i64 (at_:Int)].toArray 129));have H:=zh (aX μ (aN (aF C (.cells [.int .i64 2,.string tx,.int .i64 (x:Int),.int .i64 (at_:Int)].toArray 129)) (some g)));have Ax:=W.lt;generalize C.alloc (.cells #[.int .i64 2,.string tx,.int .i64 (x:Int),.int .i64 (at_:Int)] 129)=Am at*;clear c0 Aj Ak δ Al;have δ:Am.cell? ⟨C.heap.size,2,none⟩=some (.int .i64 (x:Int)):=φ.cell 2;obtain⟨x0,x1,x2,x3,x4,Au,j,Av,l,Aw⟩:=X.five;go_wp2_with fail;obtain⟨An,ω,B⟩:=uP (x:=.int .i64 1) (y:=.string {data:=#[]}) (z:=.int .i64 (x:Int)) (u:=.slice none 0 0) (v:=.slice none 0 0) X.out;rw[ω];have Ae:=B.c0;have Af:=B.c1;have Ag:=B.c2;have Ah:=B.c3;have Ai:=B.c4;refine bodyPost_ret (v:=.agg #[.int .i64 1,.string {data:=#[]},.int .i64 (x:Int),.slice none 0 0,.slice none 0 0]) (by simp[results,Tryz.results32,go_sem,Ae,Af,Ag,Ah,Ai]) rfl ?_;have Ad:w.grownBy An (some g):=by refine⟨B.gr.os.trans H.os,B.gr.tape.trans H.tape,B.gr.output.trans H.out.output,aZ6 H.size B.gr.size,fun b hb Ab=>?_⟩;rw[B.gr.block b (aY1 hb H.out.size) (fun e=>by have:=aZ0 e;omega)];exact H.block b hb Ab
 exact⟨rfl,Ad,σ.grown B.gr (fun b e=>by have:=aZ0 e;omega)⟩
end Go.Proofs.YtpfhoemohibniaaGreatDoor
