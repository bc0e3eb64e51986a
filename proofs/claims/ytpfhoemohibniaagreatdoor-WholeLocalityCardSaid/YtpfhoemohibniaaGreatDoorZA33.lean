/- Texts of a claim, merged. -/
import Derived.Test.YtpfhoemohibniaaGreatDoorZA31
import Derived.Test.YtpfhoemohibniaaGreatDoorZA32
import Derived.WalkMore
import Derived.Shelf.Abstract
import Derived.Shelf.RegionOpen
import Derived.TacticsInMore
set_option maxRecDepth 100000
set_option linter.unusedSimpArgs false
set_option linter.unusedVariables false
set_option maxHeartbeats 32000000
namespace Go.Proofs.YtpfhoemohibniaaGreatDoor
open Go.RowKit
theorem LZ{B:Nat}{w v C:World}{Φ:World->Prop}(h:Sep B w Φ)(hb:Below w.heap.size w v){g:Nat}(E:w.heap.size<=g)(hg:v.grownBy C (some g)):Sep B C Φ:=
 h.of (aZ6 hb.size hg.size) fun p D A=>(World.cell?_of_block (hg.block p.block (aY1 A hb.size) (by intro e;have:=aZ0 e;omega))).trans (hb.cell A)
theorem UC(w:World)(P M:Int)(n:Nat)(mv L:Value)(Mod:LI)(rows:LL)(hm:SI w mv Mod)(d:SS w L rows)(a:dK P M Mod n rows=0)(hn1:1<=n)(δ:n<=64):
  Calls Tryz.prog 196 #[.agg #[.int .i64 P,.int .i64 M,mv],.agg #[.int .i64 (n:Int),L]] w (gO w P M Mod n (bC (aB P M Mod) rows n) 0):=by
 have O:=zh (fun(w':World) (hb:Below w.heap.size w w')=>kC w' P M n mv L Mod rows (hm.below hb zr) (d.below hb zr) a);have S:=zh (fun(w':World) (g:Option Addr) (θ t:Nat) (hb:Below w.heap.size w w')=>QN w' P M n mv g θ t Mod (hm.below hb zr));have j:=zh hm.len';have l:=zh hm.wfs;have i:Hid (vX n=0):=by show _=_;unfold vX;rw[if_pos (by omega)]
 unfold PV at O;unfold PY at S;obtain⟨s,π,rfl,_⟩:=d;clear hm a hn1 δ;generalize rows.length=r at*;generalize bC (aB P M Mod) rows n=C at*;obtain⟨w1,E,hq,Ab⟩:=FMC.mk' w P M mv n (.slice s r π);have A:=zh hq;have Q:=zh E;clear hq E;go_enter Tryz.func196,Tryz.ntmps196;go_upto_region 1 with fail;rw[Q.out];clear Q;have c0:=A.fm.fb.c0;have c1:=A.fm.fb.c1;have c2:=A.fm.fb.c2;have d0:=A.fm.d0;have d1:=A.fm.d1;go_wp2_with fail;refine(O.out w1 A.fm.fb.bel).mono ?_;rintro e w2 ⟨G,ρ,Ac,rfl,K,_,Z⟩;obtain⟨k,c⟩:∃k,k=C.length:=⟨_,rfl⟩
 rw[<-c] at K|-;clear c;have U:=zh (K.imp fun _ h=>h.1);have T:=zh (A.on Z);clear K Z c0 c1 c2 d0 d1;go_upto_region 2 with fail;obtain⟨N,X,E,W,Y,H⟩:=bB w2 86 [.int .i64 (n:Int),.slice G k k];rw[E,W];have D:=zh (T.on H);have o:=zh (U.on H);have R:=zh Y;clear E W Y H U T;have d0:=D.fm.d0;go_wp2_with fail;refine(yR _ n).mono ?_;rintro e Ae ⟨rfl,rfl⟩;rw[i.out];clear d0;have c0:=D.fm.fb.c0;have c1:=D.fm.fb.c1;have c2:=D.fm.fb.c2;have x0:N.cell? ⟨X,0,none⟩=some (.int .i64 (n:Int)):=R.cell 0;have x1:N.cell? ⟨X,1,none⟩=some (.slice G k k):=R.cell 1;go_wp2_with fail;refine(S.out N _ _ _ D.fm.fb.bel).mono ?_;rintro e Af ⟨Ad,rfl,J,I⟩;obtain⟨V,f,rfl⟩:=J.form';have F:=zh (D.on I);have p:=zh (o.on I);have m:=zh (J.sep j l);have ε:=A.fm.fb.bel.size;have ζ:=D.fm.fb.bel.size;have ω:=A.q.lt;have Aa:=D.q.lt;clear J I c0 c1 c2 x0 x1;obtain⟨Ah,Ai,Aj,Ak,Al,σ,τ,φ,χ,ψ⟩:=F.q.five;go_wp2_with fail;obtain⟨Ag,η,B⟩:=uP (x:=.int .i64 P) (y:=.int .i64 M) (z:=.slice V Mod.length f) (u:=.int .i64 (n:Int)) (v:=.slice G k k) F.q;rw[η];have ι:=B.c0;have κ:=B.c1;have μ:=B.c2;have ν:=B.c3;have ξ:=B.c4;refine bodyPost_ret (v:=.tuple #[.agg #[.int .i64 P,.int .i64 M,.slice V Mod.length f,.int .i64 (n:Int),.slice G k k],.int .i64 0]) (by simp[results,Tryz.results196,go_sem,ι,κ,μ,ν,ξ]) rfl ?_;exact⟨_,_,rfl,((m.grown B.gr (by rintro b e;cases e;omega)).mono ζ).and ((p.grown B.gr (by rintro b e;cases e;omega)).mono ε),B.below F.fm.fb.bel F.fm.fb.bel.size (by omega)⟩
structure CCQ(w w1:World)(P M:Int)(mv:Value)(n:Int)(gv:Value):Prop where
 cb:dD w w1 P M mv n gv
 q:Blk w1 (w.heap.size+1) 27 [.int .i64 0,.int .i64 0,.slice none 0 0,.int .i64 0,.slice none 0 0]
theorem CCQ.on{w w1 w2:World}{P M:Int}{mv:Value}{n:Int}{gv:Value}(h:CCQ w w1 P M mv n gv)(hb:Below w1.heap.size w1 w2):CCQ w w2 P M mv n gv:=⟨h.cb.on hb,h.q.belowS hb⟩
theorem CCQ.mk'(w:World)(P M:Int)(mv:Value)(n:Int)(gv:Value):∃w1,(w.alloc (.cells #[.int .i64 P,.int .i64 M,mv,.int .i64 n,gv] 27)).alloc (.cells #[.int .i64 0,.int .i64 0,.slice none 0 0,.int .i64 0,.slice none 0 0] 27)=w1/\CCQ w w1 P M mv n gv:=by refine⟨_,rfl,(dD.mk' w P M mv n gv).on (aF _ _),?_⟩;have:=Blk.new (w.alloc (.cells #[.int .i64 P,.int .i64 M,mv,.int .i64 n,gv] 27)) 27 [.int .i64 0,.int .i64 0,.slice none 0 0,.int .i64 0,.slice none 0 0];rw[World.size_alloc] at this;exact this
theorem FD(w:World)(P M:Int)(n:Nat)(mv gv:Value)(Mod:LI)(gen:LL)(hm:SI w mv Mod)(hg:SS w gv gen)(ι:cS P M Mod n gen=0):
  Calls Tryz.prog 82 #[.agg #[.int .i64 P,.int .i64 M,mv,.int .i64 (n:Int),gv]] w (gO w P M Mod n (cA (aB P M Mod) gen n) 0):=by
 have ξ:=zh (fun(w':World) (hb:Below w.heap.size w w')=>eO w' P M n mv gv Mod gen (hm.below hb zr) (hg.below hb zr));rw[ι] at ξ;have ψ:dK P M Mod n gen=0:=by obtain⟨Ai,Be,Bf,Aj,τ,U⟩:=iL ι;rw[aZ8] at τ;exact jI Ai (by omega) Aj τ
 have δ:=zh (fun(w':World) (hb:Below w.heap.size w w')=>zM w' P M n mv gv Mod gen (hm.below hb zr) (hg.below hb zr) ψ);have ρ:=zh (fun(w':World) (Aa:Option Addr) (An Ah:Nat) (hb:Below w.heap.size w w')=>QN w' P M n mv Aa An Ah Mod (hm.below hb zr));have Ab:=zh hm.len';have Ac:=zh hm.wfs;unfold mR at δ;unfold PY at ρ;obtain⟨t,ζ,rfl,_⟩:=hg;generalize gen.length=η at*;clear hm ι ψ
 generalize cA (aB P M Mod) gen n=C at*;obtain⟨w1,T,hq⟩:=CCQ.mk' w P M mv n (.slice t η ζ);have a:=zh hq;have π:=zh T;clear hq T;go_enter Tryz.func82,Tryz.ntmps82;go_upto_region 1 with fail;rw[π.out];clear π;have c0:=a.cb.c0;have c1:=a.cb.c1;have c2:=a.cb.c2;have c3:=a.cb.c3;have c4:=a.cb.c4;go_wp2_with fail;refine(ξ.out w1 a.cb.bel).mono ?_;rintro e w2 ⟨rfl,φ⟩;have R:=zh (a.on φ);clear φ c0 c1 c2 c3 c4;have c0:=R.cb.c0;have c1:=R.cb.c1;have c2:=R.cb.c2;have c3:=R.cb.c3;have c4:=R.cb.c4;have J:=zh c0;have L:=zh c1;have N:=zh c2;have O:=zh c3;have Q:=zh c4;obtain⟨k,χ⟩:∃k,k=C.length:=⟨_,rfl⟩
 have θ:=zh χ;clear χ;go_upto_region 4 with fail;go_cut [5,6] from 14 to 20 (fun At Au wc=>∃g G H,Au=.int .i64 0/\At=.pointer (some ⟨g,0,none⟩)/\w2.heap.size<=g/\Hid (Blk wc g 86 [.int .i64 (n:Int),.slice G k H])/\Hid (Sep w2.heap.size wc fun F=>SS F (.slice G k H) C)/\Hid (Below w2.heap.size w2 wc))
 case first=>
  refine aG.start (S:=fun w'=>w'.cell? ⟨w.heap.size,0,none⟩=some (.int .i64 P)/\w'.cell? ⟨w.heap.size,1,none⟩=some (.int .i64 M)/\w'.cell? ⟨w.heap.size,2,none⟩=some mv/\w'.cell? ⟨w.heap.size,3,none⟩=some (.int .i64 (n:Int))/\w'.cell? ⟨w.heap.size,4,none⟩=some (.slice t η ζ)) (by kernel_rfl) (⟨c0,c1,c2,c3,c4⟩) (fun B=>?_);change aG _ _ _ _ 11 _ _ _;have μ:=aH w2;generalize w2.drew=Av at μ B|-;have A:=zh μ;clear c0 c1 c2 c3 c4;clear μ;refine tq 0 ?_;refine tq 1 ?_;refine tq 2 ?_;try simp only[tz]
  refine aG.two (i:=3) (j:=8) (oi:=?opa2) (oj:=?opb2) (by kernel_rfl) ?hoa2 ?hob2 (fun K hK=>?way12) (fun K hK=>?way22)
  case hoa2=>(conv=>lhs;simp only[tdg,tdh,tdi])
  case hob2=>(conv=>lhs;simp only[tdg,tdh,tdi])
  case way12=>
   go_simp;refine(yN _ P M n mv t η ζ).mono ?_;rintro e Ay ⟨rfl,hb⟩;replace A:=zh (aA A hb);clear hb;refine hK.out _ _ (⟨cb A J,cb A L,cb A N,cb A O,cb A Q⟩) ?_;clear hK K B;intro B;try simp only[tz]
   refine aG.two (i:=4) (j:=8) (oi:=?opa4) (oj:=?opb4) (by kernel_rfl) ?hoa4 ?hob4 (fun K hK=>?way14) (fun K hK=>?way24)
   case hoa4=>(conv=>lhs;simp only[tdg,tdh,tdi])
   case hob4=>(conv=>lhs;simp only[tdg,tdh,tdi])
   case way14=>
    have Y:=A.size;go_simp;refine(δ _ (aA R.cb.bel A)).mono ?_;rintro e Az ⟨u,rfl,I,hb⟩;obtain⟨G,H,rfl,_⟩:=I.out;rw[<-θ.out] at I|-;have Ad:=zh (I.mono Y);replace A:=zh (aA A hb);clear hb I Y;refine hK.out _ _ (⟨cb A J,cb A L,cb A N,cb A O,cb A Q⟩) ?_;clear hK K B;intro B;try simp only[tz]
    refine tq 5 ?_;refine tq 6 ?_;refine tq 7 ?_;try simp only[tz]
    refine aG.only (i:=8) (o:=?op6) (by kernel_rfl) ?ho6 (fun K hK=>?_)
    case ho6=>(conv=>lhs;simp only[tdg,tdh,tdi])
    go_simp;obtain⟨Ba,g,T,W,X,hb⟩:=bB Az 86 [.int .i64 0,.slice none 0 0];rw[T,W];have E:=zh X;have Z:w2.heap.size<=g:=(by have:=A.size;omega)
    have l:Hid (∀F,World.grownBy Ba F (some g)->Sep w2.heap.size F fun F=>SS F (.slice G k H) C):=aD (fun F hg=>LZ Ad hb (by omega) hg);replace A:=zh (aA A hb);clear T W X hb;refine hK.out _ _ (⟨cb A J,cb A L,cb A N,cb A O,cb A Q⟩) ?_;clear hK K B;intro B;try simp only[tz]
    refine aG.only (i:=9) (o:=?op8) (by kernel_rfl) ?ho8 (fun K hK=>?_)
    case ho8=>(conv=>lhs;simp only[tdg,tdh,tdi])
    obtain⟨m,p,d,f⟩:=E.two;go_simp;obtain⟨Bq,U,D⟩:=oD (x:=.int .i64 (n:Int)) (y:=.slice G k H) E.out;rw[U];have h:=zh (l _ D.gr);have V:=zh D.blk;replace A:=zh (D.below A A.size Z);clear m p d f U D E;refine hK.out _ _ (⟨cb A J,cb A L,cb A N,cb A O,cb A Q⟩) ?_;clear hK K B;intro B;try simp only[tz]
    refine aG.only (i:=10) (by kernel_rfl) rfl (fun K hK=>?_);go_simp;refine hK.out _ _ B (fun r=>?_);clear hK K;clear r;refine aG.done (by kernel_rfl) ?_;try simp only[tz]
    clear B;go_wp2_with fail;go_meet;exact⟨g,G,H,rfl,rfl,Z,V,h,A⟩
   case way24=>
    go_simp;obtain⟨Bl,g,T,W,X,hb⟩:=bB Ay 86 [.int .i64 0,.slice none 0 0];rw[T,W];have E:=zh X;have Z:w2.heap.size<=g:=(by have:=A.size;omega)
    replace A:=zh (aA A hb);clear T W X hb;refine hK.out _ _ (⟨cb A J,cb A L,cb A N,cb A O,cb A Q⟩) ?_;clear hK K B;intro B;try simp only[tz]
    refine aG.only (i:=4) (o:=?op11) (by kernel_rfl) ?ho11 (fun K hK=>?_)
    case ho11=>(conv=>lhs;simp only[tdg,tdh,tdi])
    have Y:=A.size;go_simp;refine(δ _ (aA R.cb.bel A)).mono ?_;rintro e Aw ⟨u,rfl,I,hb⟩;obtain⟨G,H,rfl,_⟩:=I.out;rw[<-θ.out] at I|-;have s:=E.lt;have l:Hid (∀F,World.grownBy Aw F (some g)->Sep w2.heap.size F fun F=>SS F (.slice G k H) C):=aD (fun F hg=>(I.grown hg (by rintro b e;cases e;exact s)).mono Y);clear s;replace E:=zh (E.belowS hb);replace A:=zh (aA A hb);clear hb I Y;refine hK.out _ _ (⟨cb A J,cb A L,cb A N,cb A O,cb A Q⟩) ?_;clear hK K B;intro B;try simp only[tz]
    refine tq 5 ?_;refine tq 6 ?_;refine tq 7 ?_;try simp only[tz]
    refine aG.only (i:=9) (o:=?op13) (by kernel_rfl) ?ho13 (fun K hK=>?_)
    case ho13=>(conv=>lhs;simp only[tdg,tdh,tdi])
    obtain⟨m,p,d,f⟩:=E.two;go_simp;obtain⟨Bm,U,D⟩:=oD (x:=.int .i64 (n:Int)) (y:=.slice G k H) E.out;rw[U];have h:=zh (l _ D.gr);have V:=zh D.blk;replace A:=zh (D.below A A.size Z);clear m p d f U D E;refine hK.out _ _ (⟨cb A J,cb A L,cb A N,cb A O,cb A Q⟩) ?_;clear hK K B;intro B;try simp only[tz]
    refine aG.only (i:=10) (by kernel_rfl) rfl (fun K hK=>?_);go_simp;refine hK.out _ _ B (fun r=>?_);clear hK K;clear r;refine aG.done (by kernel_rfl) ?_;try simp only[tz]
    clear B;go_wp2_with fail;go_meet;exact⟨g,G,H,rfl,rfl,Z,V,h,A⟩
  case way22=>
   go_simp;obtain⟨Bn,g,T,W,X,hb⟩:=bB Av 86 [.int .i64 0,.slice none 0 0];rw[T,W];have E:=zh X;have Z:w2.heap.size<=g:=(by have:=A.size;omega)
   replace A:=zh (aA A hb);clear T W X hb;refine hK.out _ _ (⟨cb A J,cb A L,cb A N,cb A O,cb A Q⟩) ?_;clear hK K B;intro B;try simp only[tz]
   refine aG.only (i:=3) (o:=?op16) (by kernel_rfl) ?ho16 (fun K hK=>?_)
   case ho16=>(conv=>lhs;simp only[tdg,tdh,tdi])
   go_simp;refine(yN _ P M n mv t η ζ).mono ?_;rintro e Bo ⟨rfl,hb⟩;replace E:=zh (E.belowS hb);replace A:=zh (aA A hb);clear hb;refine hK.out _ _ (⟨cb A J,cb A L,cb A N,cb A O,cb A Q⟩) ?_;clear hK K B;intro B;try simp only[tz]
   refine aG.only (i:=4) (o:=?op18) (by kernel_rfl) ?ho18 (fun K hK=>?_)
   case ho18=>(conv=>lhs;simp only[tdg,tdh,tdi])
   have Y:=A.size;go_simp;refine(δ _ (aA R.cb.bel A)).mono ?_;rintro e Ax ⟨u,rfl,I,hb⟩;obtain⟨G,H,rfl,_⟩:=I.out;rw[<-θ.out] at I|-;have s:=E.lt;have l:Hid (∀F,World.grownBy Ax F (some g)->Sep w2.heap.size F fun F=>SS F (.slice G k H) C):=aD (fun F hg=>(I.grown hg (by rintro b e;cases e;exact s)).mono Y);clear s;replace E:=zh (E.belowS hb);replace A:=zh (aA A hb);clear hb I Y;refine hK.out _ _ (⟨cb A J,cb A L,cb A N,cb A O,cb A Q⟩) ?_;clear hK K B;intro B;try simp only[tz]
   refine tq 5 ?_;refine tq 6 ?_;refine tq 7 ?_;try simp only[tz]
   refine aG.only (i:=9) (o:=?op20) (by kernel_rfl) ?ho20 (fun K hK=>?_)
   case ho20=>(conv=>lhs;simp only[tdg,tdh,tdi])
   obtain⟨m,p,d,f⟩:=E.two;go_simp;obtain⟨Bp,U,D⟩:=oD (x:=.int .i64 (n:Int)) (y:=.slice G k H) E.out;rw[U];have h:=zh (l _ D.gr);have V:=zh D.blk;replace A:=zh (D.below A A.size Z);clear m p d f U D E;refine hK.out _ _ (⟨cb A J,cb A L,cb A N,cb A O,cb A Q⟩) ?_;clear hK K B;intro B;try simp only[tz]
   refine aG.only (i:=10) (by kernel_rfl) rfl (fun K hK=>?_);go_simp;refine hK.out _ _ B (fun r=>?_);clear hK K;clear r;refine aG.done (by kernel_rfl) ?_;try simp only[tz]
   clear B;go_wp2_with fail;go_meet;exact⟨g,G,H,rfl,rfl,Z,V,h,A⟩
 case rest=>clear c0 c1 c2 c3 c4;obtain⟨g,G,H,rfl,rfl,hg,V,Ae,A⟩:=hcut;have c:=zh (R.on A);have Bi:=A.size;clear J L N O Q;have x0:wc.cell? ⟨g,0,none⟩=some (.int .i64 (n:Int)):=V.cell 0;have x1:wc.cell? ⟨g,1,none⟩=some (.slice G k H):=V.cell 1;have c0:=c.cb.c0;have c1:=c.cb.c1;have c2:=c.cb.c2;go_wp2_with fail;refine(ρ wc _ _ _ c.cb.bel).mono ?_;rintro e Bk ⟨Bj,rfl,ν,κ⟩;obtain⟨σ,ω,rfl⟩:=ν.form';have ε:=zh (c.on κ);have Ag:=zh (Ae.on κ);have Af:=zh (ν.sep Ab Ac);have Ak:=R.cb.bel.size;have Al:=c.cb.bel.size;have Bg:=R.q.lt;have Bh:=c.q.lt;clear ν κ c0 c1 c2 x0 x1;obtain⟨Bs,Bt,Bu,Bv,Bw,d,f,Bb,Bc,Bd⟩:=ε.q.five;go_wp2_with fail;obtain⟨Br,Am,D⟩:=uP (x:=.int .i64 P) (y:=.int .i64 M) (z:=.slice σ Mod.length ω) (u:=.int .i64 (n:Int)) (v:=.slice G k H) ε.q;rw[Am];have Ao:=D.c0;have Ap:=D.c1;have Aq:=D.c2;have Ar:=D.c3;have As:=D.c4;refine bodyPost_ret (v:=.tuple #[.agg #[.int .i64 P,.int .i64 M,.slice σ Mod.length ω,.int .i64 (n:Int),.slice G k H],.int .i64 0]) (by simp[results,Tryz.results82,go_sem,Ao,Ap,Aq,Ar,As]) rfl ?_;exact⟨_,_,rfl,((Af.grown D.gr (by rintro b e;cases e;omega)).mono Al).and ((Ag.grown D.gr (by rintro b e;cases e;omega)).mono Ak),D.below ε.cb.bel ε.cb.bel.size (by omega)⟩
theorem SI.takev{w:World}{A:Option Addr}{n c:Nat}{xs:LI}(h:SI w (.slice A n c) xs){i:Nat}(hi:i<=n):SI w (.slice A i c) (xs.take i):=by
 obtain⟨F,c',e,h⟩:=h;cases e;have C:(xs.take i).length=i:=by rw[aY3];omega
 refine⟨_,c,by rw[C],by have:=h.len;omega,by have:=h.cap;omega,fun k B=>?_,fun k=>?_⟩
 .rw[C] at B;obtain⟨D,rfl,E⟩:=h.cell k (by omega);exact⟨D,rfl,by rw[show(xs.take i).getD k 0=xs.getD k 0 by simp[List.getD,List.getElem?_take,B]];exact E⟩
 .by_cases B:k<i
  .rw[show(xs.take i).getD k 0=xs.getD k 0 by simp[List.getD,List.getElem?_take,B]];exact h.wf k
  .rw[aW (by rw[C];omega)];exact I64.zero
end Go.Proofs.YtpfhoemohibniaaGreatDoor
namespace Go.Proofs.YtpfhoemohibniaaGreatDoor
def dgt(p m j:Nat):Nat:=m/p^j%p
def pwL(O:aO)(q n:Nat)(gen:LL)(row s:Nat):LI:=aQ n fun j=>aR O (fun i=>O.mul (dgt q s (row-1-i):Int) (ent gen i j)) row
theorem vG(O:aO)(q n:Nat)(gen:LL)(row s:Nat):(pwL O q n gen row s).length=n:=aT _ _
theorem J0{O:aO}{q n:Nat}{gen:LL}{row s j:Nat}(A:j<n):(pwL O q n gen row s).getD j 0=aR O (fun i=>O.mul (dgt q s (row-1-i):Int) (ent gen i j)) row:=aS A
theorem SR(O:aO)(q n:Nat)(gen:LL):pwL O q n gen 0 0=List.replicate n 0:=by rw[<-gH];rfl
theorem FN{q s a k:Nat}(A:a<q):dgt q (s*q+a) (k+1)=dgt q s k:=by
 have hq:0<q:=by omega
 unfold dgt;rw[Nat.pow_succ',<-Nat.div_div_eq_div_mul,show(s*q+a)/q=s by rw[Nat.add_comm,Nat.add_mul_div_right _ _ hq,Nat.div_eq_of_lt A,Nat.zero_add]]
theorem FM{q s a:Nat}(A:a<q):dgt q (s*q+a) 0=a:=by unfold dgt;rw[Nat.pow_zero,Nat.div_one,Nat.add_comm,Nat.add_mul_mod_self_right,Nat.mod_eq_of_lt A]
theorem SQ{O:aO}{q n:Nat}{gen:LL}{row s a:Nat}(A:a<q):pwL O q n gen (row+1) (s*q+a)=aQ n fun j=>O.add ((pwL O q n gen row s).getD j 0) (O.mul (a:Int) (ent gen row j)):=by
 refine qX fun j B=>?_;rw[J0 B,aR];congr 1
 .refine aJ fun i hi=>?_;rw[show row+1-1-i=row-1-i+1 by omega,FN A]
 .rw[show row+1-1-row=0 by omega,FM A]
theorem LU{O:aO}{q:Nat}(hO:O.Fld (q:Int))(n:Nat)(gen:LL)(row s j:Nat):0<=(pwL O q n gen row s).getD j 0/\(pwL O q n gen row s).getD j 0<(q:Int):=by
 by_cases A:j<n
 .rw[J0 A];exact cW hO _ _
 .rw[aW (by rw[vG];omega)];have:=hO.lt.pos;omega
def iS(O:aO)(q n:Nat)(gen:LL):LL:=(List.range (q^gen.length)).map (pwL O q n gen gen.length)
theorem kA(O:aO)(q n:Nat)(gen:LL):(iS O q n gen).length=q^gen.length:=by simp[iS]
theorem wN{O:aO}{q n:Nat}{gen:LL}{N:Nat}(h:N<q^gen.length):(iS O q n gen).getD N []=pwL O q n gen gen.length N:=by simp[iS,List.getD,h]
end Go.Proofs.YtpfhoemohibniaaGreatDoor
namespace Go.Proofs.YtpfhoemohibniaaGreatDoor
open Go.RowKit Go.Shelf
attribute [local go_sem] Oper.semAt_some
def Hd(A:World)(B:Nat->Prop)(W:World):Prop:=A.heap.size<=W.heap.size/\∀i,B i->W.heap[i]?=A.heap[i]?
theorem Hd.off{B W C:World}{A X:Nat->Prop}(h:Hd B A W)(E:∀i,A i->i<B.heap.size)(D:Off X W C)(F:∀i,A i->¬X i):Hd B A C:=
 ⟨aZ6 h.1 D.size,fun i hi=>(D.block i (aY1 (E i hi) h.1) (F i hi)).trans (h.2 i hi)⟩
def XY(cb ba C B A:Nat):Array Value:=#[.pointer (some ⟨cb,0,none⟩),.pointer (some ⟨ba,0,none⟩),.pointer (some ⟨C,0,none⟩),.pointer (some ⟨B,0,none⟩),.pointer (some ⟨A,0,none⟩)]
structure WD(Wz:World)(Dp:Nat->Prop)(P M:Int)(Mod:LI)(gen:LL)(GA:Option Addr)(K gc cb ba by_ bg bf a l:Nat):Prop where
 c4:∀W,Hd Wz Dp W->W.cell? ⟨cb,4,none⟩=some (.slice GA K gc)
 gn:∀W,Hd Wz Dp W->SS W (.slice GA K gc) gen
 yl:∀W,Hd Wz Dp W->W.cell? ⟨by_,0,none⟩=some (.func (.yield l) #[] #[])
 gp:∀W,Hd Wz Dp W->W.cell? ⟨bg,0,none⟩=some (.pointer (some ⟨a,0,none⟩))
 gf:∀W,Hd Wz Dp W->GF W a P M Mod
 fr:∀W,Hd Wz Dp W->W.cell? ⟨bf,0,none⟩=some (.func (.func 277) #[] (XY cb ba by_ bg bf))
 nb:¬Dp ba
 lt:∀i,Dp i->i<Wz.heap.size
structure WS(Wz:World)(Dp Kp:Nat->Prop)(ba:Nat)(J:Nat->(Nat->Prop)->World->Prop)(t:Nat)(X:Nat->Prop)(W:World):Prop where
 hd:Hd Wz Dp W
 at_:Blk W ba 3 [.int .i64 (t:Int)]
 j:J t X W
 nx:∀i,Dp i->Kp i\/¬X i
 nb:¬X ba
theorem WS.bel{B W C:World}{A Kp:Nat->Prop}{ba t:Nat}{J:Nat->(Nat->Prop)->World->Prop}{X:Nat->Prop}(h:WS B A Kp ba J t X W)(D:pT J)(E:∀i,A i->i<B.heap.size)(hb:Below W.heap.size W C):WS B A Kp ba J t X C:=
 ⟨h.hd.off E (oW (X:=fun _=>False) hb) (fun _ _ k=>k),h.at_.belowS hb,D.on _ _ _ _ h.j ((oW (X:=fun _=>False) hb).on fun i hi=>⟨D.lt _ _ _ h.j i hi,fun k=>k⟩),h.nx,h.nb⟩
def tQ(E:World)(C Kp:Nat->Prop)(ba:Nat)(J D:Nat->(Nat->Prop)->World->Prop)(n F:Nat)(X:Nat->Prop)(W:World)(e:Ending)(B:World):Prop:=
 (e=.returned (.bool true)/\∃A,WS E C Kp ba J F A B/\(∀i,A i->X i\/W.heap.size<=i)/\Off (fun i=>X i\/i=ba) W B)\/(e=.returned (.bool false)/\∃k A,k<n/\D (k+1) A B)
theorem QZ{I W D G B:World}{H Kp:Nat->Prop}{ba t n:Nat}{J Q:Nat->(Nat->Prop)->World->Prop}{X:Nat->Prop}{u:Value}{xs:LI}{b:Bool}(F:WS I H Kp ba J t X W)(o:pT J)(M:∀i,H i->i<I.heap.size)(c:¬H ba)
  (R:Off (fun i=>i=ba) W D)(m:D.heap.size=W.heap.size)(T:Blk D ba 3 [.int .i64 ((t:Int)+1)])(L:Below D.heap.size D G)(U:OI D.drew.heap.size G u xs)(d:t<n)
  (A:(b=true->∃C,J (t+1) C B/\(∀i,C i->X i\/u.ownBlock=some i\/G.heap.size<=i)/\Off X G B/\E2 Kp G B)/\(b=false->∃C,Q (t+1) C B)):
  tQ I H Kp ba J Q n (t+1) X W (.returned (.bool b)) B:=by
 cases b
 .obtain⟨C,h⟩:=A.2 rfl;exact .inr ⟨rfl,t,C,d,h⟩
 .obtain⟨C,Z,P,N,a⟩:=A.1 rfl;have j:=L.size;have l:ba<W.heap.size:=F.at_.lt;have O:∀i,u.ownBlock=some i->W.heap.size<=i:=fun i hi=>by have K:D.heap.size<=i:=(U.lt hi).1;omega
  have V:Blk G ba 3 [.int .i64 ((t:Int)+1)]:=T.belowS L;have Y:Hd I H B:=by
   have K:=(F.hd.off M R fun i hi e=>c (e▸hi)).off M (oW (X:=fun _=>False) L) fun _ _ k=>k;refine⟨aZ6 K.1 N.size,fun i hi=>?_⟩;rw[<-K.2 i hi];rcases F.nx i hi with E|E
   .exact a i E
   .exact N.block i (aY1 (M i hi) K.1) E
  refine .inl ⟨rfl,C,⟨Y,?_,by push_cast;exact Z,fun i hi=>?_,fun h=>?_⟩,fun i hi=>?_,?_⟩
  .have e:B.heap[ba]?=G.heap[ba]?:=N.block ba (by omega) F.nb;have:Blk B ba 3 [.int .i64 ((t:Int)+1)]:=e.trans V;push_cast;exact this
  .rcases F.nx i hi with E|E
   .exact .inl E
   .refine .inr fun S=>?_;have f:=M i hi;have g:=F.hd.1;rcases P i S with A|A|A
    .exact E A
    .have:=O i A;omega
    .omega
  .rcases P ba h with A|A|A
   .exact F.nb A
   .have:=O ba A;omega
   .omega
  .rcases P i hi with A|A|A
   .exact .inl A
   .exact .inr (O i A)
   .exact .inr (by omega)
  .exact((R.mono fun i _ h=>.inr h).trans (oW L)).trans (N.mono fun i _ h=>.inl h)
theorem G7{Kp:Nat->Prop}{J C:Nat->(Nat->Prop)->World->Prop}{k:Nat}{X:Nat->Prop}{u:Value}{W A:World}{e:Ending}(h:yD Kp J C k X u W e A):
  ∃b,e=.returned (.bool b)/\(b=true->∃B,J (k+1) B A/\(∀i,B i->X i\/u.ownBlock=some i\/W.heap.size<=i)/\Off X W A/\E2 Kp W A)/\(b=false->∃B,C (k+1) B A):=by
 rcases h with⟨rfl,h⟩|⟨rfl,h⟩
 .exact⟨true,rfl,fun _=>h,(fun h=>nomatch h)⟩
 .exact⟨false,rfl,(fun h=>nomatch h),fun _=>h⟩
theorem NC{I:World}{F Kp:Nat->Prop}{P M:Int}{Mod:LI}{gen L:LL}{ε:Option Addr}{K φ cb ba U r q a l:Nat}(D:WD I F P M Mod gen ε K φ cb ba U r q a l)
  {J p:Nat->(Nat->Prop)->World->Prop}(O:pT J)(s:(L.length<=1000000\/∀k X W,J k X W->k<=1000000))
  (v:∀k T B u,k<L.length->J k T B->SI B u (L.getD k [])->(∀i,u.ownBlock=some i->i<B.heap.size/\¬T i)->YieldAt Fence.wide 2 Tryz.prog l #[.int .i64 (k:Int),u] B (yD Kp J p k T u B))
  {t:Nat}(y:t<L.length){X:Nat->Prop}{W:World}(C:WS I F Kp ba J t X W){wv:Value}(V:SI W wv (L.getD t []))(δ:∀i,wv.ownBlock=some i->i≠ba):
  Calls Tryz.prog 277 #[.int .i64 (K:Int),wv,.pointer (some ⟨cb,0,none⟩),.pointer (some ⟨ba,0,none⟩),.pointer (some ⟨U,0,none⟩),.pointer (some ⟨r,0,none⟩),.pointer (some ⟨q,0,none⟩)] W
   (tQ I F Kp ba J p L.length (t+1) X W):=by
 have μ:=zh (show∀i,I64 ((L.getD t []).getD i 0) from by obtain⟨A,c,rfl,h⟩:=V;exact h.wf);have Q:=zh D;have ξ:=zh v;have η:=zh C;have κ:=zh V;have H:=zh O;have m:=zh y;have ν:=zh δ;have N:t<=1000000:=by
  rcases s with h|h
  .omega
  .exact h _ _ _ C.j
 clear s;have c4:=D.c4 W C.hd;have ρ:W.cell? ⟨ba,0,none⟩=some (.int .i64 (t:Int)):=C.at_.cell 0;have τ:=C.at_.frozen 0;have z:wrap64 ((t:Int)+1)=(t:Int)+1:=by unfold wrap64;omega
 have ι:=zh N;clear N;have Ad:((K:Int)==(K:Int))=true:=by simp
 have Z:Hid (Blk (W.setCell ⟨ba,0,none⟩ (.int .i64 ((t:Int)+1))) ba 3 [.int .i64 ((t:Int)+1)]):=C.at_.set_ 0 _;have S:Hid (Off (fun i=>i=ba) W (W.setCell ⟨ba,0,none⟩ (.int .i64 ((t:Int)+1)))):=Off.setCell W ⟨ba,0,none⟩ _ fun _=>rfl;have ζ:Hid (Hd I F (W.setCell ⟨ba,0,none⟩ (.int .i64 ((t:Int)+1)))):=C.hd.off D.lt S.out fun i hi e=>D.nb (e▸hi);have R:Hid (J t X (W.setCell ⟨ba,0,none⟩ (.int .i64 ((t:Int)+1)))):=O.on _ _ _ _ C.j (S.on fun i hi=>⟨O.lt _ _ _ C.j i hi,fun e=>C.nb (e▸hi)⟩);clear D v C V O y δ;go_enter Tryz.func277,Tryz.ntmps277;go_upto_region 3 with fail;clear c4 ρ τ;have o:Hid (SI (W.setCell ⟨ba,0,none⟩ (.int .i64 ((t:Int)+1))) wv (L.getD t [])):=aD (κ.grown (bF W ba 0 _) fun _ g hg e=>ν.out g hg (aZ0 e).symm);have x:(W.setCell ⟨ba,0,none⟩ (.int .i64 ((t:Int)+1))).heap.size=W.heap.size:=by show(W.heap.modify _ _).size=_;rw[Array.size_modify]
 have θ:=zh x;rw[z];clear z x;generalize W.setCell ⟨ba,0,none⟩ (.int .i64 ((t:Int)+1))=B at*;have Ab:B.cell? ⟨U,0,none⟩=some (.func (.yield l) #[] #[]):=Q.yl B ζ.out;have σ:B.cell? ⟨ba,0,none⟩=some (.int .i64 ((t:Int)+1)):=Z.cell 0;have N:=ι.out;have Af:wrap64 (t:Int)=(t:Int):=by unfold wrap64;omega
 have Ah:IntKind.i64.wrap (t:Int)=(t:Int):=IntWalk.i64_in _ (by omega);have Ag:(t:Int)+1-1=(t:Int):=by omega
 have Ae:Tryz.prog.follows .mixedOrders=true:=by kernel_rfl
 clear N;refine(wpIn_wide (n:=3)).1 ?_
 gi_region_with_o (first
  |(refine⟨trivial,?_⟩;gi_at_call 21;refine(callsIn_wide.2 (iV _ wv (L.getD t []) (o.below (aH B) zr))).mono ?_;rintro e Aa ⟨u,rfl,w,hb⟩;have hb:=aA (aH B) hb;have Aj:=aE hb Ab;have Ac:=aE hb σ;have d:=zh hb;have G:=zh w;clear w hb;obtain⟨fn,tmps,assign,body,Ai,hR⟩:=ξ.out t X Aa u m (H.on _ _ _ _ R ((oW (X:=fun _=>False) d).on fun i hi=>⟨H.lt _ _ _ R.out i hi,fun k=>k⟩)) (G.si o.len' μ) (fun i hi=>⟨(G.lt hi).2,fun ω=>by have χ:=H.lt _ _ _ R.out i ω;have ψ:=(G.lt hi).1;exact absurd χ (Nat.not_lt_of_le ψ)⟩);have f:=zh hR;clear hR)
  |(refine⟨fun h=>(by cases h),?_⟩;refine f.mono ?_;rintro e π E;obtain⟨b,rfl,hq⟩:=G7 E;have Y:=zh hq;clear E hq)
  |(refine f.mono ?_;rintro e π E;obtain⟨b,rfl,hq⟩:=G7 E;have Y:=zh hq;clear E hq)
  |fail)
 all_goals
  go_wp2_with fail;go_ret;exact QZ η.out H.out Q.lt Q.nb S.out θ.out Z.out d.out G.out m.out Y.out
end Go.Proofs.YtpfhoemohibniaaGreatDoor
namespace Go.Proofs.YtpfhoemohibniaaGreatDoor
def MY(q k s:Nat):LI:=(List.range k).map fun i=>(dgt q s (k-1-i):Int)
theorem yW(q k s:Nat):(MY q k s).length=k:=by simp[MY]
theorem K3{q k s i:Nat}(h:i<k):(MY q k s).getD i 0=(dgt q s (k-1-i):Int):=by simp[MY,List.getD,h]
theorem BZ{O:aO}{q n:Nat}(hO:O.Fld (q:Int)){gen:LL}(hR:Rows (q:Int) n gen)(s:Nat):gP O (MY q gen.length s) gen n=pwL O q n gen gen.length s:=by
 refine zE (by rw[vG];exact fX O _ gen n _) fun j A=>?_;have B:j<n:=by rwa[show(gP O (MY q gen.length s) gen n).length=n from fX O _ gen n _] at A
 rw[mC hO hR (yW _ _ _),J0 B];exact aJ fun i hi=>by rw[K3 hi]
def lY(q:Nat)(A:LI):Nat->Nat
 |0=>0
 |k+1=>lY q A k*q+(A.getD k 0).toNat
theorem DT{q:Nat}{A:LI}(h:∀k,0<=A.getD k 0/\A.getD k 0<q):∀k,lY q A k<q^k
 |0=>by simp[lY]
 |k+1=>by
  have B:=DT h k;have C:=h k;show lY q A k*q+(A.getD k 0).toNat<q^k*q;have D:(A.getD k 0).toNat<q:=by omega
  calc lY q A k*q+(A.getD k 0).toNat<lY q A k*q+q:=by omega
   _=(lY q A k+1)*q:=by rw[Nat.add_mul,Nat.one_mul]
   _<=q^k*q:=Nat.mul_le_mul_right _ B
theorem E8{q:Nat}{A:LI}(h:∀k,0<=A.getD k 0/\A.getD k 0<q):∀k i,i<k->(dgt q (lY q A k) (k-1-i):Int)=A.getD i 0
 |0,i,hi=>by omega
 |k+1,i,hi=>by
  have C:=h k;have B:(A.getD k 0).toNat<q:=by omega
  show(dgt q (lY q A k*q+(A.getD k 0).toNat) (k+1-1-i):Int)=_;by_cases e:i=k
  .subst e;rw[show i+1-1-i=0 by omega,FM B];omega
  .rw[show k+1-1-i=(k-1-i)+1 by omega,FN B];exact E8 h k i (by omega)
theorem MV{O:aO}{q n:Nat}(hO:O.Fld (q:Int)){gen:LL}(hR:Rows (q:Int) n gen){A:LI}(B:A.length=gen.length)(h:∀k,0<=A.getD k 0/\A.getD k 0<q):
  gP O A gen n=(iS O q n gen).getD (lY q A gen.length) []:=by
 rw[wN (DT h _),<-BZ hO hR];congr 1;refine zE (by rw[yW,B]) fun i hi=>?_;rw[K3 (by omega),E8 h _ _ (by omega)]
end Go.Proofs.YtpfhoemohibniaaGreatDoor
namespace Go.Proofs.YtpfhoemohibniaaGreatDoor
open Go.RowKit
structure FCQ(w w1:World)(P M:Int)(mv:Value):Prop where
 fb:cV w w1 P M mv
 q:Blk w1 (w.heap.size+1) 27 [.int .i64 0,.int .i64 0,.slice none 0 0,.int .i64 0,.slice none 0 0]
theorem FCQ.on{w w1 w2:World}{P M:Int}{mv:Value}(h:FCQ w w1 P M mv)(hb:Below w1.heap.size w1 w2):FCQ w w2 P M mv:=⟨h.fb.on hb,h.q.belowS hb⟩
theorem FCQ.mk'(w:World)(P M:Int)(mv:Value):∃w1,(w.alloc (.cells #[.int .i64 P,.int .i64 M,mv] 24)).alloc (.cells #[.int .i64 0,.int .i64 0,.slice none 0 0,.int .i64 0,.slice none 0 0] 27)=w1/\FCQ w w1 P M mv:=by refine⟨_,rfl,(cV.mk' w P M mv).on (aF _ _),?_⟩;have:=Blk.new (w.alloc (.cells #[.int .i64 P,.int .i64 M,mv] 24)) 27 [.int .i64 0,.int .i64 0,.slice none 0 0,.int .i64 0,.slice none 0 0];rw[World.size_alloc] at this;exact this
theorem YH(w:World)(P M n D:Int)(mv:Value)(S:D≠0)(hR:∀w',Below w.heap.size w w'->Calls Tryz.prog 201 #[.agg #[.int .i64 P,.int .i64 M,mv],.int .i64 n] w' (gO w' 0 0 [] 0 [] D)):
  Calls Tryz.prog 202 #[.agg #[.int .i64 P,.int .i64 M,mv],.int .i64 n] w (gO w 0 0 [] 0 [] D):=by
 have m:(D !=0)=true:=by rw[bne_iff_ne];exact S
 obtain⟨w1,C,hq⟩:=FCQ.mk' w P M mv;have B:=zh hq;have F:=zh C;clear hq C;go_enter Tryz.func202,Tryz.ntmps202;go_upto_region 1 with fail;rw[F.out];clear F;have c0:=B.fb.c0;have c1:=B.fb.c1;have c2:=B.fb.c2;go_wp2_with fail;refine(hR w1 B.fb.bel).mono ?_;rintro e w2 ⟨o,l,rfl,J,H⟩;have L:=zh (B.on H);obtain⟨⟨N,T,rfl,_⟩,⟨K,O,rfl,_⟩⟩:=J.out;clear c0 c1 c2;clear J H;go_upto_region 2 with fail;obtain⟨r,g,C,G,R,I⟩:=bB w2 27 [.int .i64 0,.int .i64 0,.slice N 0 T,.int .i64 0,.slice K 0 O];rw[C,G];have E:=zh (L.on I);clear C G R I;obtain⟨Z,a,b,c,d,f,h,i,j,k⟩:=E.q.five;go_wp2_with fail;obtain⟨p,Q,A⟩:=uP (x:=.int .i64 0) (y:=.int .i64 0) (z:=.slice none 0 0) (u:=.int .i64 0) (v:=.slice none 0 0) E.q;rw[Q];have U:=A.c0;have V:=A.c1;have W:=A.c2;have X:=A.c3;have Y:=A.c4;refine bodyPost_ret (v:=.tuple #[.agg #[.int .i64 0,.int .i64 0,.slice none 0 0,.int .i64 0,.slice none 0 0],.int .i64 D]) (by simp[results,Tryz.results202,go_sem,U,V,W,X,Y]) rfl ?_;exact⟨_,_,rfl,(SI.nilSep _ _).and (SS.nilSep _ _),A.below E.fb.bel E.fb.bel.size (by omega)⟩
theorem YI(w:World)(P M n:Int)(N:Nat)(mv:Value)(Mod:LI)(C D:LL)(hR:∀w',Below w.heap.size w w'->Calls Tryz.prog 201 #[.agg #[.int .i64 P,.int .i64 M,mv],.int .i64 n] w' (gO w' P M Mod N C 0))
  (h:∀(w':World) (m X:Value),SI w' m Mod->SS w' X C->Calls Tryz.prog 82 #[.agg #[.int .i64 P,.int .i64 M,m,.int .i64 (N:Int),X]] w' (gO w' P M Mod N D 0)):
  Calls Tryz.prog 202 #[.agg #[.int .i64 P,.int .i64 M,mv],.int .i64 n] w (gO w P M Mod N D 0):=by
 have o:=zh h;clear h;obtain⟨w1,H,hq⟩:=FCQ.mk' w P M mv;have G:=zh hq;have Z:=zh H;clear hq H;go_enter Tryz.func202,Tryz.ntmps202;go_upto_region 1 with fail;rw[Z.out];clear Z;have c0:=G.fb.c0;have c1:=G.fb.c1;have c2:=G.fb.c2;go_wp2_with fail;refine(hR w1 G.fb.bel).mono ?_;rintro e w2 ⟨X,ψ,rfl,U,i⟩;have p:=zh (G.on i);obtain⟨⟨O,W,rfl,_⟩,⟨K,S,rfl,_⟩⟩:=U.out;clear c0 c1 c2;have r:Hid (Sep w1.heap.size w2 fun F=>SI F (.slice O Mod.length W) Mod/\SS F (.slice K C.length S) C):=aD U;clear U i;generalize hml:Mod.length=k at*;generalize hcl:C.length=c at*;clear hml hcl;go_upto_region 2 with fail;obtain⟨B,g,H,f,E,T⟩:=bB w2 27 [.int .i64 P,.int .i64 M,.slice O k W,.int .i64 (N:Int),.slice K c S];rw[H,f];have a:=zh (r.on T).out;have L:=zh (p.on T);have c0:B.cell? ⟨g,0,none⟩=some (.int .i64 P):=E.cell 0;have c1:B.cell? ⟨g,1,none⟩=some (.int .i64 M):=E.cell 1;have c2:B.cell? ⟨g,2,none⟩=some (.slice O k W):=E.cell 2;have c3:B.cell? ⟨g,3,none⟩=some (.int .i64 (N:Int)):=E.cell 3;have c4:B.cell? ⟨g,4,none⟩=some (.slice K c S):=E.cell 4;clear H f E T;go_wp2_with fail;refine(o B _ _ a.1 a.2).mono ?_;rintro e ι ⟨Aa,g5,rfl,V,j⟩;obtain⟨⟨Q,Y,rfl,_⟩,⟨J,R,rfl,_⟩⟩:=V.out;have s:Hid (Sep B.heap.size ι fun F=>SI F (.slice Q Mod.length Y) Mod/\SS F (.slice J D.length R) D):=aD V;have I:=zh (L.on j);clear V j c0 c1 c2 c3 c4;generalize D.length=d at*;generalize Mod.length=l at*;obtain⟨κ,μ,ν,ξ,π,ρ,σ,τ,φ,χ⟩:=I.q.five;go_wp2_with fail;obtain⟨F,t,A⟩:=uP (x:=.int .i64 P) (y:=.int .i64 M) (z:=.slice Q l Y) (u:=.int .i64 (N:Int)) (v:=.slice J d R) I.q;rw[t];have δ:=A.c0;have ε:=A.c1;have ζ:=A.c2;have η:=A.c3;have θ:=A.c4;have ω:=L.q.lt;refine bodyPost_ret (v:=.tuple #[.agg #[.int .i64 P,.int .i64 M,.slice Q l Y,.int .i64 (N:Int),.slice J d R],.int .i64 0]) (by simp[results,Tryz.results202,go_sem,δ,ε,ζ,η,θ]) rfl ?_;exact⟨_,_,rfl,(s.grown A.gr (by rintro b e;cases e;omega)).mono L.fb.bel.size,A.below I.fb.bel I.fb.bel.size (by omega)⟩
theorem UB(w:World)(P M n:Int)(N:Nat)(mv:Value)(Mod:LI)(C D:LL)(hR:∀w',Below w.heap.size w w'->Calls Tryz.prog 206 #[.agg #[.int .i64 P,.int .i64 M,mv],.int .i64 n] w' (gO w' P M Mod N C 0))
  (h:∀(w':World) (m X:Value),SI w' m Mod->SS w' X C->Calls Tryz.prog 82 #[.agg #[.int .i64 P,.int .i64 M,m,.int .i64 (N:Int),X]] w' (gO w' P M Mod N D 0)):
  Calls Tryz.prog 204 #[.agg #[.int .i64 P,.int .i64 M,mv],.int .i64 n] w (gO w P M Mod N D 0):=by
 have o:=zh h;clear h;obtain⟨w1,H,hq⟩:=FCQ.mk' w P M mv;have G:=zh hq;have Z:=zh H;clear hq H;go_enter Tryz.func204,Tryz.ntmps204;go_upto_region 1 with fail;rw[Z.out];clear Z;have c0:=G.fb.c0;have c1:=G.fb.c1;have c2:=G.fb.c2;go_wp2_with fail;refine(hR w1 G.fb.bel).mono ?_;rintro e w2 ⟨X,ψ,rfl,U,i⟩;have p:=zh (G.on i);obtain⟨⟨O,W,rfl,_⟩,⟨K,S,rfl,_⟩⟩:=U.out;clear c0 c1 c2;have r:Hid (Sep w1.heap.size w2 fun F=>SI F (.slice O Mod.length W) Mod/\SS F (.slice K C.length S) C):=aD U;clear U i;generalize hml:Mod.length=k at*;generalize hcl:C.length=c at*;clear hml hcl;go_upto_region 2 with fail;obtain⟨B,g,H,f,E,T⟩:=bB w2 27 [.int .i64 P,.int .i64 M,.slice O k W,.int .i64 (N:Int),.slice K c S];rw[H,f];have a:=zh (r.on T).out;have L:=zh (p.on T);have c0:B.cell? ⟨g,0,none⟩=some (.int .i64 P):=E.cell 0;have c1:B.cell? ⟨g,1,none⟩=some (.int .i64 M):=E.cell 1;have c2:B.cell? ⟨g,2,none⟩=some (.slice O k W):=E.cell 2;have c3:B.cell? ⟨g,3,none⟩=some (.int .i64 (N:Int)):=E.cell 3;have c4:B.cell? ⟨g,4,none⟩=some (.slice K c S):=E.cell 4;clear H f E T;go_wp2_with fail;refine(o B _ _ a.1 a.2).mono ?_;rintro e ι ⟨Aa,g5,rfl,V,j⟩;obtain⟨⟨Q,Y,rfl,_⟩,⟨J,R,rfl,_⟩⟩:=V.out;have s:Hid (Sep B.heap.size ι fun F=>SI F (.slice Q Mod.length Y) Mod/\SS F (.slice J D.length R) D):=aD V;have I:=zh (L.on j);clear V j c0 c1 c2 c3 c4;generalize D.length=d at*;generalize Mod.length=l at*;obtain⟨κ,μ,ν,ξ,π,ρ,σ,τ,φ,χ⟩:=I.q.five;go_wp2_with fail;obtain⟨F,t,A⟩:=uP (x:=.int .i64 P) (y:=.int .i64 M) (z:=.slice Q l Y) (u:=.int .i64 (N:Int)) (v:=.slice J d R) I.q;rw[t];have δ:=A.c0;have ε:=A.c1;have ζ:=A.c2;have η:=A.c3;have θ:=A.c4;have ω:=L.q.lt;refine bodyPost_ret (v:=.tuple #[.agg #[.int .i64 P,.int .i64 M,.slice Q l Y,.int .i64 (N:Int),.slice J d R],.int .i64 0]) (by simp[results,Tryz.results204,go_sem,δ,ε,ζ,η,θ]) rfl ?_;exact⟨_,_,rfl,(s.grown A.gr (by rintro b e;cases e;omega)).mono L.fb.bel.size,A.below I.fb.bel I.fb.bel.size (by omega)⟩
theorem RY(w:World)(n:Nat)(h:n<=1000000):∃w' g,w.alloc (.cells (madeCells #[.slice none 0 0] n) 22)=w'/\w.heap.size=g/\OM w.heap.size (fun g=>g<w.heap.size) w' (.slice (some ⟨g,0,none⟩) n n) (List.replicate n [])/\Below w.heap.size w w':=
 ⟨_,_,rfl,rfl,OM.made w n zr h,aF w _⟩
theorem EK(P M:Int):aC P M<=100000:=by have:=aK P M;omega
theorem UD(w:World)(P M:Int)(R N:Nat)(mv:Value)(Mod:LI)(B:LL)(hm:SI w mv Mod)(T:cK P M Mod)(hR:R<=256)(c:B.length=N)(Cx:1<=N)(Cy:N<=64)(ε:Rows (aC P M) R B)
  (Cz:∀w',Below w.heap.size w w'->Calls Tryz.prog 292 #[.agg #[.int .i64 P,.int .i64 M,mv],.int .i64 (R:Int)] w' (BT w' B 0)):
  Calls Tryz.prog 206 #[.agg #[.int .i64 P,.int .i64 M,mv],.int .i64 (R:Int)] w (gO w P M Mod N (bC (aB P M Mod) (gU B R) N) 0):=by
 have Bo:Rows (aC P M) N (gU B R):=by have h:=sE (show 0<aC P M by have:=cG T.1;omega) ε R;rwa[c] at h
 have Ax:=zh (fun(w':World) (Br:Value) (hb:Below w.heap.size w w') (De:SS w' Br (gU B R))=>UC w' P M N mv Br Mod _ (hm.below hb zr) De (jI T (by omega) (by rw[iD];exact hR) Bo) Cx Cy);have Dd:=EK P M;have By:Hid (∀i k,I64 (ent B i k)):=aD fun i k=>by
  by_cases hi:i<B.length
  .have h:=(ε i hi).2 k;exact I64.of_small (by unfold ent;omega) (by unfold ent;omega)
  .have e:B.getD i []=[]:=by simp[List.getD,aY4 (show B.length<=i by omega)]
   unfold ent;rw[e];exact I64.zero
 have Cf:=zh ε;have ι:=zh c;unfold gO at Ax;generalize bC (aB P M Mod) (gU B R) N=C at*;obtain⟨F,χ⟩:∃F:Nat->LI,F=fun p=>aQ N fun i=>ent B i p:=⟨_,rfl⟩
 have Cl:Hid (stS R F R=gU B R):=aD (by rw[TH,χ];unfold gU;rw[c]);have Bz:=zh χ;clear Bo ε T χ Dd;have Db:=fun(w:World)=>xZ R (by omega) w;obtain⟨w1,I,hq⟩:=FCQ.mk' w P M mv;have Z:=zh hq;have At:=zh I;clear hq I;go_enter Tryz.func206,Tryz.ntmps206;go_upto_region 1 with fail;rw[At.out];clear At;have c0:=Z.fb.c0;have c1:=Z.fb.c1;have c2:=Z.fb.c2;go_wp2_with fail;refine(Cz w1 Z.fb.bel).mono ?_;rintro e w2 ⟨Eo,rfl,Ah,Dc,Bj⟩;obtain⟨Cr,Dh,rfl,_⟩:=id Ah;have κ:=zh Ah;have Ce:=zh (Z.on Bj);clear Ah Dc Bj c0 c1 c2;change Hid (SS w2 (.slice Cr B.length Dh) B) at κ;rw[c] at κ|-;clear c;go_upto_region 5 with fail;clear Db;obtain⟨n,gv,I,J,δ,ω⟩:=RY w2 R (by omega);rw[I,J];obtain⟨Bt,A,Bd,τ,Bh,Aa⟩:=bB n 86 [.int .i64 (N:Int),.slice (some ⟨gv,0,none⟩) R R];have Be:gv+1=A:=by rw[<-τ,<-I,World.size_alloc,J]
 rw[Bd,Be];have El:=ω.size;have Eg:w2.heap.size=gv:=J;have Ed:n.heap.size=A:=τ;have Ee:=δ.lt (g:=gv) rfl;have Ef:gv≠A:=by omega
 rw[<-TI R F] at δ;have H:Hid (OM w2.heap.size (fun g=>g<w2.heap.size\/g=A) Bt (.slice (some ⟨gv,0,none⟩) R R) (stS R F 0)):=aD ((δ.names (Y:=fun g=>g<w2.heap.size\/g=A) (fun g Ej Dg=>Dg.resolve_right (by omega))).below Aa);have G:=zh Bh;have D:=zh (aA ω Aa);clear I J Bd τ Be δ ω Bh Aa;have π:Bt.cell? ⟨A,1,none⟩=some (.slice (some ⟨gv,0,none⟩) R R):=G.cell 1;go_wp2_with fail;clear π;go_loopw [30] (fun i wr=>∃j:Nat,j<=R/\i=.int .i64 (j:Int)/\Hid (OM w2.heap.size (fun g=>g<w2.heap.size\/g=A) wr (.slice (some ⟨gv,0,none⟩) R R) (stS R F j))/\Hid (Blk wr A 86 [.int .i64 (N:Int),.slice (some ⟨gv,0,none⟩) R R])/\Hid (Below w2.heap.size w2 wr)/\n.heap.size<wr.heap.size) (fun i _=>R-(intOf i).toNat)
 case atStart=>exact⟨0,aZ5 _,rfl,H,G,D,by have:=G.lt;omega⟩
 case round=>
  clear H G D;obtain⟨j,Eh,rfl,H,G,D,ζ⟩:=hrel;by_cases W:j<R
  .obtain⟨f,T⟩:∃f:Nat->Int,f=fun i=>ent B i j:=⟨_,rfl⟩
   have Ca:Hid (F j=aQ N f):=aD (by rw[Bz.out,T]);have Cq:=zh T;clear T;have Ay:Hid (OM w2.heap.size (fun g=>g<w2.heap.size\/g=A) wr (.slice (some ⟨gv,0,none⟩) R R) ((stS R F j).set j (aQ 0 f))):=aD (by rw[J8,V3 W];exact H.out);have Av:Hid ((stS R F j).length=R):=aD (V2 _ _ _);have Ck:Hid ((stS R F j).set j (aQ N f)=stS R F (j+1)):=aD (by rw[<-Ca.out,V4 W]);clear H;go_wp2_with fail;go_loopw [35] (fun i wr=>∃k:Nat,k<=N/\i=.int .i64 (k:Int)/\Hid (OM w2.heap.size (fun g=>g<w2.heap.size\/g=A) wr (.slice (some ⟨gv,0,none⟩) R R) ((stS R F j).set j (aQ k f)))/\Hid (Blk wr A 86 [.int .i64 (N:Int),.slice (some ⟨gv,0,none⟩) R R])/\Hid (Below w2.heap.size w2 wr)/\n.heap.size<wr.heap.size) (fun i _=>N-(intOf i).toNat)
   case atStart=>exact⟨0,aZ5 _,rfl,Ay,G,D,ζ⟩
   case round=>
    clear Ay G D ζ;obtain⟨k,Ei,rfl,H,G,D,ζ⟩:=hrel;by_cases Bl:k<N
    .obtain⟨Dq,Do,Dr,row,rfl,Ab,Ch,Bb⟩:=κ.eltA (k:=k) (by rw[ι.out];exact Bl);have Ag:row.length=R:=by rw[<-Bb.out];exact(Cf k (by rw[ι.out];exact Bl)).1
     obtain⟨An,y,rfl,Al,Cp,Co⟩:=Ch.elt (k:=j) (by rw[Ag];exact W);rw[Ag] at Ab;have Em:=World.block_lt_of_cell? _ _ Al;have Ec:=aE D.out Ab;have Bp:=aE D.out Al;clear Ab Al;have Ci:Hid (aQ (k+1) f=aQ k f++[y]):=aD (by rw[J9,Cq.out];dsimp only;unfold ent;rw[Bb.out,Co.out]);have Ae:((stS R F j).set j (aQ k f)).length=R:=by rw[aZ9,Av.out]
     have Bk:((stS R F j).set j (aQ k f)).getD j []=aQ k f:=by rw[cE,if_pos ⟨rfl,by rw[Av.out];exact W⟩]
     obtain⟨En,Ao,l,Af⟩:=H.row (k:=j) (by rw[Ae];exact W);rw[Bk] at l;obtain⟨ξ,Ap,rfl⟩:=l.form';rw[aT] at l Ao Af;have Ba:=zh l;have Aw:=zh Af;have Cb:=zh Ae;have Bf:wr.cell? ⟨A,1,none⟩=some (.slice (some ⟨gv,0,none⟩) R R):=G.cell 1;have Bu:=zh Bf;have Cs:=zh Ao;have Ct:=zh Bp;clear Ae Bk l Af Ag;go_wp2_with fail;refine aM.start (S:=fun w'=>w'.cell? ⟨A,1,none⟩=some (.slice (some ⟨gv,0,none⟩) R R)/\w'.cell? ⟨gv,j,none⟩=some (.slice ξ k Ap)/\w'.cell? (An.add j)=some (.int .i64 y)) (by kernel_rfl) (⟨Bf,Ao,Bp⟩) (fun ψ=>?_);change aM _ _ _ _ 16 _ _ _;refine dq 0 ?_;refine dq 1 ?_;refine dq 2 ?_;refine dq 3 ?_;refine dq 4 ?_;refine dq 5 ?_;refine dq 6 ?_;refine dq 7 ?_;refine dq 8 ?_;refine dq 9 ?_;refine dq 10 ?_;refine dq 11 ?_;try simp only[tz]
     refine aM.only (i:=12) (o:=?op1) (by kernel_rfl) ?ho1 (fun K hK=>?_)
     case ho1=>(conv=>lhs;simp only[tdg,tdh,tdi])
     go_simp;obtain⟨U,φ,I,J,Bi,d⟩:=uV wr 3 [.int .i64 y];rw[I,J];have μ:Hid (RI U φ [y]):=aD Bi;have E:=zh d;have Dp:Hid (wr.heap.size=φ):=aD J;clear I J Bi d;have Dn:=aE E.out Bu.out;have Aq:=aE E.out Cs.out;have Bs:=aE E.out Ct.out;refine hK.out _ _ (fun _=>⟨Dn,Aq,Bs⟩) (fun Q=>?_);clear hK K;replace ψ:=Q (by decide);clear Q;try simp only[tz]
     refine aM.only (i:=13) (o:=?op2) (by kernel_rfl) ?ho2 (fun K hK=>?_)
     case ho2=>(conv=>lhs;simp only[tdg,tdh,tdi])
     have Cd:=zh (Ba.below E zr);refine oQ rfl _ _ rfl w2.heap.size _ (aQ k f) rfl Cd.out (.slice (some ⟨φ,0,none⟩) 1 1) [y] rfl (μ.si (by simp) (fun i=>by rcases i with _|i;exact Cp.out;exact I64.zero)) (by rw[aT,aZ2];omega) (by have t:=E.size;have Bg:=D.size;omega) ?_;intro v' X m V Ai;rw[<-Ci.out] at m;obtain⟨η,ρ,rfl⟩:=m.form';rw[aT] at m Ai|-;have Cc:=zh m;have Au:=zh V;have Cm:=zh Ai;have r:Hid (∀b,(Value.slice ξ k Ap).ownBlock=some b->w2.heap.size<=b/\b≠gv/\b≠A):=aD (fun b hb=>⟨(Ba.lt hb).1,(Aw.out b hb).1,fun e=>(Aw.out b hb).2 (.inr e)⟩);have As:=zh ((G.belowS E).grown V (fun e=>(r _ e.symm).2.2 rfl));have Bw:=zh ((aA D E).grown V (aA D E).size (fun b hb=>(r.out b hb).1));have x1:X.cell? ⟨A,1,none⟩=some (.slice (some ⟨gv,0,none⟩) R R):=As.cell 1;have Da:gv<U.heap.size:=(by have t:=E.size;omega);have Ac:=V.block gv Da (fun e=>(r _ e.symm).2.1 rfl);have x2:X.cell? ⟨gv,j,none⟩=some (.slice ξ k Ap):=(World.cell?_of_block (w:=U) (a:=⟨gv,j,none⟩) Ac).trans Aq;have Er:X.frozen? ⟨gv,j,none⟩=false:=(World.frozen?_of_block (w:=U) (a:=⟨gv,j,none⟩) Ac).trans ((H.below E).frozen j);have x3:X.cell? (An.add j)=some (.int .i64 y):=(World.cell?_of_block (w:=U) (a:=An.add j) (V.block _ (by have t:=E.size;have Bg:=D.size;omega) (fun e=>by have Cv:=(r _ e.symm).1;omega))).trans Bs;clear m V Ai Ac;refine hK.out _ _ (fun _=>⟨x1,x2,x3⟩) (fun Q=>?_);clear hK K;replace ψ:=Q (by decide);clear Q;try simp only[tz]
     refine dq 14 ?_;try simp only[tz]
     refine aM.only (i:=15) (by kernel_rfl) rfl (fun K hK=>?_);go_simp;refine hK.out _ _ (fun h=>absurd rfl h) (fun Q=>?_);clear hK K;clear Q;refine aM.done (by kernel_rfl) ?_;try simp only[tz]
     clear ψ;have Az:=zh ((H.below E).app (fun g hg=>by have t:=E.size;rcases hg with hg|hg<;>omega) (i:=j) (by rw[Cb.out];exact W) Aq Au Cc Cm);rw[List.set_set] at Az;have Ad:=bF X gv j (.slice η (k+1) ρ);have Bv:=zh (As.grown Ad (by intro e;have:=aZ0 e;omega));have Bx:=zh (Bw.setCell (p:=⟨gv,j,none⟩) (show w2.heap.size<=gv by omega) (.slice η (k+1) ρ));have Df:n.heap.size<(X.setCell ⟨gv,j,none⟩ (.slice η (k+1) ρ)).heap.size:=by have t:=E.size;have Bg:=Au.size;have Cv:=Ad.size;omega
     clear Ad;go_wp2_with fail;exact⟨⟨k+1,by omega,by push_cast;rfl,Az,Bv,Bx,Df⟩,by simp only[intOf];omega⟩
    .obtain rfl:N=k:=by omega
     rw[Ck.out] at H;go_wp2_with fail;exact⟨⟨j+1,by omega,by push_cast;rfl,H,G,D,ζ⟩,by simp only[intOf];omega⟩
  .obtain rfl:R=j:=by omega
   rw[Cl.out] at H;have Bm:=H.os (fun p Bn=>by rw[iD] at Bn;rw[rE B Bn];exact⟨by rw[aT,ι.out];omega,OV fun i _=>By.out i p⟩);have Cj:=zh (Bm.ss (by rw[iD];omega));clear Bm;have O:=zh (Ce.on D);have c0:=O.fb.c0;have c1:=O.fb.c1;have c2:=O.fb.c2;have Cu:wr.cell? ⟨A,0,none⟩=some (.int .i64 (N:Int)):=G.cell 0;have π:wr.cell? ⟨A,1,none⟩=some (.slice (some ⟨gv,0,none⟩) R R):=G.cell 1;go_wp2_with fail;refine(Ax wr _ O.fb.bel Cj).mono ?_;rintro e U ⟨Ep,g5,rfl,Aj,d⟩;obtain⟨⟨ν,Am,rfl,_⟩,⟨θ,σ,rfl,_⟩⟩:=Aj.out;have μ:Hid (Sep wr.heap.size U fun Ar=>SI Ar (.slice ν Mod.length Am) Mod/\SS Ar (.slice θ C.length σ) C):=aD Aj;have s:=zh (O.on d);clear Aj d c0 c1 c2 Cu π;generalize C.length=Bc at*;generalize Mod.length=Bq at*;obtain⟨Ds,Dt,Du,Dv,Dw,Dx,Dy,Dz,Ea,Eb⟩:=s.q.five;go_wp2_with fail;obtain⟨Ar,Cw,L⟩:=uP (x:=.int .i64 P) (y:=.int .i64 M) (z:=.slice ν Bq Am) (u:=.int .i64 (N:Int)) (v:=.slice θ Bc σ) s.q;rw[Cw];have Di:=L.c0;have Dj:=L.c1;have Dk:=L.c2;have Dl:=L.c3;have Dm:=L.c4;have Ek:=O.q.lt;refine bodyPost_ret (v:=.tuple #[.agg #[.int .i64 P,.int .i64 M,.slice ν Bq Am,.int .i64 (N:Int),.slice θ Bc σ],.int .i64 0]) (by simp[results,Tryz.results206,go_sem,Di,Dj,Dk,Dl,Dm]) rfl ?_;exact⟨_,_,rfl,(μ.grown L.gr (by rintro b e;cases e;omega)).mono O.fb.bel.size,L.below s.fb.bel s.fb.bel.size (by omega)⟩
end Go.Proofs.YtpfhoemohibniaaGreatDoor
