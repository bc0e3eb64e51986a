/- Texts of a claim, merged. -/
import Derived.Test.YtpfhoemohibniaaGreatDoorZA45
set_option maxRecDepth 100000
set_option maxHeartbeats 32000000
namespace Go.Proofs.YtpfhoemohibniaaGreatDoor
open Go.RowKit
def brN(x:LI)(L A Z:List Nat)(n:Nat):List Nat:=(List.range n).filter fun i=>(x.getD i 0 !=0)&&!L.contains i&&!A.contains i&&!Z.contains i
theorem QF(x:LI)(L A Z:List Nat)(n:Nat):brN x L A Z (n+1)=if((x.getD n 0 !=0)&&!L.contains n&&!A.contains n&&!Z.contains n) then brN x L A Z n++[n] else brN x L A Z n:=by
 unfold brN;rw[List.range_succ,List.filter_append];cases h:((x.getD n 0 !=0)&&!L.contains n&&!A.contains n&&!Z.contains n)
 .rw[List.filter_cons,h];exact List.append_nil _
 .rw[List.filter_cons,h];rfl
theorem K1(x:LI)(L A Z:List Nat)(n:Nat):(brN x L A Z n).length<=n:=by have:=List.length_filter_le (fun i=>(x.getD i 0 !=0)&&!L.contains i&&!A.contains i&&!Z.contains i) (List.range n);rwa[List.length_range] at this
theorem rN{x:LI}{L A Z:List Nat}{n i:Nat}:i∈brN x L A Z n↔i<n/\x.getD i 0≠0/\i∉L/\i∉A/\i∉Z:=by unfold brN;rw[List.mem_filter,List.mem_range];simp[and_assoc]
theorem OO(w:World)(d lv av zv:Value)(x:LI)(L A Z:List Nat)(a:SI w d x)(Y:SI w lv (zl L))(W:SI w av (zl A))(b:SI w zv (zl Z))(hn:x.length<=1000):
  Calls Tryz.prog 51 #[d,lv,av,zv] w (pX w (zl (brN x L A Z x.length))):=by
 have h:=zh (fun(w':World) (k:Nat) (hb:Below w.heap.size w w')=>(sT L k)▸cQ w' lv (zl L) (k:Int) (Y.below hb zr));have g:=zh (fun(w':World) (k:Nat) (hb:Below w.heap.size w w')=>(sT A k)▸cQ w' av (zl A) (k:Int) (W.below hb zr));have i:=zh (fun(w':World) (k:Nat) (hb:Below w.heap.size w w')=>(sT Z k)▸cQ w' zv (zl Z) (k:Int) (b.below hb zr));have V:=zh a;obtain⟨ι,Aa,rfl,_⟩:=a;obtain⟨η,σ,rfl,_⟩:=Y;obtain⟨ζ,μ,rfl,_⟩:=W;obtain⟨κ,Ab,rfl,_⟩:=b;generalize (zl L).length=τ at*;generalize (zl A).length=ρ at*;generalize (zl Z).length=φ at*;have p:=zh (QF x L A Z);have j:=zh (K1 x L A Z);obtain⟨n,R⟩:∃n,n=x.length:=⟨_,rfl⟩
 have m:=zh R;rw[<-R] at hn V|-;clear R;have Q:Hid (OI w.heap.size w (.slice none 0 0) (zl (brN x L A Z 0))):=aD (OI.nil _ _);have T:=zh (bE w);generalize brN x L A Z=B at*;go_enter Tryz.func51,Tryz.ntmps51;go_wp2_with fail;go_loopw [9,14] (fun ov S wr=>∃(k:Nat) (A:Option Addr) (c:Nat),k<=n/\S=.int .i64 (k:Int)/\ov=.slice A (B k).length c/\Hid (OI w.heap.size wr (.slice A (B k).length c) (zl (B k)))/\Hid (Below w.heap.size w wr)) (fun _ S _=>n-(intOf S).toNat)
 case atStart=>obtain⟨θ,χ,e⟩:=Q.form';rw[aY] at e;exact⟨0,none,0,aZ5 _,rfl,by injection e with e1 e2 e3;rw[<-e2],by injection e with e1 e2 e3;rw[<-e2];exact Q,T⟩
 case round=>
  clear Q T;obtain⟨k,H,c,π,rfl,rfl,G,E⟩:=hrel;obtain⟨lo,I⟩:∃lo,lo=(B k).length:=⟨_,rfl⟩
  have l:Hid (lo<=k):=aD (by rw[I];exact j.out k);have D:=zh I;rw[<-I] at G|-;clear I;by_cases z:k<n
  .obtain⟨ν,y,rfl,ξ,_,r⟩:=(V.below E zr).elt (k:=k) (by rw[<-m.out];exact z);have N:=zh (h wr k E);have O:=zh (g wr k E);have P:=zh (i wr k E);have F:=zh (p k);rw[r.out] at F;generalize L.contains k=t at*;generalize A.contains k=u at*;generalize Z.contains k=v at*;by_cases K:y=0
   .have C:Hid (B (k+1)=B k):=aD (by rw[F.out,K];rfl);subst K;go_wp2_with fail;exact⟨⟨k+1,H,c,by omega,by push_cast;rfl,by rw[C.out,D.out],by rw[C.out,<-D.out];exact G,E⟩,by simp only[intOf];omega⟩
   .have δ:(y !=0)=true:=by rw[bne_iff_ne];exact K
    rw[δ] at F;clear K;cases t
    .go_wp2_with fail;refine N.mono ?_;rintro e w1 ⟨rfl,rfl⟩;cases u
     .go_wp2_with fail;refine O.mono ?_;rintro e w1 ⟨rfl,rfl⟩;cases v
      .go_wp2_with fail;refine P.mono ?_;rintro e w1 ⟨rfl,rfl⟩;have C:Hid (B (k+1)=B k++[k]):=aD (by rw[F.out];rfl);have U:=zh (G.alloc (.cells #[.int .i64 (k:Int)] 3));have o:=zh (Blk.new wr 3 [.int .i64 (k:Int)]);have M:=zh (E.trans ((aF wr (.cells #[.int .i64 (k:Int)] 3)).mono E.size));clear F N O P;go_wp2_with (
        at_builtin;refine fF rfl _ _ rfl w.heap.size (.slice H lo c) (zl (B k)) rfl U.out wr.heap.size 1 (k:Int) rfl (o.cell 0) (by rw[aY,<-D.out];have:=l.out;omega) M.size ?_;intro ψ ω J X;obtain⟨s,ε,rfl⟩:=J.form';rw[aZ1,aZ2,aY,<-D.out] at J|-;have q:=zh J;have f:=zh (U.bgrown M M.size X);clear J X)
       refine⟨⟨k+1,s,ε,by omega,by push_cast;rfl,?_,?_,f⟩,by simp only[intOf];omega⟩
       .rw[C.out,aZ1,aZ2,D.out]
       .rw[C.out,nF,aZ1,aZ2,<-D.out];exact q
      .have C:Hid (B (k+1)=B k):=aD (by rw[F.out];rfl);go_wp2_with fail;refine P.mono ?_;rintro e w1 ⟨rfl,rfl⟩;go_wp2_with fail;exact⟨⟨k+1,H,c,by omega,by push_cast;rfl,by rw[C.out,D.out],by rw[C.out,<-D.out];exact G,E⟩,by simp only[intOf];omega⟩
     .have C:Hid (B (k+1)=B k):=aD (by rw[F.out];rfl);go_wp2_with fail;refine O.mono ?_;rintro e w1 ⟨rfl,rfl⟩;go_wp2_with fail;exact⟨⟨k+1,H,c,by omega,by push_cast;rfl,by rw[C.out,D.out],by rw[C.out,<-D.out];exact G,E⟩,by simp only[intOf];omega⟩
    .have C:Hid (B (k+1)=B k):=aD (by rw[F.out];rfl);go_wp2_with fail;refine N.mono ?_;rintro e w1 ⟨rfl,rfl⟩;go_wp2_with fail;exact⟨⟨k+1,H,c,by omega,by push_cast;rfl,by rw[C.out,D.out],by rw[C.out,<-D.out];exact G,E⟩,by simp only[intOf];omega⟩
  .obtain rfl:n=k:=by omega
   go_wp2_with fail;go_ret;rw[D.out] at G|-;exact⟨_,rfl,G.out,E.out⟩
theorem QW(p:Nat->Bool)(n:Nat):sR n ((List.range n).filter p):=by
 have B:((List.range n).filter p).Pairwise (· < ·):=List.Pairwise.filter _ List.pairwise_lt_range;have hm:∀i,i∈(List.range n).filter p->i<n:=fun i h=>List.mem_range.1 (List.mem_filter.1 h).1;generalize (List.range n).filter p=L at*;intro k A;rw[aY] at A;rw[gJ A];have e:∀j (h:j<L.length),L.getD j 0=L[j]:=fun j h=>by rw[aZ4,aZ3 h];rfl
 refine⟨by omega,?_,fun C=>?_⟩
 .rw[e k A];have:=hm L[k] (aY6 _);omega
 .rw[gJ (by omega),e k A,e (k-1) (by omega)];have:=List.pairwise_iff_getElem.1 B (k-1) k (by omega) A (by omega);omega
theorem LR{H:List Nat}{n:Nat}(C:∀j,j∈H->j<n)(p:Int):p∈bT (zl (fL [H] n)) n↔∃j,j∈H/\p=(j:Int):=by
 unfold bT;rw[List.mem_map];constructor
 .rintro ⟨j,A,rfl⟩;rw[List.mem_filter,List.mem_range] at A;refine⟨j,?_,rfl⟩;have B:=A.2;rw[sT] at B;refine aY0 fun D=>?_;have:(fL [H] n).contains j=true:=by
   rw[List.contains_iff_mem];unfold fL;rw[List.mem_filter,List.mem_range];refine⟨A.1,?_⟩;simpa using D
  rw[this] at B;exact Bool.noConfusion B
 .rintro ⟨j,A,rfl⟩;refine⟨j,?_,rfl⟩;rw[List.mem_filter,List.mem_range,sT];refine⟨C j A,?_⟩;have:(fL [H] n).contains j=false:=by
   rw[Bool.eq_false_iff];intro h;rw[List.contains_iff_mem] at h;unfold fL at h;rw[List.mem_filter] at h;have B:=h.2;simp[A] at B
  rw[this];rfl
theorem O5{O:aO}{q:Int}(hO:O.Fld q){R:LL}{i:Nat}(h:∀k,k<R.length->(R.getD k []).getD i 0=0){x:Nat->Int}(B:aV O R x):x i=0:=by obtain⟨a,A⟩:=B;rw[A];refine bK hO fun m hm=>?_;rw[show ent R m i=0 from h m hm];exact hO.mul_zero _
theorem IF{O:aO}{q:Int}(hO:O.Fld q){n:Nat}{A:LL}{p:LI}(hA:dP O q n A p)(B:LI)(x:Nat->Int):aV O (KF O A n B) x↔aV O A x/\∀p,p∈B->x p.toNat=0:=by unfold KF;rw[IU hO (qS hO)];exact PD hO hA B x
theorem V0{B:Nat}{w:World}{C:Addr}{n c k:Nat}{R:LL}{u:Value}(h:Sep B w fun w2=>SS w2 (.slice (some C) n c) R)(F:k<R.length)(E:w.cell? (C.add k)=some u):Sep B w fun w2=>SI w2 u (R.getD k []):=by
 have K:=World.block_lt_of_cell? _ _ E;have hB:B<=(C.add k).block:=by
  refine aY0 fun L=>?_;have D:=h (w.setCell (C.add k) (.int .i64 0)) fun p M _=>World.cell?_setCell_far _ _ _ _ fun e=>L (by rw[e];exact M);obtain⟨H,G,I,xs,e,A,_,_⟩:=D.eltA F;injection e with e;subst e;rw[World.cell?_setCell_same _ _ _ E] at A;cases A
 intro w2 D;obtain⟨H,G,I,xs,e,A,N,J⟩:=(h w2 D).eltA F;injection e with e;subst e
 rw[D _ hB K,E] at A;injection A with A
 subst A;rw[J.out];exact N.si
def YL(O:aO)(gen:LL)(n i:Nat)(H:List Nat)(B:Nat)(w:World)(u:Value):Prop:=
 (u=.slice none 0 0/\kF O gen i H)\/(∃A c x,u=.slice (some A) n c/\(Sep B w fun w2=>SI w2 u x)/\x.length=n/\aV O gen (fun j=>x.getD j 0)/\x.getD i 0≠0/\∀j,j∈H->x.getD j 0=0)
theorem LY(w:World)(P M:Int)(n i:Nat)(mv gv lv Bk:Value)(Mod:LI)(gen:LL)(p:LI)(H:List Nat)(hm:SI w mv Mod)(hg:SS w gv gen)(hC:fH P M Mod n gen p)(hi:i<n)(Bh:SI w lv (zl [i]))(Bg:SI w Bk (zl H))(Ak:∀j,j∈H->j<n):
   Calls Tryz.prog 20 #[.agg #[.int .i64 P,.int .i64 M,mv,.int .i64 (n:Int),gv],lv,Bk] w (fun e w'=>∃u,e=.returned u/\YL (aB P M Mod) gen n i H w.heap.size w' u/\Below w.heap.size w w'):=by
 have hO:=hC.O;have Cy:=hC.n64;have Ae:=zh (fun(w':World) (u:Value) (Cf:SS w' u [zl H])=>G6 w' u [H] n Cf (by omega));have μ:=zh (fun(w':World) (u:Value) (hb:Below w.heap.size w w') (Ch:SI w' u (zl (fL [H] n)))=>S9 w' P M n mv gv u Mod (zl (fL [H] n)) gen (hm.below hb zr) (hg.below hb zr) Ch ((show Cn (aB P M Mod) (aC P M) n gen from⟨p,hC.rr⟩).spaceE hC.fld (by have:=hC.n64;omega)) (QW _ n));have Ay:=zh Bh;have Bp:=zh hg;have Af:Hid ((zl (fL [H] n)).length<=17592186044416):=aD (by rw[aY];have:=vD [H] n;omega);have Ad:Hid (∀k,I64 ((zl (fL [H] n)).getD k 0)):=aD (fG (n:=n) (by omega) fun j s=>LQ s);obtain⟨R,hR⟩:∃R,R=KF (aB P M Mod) gen n (bT (zl (fL [H] n)) n):=⟨_,rfl⟩
 have Al:Rows (aC P M) n R:=by rw[hR];exact(bX hO (qS hO)).1.rows
 have Bv:Hid (∀k,k<R.length->(R.getD k []).length=n):=aD fun k ξ=>(Al k ξ).1;have Bu:Hid (∀k,k<R.length->aV (aB P M Mod) gen (fun j=>(R.getD k []).getD j 0)/\∀j,j∈H->(R.getD k []).getD j 0=0):=aD fun k ξ=>by have m:aV (aB P M Mod) R (ent R k):=aV.row hO ξ fun j=>(Al k ξ).2 j;rw[hR,IF hO hC.rr] at m;rw[<-hR] at m;exact⟨m.1,fun j s=>m.2 _ ((LR Ak _).2 ⟨j,s,rfl⟩)⟩
 have q:Hid ((∀k,k<R.length->(R.getD k []).getD i 0=0)->kF (aB P M Mod) gen i H):=aD fun h x F Cd=>by refine O5 hO h (x:=x) ?_;rw[hR,IF hO hC.rr];refine⟨F,fun p Ce=>?_⟩;obtain⟨j,s,rfl⟩:=(LR Ak p).1 Ce;exact Cd j s
 have Bt:Hid (R.length<=1000):=aD (by rw[hR];exact aZ6 (LX (bX hO (qS hO)).1) (by omega));rw[<-hR] at μ;unfold mR at μ;have Av:=zh Bg;have Aw:=zh hi;have Cv:=zh (vD [H] n);have Cu:Hid (∀j,j∈fL [H] n->j<n):=aD fun j s=>LQ s;generalize fL [H] n=Cw at*;clear hm hg hC hO hR Al Bh Ak;obtain⟨Ap,Be,rfl,_⟩:=Bg;obtain⟨Cb,Ci,rfl,_⟩:=Ay.out;obtain⟨Aa,Ai,rfl,_⟩:=Bp.out;generalize (zl H).length=Bl at*;generalize gen.length=Aj at*;obtain⟨r,Bi⟩:∃r,r=R.length:=⟨_,rfl⟩
 have l:=zh Bi;clear Bi;have f:=zh (dD.mk' w P M mv n (.slice Aa Aj Ai));go_enter Tryz.func20,Tryz.ntmps20;go_upto_region 1 with fail;generalize w.alloc (.cells #[.int .i64 P,.int .i64 M,mv,.int .i64 (n:Int),.slice Aa Aj Ai] 27)=w0 at*;obtain⟨ρ,σ,τ,φ,χ,_,_,_,_,_⟩:=f.blk.five;have L:=zh ρ;have N:=zh σ;have Q:=zh τ;have T:=zh φ;have U:=zh χ;go_cut [7,8] from 11 to 26 (fun Cj Ck wc=>∃g G I,Ck=.int .i64 0/\Cj=.pointer (some ⟨g,0,none⟩)/\w0.heap.size<=g/\Hid (Blk wc g 86 [.int .i64 (n:Int),.slice G r I])/\Hid (Sep w0.heap.size wc fun D=>SS D (.slice G r I) R)/\Hid (Below w0.heap.size w0 wc))
 case first=>
   refine aG.start (S:=fun w'=>w'.cell? ⟨w.heap.size,0,none⟩=some (.int .i64 P)/\w'.cell? ⟨w.heap.size,1,none⟩=some (.int .i64 M)/\w'.cell? ⟨w.heap.size,2,none⟩=some mv/\w'.cell? ⟨w.heap.size,3,none⟩=some (.int .i64 (n:Int))/\w'.cell? ⟨w.heap.size,4,none⟩=some (.slice Aa Aj Ai)) (by kernel_rfl) (⟨ρ,σ,τ,φ,χ⟩) (fun B=>?_);change aG _ _ _ _ 19 _ _ _;have An:=aH w0;generalize w0.drew=Bn at An B|-;have A:=zh An;clear ρ σ τ φ χ;clear An;refine tq 0 ?_;refine tq 1 ?_;refine tq 2 ?_;refine tq 3 ?_;refine tq 4 ?_;refine tq 5 ?_;refine tq 6 ?_;refine tq 7 ?_;refine tq 8 ?_;refine tq 9 ?_;try simp only[tz]
   refine aG.two (i:=10) (j:=16) (oi:=?opa2) (oj:=?opb2) (by kernel_rfl) ?hoa2 ?hob2 (fun K hK=>?way12) (fun K hK=>?way22)
   case hoa2=>(conv=>lhs;simp only[tdg,tdh,tdi])
   case hob2=>(conv=>lhs;simp only[tdg,tdh,tdi])
   case way12=>
     go_simp;obtain⟨Bo,Ah,W,X,m,hb⟩:=bB Bn 22 [.slice Ap Bl Be];rw[W,X];replace A:=zh (aA A hb);have E:Hid (SS Bo (.slice (some ⟨Ah,0,none⟩) 1 1) [zl H]):=aD (YD m (Av.below (aA f.bel A) zr));clear W X m hb;refine hK.out _ _ (⟨cb A L,cb A N,cb A Q,cb A T,cb A U⟩) ?_;clear hK K B;intro B;try simp only[tz]
     refine aG.two (i:=11) (j:=16) (oi:=?opa4) (oj:=?opb4) (by kernel_rfl) ?hoa4 ?hob4 (fun K hK=>?way14) (fun K hK=>?way24)
     case hoa4=>(conv=>lhs;simp only[tdg,tdh,tdi])
     case hob4=>(conv=>lhs;simp only[tdg,tdh,tdi])
     case way14=>
       go_simp;refine(Ae _ _ E).mono ?_;rintro e Cr ⟨Bm,rfl,z,hb⟩;replace A:=zh (aA A hb);replace E:=zh (E.below hb zr);have V:=zh (z.si Af Ad);clear z hb;refine hK.out _ _ (⟨cb A L,cb A N,cb A Q,cb A T,cb A U⟩) ?_;clear hK K B;intro B;try simp only[tz]
       refine aG.two (i:=12) (j:=16) (oi:=?opa6) (oj:=?opb6) (by kernel_rfl) ?hoa6 ?hob6 (fun K hK=>?way16) (fun K hK=>?way26)
       case hoa6=>(conv=>lhs;simp only[tdg,tdh,tdi])
       case hob6=>(conv=>lhs;simp only[tdg,tdh,tdi])
       case way16=>
         have a:=A.size;go_simp;refine(μ _ _ (aA f.bel A) V).mono ?_;rintro e Cs ⟨u,rfl,F,hb⟩;obtain⟨G,I,rfl,_⟩:=F.out;rw[<-l.out] at F|-;have Bx:=zh (F.mono a);replace A:=zh (aA A hb);replace E:=zh (E.below hb zr);replace V:=zh (V.below hb zr);clear hb F a;refine hK.out _ _ (⟨cb A L,cb A N,cb A Q,cb A T,cb A U⟩) ?_;clear hK K B;intro B;try simp only[tz]
         refine tq 13 ?_;refine tq 14 ?_;refine tq 15 ?_;try simp only[tz]
         refine aG.only (i:=16) (o:=?op8) (by kernel_rfl) ?ho8 (fun K hK=>?_)
         case ho8=>(conv=>lhs;simp only[tdg,tdh,tdi])
         go_simp;obtain⟨Ct,g,W,X,Z,hb⟩:=bB Cs 86 [.int .i64 0,.slice none 0 0];rw[W,X];have C:=zh Z;have c:w0.heap.size<=g:=(by have:=A.size;omega)
         have q:Hid (∀D,World.grownBy Ct D (some g)->Sep w0.heap.size D fun D=>SS D (.slice G r I) R):=aD (fun D hg=>LZ Bx hb (by omega) hg);replace E:=zh (E.below hb zr);replace V:=zh (V.below hb zr);replace A:=zh (aA A hb);clear W X Z hb;refine hK.out _ _ (⟨cb A L,cb A N,cb A Q,cb A T,cb A U⟩) ?_;clear hK K B;intro B;try simp only[tz]
         refine aG.only (i:=17) (o:=?op10) (by kernel_rfl) ?ho10 (fun K hK=>?_)
         case ho10=>(conv=>lhs;simp only[tdg,tdh,tdi])
         obtain⟨ε,ζ,η,θ⟩:=C.two;go_simp;obtain⟨Db,Y,J⟩:=oD (x:=.int .i64 (n:Int)) (y:=.slice G r I) C.out;rw[Y];have δ:=zh (q _ J.gr);have d:=zh J.blk;replace A:=zh (J.below A A.size c);clear ε ζ η θ Y J C;refine hK.out _ _ (⟨cb A L,cb A N,cb A Q,cb A T,cb A U⟩) ?_;clear hK K B;intro B;try simp only[tz]
         refine aG.only (i:=18) (by kernel_rfl) rfl (fun K hK=>?_);go_simp;refine hK.out _ _ B (fun ι=>?_);clear hK K;clear ι;refine aG.done (by kernel_rfl) ?_;try simp only[tz]
         clear B;go_wp2_with fail;go_meet;exact⟨g,G,I,rfl,rfl,c,d,δ,A⟩
       case way26=>
         go_simp;obtain⟨Dc,g,W,X,Z,hb⟩:=bB Cr 86 [.int .i64 0,.slice none 0 0];rw[W,X];have C:=zh Z;have c:w0.heap.size<=g:=(by have:=A.size;omega)
         replace E:=zh (E.below hb zr);replace V:=zh (V.below hb zr);replace A:=zh (aA A hb);clear W X Z hb;refine hK.out _ _ (⟨cb A L,cb A N,cb A Q,cb A T,cb A U⟩) ?_;clear hK K B;intro B;try simp only[tz]
         refine aG.only (i:=12) (o:=?op13) (by kernel_rfl) ?ho13 (fun K hK=>?_)
         case ho13=>(conv=>lhs;simp only[tdg,tdh,tdi])
         have a:=A.size;go_simp;refine(μ _ _ (aA f.bel A) V).mono ?_;rintro e Cl ⟨u,rfl,F,hb⟩;obtain⟨G,I,rfl,_⟩:=F.out;rw[<-l.out] at F|-;have v:=C.lt;have q:Hid (∀D,World.grownBy Cl D (some g)->Sep w0.heap.size D fun D=>SS D (.slice G r I) R):=aD (fun D hg=>(F.grown hg (by rintro b e;cases e;exact v)).mono a);clear v;replace C:=zh (C.belowS hb);replace A:=zh (aA A hb);replace E:=zh (E.below hb zr);replace V:=zh (V.below hb zr);clear hb F a;refine hK.out _ _ (⟨cb A L,cb A N,cb A Q,cb A T,cb A U⟩) ?_;clear hK K B;intro B;try simp only[tz]
         refine tq 13 ?_;refine tq 14 ?_;refine tq 15 ?_;try simp only[tz]
         refine aG.only (i:=17) (o:=?op15) (by kernel_rfl) ?ho15 (fun K hK=>?_)
         case ho15=>(conv=>lhs;simp only[tdg,tdh,tdi])
         obtain⟨ε,ζ,η,θ⟩:=C.two;go_simp;obtain⟨Dd,Y,J⟩:=oD (x:=.int .i64 (n:Int)) (y:=.slice G r I) C.out;rw[Y];have δ:=zh (q _ J.gr);have d:=zh J.blk;replace A:=zh (J.below A A.size c);clear ε ζ η θ Y J C;refine hK.out _ _ (⟨cb A L,cb A N,cb A Q,cb A T,cb A U⟩) ?_;clear hK K B;intro B;try simp only[tz]
         refine aG.only (i:=18) (by kernel_rfl) rfl (fun K hK=>?_);go_simp;refine hK.out _ _ B (fun ι=>?_);clear hK K;clear ι;refine aG.done (by kernel_rfl) ?_;try simp only[tz]
         clear B;go_wp2_with fail;go_meet;exact⟨g,G,I,rfl,rfl,c,d,δ,A⟩
     case way24=>
       go_simp;obtain⟨De,g,W,X,Z,hb⟩:=bB Bo 86 [.int .i64 0,.slice none 0 0];rw[W,X];have C:=zh Z;have c:w0.heap.size<=g:=(by have:=A.size;omega)
       replace E:=zh (E.below hb zr);replace A:=zh (aA A hb);clear W X Z hb;refine hK.out _ _ (⟨cb A L,cb A N,cb A Q,cb A T,cb A U⟩) ?_;clear hK K B;intro B;try simp only[tz]
       refine aG.only (i:=11) (o:=?op18) (by kernel_rfl) ?ho18 (fun K hK=>?_)
       case ho18=>(conv=>lhs;simp only[tdg,tdh,tdi])
       go_simp;refine(Ae _ _ E).mono ?_;rintro e Df ⟨Bm,rfl,z,hb⟩;replace C:=zh (C.belowS hb);replace A:=zh (aA A hb);replace E:=zh (E.below hb zr);have V:=zh (z.si Af Ad);clear z hb;refine hK.out _ _ (⟨cb A L,cb A N,cb A Q,cb A T,cb A U⟩) ?_;clear hK K B;intro B;try simp only[tz]
       refine aG.only (i:=12) (o:=?op20) (by kernel_rfl) ?ho20 (fun K hK=>?_)
       case ho20=>(conv=>lhs;simp only[tdg,tdh,tdi])
       have a:=A.size;go_simp;refine(μ _ _ (aA f.bel A) V).mono ?_;rintro e Cm ⟨u,rfl,F,hb⟩;obtain⟨G,I,rfl,_⟩:=F.out;rw[<-l.out] at F|-;have v:=C.lt;have q:Hid (∀D,World.grownBy Cm D (some g)->Sep w0.heap.size D fun D=>SS D (.slice G r I) R):=aD (fun D hg=>(F.grown hg (by rintro b e;cases e;exact v)).mono a);clear v;replace C:=zh (C.belowS hb);replace A:=zh (aA A hb);replace E:=zh (E.below hb zr);replace V:=zh (V.below hb zr);clear hb F a;refine hK.out _ _ (⟨cb A L,cb A N,cb A Q,cb A T,cb A U⟩) ?_;clear hK K B;intro B;try simp only[tz]
       refine tq 13 ?_;refine tq 14 ?_;refine tq 15 ?_;try simp only[tz]
       refine aG.only (i:=17) (o:=?op22) (by kernel_rfl) ?ho22 (fun K hK=>?_)
       case ho22=>(conv=>lhs;simp only[tdg,tdh,tdi])
       obtain⟨ε,ζ,η,θ⟩:=C.two;go_simp;obtain⟨Dg,Y,J⟩:=oD (x:=.int .i64 (n:Int)) (y:=.slice G r I) C.out;rw[Y];have δ:=zh (q _ J.gr);have d:=zh J.blk;replace A:=zh (J.below A A.size c);clear ε ζ η θ Y J C;refine hK.out _ _ (⟨cb A L,cb A N,cb A Q,cb A T,cb A U⟩) ?_;clear hK K B;intro B;try simp only[tz]
       refine aG.only (i:=18) (by kernel_rfl) rfl (fun K hK=>?_);go_simp;refine hK.out _ _ B (fun ι=>?_);clear hK K;clear ι;refine aG.done (by kernel_rfl) ?_;try simp only[tz]
       clear B;go_wp2_with fail;go_meet;exact⟨g,G,I,rfl,rfl,c,d,δ,A⟩
   case way22=>
     go_simp;obtain⟨Co,g,W,X,Z,hb⟩:=bB Bn 86 [.int .i64 0,.slice none 0 0];rw[W,X];have C:=zh Z;have c:w0.heap.size<=g:=(by have:=A.size;omega)
     replace A:=zh (aA A hb);clear W X Z hb;refine hK.out _ _ (⟨cb A L,cb A N,cb A Q,cb A T,cb A U⟩) ?_;clear hK K B;intro B;try simp only[tz]
     refine aG.only (i:=10) (o:=?op25) (by kernel_rfl) ?ho25 (fun K hK=>?_)
     case ho25=>(conv=>lhs;simp only[tdg,tdh,tdi])
     go_simp;obtain⟨Cp,Ah,W,X,m,hb⟩:=bB Co 22 [.slice Ap Bl Be];rw[W,X];replace C:=zh (C.belowS hb);replace A:=zh (aA A hb);have E:Hid (SS Cp (.slice (some ⟨Ah,0,none⟩) 1 1) [zl H]):=aD (YD m (Av.below (aA f.bel A) zr));clear W X m hb;refine hK.out _ _ (⟨cb A L,cb A N,cb A Q,cb A T,cb A U⟩) ?_;clear hK K B;intro B;try simp only[tz]
     refine aG.only (i:=11) (o:=?op27) (by kernel_rfl) ?ho27 (fun K hK=>?_)
     case ho27=>(conv=>lhs;simp only[tdg,tdh,tdi])
     go_simp;refine(Ae _ _ E).mono ?_;rintro e Dh ⟨Bm,rfl,z,hb⟩;replace C:=zh (C.belowS hb);replace A:=zh (aA A hb);replace E:=zh (E.below hb zr);have V:=zh (z.si Af Ad);clear z hb;refine hK.out _ _ (⟨cb A L,cb A N,cb A Q,cb A T,cb A U⟩) ?_;clear hK K B;intro B;try simp only[tz]
     refine aG.only (i:=12) (o:=?op29) (by kernel_rfl) ?ho29 (fun K hK=>?_)
     case ho29=>(conv=>lhs;simp only[tdg,tdh,tdi])
     have a:=A.size;go_simp;refine(μ _ _ (aA f.bel A) V).mono ?_;rintro e Cq ⟨u,rfl,F,hb⟩;obtain⟨G,I,rfl,_⟩:=F.out;rw[<-l.out] at F|-;have v:=C.lt;have q:Hid (∀D,World.grownBy Cq D (some g)->Sep w0.heap.size D fun D=>SS D (.slice G r I) R):=aD (fun D hg=>(F.grown hg (by rintro b e;cases e;exact v)).mono a);clear v;replace C:=zh (C.belowS hb);replace A:=zh (aA A hb);replace E:=zh (E.below hb zr);replace V:=zh (V.below hb zr);clear hb F a;refine hK.out _ _ (⟨cb A L,cb A N,cb A Q,cb A T,cb A U⟩) ?_;clear hK K B;intro B;try simp only[tz]
     refine tq 13 ?_;refine tq 14 ?_;refine tq 15 ?_;try simp only[tz]
     refine aG.only (i:=17) (o:=?op31) (by kernel_rfl) ?ho31 (fun K hK=>?_)
     case ho31=>(conv=>lhs;simp only[tdg,tdh,tdi])
     obtain⟨ε,ζ,η,θ⟩:=C.two;go_simp;obtain⟨Di,Y,J⟩:=oD (x:=.int .i64 (n:Int)) (y:=.slice G r I) C.out;rw[Y];have δ:=zh (q _ J.gr);have d:=zh J.blk;replace A:=zh (J.below A A.size c);clear ε ζ η θ Y J C;refine hK.out _ _ (⟨cb A L,cb A N,cb A Q,cb A T,cb A U⟩) ?_;clear hK K B;intro B;try simp only[tz]
     refine aG.only (i:=18) (by kernel_rfl) rfl (fun K hK=>?_);go_simp;refine hK.out _ _ B (fun ι=>?_);clear hK K;clear ι;refine aG.done (by kernel_rfl) ?_;try simp only[tz]
     clear B;go_wp2_with fail;go_meet;exact⟨g,G,I,rfl,rfl,c,d,δ,A⟩
 case rest=>
   clear ρ σ τ φ χ L N Q T U;obtain⟨g,G,I,rfl,rfl,hg,d,Bb,A⟩:=hcut;have x0:wc.cell? ⟨g,0,none⟩=some (.int .i64 (n:Int)):=d.cell 0;have x1:wc.cell? ⟨g,1,none⟩=some (.slice G r I):=d.cell 1;have By:=zh Bb.out.out;have Bq:Hid (SI wc (.slice Cb (zl [i]).length Ci) (zl [i])):=aD (Ay.below (aA f.bel A) zr);have Au:=zh (aA f.bel A);have Cz:r<=1000:=by rw[l.out];exact Bt.out
   have Ar:=zh (bE wc);go_wp2_with fail;go_loopw [30] (fun Ao wr=>∃k:Nat,k<=r/\Ao=.int .i64 (k:Int)/\Hid (∀t,t<k->(R.getD t []).getD i 0=0)/\Hid (Below wc.heap.size wc wr)) (fun Ao _=>r-(intOf Ao).toNat)
   case atStart=>exact⟨0,aZ5 _,rfl,aD (fun t h=>absurd h (aY5 _)),Ar⟩
   case round=>
     clear Ar;obtain⟨k,ξ,rfl,Ax,κ⟩:=hrel;by_cases ψ:k<r
     . obtain⟨Cx,Bc,ω,row,rfl,Bf,Ba,π⟩:=(By.below κ zr).eltA (k:=k) (by rw[<-l.out];exact ψ);have ν:row.length=n:=by rw[<-π.out];exact Bv.out k (by rw[<-l.out];exact ψ)
       rw[ν] at Bf;have Az:Hid (SI wr (.slice Bc n ω) row):=aD (by have:=Ba.si;rwa[ν] at this);have Ca:Hid (Sep w.heap.size wr fun w2=>SI w2 (.slice Bc n ω) row):=aD (by have:=V0 ((Bb.mono f.bel.size).on κ) (by rw[<-l.out];exact ψ) Bf;rwa[π.out] at this);obtain⟨Bd,_,Cc,_,_,_⟩:=Az.elt (k:=i) (by rw[ν];exact Aw.out);subst Cc;have Bw:=zh ν;have Ac:=zh (S2 wr (.slice (some Bd) n ω) _ row [i] Az (Bq.below κ zr) (fun j s=>by rw[ν,List.mem_singleton.1 s];exact Aw.out));have Aq:Hid (([i].any fun j=>row.getD j 0 !=0)=(row.getD i 0 !=0)):=aD (by simp);rw[Aq.out] at Ac;have Ag:=zh (Bu k (by rw[<-l.out];exact ψ));rw[π.out] at Ag;obtain⟨b,hb⟩:∃b,b=(row.getD i 0 !=0):=⟨_,rfl⟩
       have At:=zh hb;rw[<-hb] at Ac;clear hb ν Ba Aq;go_wp2_with fail;refine Ac.mono ?_;rintro e Da ⟨rfl,Am⟩;have As:=zh (κ.trans (Am.mono κ.size));have Bs:=zh (Ca.on Am);clear Am;cases b
       . have Br : Hid (∀ t, t < k + 1 -> (R.getD t []).getD i 0 = 0) := aD fun t Bj => by
           by_cases e:t=k
           . subst e;rw[π.out];exact(bne_eq_false_iff_eq).1 At.symm
           . exact Ax.out t (by omega)
         go_wp2_with fail;exact⟨⟨k+1,by omega,by push_cast;rfl,Br,As⟩,by simp only[intOf];omega⟩
       . have Ab:=zh (aA Au As);go_wp2_with fail;go_ret;exact⟨_,rfl,.inr ⟨Bd,ω,row,rfl,Bs.out,Bw.out,Ag.1,(bne_iff_ne).1 At.symm,Ag.2⟩,Ab.out⟩
     . obtain rfl:r=k:=by omega
       have Ab:=zh (aA Au κ);have Bz:=zh (q fun t Bj=>Ax.out t (by rw[l.out];exact Bj));go_wp2_with fail;go_ret;exact⟨_,rfl,.inl ⟨rfl,Bz.out⟩,Ab.out⟩
end Go.Proofs.YtpfhoemohibniaaGreatDoor
