/- Parts. -/
import Derived.Test.YtnpfliklhbkonaaGreatDoorZA34
set_option maxRecDepth 99999
set_option maxHeartbeats 0
namespace Go.Proofs.YtnpfliklhbkonaaGreatDoor
open Go.Proofs.Tryz
open Go.RowKit
theorem WC(w:Wo)(sb a n seen m:Nat)(P M:Int)(Mq:LI)(mv gv v:Va)(rows:LL)(hB:kX w sb a P M mv n gv seen)(Br:GF w a P M Mq)(hO:(aD P M Mq).Fld (aF P M))(Ca:SS w v rows)(hR:Rows (aF P M) m rows)(Dm:0<m)(Al:m<=1000)(Dl:rows.length<=500):
 Calls prog 268 #[.pointer sb,v] w (fun e w'=>∃(b:Nat) (R:LL) (pl:LI) (rv pv:Va),e=.returned (.pointer b)/\LW w' a b m P M Mq R pl rv pv/\(∀x,aZ (aD P M Mq) R x↔aZ (aD P M Mq) rows x)/\Below w w w'):=by
 have o:=zh hB;have q:=zh Br;have N:=zh hO;have Bi:=zh Ca;have Ct:=zh hR;obtain⟨A,c,rfl,_⟩:=Ca;obtain⟨r,Ap⟩:=xE rows.length;have T:=zh Ap;rw[<-Ap] at Bi Dl|-;clear hB Br hO hR Ap;have l:w.cell? sb=some (.pointer a):=o.cell 0;go_enter func268,ntmps268;go_upto_region 2 with fail;obtain⟨w1,b,Y,Z,Bt,Bu⟩:=aR w 372 [.pointer a,.slice none 0 0,.slice none 0 0];rw[Y,Z];have Aw:=zh Bu;have Bd:=zh (SpM.start (B:=w.heap.size) om Bt);have Bb:Hid (∀x,aZ (aD P M Mq) [] x↔aZ (aD P M Mq) (rows.take 0) x):=aG fun x=>Iff.rfl;clear Y Z Bt Bu l;go_wp2;go_loopw [20] (fun As wr=>∃(k:Nat) (R:LL) (pl:LI) (rv pv:Va),k<=r/\As=(k:aV)/\R<=k/\Hid (SpM w b a rv pv R pl wr)/\Hid (Bas (aF P M) m R pl)/\Hid (∀x,aZ (aD P M Mq) R x↔aZ (aD P M Mq) (rows.take k) x)/\Hid (Below w w wr)) (fun As _=>r-(intOf As).toNat)
 .exact⟨0,[],[],_,_,aZ5 _,rfl,aZ5 _,Bd,aG (Bas.nil _ _),Bb,Aw⟩
 .
  clear Bd Bb Aw;obtain⟨k,R,pl,rv,pv,hk,rfl,Dz,σ,J,φ,X⟩:=hrel;by_cases i:k<r
  .obtain⟨Dw,Du,Dx,row,rfl,Di,Cv,Bc⟩:=(Bi.below X zr).eltA (k:=k) (T.out▸i);have E:=zh (Ct k (T.out▸i));rw[Bc.out] at E;have Bf:Hid (rows.take (k+1)=rows.take k++[row]):=aG (by
    rw[List.take_add_one,aZ3 (T.out▸i)];have:=Bc.out;rw[aZ4,aZ3 (T.out▸i)] at this;have Ag:rows[k]'(T.out▸i)=row:=this;rw[Ag];rfl)
   have S:=zh (σ.ech (q.on X) J Al om);have Bz:=AH wr a b m P M Mq rv pv _ R pl row S.gf S.blk S.r S.p Cv.si E.1 Dm Al N.out E.2 J.out;have Cu:=zh Bz;clear Bz;go_wp2_with fail;apply Cu.mono;rintro e w2⟨y,z,rfl,Q,Ce,Ah⟩;have F:=zh (aC X Ah);have Be:=zh (σ.on Ah);have Aa:=zh Q;have L:Hid ((dJ (aD P M Mq) R pl row R).length=m):=aG (by rw[iG];exact E.1);have Ba:Hid (∀j,0<=(dJ (aD P M Mq) R pl row R).getD j 0/\(dJ (aD P M Mq) R pl row R).getD j 0<aF P M):=aG fun j=>by
    by_cases Dk:j<row
    .rw[dJ,aK Dk];exact jV N.out E.2 _ _
    .rw[aZ4,aY4 (by rw[iG];omega)];have:=N.lt.pos;exact⟨Int.le_refl _,by show(0:Int)<_;omega⟩
   have Az:Hid (∀j,I64 ((dJ (aD P M Mq) R pl row R).getD j 0)):=aG fun j=>by have Bq:=Ba.out j;have Ag:=aM P M;exact I64.of_small om om
   have De:=zh (yT N J E.1 E.2);have Dc:=zh (fun(t:Nat) (Dp:t<m) (Bp:(dJ (aD P M Mq) R pl row R).getD t 0≠0)=>T7 N J φ E.1 E.2 Dp Bp);obtain⟨Dv,Ed,rfl⟩:=Q.form';rw[L.out] at Aa|-;generalize dJ (aD P M Mq) R pl row R=U at*;clear Q Ah Di;rcases Ce with⟨t,Ar,rfl,Am,_⟩|⟨rfl,Cf⟩
   .rw[L.out] at Ar;have Ea:(0:Int)<=(t:Int):=om;have t2:¬(t:Int)<0:=om;obtain⟨W,ι⟩:=xE (U t 0);have χ:=zh (Dc.out t Ar Am);rw[<-ι] at χ;have Bx:inQ (aF P M) W≠0:=by rw[ι];unfold inQ;rw[iP (Ba.out t)];exact Am
    have Cp:=zh Bx;obtain⟨Ee,Ec,Dq,Ai,_,Cd⟩:=(Aa.si (oA L.out) Az).elt (k:=t) (L.out▸Ar);subst Dq;rw[Cd.out] at ι;subst ι;clear Bx Am Cd;have l:w2.cell? sb=some (.pointer a):=(o.belowS F).cell 0;have Cm:=zh ((q.on F).on (aI w2));go_upto_region 7 with fail;refine tb 14 l Ai fun D=>?_;refine tq 0 ?_;refine tq 1 ?_;refine tq 2 ?_;refine tq 3 ?_;refine tq 4 ?_;refine tq 5 ?_;refine tq 6 ?_;refine tq 7 ?_;try simp only[tz]
    refine tn 8 fun K hK=>?_;go_simp;apply(qJ w2.drew a P M W Mq Cm Cp).mono;rintro e V⟨rfl,Bv⟩;have I:=zh (aC (aI w2) Bv);have b4:=aE I.out l;have Bo:=aE I.out Ai;clear Bv;refine hK.out _ _ (⟨b4,Bo⟩) ?_;clear hK K D;intro D;try simp only[tz]
    refine tq 9 ?_;refine tq 10 ?_;refine tq 11 ?_;refine tq 12 ?_;try simp only[tz]
    refine tn 13 fun K hK=>?_;go_simp;refine hK.out _ _ D fun _=>?_;refine tw ?_;try simp only[tz]
    clear D;have O:=zh (Be.on I);have Dd:=zh (Aa.below I zr);obtain⟨Bl,Cj,Ci,Do⟩:∃(Bl:OA) (Cj Ci:Nat),rv=.slice Bl Cj Ci:=(by obtain⟨x,y,e⟩:=O.r.form;exact⟨_,_,_,e⟩)
    subst Do;have η:=O.blk.cell 1;simp only[eE,eF] at η;have Co:=zh (((q.on F).on I).on (aI V));have Cz:=zh ((Dd.si (oA L.out) Az).below (aI V) zr);obtain⟨H,Aj⟩:=xE (lY P M Mq W);rw[<-Aj];have Aq:=χ.out;rw[show(aD P M Mq).inv W=H from Aj.symm] at Aq;have Bg:=zh Aq;clear Aq Aj χ;have Db:Hid ((bN (aD P M Mq) H U).length=m):=aG (by rw[gL];exact L.out);have Cx:Hid (∀j,I64 ((bN (aD P M Mq) H U).getD j 0)):=aG fun j=>by have Bq:=(Rows.scale N.lt H U).2 j;have Ag:=aM P M;exact I64.of_small om om
    have Cq:Hid (R.length+1<=4398046511104):=aG om;go_upto_region 8 with fail;refine db 17 b4 η fun D=>?_;refine dq 0 ?_;refine dq 1 ?_;refine dq 2 ?_;refine dq 3 ?_;refine dq 4 ?_;refine dq 5 ?_;refine dq 6 ?_;refine dq 7 ?_;refine dq 8 ?_;refine dq 9 ?_;refine dq 10 ?_;try simp only[tz]
    refine dn 11 fun K hK=>?_;go_simp;apply(oK V.drew a P M H Mq U _ Co Cz (oA L.out)).mono;rintro e Ds⟨u,rfl,Q,Bw⟩;have π:=zh (aC (aI V) Bw);have b5:=aE π.out b4;have Ae:=aE π.out η;have ψ:=zh Q;obtain⟨δ,ε,κ,rfl⟩:∃(δ:OA) (ε κ:Nat),u=.slice δ ε κ:=(by obtain⟨x,y,e⟩:=Q.form';exact⟨_,_,_,e⟩);clear Bw Q;refine hK.out _ _ (fun _=>⟨b5,Ae⟩) (fun C=>?_);replace D:=C dC;clear C;try simp only[tz]
    refine dp 12 fun K hK=>?_;go_simp;obtain⟨Eb,Dh,Y,Z,Bs,d⟩:=aR Ds 22 [.slice δ ε κ];rw[Y,Z];have Bj:=zh Bs;have ρ:=zh (aC π d);have Bh:=zh ((ψ.below d zr).si (oA Db.out) Cx);have G:=zh (O.on ρ);have Bm:=aE d b5;have Bn:=aE d Ae;clear Y Z Bs d;refine hK.out _ _ (fun _=>⟨Bm,Bn⟩) (fun C=>?_);replace D:=C dC;clear C;try simp only[tz]
    refine dp 13 fun K hK=>?_;refine sB rfl _ _ rfl w (fun g=>g=b\/pv.ownBlock=some g) _ R rfl G.r Dh 1 (.slice δ ε κ) (bN (aD P M Mq) H U) rfl (Bj.cell 0) Bh.out (fun Bp g Dj=>(by have Bq:=(ψ.lt Dj).1;have Ce:V.drew.heap.size=V.heap.size:=rfl;exact⟨fun h=>(oA ((O.r.lt h).2)),fun h=>(by rcases h with h|h;have:=O.blk.lt;omega;have:=(O.p.lt h).2;omega)⟩)) Cq.out G.size ?_;intro Dr Ck An f Cb;obtain⟨ζ,ν,μ,rfl⟩:∃(ζ:OA) (ν μ:Nat),Dr=.slice ζ ν μ:=(by obtain⟨x,y,e⟩:=An.form;exact⟨_,_,_,e⟩);have τ:=zh (G.pushR An f Cb);have Ax:=zh (G.belR (F.trans ((aC I ρ).mono F.size)) f 1 (.slice ζ ν μ));have ω:=zh (G.boxR f);have b7:Ck.cell? sb=some (.pointer a):=(o.below ((F.trans ((aC I ρ).mono F.size)).grown f G.size (fun g e=>(G.r.lt e).1)) o.lt).cell 0;have Af:=ω.cell 1;have Dg:=ω.frozen 1;simp only[eE,eF] at Af;clear An f Cb;refine hK.out _ _ (fun _=>⟨b7,Af⟩) (fun C=>?_);replace D:=C dC;clear C;try simp only[tz]
    refine dn 14 fun K hK=>?_;go_simp;refine hK.out _ _ (fun _=>D) fun _=>?_;try simp only[tz]
    refine dq 15 ?_;try simp only[tz]
    refine dn 16 fun K hK=>?_;go_simp;refine hK.out _ _ (fun h=>aB rfl h) fun _=>?_;refine dw ?_;try simp only[tz]
    clear D;generalize Ck.setCell (b 1 none) (.slice ζ ν μ)=ξ at*;clear b4 η b5 Ae Bm Bn b7 Af Dg l Ai Bo ω Bj Bh ψ G O;obtain⟨Ab,Au,At,Dn⟩:∃(Ab:OA) (Au At:Nat),pv=.slice Ab Au At:=(by obtain⟨x,y,e⟩:=τ.p.form';exact⟨_,_,_,e⟩)
    subst Dn;have Df:=τ.blk.cell 2;simp only[eE,eF] at Df;have s:=zh (τ.on (aH ξ (.cells #[t] 3)));have Cr:=zh (Blk.new ξ 3 [(t:aV)]);have Ay:=zh (Ax.trans ((aH ξ (.cells #[t] 3)).mono Ax.size));have Cs:Hid (pl.length+1<=17592186044416):=aG (by rw[J.out.len];omega);go_wp2_with (
     at_builtin;refine dP rfl _ _ rfl w (.slice Ab Au At) pl rfl s.p ξ 1 (t:Int) rfl (Cr.cell 0) Cs.out Ay.size ?_;intro v9 w9 Ao θ Cc;obtain⟨Ac,Ad,Av,rfl⟩:∃(Ac:OA) (Ad Av:Nat),v9=.slice Ac Ad Av:=(by obtain⟨x,y,e⟩:=Ao.form';exact⟨_,_,_,e⟩)
     have Cw:=zh (s.pushP Ao θ Cc);have Cl:=zh (s.belP Ay θ 2 (.slice Ac Ad Av));have Bk:=zh (s.boxP θ);have Dt:=Bk.cell 2;have Dy:=Bk.frozen 2;simp only[eE,eF] at Dt;clear Ao θ Cc)
    exact⟨⟨k+1,_,_,_,_,om,pC,by rw[aZ1,aZ2];omega,Cw,aG Bg.1,by rw[Bf.out];exact aG Bg.2,Cl⟩,oI⟩
   .have Da:=zh (T6 N φ (De.1 Cf));clear Cf;go_wp2;exact⟨⟨k+1,R,pl,rv,pv,om,pC,om,Be,J,Bf.out▸Da,F⟩,oI⟩
  .obtain rfl:r=k:=om;have S:=zh (σ.ech (q.on X) J Al om);have Cy:Hid (∀x,aZ (aD P M Mq) R x↔aZ (aD P M Mq) rows x):=aG fun x=>by have:=φ.out x;rwa[T.out,List.take_length] at this
   go_wp2;go_ret;exact⟨b,R,pl,rv,pv,rfl,S.out,Cy.out,X.out⟩
def nV(O:aQ)(gen:LL)(tl sc:LI):Prop:=fN O (gen.map (mpE O sc)) (gen.map (gP tl))
theorem yF{q:Int}{m:Nat}{gen:LL}{f:LI->LI}(h:∀k,k<gen.length->(f (gen k [])).length=m/\∀i,0<=(f (gen k [])).getD i 0/\(f (gen k [])).getD i 0<q):Rows q m (gen.map f):=fun k hk=>by
 rw[aY7] at hk;have e:(gen.map f).getD k []=f (gen k []):=by simp[List.getD,hk]
 rw[e];exact h k hk
theorem XI{O:aQ}{q:Int}(hO:O.Fld q)(sc:LI)(gen:LL):Rows q sc (gen.map (mpE O sc)):=yF fun k hk=>⟨pD _ _ _,fun i=>by
 by_cases hi:i<sc
 .rw[mpE,aK hi];exact hO.lt.mul _ _
 .rw[aZ4,aY4 (by rw[pD];omega)];have:=hO.lt.pos;exact⟨Int.le_refl _,by show(0:Int)<q;omega⟩⟩
theorem TT{O:aQ}{q:Int}(hO:O.Fld q){n:Nat}{gen:LL}(hR:Rows q n gen)(tl:LI):Rows q tl (gen.map (gP tl)):=yF fun k hk=>⟨lL _ _,fun i=>by
 by_cases hi:i<tl
 .rw[gP,aK hi];exact(hR k hk).2 _
 .rw[aZ4,aY4 (by rw[lL];omega)];have:=hO.lt.pos;exact⟨Int.le_refl _,by show(0:Int)<q;omega⟩⟩
theorem xX{O:aQ}{A R B:LL}(h:∀x,aZ O R x↔aZ O B x):cH O A R↔cH O A B:=⟨fun k i hi=>(h _).1 (k i hi),fun k i hi=>(h _).2 (k i hi)⟩
theorem JU(w:Wo)(sb a n seen:Nat)(P M:Int)(Mq:LI)(mv gv tv sv:Va)(gen:LL)(tl sc:LI)(hB:kX w sb a P M mv n gv seen)(l:GF w a P M Mq)(hO:(aD P M Mq).Fld (aF P M))(ψ:SS w gv gen)(hR:Rows (aF P M) n gen)(s:SI w tv tl)(o:SI w sv sc)(Q:nC (aF P M) n tl sc)(hn:n<=64)(ω:gen.length<=64)(K:0<sc.length):
 Calls prog 147 #[.pointer sb,.agg #[tv,sv]] w (fun e w'=>∃(z:Int) (u:Va),e=.returned (.tuple #[z,u])/\((z= -1/\nV (aD P M Mq) gen tl sc)\/((z=0\/z=1)/\¬nV (aD P M Mq) gen tl sc))/\Below w w w'):=by
 have Ao:=zh (fun(w':Wo) (B:Below w w w')=>RH w' sb a n seen P M Mq mv gv tv sv gen tl sc (hB.belowS B) (l.on B) hO (ψ.below B zr) hR (s.below B zr) (o.below B zr) Q hn ω);have X:=zh (XI hO sc gen);have Y:Hid (Rows (aF P M) sc (gen.map (gP tl))):=aG (by have:=TT hO hR tl;rwa[Q.len] at this);have hk:=aZ6 Q.le hn;have Z:=zh (fun(w':Wo) (B:Below w w w') (v:Va) (rows:LL) (Av:SS w' v rows) (S:Rows (aF P M) sc rows) (Au:rows.length<=500)=>WC w' sb a n seen sc P M Mq mv gv v rows (hB.belowS B) (l.on B) hO Av S K om Au);have ξ:=zh hO;obtain⟨k,Aa⟩:=xE sc.length;obtain⟨g,j,tc,rfl⟩:∃(g:OA) (j tc:Nat),tv=.slice g j tc:=(by obtain⟨x,y,e,_⟩:=s;exact⟨_,_,_,e⟩)
 obtain⟨d,f,δ,rfl⟩:∃(d:OA) (f δ:Nat),sv=.slice d f δ:=(by obtain⟨x,y,e,_⟩:=o;exact⟨_,_,_,e⟩)
 rw[<-Aa] at X Y Z K hk;have W:Hid (nV (aD P M Mq) gen tl sc↔cH (aD P M Mq) (gen.map (mpE (aD P M Mq) sc)) (gen.map (gP tl))/\cH (aD P M Mq) (gen.map (gP tl)) (gen.map (mpE (aD P M Mq) sc))):=aG Iff.rfl;have I:Hid ((gen.map (mpE (aD P M Mq) sc)).length=gen.length):=aG (aY7 _);have J:Hid ((gen.map (gP tl)).length=gen.length):=aG (aY7 _);generalize nV (aD P M Mq) gen tl sc=T at*;generalize gen.map (mpE (aD P M Mq) sc)=L at*;generalize gen.map (gP tl)=c at*;obtain⟨r,S⟩:=xE gen.length;rw[<-S] at I J ω;clear hB l hO ψ hR s o Q Aa S;go_enter func147,ntmps147;go_upto_region 1 with fail;obtain⟨w1,t3,ρ,σ,B,τ⟩:=aR w 105 [.slice g j tc,.slice d f δ];rw[ρ,σ];have η:=zh τ;have Ap:=zh B;clear ρ σ B τ;obtain⟨As,At,_,_⟩:=Ap.two;go_wp2_with fail;apply(Ao.out w1 η).mono;rintro e w2⟨lv,rv,rfl,p,q,φ⟩;have θ:=zh (aC η φ);have Aj:=zh p;have π:=zh q;obtain⟨ε,Bf,Ab,rfl⟩:∃(ε:OA) (Ab:Nat) (e:True),lv=.slice ε r Ab:=(by obtain⟨x,y,e,_⟩:=p;exact⟨x,y,trivial,by rw[e,I.out]⟩)
 obtain⟨ζ,Bg,Ac,rfl⟩:∃(ζ:OA) (Ac:Nat) (e:True),rv=.slice ζ r Ac:=(by obtain⟨x,y,e,_⟩:=q;exact⟨x,y,trivial,by rw[e,J.out]⟩)
 clear p q φ As At;go_wp2_with fail;apply(Z.out w2 θ _ c π Y (oA J.out)).mono;rintro e Bb⟨b,R,pl,Ay,Aw,rfl,E,H,N⟩;have Ae:=zh (aC θ N);have ν:=zh (Aj.below N zr);have Al:=zh (π.below N zr);have Ag:=zh E;have κ:=zh (xX (A:=L) H);clear E H N;go_wp2_with fail;apply(AG Bb a b k P M Mq R pl Ay Aw _ L Ag ν X.out K om ξ).mono;rintro e Ad⟨z,rfl,t,O⟩;have U:=zh (aC Ae O);have Ak:=zh (ν.below O zr);have Am:=zh (Al.below O zr);clear O;rcases t with⟨rfl,F⟩|⟨i,rfl,hi,G⟩
 .have Ai:=zh (κ.1 F);clear F;go_wp2_with fail;apply(Z.out Ad U _ L Ak X (oA I.out)).mono;rintro e Bc⟨Ar,Aq,pl',Az,Ax,rfl,E,H,m⟩;have Af:=zh (aC U m);have An:=zh (Am.below m zr);have Ah:=zh E;have μ:=zh (xX (A:=c) H);clear E H m;go_wp2_with fail;apply(AG Bc a Ar k P M Mq Aq pl' Az Ax _ c Ah An Y.out K om ξ).mono;rintro e Bd⟨z,rfl,t,χ⟩;have ι:=zh (aC Af χ);clear χ;rcases t with⟨rfl,F⟩|⟨i,rfl,hi,G⟩
  .have C:Hid T:=aG (W.2 ⟨Ai.out,μ.1 F⟩);clear F;go_wp2;go_ret2;exact⟨_,_,rfl,.inl ⟨rfl,C.out⟩,ι.out⟩
  .have C:Hid (¬T):=aG fun h=>G (μ.2 (W.1 h).2);rw[J.out] at hi;have Ba:(0:Int)<=(i:Int):=om;clear G;go_wp2_with fail;apply(E8 Bd i r hi om).mono;rintro e Be⟨u,rfl,D⟩;have V:=zh (aC ι D);clear D;go_wp2;go_ret2;exact⟨_,_,rfl,.inr ⟨.inr rfl,C.out⟩,V.out⟩
 .have C:Hid (¬T):=aG fun h=>G (κ.2 (W.1 h).1);rw[I.out] at hi;have Ba:(0:Int)<=(i:Int):=om;clear G;go_wp2_with fail;apply(E8 Ad i r hi om).mono;rintro e Be⟨u,rfl,D⟩;have V:=zh (aC U D);clear D;go_wp2;go_ret2;exact⟨_,_,rfl,.inr ⟨.inl rfl,C.out⟩,V.out⟩
