/- Parts. -/
import Derived.Test.YtnpfliklhbkonaaGreatDoorZA44
set_option maxRecDepth 99999
set_option maxHeartbeats 0
namespace Go.Proofs.YtnpfliklhbkonaaGreatDoor
open Go.Proofs.Tryz
open Go.RowKit
theorem Z9(wA:Wo)(sb F a f q:Nat)(P M:Int)(Mq:LI)(mv:Va)(n:Nat)(gv:Va)(gen:LL)(C:SrC wA sb F a P M Mq mv n gv gen)(hq:aF P M=(q:Int))(Fl:q<=256)(Db:U0 wA sb F a P M Mq mv n gv gen f)(w:Wo)(tl sc:LI)(tv sv Df Dc:Va)(seen t3 t5:Nat)
 (En:n-(sc.length+1)<=f)(hk:sc<n)(Cy:nC (aF P M) n tl sc)(ε:PV sb F w tv sv tl sc)(R:Below wA wA w)(Bq:kX w sb a P M mv n gv seen)(Et:seen<=65536)(Cx:Blk w F 105 [Df,Dc])(Ct:Blk w t3 166 [.pointer sb])(Cu:Blk w t5 170 [qP F])(Da:t3≠sb/\t3≠F/\t5≠sb/\t5≠F):
 Calls prog 148 #[.pointer sb,.agg #[tv,sv],.func (.func 149) #[] #[.pointer t3,.pointer t5]] w (LZ wA sb F a P M Mq mv n gv gen tl sc w):=by
 have Bv:=zh C;have χ:=zh hq;have Ef:=zh Db;have Bc:=zh Cy;have Bt:=zh R;have An:=zh Da;have Ce:=zh ε;have Bd:=zh Bq;have Bz:=zh Cx;have Ds:=zh Ct;have Dt:=zh Cu;obtain⟨X,Y,tc,rfl⟩:∃(A:OA) (l c:Nat),tv=.slice A l c:=(by obtain⟨x,y,e,_⟩:=ε.t;exact⟨_,_,_,e⟩)
 obtain⟨m,o,v,rfl⟩:∃(A:OA) (l c:Nat),sv=.slice A l c:=(by obtain⟨x,y,e,_⟩:=ε.s;exact⟨_,_,_,e⟩)
 have Es:=C.n64;have Bu:Hid (∀w',Two w w' sb (some F)->Below wA wA w'):=aG fun w' h=>h.below Bt.out C.lo.1 (oB Bq.lt C.lo.1) fun g e=>by injection e with e;subst e;exact C.lo.2
 clear C hq Db Cy R ε Bq Cx Ct Cu Da;go_enter func148,ntmps148;go_upto_region 1 with fail;obtain⟨w1,S,z,p,ι,π⟩:=aR w 105 [.slice X Y tc,.slice m o v];rw[z,p];have Fc:=zh π;have Cl:=zh ι;have Ck:Hid (w.heap.size=S):=aG p;have Cj:Hid (Two w w1 sb (some F)):=aG ((Two.refl w sb (some F)).on π);have Ex:w1.cell? (sb 4 none)=some (n:aV):=(Bd.belowS π).cell 4;have Cd:Hid (kX w1 sb a P M mv n gv seen):=aG (Bd.belowS π);have Ca:=zh (Bz.belowS π);clear z p ι π;go_wp2_with fail;clear Ex;go_loopw [16] (fun Br wr=>∃(j seen':Nat) (ν μ:Va),j<=n/\Br=(j:aV)/\seen'<=65536/\Hid (kX wr sb a P M mv n gv seen')/\Hid (Blk wr F 105 [ν,μ])/\Hid (Two w wr sb (some F))/\Hid (Blk wr S 105 [.slice X Y tc,.slice m o v])/\Hid (∀i:Nat,i<j->(i:Int)∉tl->∀c:Int,1<=c->c<aF P M->NoX (aD P M Mq) (aF P M) n gen (tl++[(i:Int)]) (sc++[c]))) (fun Br _=>n-(intOf Br).toNat)
 .exact⟨0,seen,Df,Dc,aZ5 _,rfl,Et,Cd,Ca,Cj,Cl,aG fun i hi=>aB hi (aY5 _)⟩
 .
  clear Cd Ca Cj Cl;obtain⟨j,seen',ν,μ,Fj,rfl,Au,Al,Aj,ω,Ao,Bb⟩:=hrel;by_cases Er:j<n
  .have Ci:=zh (Ce.two ω);obtain⟨Ap,Aq,_,_⟩:=Ao.two;go_wp2_with fail;apply(gB wr _ tl (j:Int) Ci.t).mono;rintro e w2⟨rfl,rfl⟩;obtain⟨cb,Bj⟩:=xE (tl.any (fun x=>x==(j:Int)));have Bw:=zh Bj;rw[<-Bj];clear Bj Ap Aq;cases cb with
   |true=>
    have Ba:Hid (∀i:Nat,i<j+1->(i:Int)∉tl->∀c:Int,1<=c->c<aF P M->NoX (aD P M Mq) (aF P M) n gen (tl++[(i:Int)]) (sc++[c])):=aG fun i hi At=>by
     by_cases e:i=j
     .subst e;obtain⟨x,Ew,e⟩:=List.any_eq_true.1 Bw.symm;rw[eD] at e;subst e;exact aB Ew At
     .exact Bb.out i om At
    go_wp2;exact⟨⟨j+1,seen',ν,μ,om,pC,Au,Al,Aj,ω,Ao,Ba⟩,oI⟩
   |false=>
    have Dz:Hid ((j:Int)∉tl):=aG fun h=>by have:=List.any_eq_false.1 Bw.symm _ h;simp at this
    have Bx:Hid (∀c:Int,1<=c->c<((1:Nat):Int)->NoX (aD P M Mq) (aF P M) n gen (tl++[(j:Int)]) (sc++[c])):=aG fun c T Cs=>aB T om;go_upto_region 6 with fail;go_loopw [8] (fun Bg wr=>∃(c seen':Nat) (ν μ:Va),1<=c/\c<=q/\Bg=(c:aV)/\seen'<=65536/\Hid (kX wr sb a P M mv n gv seen')/\Hid (Blk wr F 105 [ν,μ])/\Hid (Two w wr sb (some F))/\Hid (Blk wr S 105 [.slice X Y tc,.slice m o v])/\Hid (∀d:Int,1<=d->d<(c:Int)->NoX (aD P M Mq) (aF P M) n gen (tl++[(j:Int)]) (sc++[d]))) (fun Bg _=>q-(intOf Bg).toNat)
    .exact⟨1,seen',ν,μ,zr,by have T:=Bv.fld.lt.pos;rw[χ.out] at T;omega,rfl,Au,Al,Aj,ω,Ao,Bx⟩
    .
     clear Al Aj ω Ao Bx Ci Au;obtain⟨c,Dn,Dg,Dd,Fe,Fg,rfl,Cz,Ak,Ay,Am,Bf,Cc⟩:=hrel;have Dm:wr.cell? sb=some (.pointer a):=Ak.cell 0;have Dw:Hid (GF wr a P M Mq):=aG (Bv.gf.on (Bu wr Am));go_wp2_with fail;apply(fI wr a P M Mq Dw).mono;rintro e w2⟨rfl,rfl⟩;rw[χ.out];by_cases Ff:c<q
     .have Cw:(c:Int)<(q:Int):=om;have Cf:=zh (Ce.two Am);obtain⟨Ap,Aq,_,_⟩:=Bf.two;clear Dm;go_upto_region 8 with fail;refine tb 15 Ap Aq fun θ=>?_;refine tq 0 ?_;refine tq 1 ?_;refine tq 3 ?_;refine tq 6 ?_;refine tq 7 ?_;refine tq 9 ?_;try simp only[tz]
      have Bm:=aI wr;generalize wr.drew=w0 at Bm θ|-;have Av:=zh θ.1;have Aw:=zh θ.2;have τ:=zh Bm;clear Bm Ap Aq;have k:Hid (∀(b:ExB) (V:ExV) (σ:Nat->Nat) (w':Wo),JW w0 tl sc (j:Int) (c:Int) σ b V w'->(w'.cell? S=some (.slice X Y tc)/\w'.cell? (S 1 none)=some (.slice m o v))):=aG fun b V σ w' h=>⟨aE h.bel Av,aE h.bel Aw⟩
      have Be:Hid (∀(b:ExB) (V:ExV) (σ:Nat->Nat) (w':Wo),JW w0 tl sc (j:Int) (c:Int) σ b V w'->SI w' (.slice X Y tc) tl/\SI w' (.slice m o v) sc):=aG fun b V σ w' h=>⟨Cf.t.below (aC τ.out h.bel) zr,Cf.s.below (aC τ.out h.bel) zr⟩
      have Az:Hid (tl.length+1<=17592186044416/\sc.length+1<=17592186044416):=aG (oA Bc.len);refine bY.fam (J:=fun Q L Cr w'=>∃(b:ExB) (V:ExV) (σ:Nat->Nat) (H:Bool) (v44:Va),L=#[true,true,b.b2,true,b.b4,b.b5,true,true,b.b8,true,b.b10,b.b11,H,b.b13,false]/\Q+(b.b2.toNat+b.b4.toNat+b.b5.toNat+b.b8.toNat+b.b10.toNat+b.b11.toNat+H.toNat+b.b13.toNat)=9/\Cr={tmps:=#[.pointer sb,.agg #[.slice X Y tc,.slice m o v],.func (.func 149) #[] #[.pointer t3,.pointer t5],undef,.pointer S,undef,u6,(j:aV),(c:aV),V.v9,u10,.pointer sb,.pointer sb,.pointer (some (sb 1 none)),.pointer (some (sb 4 none)),(n:aV),(j:aV),.bool true,(j:aV),.pointer S,.slice X Y tc,(j:aV),.bool false,(c:aV),.pointer sb,.pointer sb,.pointer sb,.pointer a,(q:aV),.bool true,u30,u31,.pointer S,.slice X Y tc,V.v34,(j:aV),V.v36,V.v37,.pointer (some (S 1 none)),.slice m o v,V.v40,(c:aV),V.v42,V.v43,v44,u45,u46,u47,u48,u49,u50,u51],defers:=[]}/\Hid (JW w0 tl sc (j:Int) (c:Int) σ b V w')/\Hid (H=true->b.b5=true/\b.b11=true/\v44=.agg #[V.v37,V.v43])) ?xStep 9 _ _ _ ?xInit
      case xInit=>exact⟨⟨false,false,false,false,false,false,false⟩,⟨u34,u36,u37,u40,u42,u43,u9⟩,fun _=>0,false,u44,rfl,rfl,rfl,aG (JW.start w0 tl sc _ _ _),aG (fun h=>by cases h)⟩
      case xStep=>
       clear θ;rintro Q L Cr w'⟨b,V,σ,H,v44,rfl,G,rfl,B,W⟩;have θ:=k.out _ _ _ _ B.out;by_cases Bk:H=true/\b.b13=true
       .refine .inl ?_;obtain⟨b2,b4,b5,b8,b10,b11,b13⟩:=b;obtain⟨v34,v36,v37,v40,v42,v43,v9⟩:=V;dsimp only at G Bk B W|-;obtain⟨rfl,rfl⟩:=Bk;obtain⟨rfl,rfl,rfl⟩:=W.out rfl;obtain⟨rfl,rfl⟩:b2=true/\b4=true:=B.c5 rfl;obtain⟨rfl,rfl⟩:b8=true/\b10=true:=B.c11 rfl;obtain⟨g,rfl,Bp,_⟩:∃g,v9=_/\Blk w' g 105 [.slice none 0 0,.slice none 0 0]/\_:=B.i13 rfl;obtain⟨Ac,Ad,Ah,rfl⟩:∃A l c,v37=Value.slice A l c:=(by obtain⟨A,c,e⟩:=(B.i5 rfl).1.form';exact⟨_,_,_,e⟩)
        obtain⟨Aa,Ab,Ag,rfl⟩:∃A l c,v43=Value.slice A l c:=(by obtain⟨A,c,e⟩:=(B.i11 rfl).1.form';exact⟨_,_,_,e⟩)
        obtain rfl:Q=1:=by simpa using G
        clear G W;obtain⟨Ek,η,Ei,Ej⟩:=Bp.two;refine tn 14 fun K hK=>?_;go_simp;obtain⟨ξ,Cv,Ax⟩:=sQ (x:=.slice Ac Ad Ah) (y:=.slice Aa Ab Ag) Bp;rw[Cv];have φ:=zh (B.fin rfl Ax);refine hK.out _ _ ⟨aE φ.2.2 Av,aE φ.2.2 Aw⟩ (fun N=>?_);clear hK K θ N Ek η Ei Ej Cv B Bp;refine tw ?_;try simp only[tz]
        have Cb:Hid (nC (aF P M) n (tl++[(j:Int)]) (sc++[(c:Int)])):=aG (Bc.snoc Er hk Dz om (χ.out▸Cw));have Eb:Hid (PV sb F ξ (.slice Ac Ad Ah) (.slice Aa Ab Ag) (tl++[(j:Int)]) (sc++[(c:Int)])):=aG (jf Cb Es (oA χ.out) φ.1 φ.2.1 (oB Ak.lt τ.size) (oB Ay.lt τ.size));have Ai:Hid (Below wr wr ξ):=aG (aC τ φ.2.2);have ψ:Hid (Two w ξ sb (some F)):=aG (Am.on Ai);have Ec:=zh (Ak.belowS Ai);have Dx:=zh (Ay.belowS Ai);have Ed:=zh (Bf.belowS Ai);have Du:=zh Ax.blk;have Dp:ξ.cell? t3=some (.pointer sb):=(Ds.two_ ψ An.1 An.2.1).cell 0;have Dq:ξ.cell? t5=some (qP F):=(Dt.two_ ψ An.2.2.1 An.2.2.2).cell 0;have Dv:=zh (je wA sb F a f P M Mq mv n gv gen Ef.out ξ (tl++[(j:Int)]) (sc++[(c:Int)]) (.slice Ac Ad Ah) (.slice Aa Ab Ag) Dg Dd Dn t3 t5 (by rw[aZ1,aZ2];exact En) Cb Eb (Bu.out ξ ψ) (oB Bt.size ψ.size) Ec Cz Dx.out Dp Dq);clear Ax Dp Dq;obtain⟨Eg,Eh,_,_⟩:=Du.two;clear k Be Az Av Aw;go_wp2_with fail;apply Dv.mono;rintro e Dr⟨Bh,Do,Dh,De,rfl,Di,Dj,Dk,Bs,Dl⟩;have Cm:=zh Di;have Co:=zh Dk;have Cq:=zh Dl;have Ee:Hid (Blk Dr S 105 [.slice X Y tc,.slice m o v]):=aG (Ed.two_ Bs (oB Bd.lt Ck.out) (oB Bz.lt Ck.out));have Cp:Hid (Two w Dr sb (some F)):=aG (ψ.then_ Bs);clear Di Dk Bs Dl Eg Eh;by_cases Bn:Bh=0
        .subst Bn;have Dy:Hid (∀d:Int,1<=d->d<((c+1:Nat):Int)->NoX (aD P M Mq) (aF P M) n gen (tl++[(j:Int)]) (sc++[d])):=aG fun d As Bl=>by
          by_cases e:d=c
          .subst e;rcases Cq.out with h|⟨h,_⟩|⟨_,h⟩
           .cases h
           .cases h
           .exact h
          .exact Cc.out d As om
         go_wp2;exact⟨⟨c+1,Do,Dh,De,om,om,pC,Dj,Cm,Co,Cp,Ee,Dy⟩,oI⟩
        .have Fh:(Bh !=0)=true:=eC.2 Bn;go_wp2;go_ret;refine⟨Bh,Do,Dh,De,rfl,Cm.out,Dj,Co.out,Cp.out,?_⟩;rcases Cq.out with h|⟨h,lt,ls,T,Cs⟩|⟨h,_⟩
         .exact .inl h
         .exact .inr (.inl ⟨h,lt,ls,T.less,Cs⟩)
         .exact aB h Bn
       .refine .inr ⟨Q-1,?xCnt,?xNe,?xArms⟩
        case xCnt=>have Ey:=Bool.toNat_le b.b2;have t2:=Bool.toNat_le b.b4;have t3:=Bool.toNat_le b.b5;have S:=Bool.toNat_le b.b8;have t5:=Bool.toNat_le b.b10;have Ez:=Bool.toNat_le b.b11;have Fa:=Bool.toNat_le b.b13;have Fb:=Bool.toNat_le H;omega
        case xNe=>exact(by decide+kernel:∀b2 b4 b5 b8 b10 b11 H b13:Bool,Region.ready .any _ #[true,true,b2,true,b4,b5,true,true,b8,true,b10,b11,H,b13,false]≠[]) _ _ _ _ _ _ _ _
        case xArms=>
         intro i hi;obtain⟨D,oi,Z,I⟩:=mem_ready.1 hi;have Fi:i<15:=(Array.getElem?_eq_some_iff.1 Z).1;clear hi;have δ:=B.out;have Fk:1<=Q:=by have Ey:=Bool.toNat_le b.b2;have t2:=Bool.toNat_le b.b4;have t3:=Bool.toNat_le b.b5;have S:=Bool.toNat_le b.b8;have t5:=Bool.toNat_le b.b10;have Ez:=Bool.toNat_le b.b11;have Fa:=Bool.toNat_le b.b13;have Fb:=Bool.toNat_le H;omega
         rcases(by omega:i=2\/i=4\/i=5\/i=8\/i=10\/i=11\/i=13\/i=0\/i=1\/i=3\/i=6\/i=7\/i=9\/i=12\/i=14) with rfl|rfl|rfl|rfl|rfl|rfl|rfl|rfl|rfl|rfl|rfl|rfl|rfl|rfl|rfl
         .have Ae:b.b2=false:=D;obtain rfl:_=oi:=aZ0 Z;have U:b.b5=false:=(by cases h:b.b5;rfl;exact aB (δ.c5 h).1 (by rw[Ae];decide))
          clear I D;refine nA rfl rfl fun ζ hK=>?_;go_simp;apply(iH w' (.slice X Y tc) tl (Be _ _ _ _ B).1).mono;rintro e ρ⟨u,rfl,κ,R⟩;obtain⟨σ',E⟩:=B.op2 R U κ;have N:=k.out _ _ _ _ E;refine hK.out _ _ ⟨N,{b with b2:=true},{V with v34:=u},σ',H,v44,rfl,?_,rfl,aG E,W⟩;show Q-1+_=9;rw[Ae] at G;simp only[Bool.toNat_true,Bool.toNat_false] at G|-;omega
         .have ι:b.b4=false:=D;obtain rfl:_=oi:=aZ0 Z;clear I D;refine nA rfl rfl fun ζ hK=>?_;go_simp;obtain⟨ρ,η,z,p,T,R⟩:=aR w' 3 [(j:aV)];rw[z,p];obtain⟨σ',E⟩:=B.op4 R om T;have N:=k.out _ _ _ _ E;refine hK.out _ _ ⟨N,{b with b4:=true},{V with v36:=.slice η 1 1},σ',H,v44,rfl,?_,rfl,aG E,W⟩;show Q-1+_=9;rw[ι] at G;simp only[Bool.toNat_true,Bool.toNat_false] at G|-;omega
         .have U:b.b5=false:=D;obtain rfl:_=oi:=aZ0 Z;have Ae:b.b2=true:=I ⟨2,.data⟩ sM rfl;have ι:b.b4=true:=I ⟨4,.data⟩ sM rfl;clear I D;refine nA rfl rfl fun ζ hK=>?_;have Eo:=(δ.i2 Ae U).1;obtain⟨g,Eu,Bi,_⟩:=δ.i4 ι;refine AB (.tmp 34) (.tmp 36) rfl w0 _ tl rfl Eo g 1 (j:Int) Eu (Bi.cell 0) Az.1 δ.bel.size ?_;intro u ρ κ Bo ε;obtain⟨σ',E⟩:=B.op5 Ae ι U κ Bo ε;have N:=k.out _ _ _ _ E;refine hK.out _ _ ⟨N,{b with b5:=true},{V with v37:=u},σ',H,v44,rfl,?_,rfl,aG E,aG (fun h=>aB (W.out h).1 (by rw[U];decide))⟩;show Q-1+_=9;rw[U] at G;simp only[Bool.toNat_true,Bool.toNat_false] at G|-;omega
         .have Af:b.b8=false:=D;obtain rfl:_=oi:=aZ0 Z;have U:b.b5=true:=I ⟨5,.chain⟩ sM rfl;have r:b.b11=false:=(by cases h:b.b11;rfl;exact aB (δ.c11 h).1 (by rw[Af];decide))
          clear I D;refine nA rfl rfl fun ζ hK=>?_;go_simp;apply(iH w' (.slice m o v) sc (Be _ _ _ _ B).2).mono;rintro e ρ⟨u,rfl,κ,R⟩;obtain⟨σ',E⟩:=B.op8 R U r κ;have N:=k.out _ _ _ _ E;refine hK.out _ _ ⟨N,{b with b8:=true},{V with v40:=u},σ',H,v44,rfl,?_,rfl,aG E,W⟩;show Q-1+_=9;rw[Af] at G;simp only[Bool.toNat_true,Bool.toNat_false] at G|-;omega
         .have Ar:b.b10=false:=D;obtain rfl:_=oi:=aZ0 Z;clear I D;refine nA rfl rfl fun ζ hK=>?_;go_simp;obtain⟨ρ,η,z,p,T,R⟩:=aR w' 3 [(c:aV)];rw[z,p];obtain⟨σ',E⟩:=B.op10 R om T;have N:=k.out _ _ _ _ E;refine hK.out _ _ ⟨N,{b with b10:=true},{V with v42:=.slice η 1 1},σ',H,v44,rfl,?_,rfl,aG E,W⟩;show Q-1+_=9;rw[Ar] at G;simp only[Bool.toNat_true,Bool.toNat_false] at G|-;omega
         .have r:b.b11=false:=D;obtain rfl:_=oi:=aZ0 Z;have Af:b.b8=true:=I ⟨8,.data⟩ sM rfl;have Ar:b.b10=true:=I ⟨10,.data⟩ sM rfl;clear I D;refine nA rfl rfl fun ζ hK=>?_;have Ep:=(δ.i8 Af r).1;obtain⟨g,Ev,Bi,_⟩:=δ.i10 Ar;refine AB (.tmp 40) (.tmp 42) rfl w0 _ sc rfl Ep g 1 (c:Int) Ev (Bi.cell 0) Az.2 δ.bel.size ?_;intro u ρ κ Bo ε;obtain⟨σ',E⟩:=B.op11 Af Ar r κ Bo ε;have N:=k.out _ _ _ _ E;refine hK.out _ _ ⟨N,{b with b11:=true},{V with v43:=u},σ',H,v44,rfl,?_,rfl,aG E,aG (fun h=>aB (W.out h).2.1 (by rw[r];decide))⟩;show Q-1+_=9;rw[r] at G;simp only[Bool.toNat_true,Bool.toNat_false] at G|-;omega
         .have Em:b.b13=false:=D;obtain rfl:_=oi:=aZ0 Z;clear I D;refine nA rfl rfl fun ζ hK=>?_;go_simp;obtain⟨ρ,η,z,p,T,R⟩:=aR w' 105 [.slice none 0 0,.slice none 0 0];rw[z,p];obtain⟨σ',E⟩:=B.op13 R om T;have N:=k.out _ _ _ _ E;refine hK.out _ _ ⟨N,{b with b13:=true},{V with v9:=.pointer η},σ',H,v44,rfl,?_,rfl,aG E,W⟩;show Q-1+_=9;rw[Em] at G;simp only[Bool.toNat_true,Bool.toNat_false] at G|-;omega
         .exact aB (show true=false from D) dC
         .exact aB (show true=false from D) dC
         .exact aB (show true=false from D) dC
         .exact aB (show true=false from D) dC
         .exact aB (show true=false from D) dC
         .exact aB (show true=false from D) dC
         .have El:H=false:=D;obtain rfl:_=oi:=aZ0 Z;have U:b.b5=true:=I ⟨5,.data⟩ sM rfl;have r:b.b11=true:=I ⟨11,.data⟩ sM rfl;clear I D;obtain⟨v34,v36,v37,v40,v42,v43,v9⟩:=V;obtain⟨Ac,Ad,Ah,rfl⟩:∃A l c,v37=Value.slice A l c:=(by obtain⟨A,c,e⟩:=(B.i5 U).1.form';exact⟨_,_,_,e⟩)
          obtain⟨Aa,Ab,Ag,rfl⟩:∃A l c,v43=Value.slice A l c:=(by obtain⟨A,c,e⟩:=(B.i11 r).1.form';exact⟨_,_,_,e⟩)
          refine nA rfl rfl fun ζ hK=>?_;go_simp;refine hK.out _ _ ⟨θ,b,_,σ,true,.agg #[.slice Ac Ad Ah,.slice Aa Ab Ag],rfl,?_,rfl,B,aG (fun _=>⟨U,r,rfl⟩)⟩;show Q-1+_=9;rw[El] at G;simp only[Bool.toNat_true,Bool.toNat_false] at G|-;omega
         .obtain rfl:_=oi:=aZ0 Z;exact aB ⟨(show H=true from I ⟨12,.data⟩ sM rfl),(show b.b13=true from I ⟨13,.data⟩ sM rfl)⟩ Bk
     .have Cw:¬(c:Int)<(q:Int):=om;have Ba:Hid (∀i:Nat,i<j+1->(i:Int)∉tl->∀c:Int,1<=c->c<aF P M->NoX (aD P M Mq) (aF P M) n gen (tl++[(i:Int)]) (sc++[c])):=aG fun i hi At d As Bl=>by
       by_cases e:i=j
       .subst e;refine Cc.out d As ?_;rw[χ.out] at Bl;omega
       .exact Bb.out i om At d As Bl
      clear Dm;go_wp2;exact⟨⟨j+1,Dn,Dg,Dd,om,pC,Cz,Ak,Ay,Am,Bf,Ba⟩,oI⟩
  .obtain rfl:n=j:=om;have Ea:=zh (dy (O:=aD P M Mq) Bc.len hk Bb);go_wp2;go_ret;exact⟨0,seen',ν,μ,rfl,Al.out,Au,Aj.out,ω.out,.inr (.inr ⟨rfl,Ea.out⟩)⟩
theorem kX.seen_{w:Wo}{sb a n seen seen':Nat}{P M:Int}{mv gv:Va}(h:kX w sb a P M mv n gv seen)(v:Va)(A:v=(seen':aV)):kX (w.setCell (sb 11 none) v) sb a P M mv n gv seen':=by subst A;exact h.set_ 11 _
theorem G9(w:Wo)(ta tb tc:TypeId)(A cb B:List Va):∃w' g h k,((w.alloc (.cells A.toArray ta)).alloc (.cells cb.toArray tb)).alloc (.cells B.toArray tc)=w'/\w.heap.size=g/\w.heap.size+1=h/\w.heap.size+1+1=k/\Blk w' g ta A/\Blk w' h tb cb/\Blk w' k tc B/\Below w w w':=by
 have E:=aH w (.cells A.toArray ta);have D:=aH (w.alloc (.cells A.toArray ta)) (.cells cb.toArray tb);have C:=aH ((w.alloc (.cells A.toArray ta)).alloc (.cells cb.toArray tb)) (.cells B.toArray tc);have F:(w.alloc (.cells A.toArray ta)).heap.size=w.heap.size+1:=World.size_alloc _ _;have G:((w.alloc (.cells A.toArray ta)).alloc (.cells cb.toArray tb)).heap.size=w.heap.size+1+1:=by rw[World.size_alloc,World.size_alloc]
 refine⟨_,_,_,_,rfl,rfl,rfl,rfl,((Blk.new w ta A).belowS D).belowS C,?_,?_,aC (aC E D) C⟩
 .have:=Blk.new (w.alloc (.cells A.toArray ta)) tb cb;rw[F] at this;exact this.belowS C
 .have:=Blk.new ((w.alloc (.cells A.toArray ta)).alloc (.cells cb.toArray tb)) tc B;rwa[G] at this
theorem xO(wA:Wo)(sb B a f q:Nat)(P M:Int)(Mq:LI)(mv:Va)(n:Nat)(gv:Va)(gen:LL)(C:SrC wA sb B a P M Mq mv n gv gen)(hq:aF P M=(q:Int))(Cl:q<=256)(Bi:∀S,f=S+1->U0 wA sb B a P M Mq mv n gv gen S):U0 wA sb B a P M Mq mv n gv gen f:=by
 intro w tl sc tv sv Ae Ad seen Cv η d ζ Ac Cm Bb;have G:=zh C;have Bs:=zh hq;have Bw:=zh Bi;have X:=zh η;have Bp:=zh ζ;have Ao:=zh d;have Am:=zh Ac;have Ai:=zh Bb;obtain⟨Q,D,Tc,rfl⟩:∃(A:OA) (l c:Nat),tv=.slice A l c:=(by obtain⟨x,y,e,_⟩:=d.t;exact⟨_,_,_,e⟩)
 obtain⟨N,O,U,rfl⟩:∃(A:OA) (l c:Nat),sv=.slice A l c:=(by obtain⟨x,y,e,_⟩:=d.s;exact⟨_,_,_,e⟩)
 have As:Hid (D=sc):=aG (by obtain⟨x,y,e,_⟩:=d.t;injection e with _ Z _;rw[Z];exact η.len);have Cj:=C.n64;have Cw:=η.le;have Ah:Hid (∀w',Two w w' sb (some B)->Below wA wA w'):=aG fun w' h=>h.below Bp.out C.lo.1 (oB Ac.lt C.lo.1) fun g e=>by injection e with e;subst e;exact C.lo.2
 clear C hq Bi η ζ d Ac Bb;unfold qP;go_enter func94,ntmps94;go_upto_region 1 with fail;obtain⟨w2,t3,V,t5,ω,Z,Aa,Ab,Be,Bf,Bg,Ax⟩:=G9 w 166 105 170 [.pointer sb] [.slice Q D Tc,.slice N O U] [qP B];have r:=zh Be;have τ:=zh Bf;have δ:=zh Bg;have i:=zh Ax;unfold qP at ω δ;have Bt:Hid (w.heap.size=t3/\w.heap.size+1=V/\w.heap.size+1+1=t5):=aG ⟨Z,Aa,Ab⟩;rw[ω,Ab,Aa,Z];clear ω Z Aa Ab Be Bf Bg Ax;have ν:Hid (Two w w2 sb (some B)):=aG ((Two.refl w sb (some B)).on i);have Y:=zh (Am.belowS i);have j:=zh (Ai.belowS i);have Cs:w2.cell? (sb 11 none)=some (seen:aV):=Y.cell 11;have Cd:w2.frozen? (sb 11 none)=false:=Y.frozen 11;have x3:=r.cell 0;change w2.cell? t3=some (.pointer sb) at x3;by_cases Co:seen=65536
 .subst Co;go_wp2;go_ret;exact⟨8,65536,Ae,Ad,rfl,Y.out,Cm,j.out,ν.out,.inl rfl⟩
 .have Cx:((seen:Int)==65536)=false:=(by rw[eA];omega)
  go_upto_region 4 with fail;have Ba:w2.grownBy (w2.setCell (sb 11 none) (.int .i64 ((seen:Int)+1))) (some sb):=aU w2 sb 11 _;have Bd:=kX.seen_ (seen':=seen+1) Y.out (.int .i64 ((seen:Int)+1)) (pC);have θ:=zh Bd;have T:=zh Ba;clear Ba Bd;generalize w2.setCell (sb 11 none) (.int .i64 ((seen:Int)+1))=I at T θ|-;have o:Hid (Two w I sb (some B)):=aG (ν.grown T.out fun g e _=>.inl (aZ0 e).symm);have F:Hid ((t3≠sb/\t3≠B)/\(V≠sb/\V≠B)/\(t5≠sb/\t5≠B)):=aG (by have:=Am.lt;have:=Ai.lt;have:=Bt.out;omega);have Aq:Hid (sb≠B):=aG G.ne;have Aj:Hid (Blk I B 105 [Ae,Ad]):=aG (j.keep (T.out.block B j.lt fun e=>Aq.out (aZ0 e).symm));have π:Hid (Blk I t3 166 [.pointer sb]):=aG (r.keep (T.out.block t3 r.lt fun e=>F.1.1 (aZ0 e)));have φ:Hid (Blk I V 105 [.slice Q D Tc,.slice N O U]):=aG (τ.keep (T.out.block V τ.lt fun e=>F.2.1.1 (aZ0 e)));have Au:Hid (Blk I t5 170 [qP B]):=aG (δ.keep (T.out.block t5 δ.lt fun e=>F.2.2.1 (aZ0 e)));clear T r τ δ Y j ν Cs Cd x3 i;have x3:I.cell? t3=some (.pointer sb):=π.cell 0;obtain⟨H,R,_,_⟩:=φ.two;have m:=zh (Ao.two o);have ι:=zh (Ah.out I o);go_wp2_with fail;apply(JU I sb a n (seen+1) P M Mq mv gv (.slice Q D Tc) (.slice N O U) gen tl sc θ.out (G.gf.on ι) G.fld (G.g.below ι zr) G.rows m.t m.s X Cj G.gl m.sp).mono;rintro e Af⟨z,u,rfl,Bh,Ay⟩;have J:=zh Ay;have Ar:=zh (o.on J);have μ:Hid (kX Af sb a P M mv n gv (seen+1)):=aG (θ.out.belowS J);have Ak:=zh (Aj.belowS J);have ρ:=zh (π.belowS J);have v:=zh (φ.belowS J);have ε:=zh (Au.belowS J);clear Ay θ Aj π φ Au x3 H R m ι o;obtain⟨H,R,_,_⟩:=v.two;have x5:Af.cell? t5=some (qP B):=ε.cell 0;unfold qP at x5;have ψ:=zh Bh;clear Bh;go_wp2_with fail;apply(Q8 Af B (.slice Q D Tc) (.slice N O U) u Ae Ad z Ak ⟨_,_,_,rfl⟩ ⟨_,_,_,rfl⟩).mono;rintro e E⟨rfl,Bc,W⟩;have ξ:Hid (Two w E sb (some B)):=aG (Ar.grown W fun g e _=>.inr e);have k:Hid (kX E sb a P M mv n gv (seen+1)):=aG (μ.keep (W.block sb μ.lt fun e=>Aq.out (aZ0 e)));have σ:Hid (Blk E t3 166 [.pointer sb]):=aG (ρ.keep (W.block t3 ρ.lt fun e=>F.1.2 (aZ0 e)));have χ:Hid (Blk E V 105 [.slice Q D Tc,.slice N O U]):=aG (v.keep (W.block V v.lt fun e=>F.2.1.2 (aZ0 e)));have Av:Hid (Blk E t5 170 [qP B]):=aG (ε.keep (W.block t5 ε.lt fun e=>F.2.2.2 (aZ0 e)));have κ:=zh Bc;clear Bc W J Ar μ Ak ρ v ε H R x5;rcases ψ.out with⟨rfl,b⟩|⟨Cu,b⟩
  .have Bq:=zh b;clear b ψ;obtain⟨H,R,_,_⟩:=χ.two;have x3:E.cell? t3=some (.pointer sb):=σ.cell 0;have Bn:E.cell? (sb 4 none)=some (n:aV):=k.cell 4;go_upto_region 8 with fail;refine tc 9 H x3 Bn fun Aw=>?_;refine tq 0 ?_;refine tq 1 ?_;refine tq 2 ?_;refine tq 3 ?_;refine tq 4 ?_;refine tq 5 ?_;refine tq 6 ?_;refine tq 7 ?_;try simp only[tz]
   refine tn 8 fun K hK=>?_;go_simp;refine hK.out _ _ Aw fun _=>?_;refine tw ?_;try simp only[tz]
   clear Aw;have L:=zh (aI E);have p:Hid (Two w E.drew sb (some B)):=aG (ξ.on L);have An:Hid (kX E.drew sb a P M mv n gv (seen+1)):=aG (k.belowS L);have Al:=zh (κ.belowS L);have At:=zh (σ.belowS L);have Bu:=zh (χ.belowS L);have Bv:=zh (Av.belowS L);clear L ξ k κ σ χ Av H R x3 Bn;generalize E.drew=Ag at*;have Ap:=zh (Ao.two p);by_cases Cf:D=n
   .have ζ:((D:Int)==(n:Int))=true:=(by rw[eD];omega)
    have Bo:=zh (P9 X (As.out▸Cf) Bq);go_wp2;go_ret;exact⟨18,seen+1,_,_,rfl,An.out,om,Al.out,p.out,.inr (.inl ⟨rfl,tl,sc,Bo.out,Ap.out⟩)⟩
   .have ζ:((D:Int)==(n:Int))=false:=(by rw[eA];omega)
    have Ci:sc<n:=(oA As.out)
    obtain⟨S,Az⟩:∃S,f=S+1:=⟨f-1,om⟩
    have Br:=zh (Z9 wA sb B a S q P M Mq mv n gv gen G Bs Cl (Bw.out S Az) Ag tl sc (.slice Q D Tc) (.slice N O U) (.slice Q D Tc) (.slice N O U) (seen+1) t3 t5 om Ci X Ap (Ah.out Ag p) An om Al At Bv ⟨F.1.1,F.1.2,F.2.2.1,F.2.2.2⟩);obtain⟨H,R,_,_⟩:=Bu.two;have x3:Ag.cell? t3=some (.pointer sb):=At.cell 0;clear Az;go_wp2_with fail;apply Br.mono;rintro e Cz⟨Cc,Ct,Cq,Cp,rfl,Bj,Cr,Bk,Bl,Bm⟩;have Bx:=zh Bj;have Bz:=zh Bk;have Cb:=zh Bm;have Ca:=zh (p.then_ Bl);clear Bj Bk Bl Bm H R x3;go_wp2;go_ret;exact⟨Cc,Ct,Cq,Cp,rfl,Bx.out,Cr,Bz.out,Ca.out,Cb.out⟩
  .have Cy:(0:Int)<=z:=om;have Ck:Hid (NoX (aD P M Mq) (aF P M) n gen tl sc):=aG (dz G.fld X.len X.le b);clear b ψ;go_wp2;go_ret;exact⟨0,seen+1,_,_,rfl,k.out,om,κ.out,ξ.out,.inr (.inr ⟨rfl,Ck.out⟩)⟩
theorem CN(wA:Wo)(sb A a q:Nat)(P M:Int)(Mq:LI)(mv:Va)(n:Nat)(gv:Va)(gen:LL)(C:SrC wA sb A a P M Mq mv n gv gen)(hq:aF P M=(q:Int))(B:q<=256):∀f,U0 wA sb A a P M Mq mv n gv gen f
 |0=>xO wA sb A a 0 q P M Mq mv n gv gen C hq B fun D e=>aB e om
 |f+1=>xO wA sb A a (f+1) q P M Mq mv n gv gen C hq B fun D e=>by
  obtain rfl:f=D:=om;exact CN wA sb A a q P M Mq mv n gv gen C hq B f
