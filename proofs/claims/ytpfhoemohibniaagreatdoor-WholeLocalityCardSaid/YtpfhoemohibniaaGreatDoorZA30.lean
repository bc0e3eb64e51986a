/- Texts of a claim, merged. -/
import Derived.Test.YtpfhoemohibniaaGreatDoorZA29
set_option maxRecDepth 100000
set_option linter.unusedVariables false
set_option maxHeartbeats 32000000
namespace Go.Proofs.YtpfhoemohibniaaGreatDoor
open Go.RowKit
section
variable {ops:Array Oper} {rest:List Oper} {o:Oper} {a:Act} {w:World} {K:Act->World->Prop} {Q:Exit->Act->World->Prop}
theorem PM(s x:Operand)
   (H:o.op=.call {callee:=.builtin .append,args:=#[s,x],argTypes:=#[22,22]})
   (B:Nat)(v:Value)(xs:LI)(L:a.eval s=v)(I:OI B w v xs)(g c:Nat)(y:Int)(M:a.eval x=.slice (some ⟨g,0,none⟩) 1 c)(G:w.cell? ⟨g,0,none⟩=some (.int .i64 y))
   (T:xs.length+1<=17592186044416)(hB:B<=w.heap.size)
   (h:∀v' w',OI B w' v' (xs++[y])->w.grownBy w' v.ownBlock->(v'.ownBlock=v.ownBlock\/v'.ownBlock=some w.heap.size)->K (a.put o.dst v') w'):o.wp Tryz.prog a w K Q:=by
 obtain ⟨S, hi, N, O, R⟩ := info_parts Tryz.infoInt;obtain ⟨v', w', J, D, E, _, F⟩ := run_append_own_at (P := Tryz.prog) w B 22 o.type 3 S (.int .i64 0) 1 8 Tryz.underlying22 hi N O R rfl (by decide) v xs.length (xs.map (Value.int .i64)) I ⟨g, 0, none⟩ 1 c [.int .i64 y] rfl (by
     intro j u A
     match j,A with
     |0,A=>simp at A;subst A;simpa[Addr.add] using G) (by intro u C;simp at C;subst C;rfl) (by unfold maxLen;omega) (by omega) hB
 unfold Oper.wp execOp;simp only[H,resolve,invoke,builtin,Sem.run_bind,Sem.run_pure,Result.andThen_ok,List.map_toArray,List.map_cons,List.map_nil,L,M,J];refine h v' w' ?_ E F;unfold OI;simpa using D
theorem nP(hg:o.guard=none)(s x:Operand)
  (G:o.op=.call {callee:=.builtin .append,args:=#[s,x],argTypes:=#[22,22]})
  (B:Nat)(v:Value)(xs:LI)(I:a.eval s=v)(H:OI B w v xs)(g c:Nat)(y:Int)(J:a.eval x=.slice (some ⟨g,0,none⟩) 1 c)(E:w.cell? ⟨g,0,none⟩=some (.int .i64 y))
  (F:xs.length+1<=17592186044416)(hB:B<=w.heap.size)
  (h:∀v' w',OI B w' v' (xs++[y])->w.grownBy w' v.ownBlock->(v'.ownBlock=v.ownBlock\/v'.ownBlock=some w.heap.size)->wpList Tryz.prog ops Q rest (a.put o.dst v') w'):wpList Tryz.prog ops Q (o::rest) a w:=
 wpList_plain hg fun K hK=>PM s x G B v xs I H g c y J E F hB fun v' w' A C D=>hK _ _ (h v' w' A C D)
end
def gT(O:aO)(R:LL)(pl xs:LI)(i:Nat):LI:=aQ xs.length (dL O R pl (fun j=>xs.getD j 0) i)
theorem qV(O:aO)(R:LL)(pl xs:LI)(i:Nat):(gT O R pl xs i).length=xs.length:=aT _ _
theorem OR(O:aO)(R:LL)(pl xs:LI):gT O R pl xs 0=xs:=by refine List.ext_getElem (by rw[qV]) fun i B A=>?_;simp[gT,aQ,dL,List.getD,A]
theorem OQ{O:aO}{q:Int}(hO:O.Fld q){R:LL}{pl xs:LI}(A:∀j,0<=xs.getD j 0/\xs.getD j 0<q){i:Nat}(B:dL O R pl (fun j=>xs.getD j 0) i (pvt pl i)=0):gT O R pl xs (i+1)=gT O R pl xs i:=by unfold gT;congr 1;funext j;simp only[dL];rw[B,hO.zero_mul,hO.neg_zero];exact hO.add_zero _ (oM hO A i j).1 (oM hO A i j).2
theorem C8{O:aO}{q:Int}(hO:O.Fld q){R:LL}{pl xs:LI}(hR:Rows q xs.length R){j:Nat}(A:xs.length<=j):∀i,dL O R pl (fun j=>xs.getD j 0) i j=0
 |0=>by simp only[dL];rw[aZ4,aY4 A];rfl
 |i+1=>by simp only[dL];rw[C8 hO hR A i,kK hR A,hO.mul_zero,hO.neg_zero];have:=hO.lt.pos;exact hO.add_zero _ (Int.le_refl _) (by omega)
theorem P6(w:World)(Z:Nat->Prop)(B a b gv m:Nat)(Dp:∀g,Z g->g<w.heap.size/\g≠b/\g≠gv)(P M:Int)(Mod:LI)(Ar ι:Value)(R:LL)(pl xs:LI)
   (Dl:∀D,Below B w D->GF D a P M Mod)(hb:Blk w b 236 [.pointer (some ⟨a,0,none⟩),Ar,ι])(Dq:B<=b)(ρ:B<=gv)(Fy:b≠gv)
   (hR:OS B (fun g=>g=b\/g=gv\/ι.ownBlock=some g\/Z g) w Ar R)(Dn:∀g,Ar.ownBlock=some g->¬(g=b\/g=gv\/ι.ownBlock=some g\/Z g))(By:OI B w ι pl)(Dm:∀g,ι.ownBlock=some g->g≠b/\g≠gv/\¬Z g)
   (Bm:RI w gv xs)(hm:xs.length=m)(Gw:m<=1000)(hO:(aB P M Mod).Fld (aC P M))(Cj:∀j,0<=xs.getD j 0/\xs.getD j 0<aC P M)(hB:Bas (aC P M) m R pl)(Fv:R.length<=1000):
   Calls Tryz.prog 175 #[.pointer (some ⟨b,0,none⟩),.slice (some ⟨gv,0,none⟩) m m] w (fun e w'=>∃r,e=.returned (.bool r)/\KX B Z w w'/\
     ((r=false/\(∀j,dL (aB P M Mod) R pl (fun j=>xs.getD j 0) R.length j=0)/\Blk w' b 236 [.pointer (some ⟨a,0,none⟩),Ar,ι]/\OS B (fun g=>g=b\/g=gv\/ι.ownBlock=some g\/Z g) w' Ar R/\OI B w' ι pl)\/
      (r = true /\ ∃ (k : Nat) (Cq Aq : Value), k < m /\ dL (aB P M Mod) R pl (fun j => xs.getD j 0) R.length k ≠ 0 /\
         Blk w' b 236 [.pointer (some ⟨a,0,none⟩),Cq,Aq]/\OS B (fun g=>g=b\/g=gv\/Aq.ownBlock=some g\/Z g) w' Cq (R++[bR (aB P M Mod) ((aB P M Mod).inv (dL (aB P M Mod) R pl (fun j=>xs.getD j 0) R.length k)) (gT (aB P M Mod) R pl xs R.length)])/\
         OI B w' Aq (pl++[(k:Int)])/\(∀g,Cq.ownBlock=some g->¬(g=b\/g=gv\/Aq.ownBlock=some g\/Z g))/\(∀g,Aq.ownBlock=some g->g≠b/\g≠gv/\¬Z g)))):=by
 have Ec:=zh Dl;have Au:=zh hb;have Ai:=zh hR;have Cx:=zh By;have Bu:=zh Bm;have s:=zh Dn;have Aa:=zh Dm;have Ah:=zh hB;have Av:=zh hO;have Da:=zh Cj;obtain⟨v,κ,rfl⟩:=hR.form;obtain⟨O,J,rfl⟩:=By.form';have Ao:=hB.len;obtain⟨r,Ci⟩:∃r,r=R.length:=⟨_,rfl⟩
 have c:=zh Ci;rw[<-Ci] at Ai Au s Fv Ao;rw[Ao] at Cx Au Ai s Aa;have Ds:∀(i j:Nat),I64 ((gT (aB P M Mod) R pl xs i).getD j 0):=fun i j=>by
   by_cases Ae:j<xs.length
   . rw[gT,aS Ae];have A:=oM hO (R:=R) (pl:=pl) Cj i j;have F:=aK P M;exact I64.of_small (by omega) (by omega)
   . rw[aZ4,aY4 (by rw[qV];omega)];exact I64.of_small (by decide) (by decide)
 have Ei:=zh Ds;have Dc:Hid (RI w gv (gT (aB P M Mod) R pl xs 0)):=aD (by rw[OR];exact Bm);have L:Hid (∀D,w.grownBy D (some gv)->Blk D b 236 [.pointer (some ⟨a,0,none⟩),.slice v r κ,.slice O r J]/\OS B (fun g=>g=b\/g=gv\/(Value.slice O r J).ownBlock=some g\/Z g) D (.slice v r κ) R/\OI B D (.slice O r J) pl/\GF D a P M Mod):=aD fun D hg=>⟨Au.grown hg (fun e=>Fy (aZ0 e)),Ai.grown hg (fun g e=>by have:=aZ0 e;subst this;exact⟨fun h=>s.out _ h (.inr (.inl rfl)),.inr (.inl rfl)⟩),Cx.grown hg (fun g h e=>(Aa.out g h).2.1 (aZ0 e).symm),Ec.out D ((Below.refl B w).grown hg (aZ6 ρ (Nat.le_of_lt Bm.lt)) (fun k e=>by have:=aZ0 e;omega))⟩
 have Ew:Hid (∀k,k<r->∃g χ Ad,v=some ⟨g,0,none⟩/\∀D,w.grownBy D (some gv)->D.cell? ⟨g,k,none⟩=some (.slice χ m Ad)/\SI D (.slice χ m Ad) (R.getD k [])):=aD fun k Bz=>by
   obtain⟨g,c',e,_,_⟩:=Ai.formP (by rw[<-c.out];omega);injection e with Ba Bw e3;subst Ba;obtain⟨u,Bg,⟨χ,Ad,rfl,Ge⟩,Du⟩:=Ai.row (k:=k) (by rw[<-c.out];exact Bz);have Cf:(R.getD k []).length=m:=(Ah.rows k (by rw[<-c.out];exact Bz)).1;rw[Cf] at Bg Du;refine⟨g,χ,Ad,rfl,fun D hg=>⟨pE hg Bg (fun e=>s.out g rfl (.inr (.inl e))),?_⟩⟩;have Gd:SI w (.slice χ m Ad) (R.getD k []):=by rw[<-Cf];exact Ge.si
   exact Gd.grown hg (fun Dj Fo Fz e=>(Du (by rw[<-Cf];exact Dj) Fo Fz).2 (.inr (.inl (aZ0 e).symm)))
 have ν:=zh Dp;clear Dp Dl hb hR Dn By Dm Bm hB hO Cj Ci Ds;have Ac:w.cell? ⟨b,1,none⟩=some (.slice v r κ):=Au.cell 1;go_enter Tryz.func175,Tryz.ntmps175;go_wp2_with fail;clear Ac;go_loopw [18] (fun i wr=>∃k:Nat,k<=r/\i=.int .i64 (k:Int)/\Hid (RI wr gv (gT (aB P M Mod) R pl xs k))/\Hid (w.grownBy wr (some gv))) (fun i _=>r-(intOf i).toNat)
 case atStart=>exact⟨0,aZ5 _,rfl,Dc,aD (aN (bE w) _)⟩
 case round=>
   clear Dc;obtain⟨k,Bz,rfl,T,H⟩:=hrel;obtain⟨E,η,d,Bd⟩:=L.out wr H.out;by_cases Ca:k<r
   . obtain ⟨Fp, χ, Ad, rfl, Ch⟩ := Ew.out k Ca;have Ev := zh Ch;have Bg := (Ch wr H).1;clear Ch;obtain ⟨Dt, Ce⟩ := Ah.lt k (by rw [<- c.out]; exact Ca);have Es : Hid (∀ j, I64 (pl.getD j 0)) := aD fun j => by
       by_cases Ae:j<r
       . obtain⟨A,F⟩:=Ah.lt j (by rw[<-c.out];exact Ae);unfold pvt at F;exact I64.of_small (by omega) (by omega)
       . rw[aZ4,aY4 (by omega)];exact I64.of_small (by decide) (by decide)
     obtain⟨Gj,Gk,rfl,Gb,_,Et⟩:=(d.si (by omega) Es).elt (k:=k) (by omega);obtain⟨Af,Bl⟩:∃Af,Af=pvt pl k:=⟨_,rfl⟩
     have Gc:Gk=(Af:Int):=by rw[Bl];unfold pvt;rw[Et.out] at Dt|-;omega
     subst Gc;rw[<-Bl] at Ce;have Cw:=zh Bl;obtain⟨z,Ap⟩:∃z,z=(gT (aB P M Mod) R pl xs k).getD Af 0:=⟨_,rfl⟩
     have Dv:=T.cell Af (by rw[qV];omega);rw[<-Ap] at Dv;have Df:=zh Ap;have Ac:wr.cell? ⟨b,1,none⟩=some (.slice (some ⟨Fp,0,none⟩) r κ):=E.cell 1;have Fj:wr.cell? ⟨b,2,none⟩=some (.slice (some Gj) r J):=E.cell 2;have δ:wr.cell? ⟨b,0,none⟩=some (.pointer (some ⟨a,0,none⟩)):=E.cell 0;have Gx:Af<m:=Ce;clear Bl Ap Dt Ce;by_cases Co:z=0
     . have Ez:Hid (gT (aB P M Mod) R pl xs (k+1)=gT (aB P M Mod) R pl xs k):=aD (OQ Av Da (by
         have h:=Df.out;rw[Co,gT,aS (by omega)] at h;rw[<-Cw.out];exact h.symm))
       subst Co;go_wp2_with fail;exact⟨⟨k+1,by omega,by push_cast;rfl,by rw[Ez.out];exact T,H⟩,by simp only[intOf];omega⟩
     . have Gy:(z !=0)=true:=by rw[bne_iff_ne];exact Co
       have Dd:Hid (RI wr gv (bY xs.length (dL (aB P M Mod) R pl (fun j=>xs.getD j 0) (k+1)) (dL (aB P M Mod) R pl (fun j=>xs.getD j 0) k) 0)):=aD (by rw[dA];exact T.out);have Fh:Hid (z=dL (aB P M Mod) R pl (fun j=>xs.getD j 0) k (pvt pl k)):=aD (by have h:=Df.out;rw[gT,aS (by omega)] at h;rw[<-Cw.out];exact h);clear E η d Bd T δ;go_wp2_with fail;clear Bg Gb Dv Ac Fj;go_loopw [37] (fun i wr=>∃j:Nat,j<=m/\i=.int .i64 (j:Int)/\Hid (RI wr gv (bY xs.length (dL (aB P M Mod) R pl (fun j=>xs.getD j 0) (k+1)) (dL (aB P M Mod) R pl (fun j=>xs.getD j 0) k) j))/\Hid (w.grownBy wr (some gv))) (fun i _=>m-(intOf i).toNat)
       case atStart=>exact⟨0,aZ5 _,rfl,Dd,H⟩
       case round=>
         clear Dd H;obtain⟨j,Ae,rfl,T,H⟩:=hrel;by_cases Ga:j<m
         . obtain⟨E,_,_,Bd⟩:=L.out wr H.out;obtain⟨Hc,y,rfl,Gf,_,Fg⟩:=(Ev wr H).2.elt (k:=j) (by rw[(Ah.out.rows k (by rw[<-c.out];exact Ca)).1];exact Ga);have Ea:=zh (dO (f:=dL (aB P M Mod) R pl (fun j=>xs.getD j 0) (k+1)) (g:=dL (aB P M Mod) R pl (fun j=>xs.getD j 0) k) (N:=xs.length) (k:=j) (by omega));obtain⟨x,Cm⟩:∃x,x=dL (aB P M Mod) R pl (fun j=>xs.getD j 0) k j:=⟨_,rfl⟩
           have ε:=T.cell j (by rw[cU];omega);rw[eJ (by omega),<-Cm] at ε;have Fe:=zh Cm;have δ:wr.cell? ⟨b,0,none⟩=some (.pointer (some ⟨a,0,none⟩)):=E.cell 0;have Aj:=zh (aX H (aN (aH wr) (some gv)));have Bv:=zh (T.belowS (aH wr));have Bq:=zh (L _ Aj).2.2.2;clear E Bd Cm;go_upto_region 9 with fail;clear Gf;refine aM.start (S:=fun w'=>w'.cell? ⟨b,0,none⟩=some (.pointer (some ⟨a,0,none⟩))/\w'.cell? ⟨gv,j,none⟩=some (.int .i64 x)) (by kernel_rfl) (⟨δ,ε⟩) (fun I=>?_);change aM _ _ _ _ 20 _ _ _;refine dq 0 ?_;refine dq 1 ?_;refine dq 2 ?_;refine dq 3 ?_;refine dq 4 ?_;refine dq 5 ?_;refine dq 6 ?_;refine dq 7 ?_;refine dq 8 ?_;refine dq 9 ?_;refine dq 10 ?_;refine dq 11 ?_;refine dq 12 ?_;refine dq 13 ?_;refine dq 14 ?_;refine dq 15 ?_;try simp only[tz]
           refine aM.only (i:=16) (by kernel_rfl) rfl (fun K hK=>?_);go_simp;refine(mH _ a P M z y Mod Bq).mono ?_;rintro e G ⟨rfl,V⟩;have Ab:=zh (aX Aj (aN V (some gv)));have Ay:=zh (Bv.belowS V);have Ed:=zh (L _ Ab).2.2.2;have b4:=aE V δ;have Al:=aE V ε;clear V;refine hK.out _ _ (fun _=>⟨b4,Al⟩) (fun C=>?_);clear hK K;replace I:=C (by decide);clear C;try simp only[tz]
           refine aM.only (i:=17) (by kernel_rfl) rfl (fun K hK=>?_);go_simp;refine(Q6 _ a P M x _ Mod Ed).mono ?_;rintro e φ ⟨rfl,W⟩;have t:=zh (aX Ab (aN W (some gv)));have De:=zh (Ay.belowS W);have b5:=aE W b4;have Fm:=aE W Al;have Gs:=De.frozen j;clear W;refine hK.out _ _ (fun _=>⟨b5,Fm⟩) (fun C=>?_);clear hK K;replace I:=C (by decide);clear C;try simp only[tz]
           refine dq 18 ?_;try simp only[tz]
           refine aM.only (i:=19) (by kernel_rfl) rfl (fun K hK=>?_);go_simp;refine hK.out _ _ (fun h=>absurd rfl h) (fun C=>?_);clear hK K;clear C;refine aM.done (by kernel_rfl) ?_;try simp only[tz]
           clear I;have Az:=zh (De.set j (dT P M x (fZ P M (bO P M Mod z y))));have Cs:Hid (dT P M x (fZ P M (bO P M Mod z y))=dL (aB P M Mod) R pl (fun j=>xs.getD j 0) (k+1) j):=aD (by simp only[dL];rw[<-Fe.out,<-Fh.out];show _=dT P M x (fZ P M (bO P M Mod z (ent R k j)));rw[show ent R k j=y from Fg.out]);rw[Cs.out,Ea.out] at Az;have Fc:=zh (aP (p:=⟨gv,j,none⟩) t (.inl rfl) (.int .i64 (dL (aB P M Mod) R pl (fun j=>xs.getD j 0) (k+1) j)));rw[Cs.out];go_wp2_with fail;exact⟨⟨j+1,by omega,by push_cast;rfl,Az,Fc⟩,by simp only[intOf];omega⟩
         . obtain rfl:m=j:=by omega
           have Eb:Hid (RI wr gv (gT (aB P M Mod) R pl xs (k+1))):=aD (by have:=T.out;rw[show bY xs.length (dL (aB P M Mod) R pl (fun j=>xs.getD j 0) (k+1)) (dL (aB P M Mod) R pl (fun j=>xs.getD j 0) k) m=gT (aB P M Mod) R pl xs (k+1) by rw[<-hm,cZ];rfl] at this;exact this);go_wp2_with fail;exact⟨⟨k+1,by omega,by push_cast;rfl,Eb,H⟩,by simp only[intOf];omega⟩
   . obtain rfl:r=k:=by omega
     have ψ:Hid ((gT (aB P M Mod) R pl xs r).length=m):=aD (by rw[qV];exact hm);have Cy:Hid (∀D,Blk D gv 3 ((gT (aB P M Mod) R pl xs r).map (Value.int .i64))->SI D (.slice (some ⟨gv,0,none⟩) m m) (gT (aB P M Mod) R pl xs r)):=aD fun D h=>by have F:RI D gv (gT (aB P M Mod) R pl xs r):=h;have:=F.si (by rw[ψ.out];omega) (Ei.out r);rwa[ψ.out] at this
     clear E η d Bd;go_wp2_with fail;refine(NI wr _ _ (Cy wr T)).mono ?_;rintro e w1 ⟨He,rfl,Ap,rfl⟩;rcases Ap with⟨Q,Cb,rfl,Cc,_⟩|⟨rfl,Gh⟩
     . rw[ψ.out] at Cb;have Gv:¬(Q:Int)<0:=by omega
       go_upto_region 15 with fail;obtain⟨n,σ⟩:∃n,n=(gT (aB P M Mod) R pl xs r).getD Q 0:=⟨_,rfl⟩
       have ε:=T.cell Q (by rw[ψ.out];exact Cb);rw[<-σ] at ε Cc;have Fi:=zh σ;obtain⟨E,_,_,_⟩:=L.out wr H.out;have δ:wr.cell? ⟨b,0,none⟩=some (.pointer (some ⟨a,0,none⟩)):=E.cell 0;have Aj:=zh (aX H (aN (aH wr) (some gv)));have Bv:=zh (T.belowS (aH wr));have Bq:=zh (L _ Aj).2.2.2;have Gg:0<=n/\n<aC P M:=by rw[σ,gT,aS (by omega)];exact oM Av.out Da.out _ _
       have Dr:inQ (aC P M) n≠0:=by unfold inQ;rw[if_pos Gg];exact Cc
       have Eg:=zh Dr;clear E σ Dr;refine aG.start (S:=fun w'=>w'.cell? ⟨b,0,none⟩=some (.pointer (some ⟨a,0,none⟩))/\w'.cell? ⟨gv,Q,none⟩=some (.int .i64 n)) (by kernel_rfl) (⟨δ,ε⟩) (fun I=>?_);change aG _ _ _ _ 14 _ _ _;refine tq 0 ?_;refine tq 1 ?_;refine tq 2 ?_;refine tq 3 ?_;refine tq 4 ?_;refine tq 5 ?_;refine tq 6 ?_;refine tq 7 ?_;try simp only[tz]
       refine aG.only (i:=8) (by kernel_rfl) rfl (fun K hK=>?_);go_simp;refine(mG _ a P M n Mod Bq Eg).mono ?_;rintro e G ⟨rfl,V⟩;have Ab:=zh (aX Aj (aN V (some gv)));have Ay:=zh (Bv.belowS V);have b4:=aE V δ;have Al:=aE V ε;clear V;refine hK.out _ _ (⟨b4,Al⟩) ?_;clear hK K I;intro I;try simp only[tz]
       refine tq 9 ?_;refine tq 10 ?_;refine tq 11 ?_;refine tq 12 ?_;try simp only[tz]
       refine aG.only (i:=13) (by kernel_rfl) rfl (fun K hK=>?_);go_simp;refine hK.out _ _ I (fun C=>?_);clear hK K;clear C;refine aG.done (by kernel_rfl) ?_;try simp only[tz]
       clear I;go_upto_region 16 with fail;obtain⟨E,η,d,_⟩:=L.out G Ab.out;have Gl:=zh E;have Gn:=zh η;have Gm:=zh d;have Ac:G.cell? ⟨b,1,none⟩=some (.slice v r κ):=E.cell 1;have Db:=zh (aX Ab (aN (aH G) (some gv)));have Ff:=zh (Ay.belowS (aH G));have Ef:=zh (L _ Db).2.2.2;have Ey:=zh (Cy _ Ff);have Bs:Hid (w.heap.size<=G.heap.size):=aD Ab.size;obtain⟨θ,An⟩:∃θ,θ=fJ P M Mod n:=⟨_,rfl⟩
       rw[<-An];have Eh:=zh An;have Ex:Hid (∀j,I64 ((bR (aB P M Mod) θ (gT (aB P M Mod) R pl xs r)).getD j 0)):=aD fun j=>by have A:=(Rows.scale Av.lt θ (gT (aB P M Mod) R pl xs r)).2 j;have F:=aK P M;exact I64.of_small (by omega) (by omega)
       have Cz:Hid ((bR (aB P M Mod) θ (gT (aB P M Mod) R pl xs r)).length=m):=aD (by show _=_;rw[gI];exact ψ.out);have ω:Hid (b<G.heap.size/\gv<G.heap.size/\(∀g,(Value.slice v r κ).ownBlock=some g->g<G.heap.size)/\(∀g,(Value.slice O r J).ownBlock=some g->g<G.heap.size)):=aD ⟨E.lt,Ay.lt,fun g h=>(η.lt h).2,fun g h=>(d.lt h).2⟩;clear E η d ε δ Al An;refine aM.start (S:=fun w'=>w'.cell? ⟨b,0,none⟩=some (.pointer (some ⟨a,0,none⟩))/\w'.cell? ⟨b,1,none⟩=some (.slice v r κ)) (by kernel_rfl) (⟨b4,Ac⟩) (fun I=>?_);change aM _ _ _ _ 17 _ _ _;refine dq 0 ?_;refine dq 1 ?_;refine dq 2 ?_;refine dq 3 ?_;refine dq 4 ?_;refine dq 5 ?_;refine dq 6 ?_;refine dq 7 ?_;refine dq 8 ?_;refine dq 9 ?_;refine dq 10 ?_;try simp only[tz]
       refine aM.only (i:=11) (by kernel_rfl) rfl (fun K hK=>?_);go_simp;refine(pF _ a P M θ Mod _ _ Ef Ey (by rw[ψ.out];omega)).mono ?_;rintro e φ ⟨u,rfl,Cd,W⟩;have t:=zh (aX Db (aN W (some gv)));have b5:=aE W b4;have Dh:=aE W Ac;have Bt:=zh Cd;have Br:Hid (G.heap.size<=φ.heap.size):=aD W.size;obtain⟨Dg,Dy,rfl⟩:=Cd.form';rw[Cz.out] at Bt|-;clear W Cd;refine hK.out _ _ (fun _=>⟨b5,Dh⟩) (fun C=>?_);clear hK K;replace I:=C (by decide);clear C;try simp only[tz]
       refine aM.only (i:=12) (o:=?op1) (by kernel_rfl) ?ho1 (fun K hK=>?_)
       case ho1=>(conv=>lhs;simp only[tdg,tdh,tdi])
       go_simp;obtain⟨Bo,Fq,Ba,Bw,Do,Bf⟩:=bB φ 22 [.slice Dg m Dy];rw[Ba,Bw];have Az:=zh Do;have q:=zh Bf;have Fk:=aE Bf b5;have Fl:=aE Bf Dh;clear Ba Bw Do Bf;refine hK.out _ _ (fun _=>⟨Fk,Fl⟩) (fun C=>?_);clear hK K;replace I:=C (by decide);clear C;try simp only[tz]
       refine aM.only (i:=13) (o:=?op2) (by kernel_rfl) ?ho2 (fun K hK=>?_)
       case ho2=>(conv=>lhs;simp only[tdg,tdh,tdi])
       have Eu:=zh ((L.out φ t).2.1.below q);refine AO rfl _ _ rfl B (fun g=>g=b\/g=gv\/(Value.slice O r J).ownBlock=some g\/Z g) _ R rfl Eu.out Fq 1 (.slice Dg m Dy) (bR (aB P M Mod) θ (gT (aB P M Mod) R pl xs r)) rfl (Az.cell 0) ((Bt.si (by rw[Cz.out];omega) Ex).below q zr) (fun Dj g hg=>(by have A:=(Bt.lt hg).1;have F:G.drew.heap.size=G.heap.size:=rfl;obtain⟨Dw,Dx,Cp,Bn⟩:=ω.out;exact⟨fun h=>(by have:=Cp g h;omega),fun h=>(by rcases h with h|h|h|h;omega;omega;have:=Bn g h;omega;have:=(ν.out g h).1;have:=Bs.out;omega)⟩)) (by rw[<-c.out];omega) (by have A:=q.size;have F:=Br.out;have Bc:=ω.2.1;omega) ?_;intro Ha Ag Bj Bh Ck;obtain⟨U,X,rfl⟩:=Bj.form;rw[aZ1,aZ2,<-c.out] at Bj Ck|-;have As:=zh (((L.out φ t).1.belowS q).grown Bh (fun e=>s.out b e.symm (.inl rfl)));have Eo:=zh (((L.out φ t).2.2.1.below q zr).grown Bh (fun g h e=>s.out g e (.inr (.inr (.inl h)))));have Ek:=zh Bj;have Ct:=zh Bh;have Fa:=zh Ck;have b7:=As.cell 0;have Di:=As.cell 1;have Gt:=As.frozen 1;simp only[List.getElem?_cons_zero,List.getElem?_cons_succ] at b7 Di;clear Bj Bh Ck;refine hK.out _ _ (fun _=>⟨b7,Di⟩) (fun C=>?_);clear hK K;replace I:=C (by decide);clear C;try simp only[tz]
       refine aM.only (i:=14) (by kernel_rfl) rfl (fun K hK=>?_);go_simp;refine hK.out _ _ (fun _=>I) (fun C=>?_);clear hK K;clear C;try simp only[tz]
       refine dq 15 ?_;try simp only[tz]
       refine aM.only (i:=16) (by kernel_rfl) rfl (fun K hK=>?_);go_simp;refine hK.out _ _ (fun h=>absurd rfl h) (fun C=>?_);clear hK K;clear C;refine aM.done (by kernel_rfl) ?_;try simp only[tz]
       clear I;have Bb:=bF Ag b 1 (.slice U (r+1) X);have At:=zh (As.set_ 1 (.slice U (r+1) X));change Hid (Blk _ b 236 [.pointer (some ⟨a,0,none⟩),.slice U (r+1) X,.slice O r J]) at At;have μ:Hid (∀g,(Value.slice U (r+1) X).ownBlock=some g->g≠b/\g≠gv/\(Value.slice O r J).ownBlock≠some g/\¬Z g):=aD fun g hg=>by
         obtain⟨Dw,Dx,Cp,Bn⟩:=ω.out;have Gi:G.heap.size<=Bo.heap.size:=aZ6 Br.out q.size;rcases Fa.out with e|e
         . have ζ:(Value.slice U (r+1) X).ownBlock=(Value.slice v r κ).ownBlock:=e;have A:=s.out g (by rw[<-ζ];exact hg);exact⟨fun h=>A (.inl h),fun h=>A (.inr (.inl h)),fun h=>A (.inr (.inr (.inl h))),fun h=>A (.inr (.inr (.inr h)))⟩
         . have ζ:(Value.slice U (r+1) X).ownBlock=some Bo.heap.size:=e;have A:g=Bo.heap.size:=by rw[ζ] at hg;exact(aZ0 hg).symm
           exact⟨by omega,by omega,fun h=>by have:=Bn g h;omega,fun h=>by have:=(ν.out g h).1;have:=Bs.out;omega⟩
       have Cu:=zh (Ek.grown Bb (fun g e=>by have:=aZ0 e;subst this;exact⟨fun h=>(μ _ h).1 rfl,.inl rfl⟩));have Ep:=zh (Eo.grown Bb (fun g h e=>(Aa.out g h).1 (aZ0 e).symm));have Aw:Hid (KX B Z w (Ag.setCell ⟨b,1,none⟩ (.slice U (r+1) X))/\G.heap.size<=(Ag.setCell ⟨b,1,none⟩ (.slice U (r+1) X)).heap.size):=aD (by have π:B<=w.heap.size:=aZ6 ρ (Nat.le_of_lt Bu.lt);have Fx:¬Z gv:=fun h=>(ν gv h).2.2 rfl;have Fw:¬Z b:=fun h=>(ν.out b h).2.1 rfl;have A:KX B Z w Bo:=(KX.gr t π (fun k e=>by have:=aZ0 e;subst this;exact⟨ρ,Fx⟩)).trans (KX.of q (aZ6 π t.size));have F:KX B Z w Ag:=A.trans (KX.gr Ct (aZ6 π A.size) (fun k e=>⟨((L.out φ t).2.1.lt e).1,fun h=>s.out k e (.inr (.inr (.inr h)))⟩));have Bc:KX B Z w (Ag.setCell ⟨b,1,none⟩ (.slice U (r+1) X)):=F.trans (KX.gr Bb (aZ6 π F.size) (fun k e=>by have:=aZ0 e;subst this;exact⟨Dq,Fw⟩));exact⟨Bc,aZ6 (aZ6 (aZ6 Br q.size) Ct.size) Bb.size⟩);generalize Ag.setCell ⟨b,1,none⟩ (.slice U (r+1) X)=l at*;have Gp:l.cell? ⟨b,0,none⟩=some (.pointer (some ⟨a,0,none⟩)):=At.cell 0;have Gq:l.cell? ⟨b,2,none⟩=some (.slice O r J):=At.cell 2;have En:=zh (Cu.names (Y:=fun g=>(g=b\/g=gv\/(Value.slice O r J).ownBlock=some g\/Z g)\/l.heap.size<=g) (fun g A F=>F.resolve_right (by omega)));have Am:=aF l (.cells #[.int .i64 (Q:Int)] 3);have Cv:=zh (Ep.alloc (.cells #[.int .i64 (Q:Int)] 3));have Ej:=zh (Blk.new l 3 [.int .i64 (Q:Int)]);have Dz:=zh (At.belowS Am);have Em:=zh (En.below Am);have Ax:=zh (And.intro (Aw.1.trans (KX.of Am (aZ6 (aZ6 (aZ6 ρ (Nat.le_of_lt ω.2.1)) Aw.2) zr))) Am.size);clear Am;go_wp2_with (
         at_builtin;refine nP rfl _ _ rfl B (.slice O r J) pl rfl Cv.out l.heap.size 1 (Q:Int) rfl (Ej.cell 0) (by omega) (by have A:=ω.2.1;have F:=Aw.2;have Bc:=Ax.2;omega) ?_;intro Hb Cr Bk Bi Cl;obtain⟨ξ,τ,rfl⟩:=Bk.form';rw[aZ1,aZ2,Ao] at Bk Cl|-;have Bp:=zh (Dz.grown Bi (fun e=>(Aa.out b e.symm).1 rfl));have El:=zh (Em.grown Bi (fun g e=>⟨fun h=>(μ.out g h).2.2.1 e,.inl (.inr (.inr (.inl e)))⟩));have Er:=zh Bk;have Ee:=zh Bi;have Fb:=zh Cl;have Gr:Cr.cell? ⟨b,2,none⟩=some (.slice O r J):=Bp.cell 2;have Gu:=Bp.frozen 2;clear Bk Bi Cl)
       go_ret;have Be:∀g,(Value.slice ξ (r+1) τ).ownBlock=some g->(g≠b/\g≠gv/\¬Z g)/\((Value.slice O r J).ownBlock=some g\/l.heap.size<=g):=fun g hg=>by
         rcases Fb.out with e|e
         . have ζ:(Value.slice ξ (r+1) τ).ownBlock=(Value.slice O r J).ownBlock:=e;exact⟨Aa.out g (by rw[<-ζ];exact hg),.inl (by rw[<-ζ];exact hg)⟩
         . have ζ:(Value.slice ξ (r+1) τ).ownBlock=some (l.alloc (.cells #[.int .i64 (Q:Int)] 3)).heap.size:=e;have A:g=(l.alloc (.cells #[.int .i64 (Q:Int)] 3)).heap.size:=by rw[ζ] at hg;exact(aZ0 hg).symm
           obtain⟨Dw,Dx,Cp,Bn⟩:=ω.out;have Gi:=Aw.2;have Gz:=Ax.2;exact⟨⟨by omega,by omega,fun h=>by have:=(ν.out g h).1;have:=Bs.out;omega⟩,.inr (by omega)⟩
       have Bx:=bF Cr b 2 (.slice ξ (r+1) τ);have Fs:=Bp.set_ 2 (.slice ξ (r+1) τ);have Ft:=(El.grown Bx (fun g e=>by
         have:=aZ0 e;subst this;exact⟨fun h=>(μ _ h).1 rfl,.inl (.inl rfl)⟩)).names (Y:=fun g=>g=b\/g=gv\/(Value.slice ξ (r+1) τ).ownBlock=some g\/Z g) (fun g _ h=>by
           rcases h with h|h|h|h
           . exact .inl (.inl h)
           . exact .inl (.inr (.inl h))
           . rcases(Be g h).2 with A|A
             . exact .inl (.inr (.inr (.inl A)))
             . exact .inr A
           . exact .inl (.inr (.inr (.inr h))))
       have Fu:=Er.grown Bx (fun g h e=>(Be g h).1.1 (aZ0 e).symm);have π:B<=w.heap.size:=aZ6 ρ (Nat.le_of_lt Bu.lt);have Dk:KX B Z w Cr:=Ax.1.trans (KX.gr Ee (aZ6 π Ax.1.size) (fun k e=>⟨(Cv.lt e).1,(Aa k e).2.2⟩));have Fr:=Dk.trans (KX.gr Bx (aZ6 π Dk.size) (fun k e=>by have:=aZ0 e;subst this;exact⟨Dq,fun h=>(ν.out b h).2.1 rfl⟩));have σ:n=dL (aB P M Mod) R pl (fun j=>xs.getD j 0) r Q:=by have:=Fi.out;rwa[gT,aS (by omega)] at this
       have An:θ=(aB P M Mod).inv (dL (aB P M Mod) R pl (fun j=>xs.getD j 0) r Q):=by rw[<-σ];exact Eh.out
       rw[Ao,<-c.out];refine⟨true,rfl,Fr,.inr ⟨rfl,Q,.slice U (r+1) X,.slice ξ (r+1) τ,Cb,by rw[<-σ];exact Cc,Fs,by rw[<-An];exact Ft,Fu,fun g h=>?_,fun g h=>(Be g h).1⟩⟩;rintro (A|A|A|A)
       . exact(μ.out g h).1 A
       . exact(μ.out g h).2.1 A
       . rcases(Be g A).2 with F|F
         . exact(μ.out g h).2.2.1 F
         . have Bc:=(Cu.lt h).2;omega
       . exact(μ.out g h).2.2.2 A
     . go_wp2_with fail;go_ret;obtain⟨E,η,d,_⟩:=L.out wr H.out;rw[Ao,<-c.out];refine⟨false,rfl,KX.gr H (aZ6 ρ (Nat.le_of_lt Bu.lt)) (fun k e=>by have:=aZ0 e;subst this;exact⟨ρ,fun h=>(ν _ h).2.2 rfl⟩),.inl ⟨rfl,fun j=>?_,E,η,d⟩⟩;by_cases Ae:j<xs.length
       . have:=Gh j;rwa[gT,aS Ae] at this
       . exact C8 Av.out (by rw[hm];exact Ah.rows) (by omega) _
end Go.Proofs.YtpfhoemohibniaaGreatDoor
