/- Texts of a claim, merged. -/
import Derived.Test.YtpfhoemohibniaaGreatDoorZA14
import Derived.Deep.CutRange
set_option maxRecDepth 100000
set_option maxHeartbeats 32000000
namespace Go.Proofs.YtpfhoemohibniaaGreatDoor
open Go.RowKit
structure T5(w:World)(a:Nat)(P M:Int)(Mod:LI)(q:Nat)(mv:Value)(ge ce gl cl:Nat)(E L:LI):Prop where
 c0:w.cell? ⟨a,0,none⟩=some (.int .i64 P)
 c1:w.cell? ⟨a,1,none⟩=some (.int .i64 M)
 c2:w.cell? ⟨a,2,none⟩=some mv
 c3:w.cell? ⟨a,3,none⟩=some (.int .i64 (q:Int))
 c4:w.cell? ⟨a,4,none⟩=some (.slice (some ⟨ge,0,none⟩) (q-1) ce)
 c5:w.cell? ⟨a,5,none⟩=some (.slice (some ⟨gl,0,none⟩) q cl)
 mod:SI w mv Mod
 exp:∀k,k<q-1->w.cell? ⟨ge,k,none⟩=some (.int .i64 (E.getD k 0))
 log:∀k,k<q->w.cell? ⟨gl,k,none⟩=some (.int .i64 (L.getD k 0))
 tab:yE (aB P M Mod) q E L
 fld:cK P M Mod
 ord:aC P M=(q:Int)
def GF(w:World)(a:Nat)(P M:Int)(Mod:LI):Prop:=∃q mv C A D B E L,T5 w a P M Mod q mv C A D B E L
theorem T5.keep{w w':World}{a:Nat}{P M:Int}{Mod:LI}{q:Nat}{mv:Value}{D B F C:Nat}{E L:LI}(h:T5 w a P M Mod q mv D B F C E L)(G:∀p:Addr,p.block<w.heap.size->w'.cell? p=w.cell? p):T5 w' a P M Mod q mv D B F C E L:=
 have key:∀{p:Addr} {v:Value},w.cell? p=some v->w'.cell? p=some v:=fun h=>(G _ (World.block_lt_of_cell? _ _ h)).trans h
 ⟨key h.c0,key h.c1,key h.c2,key h.c3,key h.c4,key h.c5,h.mod.keep G,fun k A=>key (h.exp k A),fun k A=>key (h.log k A),h.tab,h.fld,h.ord⟩
theorem GF.keep{w w':World}{a:Nat}{P M:Int}{Mod:LI}(h:GF w a P M Mod)(F:∀p:Addr,p.block<w.heap.size->w'.cell? p=w.cell? p):GF w' a P M Mod:=by obtain⟨q,mv,C,A,D,B,E,L,h⟩:=h;exact⟨q,mv,C,A,D,B,E,L,h.keep F⟩
theorem GF.below{w w':World}{a:Nat}{P M:Int}{Mod:LI}{B:Nat}(h:GF w a P M Mod)(hb:Below B w w')(hB:w.heap.size<=B):GF w' a P M Mod:=h.keep fun _ A=>hb.cell (aY1 A hB)
theorem GF.on{w w':World}{a:Nat}{P M:Int}{Mod:LI}(h:GF w a P M Mod)(hb:Below w.heap.size w w'):GF w' a P M Mod:=h.below hb zr
theorem GF.fld{w:World}{a:Nat}{P M:Int}{Mod:LI}(h:GF w a P M Mod):cK P M Mod:=by obtain⟨q,mv,C,A,D,B,E,L,h⟩:=h;exact h.fld
theorem GF.sep{B:Nat}{w:World}{a:Nat}{P M:Int}{Mod E L:LI}{q:Nat}{mv:Value}{C G D J:Nat}(Q:B<=a)
  (hb:Blk w a 149 [.int .i64 P,.int .i64 M,mv,.int .i64 (q:Int),.slice (some ⟨C,0,none⟩) (q-1) G,.slice (some ⟨D,0,none⟩) q J])
  (hm:OI B w mv Mod)(U:Mod.length<=17592186044416)(V:∀k,I64 (Mod.getD k 0))(K:OI B w (.slice (some ⟨C,0,none⟩) (q-1) G) E)(O:RI w D L)(T:B<=D)
  (I:yE (aB P M Mod) q E L)(S:cK P M Mod)(W:aC P M=(q:Int)):Sep B w fun w2=>GF w2 a P M Mod:=fun w2 F=>by
 have R:=hb.lt;have A:∀i,w2.cell? ⟨a,i,none⟩=w.cell? ⟨a,i,none⟩:=fun i=>F ⟨a,i,none⟩ Q R;have N:B<=C/\C<w.heap.size:=K.lt rfl;refine⟨q,mv,C,G,D,J,E,L,(A 0).trans (hb.cell 0),(A 1).trans (hb.cell 1),(A 2).trans (hb.cell 2),(A 3).trans (hb.cell 3),(A 4).trans (hb.cell 4),(A 5).trans (hb.cell 5),(hm.sep U V) w2 F,fun k H=>?_,fun k H=>?_,I,S,W⟩
 .rw[F ⟨C,k,none⟩ N.1 N.2];exact K.cell k (by rw[I.el];exact H)
 .rw[F ⟨D,k,none⟩ T O.lt];exact O.cell k (by rw[I.ll];exact H)
def WG(w:World)(P M:Int)(Mod:LI)(e:Ending)(w':World):Prop:=∃a,e=.returned (.tuple #[.pointer (some ⟨a,0,none⟩),.int .i64 0])/\Sep w.heap.size w' (fun w2=>GF w2 a P M Mod)/\Below w.heap.size w w'
def WB(w:World)(e:Ending)(w':World):Prop:=e=.returned (.tuple #[.pointer none,.int .i64 1])/\Below w.heap.size w w'
theorem R6(w:World)(P M:Int)(mv:Value)(Mod:LI)(h:SI w mv Mod)(H:¬cK P M Mod):
  Calls Tryz.prog 39 #[.agg #[.int .i64 P,.int .i64 M,mv]] w (WB w):=by
 have F:=zh h;clear h;have A:=zh (cV.mk' w P M mv);by_cases C:lW P M Mod
 .have I:Hid (sZ (aB P M Mod) (aC P M)=[]):=F0 C H;have N:=zh C;have G:Hid (fC P M Mod=true):=kX C;have O:=cG C.1;have Q:=aK P M;generalize hq:aC P M=q at I O Q;have L:=zh hq;clear hq C H;go_enter Tryz.func39,Tryz.ntmps39;go_wp2_with fail;obtain⟨w0,E⟩:∃w0,w0=w.alloc (.cells #[.int .i64 P,.int .i64 M,mv] 24):=⟨_,rfl⟩
  rw[<-E] at A|-;clear E;have c0:=A.c0;have c1:=A.c1;have c2:=A.c2;go_wp2_with fail;refine(sB _ P M mv Mod (F.below A.bel zr)).mono ?_;rintro e w1 ⟨rfl,D⟩;rw[G.out];have B:=zh (A.on D);clear D c0 c1 c2;have c0:=B.c0;have c1:=B.c1;have c2:=B.c2;go_wp2_with fail;refine(fB _ _ _).mono ?_;rintro e w2 ⟨rfl,rfl⟩;go_wp2_with fail;refine(nM _ P M mv Mod (F.below B.bel zr) N).mono ?_;rintro e w2 ⟨u,rfl,_,hn,J⟩;obtain rfl:=hn (by rw[L.out];exact I.out);have R:=fun(w:World) (l c:Nat)=>run_eql_slice_nil (P:=Tryz.prog) w 22 3 none l c Tryz.underlying22;have K:=zh (B.on J);clear J c0 c1 c2 hn;go_wp2_with fail;go_ret2;exact⟨rfl,K.bel⟩
 .have G:Hid (fC P M Mod=false):=fD C;clear C H;go_enter Tryz.func39,Tryz.ntmps39;go_wp2_with fail;obtain⟨w0,E⟩:∃w0,w0=w.alloc (.cells #[.int .i64 P,.int .i64 M,mv] 24):=⟨_,rfl⟩
  rw[<-E] at A|-;clear E;have c0:=A.c0;have c1:=A.c1;have c2:=A.c2;go_wp2_with fail;refine(sB _ P M mv Mod (F.below A.bel zr)).mono ?_;rintro e w1 ⟨rfl,D⟩;rw[G.out];have B:=zh (A.on D);clear D c0 c1 c2;go_wp2_with fail;go_ret2;exact⟨rfl,B.bel⟩
theorem mK(w:World)(P M:Int)(mv:Value)(Mod:LI)(h:SI w mv Mod)(n:cK P M Mod):
   Calls Tryz.prog 39 #[.agg #[.int .i64 P,.int .i64 M,mv]] w (WG w P M Mod):=by
 have d:=zh h;clear h;have Z:=zh (cV.mk' w P M mv);have s:lW P M Mod:=⟨n.1,n.2.1,n.2.2.1⟩
 have hO:=dU n;obtain⟨x,σ,ι,θ⟩:=CD hO;have Ap:Hid (fC P M Mod=true):=kX s;have Av:=cG s.1;have Aw:=aK P M;have Bk:Mod.length<=100000:=by
   obtain⟨m,π⟩:=s.2.2;obtain⟨_,_,ω,Bg,_,_⟩:=bN s.1;by_cases e:M=1
   . rw[m e];simp
   . have:=(π e).1;omega
 obtain⟨q,hq⟩:∃q:Nat,aC P M=(q:Int):=⟨(aC P M).toNat,by omega⟩
 have ν:=zh hq;rw[hq] at σ ι θ Av Aw hO;rw[aZ8] at ι θ;have η:=zh (XF hO σ ι);have Bl:1<q:=by omega
 have Bm:q<=256:=by omega
 have χ:Hid (sZ (aB P M Mod) (aC P M)=(List.range (q-1)).map (bG (aB P M Mod) x)):=by show _=_;rw[hq];exact θ
 obtain⟨E,Aa⟩:∃E,E=(List.range (q-1)).map (bG (aB P M Mod) x):=⟨_,rfl⟩
 rw[<-Aa] at η χ;have Ao:=zh s;have φ:=zh n;clear Aa θ ι σ s n hq hO;have Ab:E.length=q-1:=η.el;have Am:Hid (∀k,k<q-1->0<=E.getD k 0/\E.getD k 0<(q:Int)):=aD fun k Ae=>by have:=η.unit (by rw[<-ν.out];exact dU φ) Ae;have m:=this.1;have π:=this.2;omega
 have μ:=zh Ab;clear Ab;have As:=fun(w:World)=>dV q (by omega) w;go_enter Tryz.func39,Tryz.ntmps39;go_wp2_with fail;obtain⟨w0,Ah⟩:∃w0,w0=w.alloc (.cells #[.int .i64 P,.int .i64 M,mv] 24):=⟨_,rfl⟩
 rw[<-Ah] at Z|-;clear Ah;have c0:=Z.c0;have c1:=Z.c1;have c2:=Z.c2;go_wp2_with fail;refine(sB _ P M mv Mod (d.below Z.bel zr)).mono ?_;rintro e w1 ⟨rfl,Ac⟩;rw[Ap.out];have b:=zh (Z.on Ac);clear Ac c0 c1 c2;have c0:=b.c0;have c1:=b.c1;have c2:=b.c2;go_wp2_with fail;refine(fB _ _ _).mono ?_;rintro e w2 ⟨rfl,rfl⟩;go_wp2_with fail;refine(nM _ P M mv Mod (d.below b.bel zr) Ao).mono ?_;rintro e w2 ⟨u,rfl,ε,_,Ad⟩;rw[χ.out] at ε;obtain⟨T,f,rfl,Bh,Bi⟩:=ε.form (by rw[μ.out];omega);rw[μ.out] at ε|-;have ζ:=zh (ε.mono b.bel.size);have J:=zh (b.on Ad);clear Ad c0 c1 c2 ε;have Au:=fun(w:World) (l c:Nat)=>run_eql_slice_nil (P:=Tryz.prog) w 22 3 (some ⟨T,0,none⟩) l c Tryz.underlying22;rw[ν.out];have c0:=J.c0;have c1:=J.c1;have c2:=J.c2;go_upto_region 7 with fail;clear Au;go_cut [6] from 22 to 36 (fun Az wc=>∃a t B,Az=.pointer (some ⟨a,0,none⟩)/\w2.heap.size<=a/\w2.heap.size<=B/\a≠B/\Hid (Blk wc a 149 [.int .i64 P,.int .i64 M,t,.int .i64 (q:Int),.slice (some ⟨T,0,none⟩) (q-1) f,.slice (some ⟨B,0,none⟩) q q])/\Hid (OI w2.heap.size wc t Mod)/\Hid (RI wc B (List.replicate q 0))/\Hid (∀g,t.ownBlock=some g->g≠B)/\Hid (Below w2.heap.size w2 wc))
 case first=>
   refine aG.start (S:=fun w'=>w'.cell? ⟨w.heap.size,0,none⟩=some (.int .i64 P)/\w'.cell? ⟨w.heap.size,1,none⟩=some (.int .i64 M)/\w'.cell? ⟨w.heap.size,2,none⟩=some mv) (by kernel_rfl) (⟨c0,c1,c2⟩) (fun D=>?_);change aG _ _ _ _ 16 _ _ _;have ρ:=aH w2;generalize w2.drew=Aj at ρ D|-;have A:=zh ρ;clear c0 c1 c2;clear ρ;refine tq 0 ?_;refine tq 1 ?_;refine tq 2 ?_;refine tq 3 ?_;refine tq 5 ?_;refine tq 6 ?_;refine tq 9 ?_;refine tq 10 ?_;refine tq 11 ?_;try simp only[tz]
   refine aG.two (i:=4) (j:=12) (oi:=?opa2) (oj:=?opb2) (by kernel_rfl) ?hoa2 ?hob2 (fun K hK=>?way12) (fun K hK=>?way22)
   case hoa2=>(conv=>lhs;simp only[tdg,tdh,tdi])
   case hob2=>(conv=>lhs;simp only[tdg,tdh,tdi])
   case way12=>
     go_simp;obtain⟨Bd,y,F,G,H,hb⟩:=GH Aj;rw[F,G];have N:=zh (H.mono (B':=w2.heap.size) (by have:=A.size;omega));replace A:=zh (aA A hb);clear F G H hb;refine hK.out _ _ ((fun h=>⟨h.c0,h.c1,h.c2⟩) (J.on A)) ?_;clear hK K D;intro D;try simp only[tz]
     refine aG.two (i:=7) (j:=12) (oi:=?opa4) (oj:=?opb4) (by kernel_rfl) ?hoa4 ?hob4 (fun K hK=>?way14) (fun K hK=>?way24)
     case hoa4=>(conv=>lhs;simp only[tdg,tdh,tdi])
     case hob4=>(conv=>lhs;simp only[tdg,tdh,tdi])
     case way14=>
       refine oQ rfl _ _ rfl w2.heap.size _ _ rfl N.out _ Mod rfl ((d.below J.bel zr).below A zr) (by simp;omega) A.size ?_;intro Ai Be L hg Y;rw[List.nil_append] at L;obtain⟨U,V,rfl⟩:=L.form';have I:=zh L;replace A:=zh (N.bgrown A A.size hg);clear L hg Y N;refine hK.out _ _ ((fun h=>⟨h.c0,h.c1,h.c2⟩) (J.on A)) ?_;clear hK K D;intro D;try simp only[tz]
       refine tq 8 ?_;try simp only[tz]
       refine aG.only (i:=12) (o:=?op6) (by kernel_rfl) ?ho6 (fun K hK=>?_)
       case ho6=>(conv=>lhs;simp only[tdg,tdh,tdi])
       go_simp;obtain⟨Bf,B,F,G,H,hb⟩:=vZ Be q;rw[F,G];have C:=zh H;have v:w2.heap.size<=B:=(by have:=A.size;omega)
       have O:Hid (∀g,(Value.slice U Mod.length V).ownBlock=some g->g≠B):=aD fun g hg=>(by have m:=(I.lt hg).2;omega)
       replace I:=zh (I.below hb zr);replace A:=zh (aA A hb);clear F G H hb;refine hK.out _ _ ((fun h=>⟨h.c0,h.c1,h.c2⟩) (J.on A)) ?_;clear hK K D;intro D;try simp only[tz]
       refine tq 13 ?_;try simp only[tz]
       refine aG.only (i:=14) (o:=?op8) (by kernel_rfl) ?ho8 (fun K hK=>?_)
       case ho8=>(conv=>lhs;simp only[tdg,tdh,tdi])
       go_simp;obtain⟨Bv,ga,F,G,H,hb⟩:=bB Bf 149 [.int .i64 P,.int .i64 M,.slice U Mod.length V,.int .i64 (q:Int),.slice (some ⟨T,0,none⟩) (q-1) f,.slice (some ⟨B,0,none⟩) q q];rw[F,G];have Q:=zh H;have r:w2.heap.size<=ga:=(by have:=A.size;omega)
       have X:ga≠B:=(by have:=C.lt;omega)
       replace I:=zh (I.below hb zr);replace C:=zh (C.belowS hb);replace A:=zh (aA A hb);clear F G H hb;refine hK.out _ _ ((fun h=>⟨h.c0,h.c1,h.c2⟩) (J.on A)) ?_;clear hK K D;intro D;try simp only[tz]
       refine aG.only (i:=15) (by kernel_rfl) rfl (fun K hK=>?_);go_simp;refine hK.out _ _ D (fun z=>?_);clear hK K;clear z;refine aG.done (by kernel_rfl) ?_;try simp only[tz]
       clear D;go_wp2_with fail;go_meet;exact⟨ga,_,B,rfl,r,v,X,Q,I,C,O,A⟩
     case way24=>
       go_simp;obtain⟨Br,B,F,G,H,hb⟩:=vZ Bd q;rw[F,G];have C:=zh H;have v:w2.heap.size<=B:=(by have:=A.size;omega)
       have O:Hid (∀g,(Value.slice (some ⟨y,0,none⟩) 0 0).ownBlock=some g->g≠B):=aD fun g hg=>(by have m:=(N.lt hg).2;omega)
       replace N:=zh (N.below hb zr);replace A:=zh (aA A hb);clear F G H hb;refine hK.out _ _ ((fun h=>⟨h.c0,h.c1,h.c2⟩) (J.on A)) ?_;clear hK K D;intro D;try simp only[tz]
       refine aG.only (i:=7) (o:=?op11) (by kernel_rfl) ?ho11 (fun K hK=>?_)
       case ho11=>(conv=>lhs;simp only[tdg,tdh,tdi])
       refine oQ rfl _ _ rfl w2.heap.size _ _ rfl N.out _ Mod rfl ((d.below J.bel zr).below A zr) (by simp;omega) A.size ?_;intro Ai Ba L hg Y;rw[List.nil_append] at L;obtain⟨U,V,rfl⟩:=L.form';have δ:some B≠(Value.slice (some ⟨y,0,none⟩) 0 0).ownBlock:=fun e=>O.out B e.symm rfl;replace O:Hid (∀g,(Value.slice U Mod.length V).ownBlock=some g->g≠B):=aD (fun g W=>Y.elim (fun h=>O.out g (h▸W)) (fun h=>(by have Aq:=C.lt;rw[h] at W;have ω:=aZ0 W;omega)));replace C:=zh (C.grown hg δ);have I:=zh L;replace A:=zh (N.bgrown A A.size hg);clear L hg Y N δ;refine hK.out _ _ ((fun h=>⟨h.c0,h.c1,h.c2⟩) (J.on A)) ?_;clear hK K D;intro D;try simp only[tz]
       refine tq 8 ?_;refine tq 13 ?_;try simp only[tz]
       refine aG.only (i:=14) (o:=?op13) (by kernel_rfl) ?ho13 (fun K hK=>?_)
       case ho13=>(conv=>lhs;simp only[tdg,tdh,tdi])
       go_simp;obtain⟨Bs,ga,F,G,H,hb⟩:=bB Ba 149 [.int .i64 P,.int .i64 M,.slice U Mod.length V,.int .i64 (q:Int),.slice (some ⟨T,0,none⟩) (q-1) f,.slice (some ⟨B,0,none⟩) q q];rw[F,G];have Q:=zh H;have r:w2.heap.size<=ga:=(by have:=A.size;omega)
       have X:ga≠B:=(by have:=C.lt;omega)
       replace I:=zh (I.below hb zr);replace C:=zh (C.belowS hb);replace A:=zh (aA A hb);clear F G H hb;refine hK.out _ _ ((fun h=>⟨h.c0,h.c1,h.c2⟩) (J.on A)) ?_;clear hK K D;intro D;try simp only[tz]
       refine aG.only (i:=15) (by kernel_rfl) rfl (fun K hK=>?_);go_simp;refine hK.out _ _ D (fun z=>?_);clear hK K;clear z;refine aG.done (by kernel_rfl) ?_;try simp only[tz]
       clear D;go_wp2_with fail;go_meet;exact⟨ga,_,B,rfl,r,v,X,Q,I,C,O,A⟩
   case way22=>
     go_simp;obtain⟨Bb,B,F,G,H,hb⟩:=vZ Aj q;rw[F,G];have C:=zh H;have v:w2.heap.size<=B:=(by have:=A.size;omega)
     replace A:=zh (aA A hb);clear F G H hb;refine hK.out _ _ ((fun h=>⟨h.c0,h.c1,h.c2⟩) (J.on A)) ?_;clear hK K D;intro D;try simp only[tz]
     refine aG.only (i:=4) (o:=?op16) (by kernel_rfl) ?ho16 (fun K hK=>?_)
     case ho16=>(conv=>lhs;simp only[tdg,tdh,tdi])
     go_simp;obtain⟨Bt,y,F,G,H,hb⟩:=GH Bb;rw[F,G];have N:=zh (H.mono (B':=w2.heap.size) (by have:=A.size;omega));have O:Hid (∀g,(Value.slice (some ⟨y,0,none⟩) 0 0).ownBlock=some g->g≠B):=aD fun g hg=>(by have m:=C.lt;simp[Value.ownBlock] at hg;omega)
     replace C:=zh (C.belowS hb);replace A:=zh (aA A hb);clear F G H hb;refine hK.out _ _ ((fun h=>⟨h.c0,h.c1,h.c2⟩) (J.on A)) ?_;clear hK K D;intro D;try simp only[tz]
     refine aG.only (i:=7) (o:=?op18) (by kernel_rfl) ?ho18 (fun K hK=>?_)
     case ho18=>(conv=>lhs;simp only[tdg,tdh,tdi])
     refine oQ rfl _ _ rfl w2.heap.size _ _ rfl N.out _ Mod rfl ((d.below J.bel zr).below A zr) (by simp;omega) A.size ?_;intro Ai Bc L hg Y;rw[List.nil_append] at L;obtain⟨U,V,rfl⟩:=L.form';have δ:some B≠(Value.slice (some ⟨y,0,none⟩) 0 0).ownBlock:=fun e=>O.out B e.symm rfl;replace O:Hid (∀g,(Value.slice U Mod.length V).ownBlock=some g->g≠B):=aD (fun g W=>Y.elim (fun h=>O.out g (h▸W)) (fun h=>(by have Aq:=C.lt;rw[h] at W;have ω:=aZ0 W;omega)));replace C:=zh (C.grown hg δ);have I:=zh L;replace A:=zh (N.bgrown A A.size hg);clear L hg Y N δ;refine hK.out _ _ ((fun h=>⟨h.c0,h.c1,h.c2⟩) (J.on A)) ?_;clear hK K D;intro D;try simp only[tz]
     refine tq 8 ?_;refine tq 13 ?_;try simp only[tz]
     refine aG.only (i:=14) (o:=?op20) (by kernel_rfl) ?ho20 (fun K hK=>?_)
     case ho20=>(conv=>lhs;simp only[tdg,tdh,tdi])
     go_simp;obtain⟨Bu,ga,F,G,H,hb⟩:=bB Bc 149 [.int .i64 P,.int .i64 M,.slice U Mod.length V,.int .i64 (q:Int),.slice (some ⟨T,0,none⟩) (q-1) f,.slice (some ⟨B,0,none⟩) q q];rw[F,G];have Q:=zh H;have r:w2.heap.size<=ga:=(by have:=A.size;omega)
     have X:ga≠B:=(by have:=C.lt;omega)
     replace I:=zh (I.below hb zr);replace C:=zh (C.belowS hb);replace A:=zh (aA A hb);clear F G H hb;refine hK.out _ _ ((fun h=>⟨h.c0,h.c1,h.c2⟩) (J.on A)) ?_;clear hK K D;intro D;try simp only[tz]
     refine aG.only (i:=15) (by kernel_rfl) rfl (fun K hK=>?_);go_simp;refine hK.out _ _ D (fun z=>?_);clear hK K;clear z;refine aG.done (by kernel_rfl) ?_;try simp only[tz]
     clear D;go_wp2_with fail;go_meet;exact⟨ga,_,B,rfl,r,v,X,Q,I,C,O,A⟩
 case rest=>
   clear c0 c1 c2 As;obtain⟨ga,t,B,rfl,r,X,At,Q,I,C,O,A⟩:=hcut;have Bj:T≠B:=by omega
   have τ:=zh (ζ.below A zr);clear ζ;have Ar:w.heap.size<=w2.heap.size:=J.bel.size;go_wp2_with fail;go_loopw [39] (fun i wr=>∃k:Nat,k<=q-1/\i=.int .i64 (k:Int)/\Hid (Blk wr ga 149 [.int .i64 P,.int .i64 M,t,.int .i64 (q:Int),.slice (some ⟨T,0,none⟩) (q-1) f,.slice (some ⟨B,0,none⟩) q q])/\Hid (OI w2.heap.size wr t Mod)/\Hid (RI wr B (kR E q k))/\Hid (OI w.heap.size wr (.slice (some ⟨T,0,none⟩) (q-1) f) E)/\Hid (Below w2.heap.size w2 wr)) (fun i _=>(q-1-(intOf i).toNat))
   case atStart=>exact⟨0,aZ5 _,rfl,Q,I,C,τ,A⟩
   case round=>
     clear Q I C τ A;obtain⟨k,Ae,rfl,Q,I,C,κ,A⟩:=hrel;have g5:wr.cell? ⟨ga,5,none⟩=some (.slice (some ⟨B,0,none⟩) q q):=Q.cell 5;by_cases Af:k<q-1
     . have F:=κ.cell k (by rw[μ.out];exact Af);have Ag:=Am.out k Af;have ξ:Hid (kR E q (k+1)=(kR E q k).set (E.getD k 0).toNat (k:Int)):=rfl;generalize E.getD k 0=x at F Ag ξ;obtain⟨R,rfl⟩:∃R:Nat,x=(R:Int):=⟨x.toNat,by omega⟩
       obtain⟨Bn,Bo⟩:=Ag;have Ax:R<q:=by omega
       have Ay:=C.cell R (by rw[rV];exact Ax);have Bp:=C.frozen R;rw[aZ8] at ξ;have ψ:=zh (C.set R (k:Int));rw[<-ξ.out] at ψ;have An:=zh (Q.far (p:=⟨B,R,none⟩) At (.int .i64 (k:Int)));have Ak:=zh (I.grown (bF wr B R (.int .i64 (k:Int))) fun g hg e=>O.out g hg (aZ0 e).symm);have ζ:=zh (κ.grown (bF wr B R (.int .i64 (k:Int))) fun g hg e=>(by have m:B=g:=aZ0 e;have π:T=g:=aZ0 hg;omega));have Al:=zh (A.setCell (p:=⟨B,R,none⟩) X (.int .i64 (k:Int)));generalize (kR E q k).getD R 0=Bq at Ay;go_wp2_with fail;exact⟨⟨k+1,by omega,by push_cast;rfl,An,Ak,ψ,ζ,Al⟩,by simp only[intOf];omega⟩
     . obtain rfl:k=q-1:=by omega
       go_wp2_with fail;go_ret2;refine⟨ga,rfl,GF.sep (by omega) Q (I.mono Ar) (by omega) d.wfs κ C (by omega) ?_ φ ν,aA J.bel A⟩;exact η.out
end Go.Proofs.YtpfhoemohibniaaGreatDoor
