/- Texts of a claim, merged. -/
import Derived.Test.YtpfhoemohibniaaGreatDoorZA46
set_option maxRecDepth 100000
set_option maxHeartbeats 32000000
namespace Go.Proofs.YtpfhoemohibniaaGreatDoor
open Go.RowKit
def NoT(O:aO)(gen:LL)(n i W:Nat)(s z:List Nat):Prop:=∀T:List Nat,(∀j,j∈T->j<n/\j≠i/\j∉z)->(∀j,j∈s->j∈T)->T.length<=W->¬kF O gen i T
theorem N4{O:aO}{gen:LL}{n i W:Nat}{s z:List Nat}(h:¬kF O gen i s)(hn:s.Nodup)(C:s.length=W):NoT O gen n i W s z:=fun T _ A B hT=>by have:=NH hT h hn A;omega
theorem R7 {O : aO} {gen : LL} {n i W : Nat} {s z : List Nat} {x : LI} (K : aV O gen (fun j => x.getD j 0)) (E : x.getD i 0 ≠ 0)
   (h:∀k (D:k<(brN x [i] [] z n).length),NoT O gen n i W (s++[(brN x [i] [] z n)[k]]) (z++(brN x [i] [] z n).take k)):NoT O gen n i W s z:=fun T hT J F C=>by
 obtain⟨j,B,H⟩:=RD C K E;obtain⟨k,D,G,I⟩:=B9 (T:=T) (l:=brN x [i] [] z n) ⟨j,rN.2 ⟨(hT j B).1,H,by rw[List.mem_singleton];exact(hT j B).2.1,by simp,(hT j B).2.2⟩,B⟩;refine h k D T (fun t A=>⟨(hT t A).1,(hT t A).2.1,fun hm=>?_⟩) (fun t A=>?_) F C
 . rcases List.mem_append.1 hm with hm|hm
   . exact(hT t A).2.2 hm
   . exact I t hm A
 . rcases List.mem_append.1 A with A|A
   . exact J t A
   . rw[List.mem_singleton.1 A];exact G
structure tT(n i:Nat)(s z:List Nat):Prop where
 nd:s.Nodup
 sin:∀j,j∈s->j<n/\j≠i
 zlt:∀j,j∈z->j<n
 zd:z.Nodup
theorem BV(x:LI)(L A Z:List Nat)(n:Nat):(brN x L A Z n).Nodup:=List.Pairwise.filter _ List.nodup_range
theorem tT.next{n i:Nat}{s z:List Nat}{x:LI}(h:tT n i s z)(C:∀j,j∈s->x.getD j 0=0){k:Nat}(D:k<(brN x [i] [] z n).length):tT n i (s++[(brN x [i] [] z n)[k]]) (z++(brN x [i] [] z n).take k)/\uK i n (s++[(brN x [i] [] z n)[k]]) (z++(brN x [i] [] z n).take k)+k+1<=uK i n s z:=by
 have hm:=rN.1 (aY6 D);refine⟨⟨?_,fun j A=>?_,fun j A=>?_,List.nodup_append.2 ⟨h.zd,(BV _ _ _ _ _).sublist (List.take_sublist _ _),fun a B b hb e=>(rN.1 (List.mem_of_mem_take hb)).2.2.2.2 (e▸B)⟩⟩,FW (BV _ _ _ _ _) (fun j A=>?_) D⟩
 .rw[List.nodup_append];refine⟨h.nd,(List.nodup_cons.2 ⟨List.not_mem_nil,List.Pairwise.nil⟩),fun a B b hb e=>?_⟩;rw[List.mem_singleton.1 hb] at e;exact hm.2.1 (by rw[<-e];exact C a B)
 .rcases List.mem_append.1 A with A|A
  .exact h.sin j A
  .rw[List.mem_singleton.1 A];exact⟨hm.1,fun e=>hm.2.2.1 (List.mem_singleton.2 e)⟩
 .rcases List.mem_append.1 A with A|A
  .exact h.zlt j A
  .exact(rN.1 (List.mem_of_mem_take A)).1
 .have:=rN.1 A;exact⟨this.1,fun e=>this.2.2.1 (List.mem_singleton.2 e),fun E=>this.2.1 (C j E),this.2.2.2.2⟩
theorem tT.short{n i:Nat}{s z:List Nat}(h:tT n i s z):s.length<=n:=by have:=oJ (T:=List.range n) h.nd fun a A=>List.mem_range.2 (h.sin a A).1;rwa[List.length_range] at this
theorem tT.zshort{n i:Nat}{s z:List Nat}(h:tT n i s z):z.length<=n:=by have:=oJ (T:=List.range n) h.zd fun a A=>List.mem_range.2 (h.zlt a A);rwa[List.length_range] at this
structure tR(w:World)(hb:Nat)(P M:Int)(mv:Value)(n:Nat)(gv lv:Value)(W left:Nat)(tv:Value)(l:List (List Value)):Prop where
 blk:Blk w hb 56 [.int .i64 P,.int .i64 M,mv,.int .i64 (n:Int),gv,lv,.slice none 0 0,.int .i64 (W:Int),.int .i64 (left:Int),tv]
 tree:RO (hb+1) 22 1 w tv l
theorem tR.on{w w':World}{hb:Nat}{P M:Int}{mv:Value}{n:Nat}{gv lv:Value}{W left:Nat}{tv:Value}{l:List (List Value)}(h:tR w hb P M mv n gv lv W left tv l)(A:Below w.heap.size w w'):tR w' hb P M mv n gv lv W left tv l:=⟨h.blk.belowS A,h.tree.below A zr⟩
def WA(O:aO)(gen:LL)(n i W:Nat)(s z:List Nat)(base:Nat)(w:World)(u:Value)(b:Bool):Prop:=
 (b=false/\u=.slice none 0 0/\NoT O gen n i W s z)\/
 (b=true/\∃(A:Addr) (c:Nat) (F:List Nat),u=.slice (some A) F.length c/\OI base w u (zl F)/\F.Nodup/\(∀j,j∈F->j<n/\j≠i)/\F.length<=W/\kF O gen i F)
structure lF(wA w0:World)(hb:Nat)(P M:Int)(mv:Value)(n:Nat)(gv lv:Value)(W:Nat)(s z:List Nat)(sv zv tv0:Value)(left:Nat)(tv:Value)(l:List (List Value))(w:World):Prop where
 box:tR w hb P M mv n gv lv W left tv l
 s:OI (hb+1) w sv (zl s)
 z:OI (hb+1) w zv (zl z)
 two:Two w0 w hb tv0.ownBlock
 bel:Below wA.heap.size wA w
 own:tv.ownBlock=tv0.ownBlock\/∃g,tv.ownBlock=some g/\w0.heap.size<=g
section
variable {wA w0 w w':World} {hb:Nat} {P M:Int} {mv:Value} {n:Nat} {gv lv:Value} {W:Nat} {s z:List Nat} {sv zv tv0:Value} {left:Nat} {tv:Value} {l:List (List Value)}
theorem lF.on(h:lF wA w0 hb P M mv n gv lv W s z sv zv tv0 left tv l w)(A:Below w.heap.size w w'):lF wA w0 hb P M mv n gv lv W s z sv zv tv0 left tv l w':=
 ⟨h.box.on A,h.s.below A zr,h.z.below A zr,h.two.grown (aN A none) (fun g hg=>by cases hg),aA h.bel A,h.own⟩
theorem OI.ne_at{B:Nat}{w:World}{v:Value}{xs:LI}(h:OI (B+1) w v xs):∀g,v.ownBlock=some g->some B≠some g:=fun g hg e=>by
 injection e with e
 have:=(h.lt hg).1;omega
theorem lF.set8(h:lF wA w0 hb P M mv n gv lv W s z sv zv tv0 left tv l w)(hA:wA.heap.size<=hb)(k:Nat):lF wA w0 hb P M mv n gv lv W s z sv zv tv0 k tv l (w.setCell ⟨hb,8,none⟩ (.int .i64 (k:Int))):=by
 have hg:w.grownBy (w.setCell ⟨hb,8,none⟩ (.int .i64 (k:Int))) (some hb):=aP (World.grownBy.refl _ _) (.inl rfl) _;refine⟨⟨h.box.blk.set_ 8 _,h.box.tree.grown hg fun g A e=>?_⟩,h.s.grown hg h.s.ne_at,h.z.grown hg h.z.ne_at,h.two.grown hg fun g e _=>.inl (by injection e with e;exact e.symm),?_,h.own⟩
 .injection e with e
  have:=(h.box.tree.lt A).1;omega
 .exact h.bel.grown hg h.bel.size fun g e=>by injection e with e;omega
theorem lF.push(h:lF wA w0 hb P M mv n gv lv W s z sv zv tv0 left tv l w)(hA:wA.heap.size<=hb){u B:Value}{E:World}{K:List (List Value)}(I:RO (hb+1) 22 1 E B K)(hg:(w.alloc (.cells #[u] 22)).grownBy E tv.ownBlock)(D:B.ownBlock=tv.ownBlock\/B.ownBlock=some (w.alloc (.cells #[u] 22)).heap.size):
  lF wA w0 hb P M mv n gv lv W s z sv zv tv0 left B K (E.setCell ⟨hb,9,none⟩ B):=by
 have A:=h.on (aF w (.cells #[u] 22));have N:=A.two.size;generalize w.alloc (.cells #[u] 22)=R at*;have J:∀g,tv.ownBlock=some g->hb+1<=g:=fun g D=>(A.box.tree.lt D).1;have C:E.grownBy (E.setCell ⟨hb,9,none⟩ B) (some hb):=aP (World.grownBy.refl _ _) (.inl rfl) _;have F:∀{x:Value} {xs:LI},OI (hb+1) R x xs->∀g,x.ownBlock=some g->tv.ownBlock≠some g:=fun Q g L O=>A.box.tree.ne_oi Q (by decide) g O L;have T:=A.box.blk.lt;refine⟨⟨(A.box.blk.grown hg fun e=>by have:=J _ e.symm;omega).set_ 9 B,I.grown C fun g D e=>?_⟩,(A.s.grown hg (F A.s)).grown C (A.s.grown hg (F A.s)).ne_at,(A.z.grown hg (F A.z)).grown C (A.z.grown hg (F A.z)).ne_at,(A.two.grown hg fun g e U=>?_).grown C fun g e _=>.inl (by injection e with e;exact e.symm),?_,?_⟩
 .injection e with e
  have:=(I.lt D).1;omega
 .rcases A.own with G|⟨S,G,C⟩
  .exact .inr (G▸e)
  .rw[G] at e;injection e with e;omega
 .have H:=A.bel.grown hg A.bel.size fun g e=>by have:=J g e;omega
  exact H.grown C H.size fun g e=>by injection e with e;omega
 .rcases D with e|e
  .rw[e];exact A.own
  .exact .inr ⟨_,e,N⟩
theorem OI.twoT{x:Value}{xs:LI}(h:OI (hb+1) w x xs)(B:Two w w' hb tv.ownBlock)(A:RO (hb+1) 22 1 w tv l):OI (hb+1) w' x xs:=
 h.keep fun g hg=>B.block g (h.lt hg).2 (fun e=>by have:=(h.lt hg).1;omega) (fun e=>A.ne_oi h (by decide) g e.symm hg)
theorem lF.child(h:lF wA w0 hb P M mv n gv lv W s z sv zv tv0 left tv l w)(hA:wA.heap.size<=hb){D:Nat}{B:Value}{l':List (List Value)}(G:tR w' hb P M mv n gv lv W D B l')(A:Two w w' hb tv.ownBlock)(E:B.ownBlock=tv.ownBlock\/∃g,B.ownBlock=some g/\w.heap.size<=g):
  lF wA w0 hb P M mv n gv lv W s z sv zv tv0 D B l' w':=by
 have K:=h.two.size;have F:=h.bel.size;refine⟨G,h.s.twoT A h.box.tree,h.z.twoT A h.box.tree,h.two.trans A fun g e J=>?_,A.below h.bel hA F fun g e=>by have:=(h.box.tree.lt e).1;omega,?_⟩
 .rcases h.own with C|⟨H,C,I⟩
  .rw[<-C];exact e
  .rw[C] at e;injection e with e;omega
 .rcases E with e|⟨g,e,hg⟩
  .rw[e];exact h.own
  .exact .inr ⟨g,e,by omega⟩
end
structure PQ(wA:World)(hb:Nat)(P M:Int)(mv:Value)(n i q:Nat)(gv lv:Value)(Mod:LI)(gen:LL)(p:LI):Prop where
 m:SI wA mv Mod
 g:SS wA gv gen
 l:SI wA lv (zl [i])
 code:fH P M Mod n gen p
 i:i<n
 n7:n<=7
 le:wA.heap.size<=hb
def E3(O:aO)(gen:LL)(P M:Int)(mv:Value)(n i:Nat)(gv lv:Value)(W:Nat)(s z:List Nat)(hb f left:Nat)(tv:Value)(l:List (List Value))(w:World)(e:Ending)(w':World):Prop:=
 ∃(u:Value) (b:Bool) (A:Nat) (B:Value) (l':List (List Value)),e=.returned (.tuple #[u,.bool b])/\WA O gen n i W s z (hb+1) w' u b/\tR w' hb P M mv n gv lv W A B l'/\left<=A+2^f/\l'.length+A<=l.length+left/\Two w w' hb tv.ownBlock/\(B.ownBlock=tv.ownBlock\/∃g,B.ownBlock=some g/\w.heap.size<=g)
def PT(wA:World)(hb:Nat)(P M:Int)(mv:Value)(n i:Nat)(gv lv:Value)(Mod:LI)(gen:LL)(W f:Nat):Prop:=
 ∀(w:World) (s z:List Nat) (sv zv tv:Value) (l:List (List Value)) (left:Nat),OI (hb+1) w sv (zl s)->OI (hb+1) w zv (zl z)->tT n i s z->uK i n s z<=f->s.length<=W->2^f<left->left+l.length<=5000->tR w hb P M mv n gv lv W left tv l->Below wA.heap.size wA w->
  Calls Tryz.prog 22 #[.pointer (some ⟨hb,0,none⟩),sv,zv] w (E3 (aB P M Mod) gen P M mv n i gv lv W s z hb f left tv l w)
theorem V9(S:List Nat)(k:Nat):zl (S.take k)=(zl S).take k:=by simp[zl,List.map_take]
theorem Tryz.infoOI:(Tryz.prog.info? 22).map (fun i=>(i.zero,i.size,i.bytes))=some (some (.slice none 0 0),1,24):=by kernel_rfl
theorem J7(wA:World)(hb:Nat)(P M:Int)(mv:Value)(n i q:Nat)(gv lv:Value)(Mod:LI)(gen:LL)(p:LI)(W:Nat)(I:PQ wA hb P M mv n i q gv lv Mod gen p)(f:Nat)(w:World)(s z:List Nat)(sv zv tv:Value)(l:List (List Value))(left:Nat)
   (Bl:OI (hb+1) w sv (zl s))(Bq:OI (hb+1) w zv (zl z))(hn:tT n i s z)(Cz:uK i n s z<=f)(Fu:s.length<=W)(Gu:W<=7)(Hc:2^f<left)(Hb:left+l.length<=5000)(Bj:tR w hb P M mv n gv lv W left tv l)(Cx:Below wA.heap.size wA w)(Dk:∀G,G<f->PT wA hb P M mv n i gv lv Mod gen W G):
   Calls Tryz.prog 22 #[.pointer (some ⟨hb,0,none⟩),sv,zv] w (E3 (aB P M Mod) gen P M mv n i gv lv W s z hb f left tv l w):=by
 have Z:Hid (lF wA w hb P M mv n gv lv W s z sv zv tv left tv l w):=aD ⟨Bj,Bl,Bq,Two.refl w hb _,Cx,.inl rfl⟩;have Cp:Hid (z.length<=17592186044416):=aD (by have:=hn.zshort;have:=I.n7;omega);have Fa:=zh Dk;clear Dk;have N:=zh hn;have Dt:=zh Cz;have D:=zh I;have Ha:1<=left:=by have:=aZ5 (2^f);omega
 have Er:=zh (fun(w':World) (u:Value) (v:Below wA.heap.size wA w') (ε:SI w' u (zl s))=>LY w' P M n i mv gv lv u Mod gen p s (I.m.below v zr) (I.g.below v zr) I.code I.i (I.l.below v zr) ε (fun j E=>(hn.sin j E).1));have Ck:Hid (∀w',lF wA w hb P M mv n gv lv W s z sv zv tv (left-1) tv l w'->SI w' sv (zl s)):=aD fun w' h=>h.s.si (by rw[aY];have:=hn.short;have:=I.n7;omega) (fG (n:=n) (by have:=I.n7;omega) fun j E=>(hn.sin j E).1);obtain⟨τ,Aj,rfl,_⟩:=I.g;obtain⟨ζ,κ,rfl,_⟩:=I.l;obtain⟨Ay,Bs,rfl⟩:=Bl.form';obtain⟨Ad,An,rfl⟩:=Bq.form';generalize gen.length=Ak at*;generalize (zl [i]).length=μ at*;obtain⟨Ae,Af,Ag,Ah,Ai,U,π,Az,Fb,Ba,Fg,Fh,Fi,Fj,Fk,Fl,Fm,Fo,Fp,Fq⟩:=Bj.blk.ten;have Gc:((left:Int)==0)=false:=by rw[beq_eq_false_iff_ne];omega
 have Gd:(left:Int)-1=((left-1:Nat):Int):=by omega
 have Ge:wrap64 ((left-1:Nat):Int)=((left-1:Nat):Int):=by unfold wrap64;omega
 clear Bl Bq hn Cz I Bj Cx;go_enter Tryz.func22,Tryz.ntmps22;go_upto_region 4 with fail;replace Z:=zh (Z.set8 D.le (left-1));generalize w.setCell ⟨hb,8,none⟩ (.int .i64 ((left-1:Nat):Int))=w1 at*;clear Ae Af Ag Ah Ai U π Az Fb Ba Fg Fh Fi Fj Fk Fl Fm Fo Fp Fq Gc Gd Ge;obtain⟨Ae,Af,Ag,Ah,Ai,U,_,_,_,_,_⟩:=Z.box.blk.ten;refine aG.start (S:=fun w'=>w'.cell? ⟨hb,0,none⟩=some (.int .i64 P)/\w'.cell? ⟨hb,1,none⟩=some (.int .i64 M)/\w'.cell? ⟨hb,2,none⟩=some mv/\w'.cell? ⟨hb,3,none⟩=some (.int .i64 (n:Int))/\w'.cell? ⟨hb,4,none⟩=some (.slice τ Ak Aj)/\w'.cell? ⟨hb,5,none⟩=some (.slice ζ μ κ)) (by kernel_rfl) (⟨Ae,Af,Ag,Ah,Ai,U⟩) (fun A=>?_);change aG _ _ _ _ 11 _ _ _;refine tq 0 ?_;refine tq 1 ?_;refine tq 2 ?_;refine tq 3 ?_;refine tq 4 ?_;refine tq 5 ?_;refine tq 6 ?_;refine tq 7 ?_;refine tq 8 ?_;try simp only[tz]
 refine aG.only (i:=9) (by kernel_rfl) rfl (fun K hK=>?_);go_simp;have Ar:=zh (Z.on (aH w1));refine(Er _ _ Ar.bel (Ck _ Ar)).mono ?_;rintro e w2 ⟨u,rfl,ε,V⟩;have O:=zh (Ar.on V);have Ax:=zh ε;obtain⟨Bb,Bc,Bd,Be,Bf,θ,_,_,_,_,_⟩:=O.box.blk.ten;clear ε V;refine hK.out _ _ (⟨Bb,Bc,Bd,Be,Bf,θ⟩) ?_;clear hK K A;intro A;try simp only[tz]
 refine aG.only (i:=10) (by kernel_rfl) rfl (fun K hK=>?_);go_simp;refine hK.out _ _ A (fun ρ=>?_);clear hK K;clear ρ;refine aG.done (by kernel_rfl) ?_;try simp only[tz]
 clear A;clear Ae Af Ag Ah Ai U;have Hi:1<=2^f:=Nat.one_le_two_pow;rcases Ax.out with⟨rfl,Dg⟩|⟨r,c,x,rfl,Bn,Gh,Bm,Bo,Bp⟩
 . have Ef := zh Dg;have Hl := fun w => xV w;have Cf := zh (OI.empty (B := w2.heap.size) w2 zr);have χ := zh (aF w2 (.cells #[] 3));have Eh := zh ((Ck _ O).below χ zr);have Ep : Hid (hb + 1 <= w2.heap.size) := aD O.box.blk.lt;have Dw := zh (show (zl s).length <= 100 by rw [aY]; have := N.short; have := D.n7; omega);clear Dg Ax Bb Bc Bd Be Bf θ;go_wp2_with (
     at_builtin;refine dW rfl _ _ rfl w2.heap.size (.slice (some ⟨w2.heap.size,0,none⟩) 0 0) [] rfl Cf.out _ (zl s) rfl Eh.out (by have:=Dw.out;rw[List.length_nil];omega) χ.size ?_;intro Dn Do X δ ι;rw[List.nil_append] at X;have At:=zh X;have φ:=zh (Cf.bgrown χ χ.size δ);have Eo:=zh ι;clear X δ ι)
   go_ret2;have Q:=O.on φ.out;refine⟨Dn,true,left-1,tv,l,rfl,.inr ⟨rfl,?_⟩,Q.box,by omega,by omega,Q.two,.inl rfl⟩;obtain⟨Dp,Ba,Fe⟩:=At.form';subst Fe;cases Dp with
   |none=>rcases Eo.out with e|e<;>simp[Value.ownBlock] at e
   |some a9=>rw[aY] at At|-;exact⟨a9,Ba,s,rfl,At.mono Ep,N.nd,N.sin,Fu,Ef.out⟩
 . have Eg := zh Bm; have Et := zh Bo; have Ev := zh Bp; have Co := zh Gh;have Hm := xW r n c;have Eb : Hid (¬ kF (aB P M Mod) gen i s) := aD fun h => Bo (h _ Bm Bp);have Es := zh Bn;obtain ⟨_, _, _, _, _, _, _, _, _, Fc, _, _, _, _, _, _, _, _, _, Fs⟩ := O.box.blk.ten;have Ci := zh (O.box.tree.alloc (.cells #[.slice (some r) n c] 22));have T := zh (Blk.new w2 22 [.slice (some r) n c]);have Cm := zh (Bn.on (aF w2 (.cells #[.slice (some r) n c] 22)));have Em : Hid (∀ g, tv.ownBlock = some g -> g < w1.heap.size) := aD fun g e => (Z.box.tree.lt e).2;have Du : Hid (hb < w1.heap.size) := aD Z.box.blk.lt;have En : Hid (hb + 1 <= (w2.alloc (.cells #[.slice (some r) n c] 22)).heap.size) := aD (by have := O.box.blk.lt; rw [World.size_alloc]; omega);have Bu : Hid (Blk (w2.alloc (.cells #[.slice (some r) n c] 22)) hb 56 [.int .i64 P, .int .i64 M, mv, .int .i64 (n : Int), .slice τ Ak Aj, .slice ζ μ κ, .slice none 0 0, .int .i64 (W : Int), .int .i64 ((left - 1 : Nat) : Int), tv]) := aD (O.box.blk.alloc _);have Dh : ∀ g, tv.ownBlock = some g -> hb + 1 <= g := fun g Gg => (O.box.tree.lt Gg).1;have Ek := zh Dh;clear Bn Bm Bo Bp Ax Bb Bc Bd Be Bf θ Dh;go_upto_region 8 with (
     at_builtin;refine fE rfl 22 25 1 24 _ Tryz.underlying25 Tryz.infoOI rfl (by decide) (by decide) _ _ rfl (hb+1) tv l rfl Ci.out w2.heap.size 1 [.slice (some r) n c] rfl rfl (fun j u E=>(by rcases j with _|j;(simp at E;subst E;exact T.cell 0);(simp at E))) (by intro u ε;simp at ε;subst ε;rfl) (by omega) En.out ?_;intro Dn Do X δ ι;obtain⟨Cq,Dl,rfl⟩:=X.form';rw[aZ1,aZ2] at X ι|-;have Q:=zh (O.push D.le X δ ι);have Eu:=zh ((Cm.grown δ fun g e=>Em.out g e).setCell (a:=⟨hb,9,none⟩) Du (.slice Cq (l.length+1) Dl));have φ:=zh (Bu.grown δ fun e=>by have:=Ek.out _ e.symm;omega);obtain⟨_,_,_,_,_,_,_,_,_,Gj,_,_,_,_,_,_,_,_,_,Gk⟩:=φ.ten;clear X ι δ)
   generalize Do.setCell ⟨hb,9,none⟩ (.slice Cq (l.length+1) Dl)=ξ at*;clear Gj Gk Fc Fs φ Bu Ci T Cm Es Z O;obtain⟨_,_,_,_,_,U,π,Az,_,_,_,_,_,_,_,_,_,_,_,_⟩:=Q.box.blk.ten;by_cases Df:s.length=W
   . have Gf:(((zl s).length:Int)==(W:Int))=true:=by rw[beq_iff_eq,aY,Df]
     have As:=zh (N4 (n:=n) (z:=z) Eb N.nd Df);go_wp2_with fail;go_ret2;exact⟨_,false,left-1,_,_,rfl,.inl ⟨rfl,rfl,As.out⟩,Q.box,by omega,by rw[aZ1,aZ2];omega,Q.two,Q.own⟩
   . have Gf:(((zl s).length:Int)==(W:Int))=false:=by rw[beq_eq_false_iff_ne,aY];omega
     have Ey:Hid (SI ξ (.slice Ad (zl z).length An) (zl z)):=aD (Q.z.si (by rw[aY];exact Cp.out) (fG (n:=n) (by have:=D.n7;omega) N.zlt));have Dx:Hid (SI ξ (.slice ζ μ κ) (zl [i])):=aD (D.l.below Q.bel zr);have Bx:=zh (fun(w':World) (v:Below ξ.heap.size ξ w')=>OO w' _ _ (.slice none 0 0) _ x [i] [] z (Eu.out.out.below v zr) (Dx.below v zr) (SI.none_ w') (Ey.below v zr) (by have:=D.n7;have:=Co.out;omega));rw[Co.out] at Bx;go_upto_region 10 with fail;refine aG.start (S:=fun w'=>w'.cell? ⟨hb,5,none⟩=some (.slice ζ μ κ)/\w'.cell? ⟨hb,6,none⟩=some (.slice none 0 0)) (by kernel_rfl) (⟨U,π⟩) (fun A=>?_);change aG _ _ _ _ 12 _ _ _;refine tq 0 ?_;refine tq 1 ?_;refine tq 2 ?_;refine tq 3 ?_;refine tq 4 ?_;refine tq 5 ?_;refine tq 6 ?_;refine tq 7 ?_;refine tq 8 ?_;refine tq 9 ?_;try simp only[tz]
     refine aG.only (i:=10) (by kernel_rfl) rfl (fun K hK=>?_);go_simp;refine(Bx _ (aH ξ)).mono ?_;rintro e Hp ⟨u,rfl,Db,Cy⟩;have Ao:=zh (aA (aH ξ) Cy);have Ab:=zh Db;have θ:=aE Ao.out U;have Cs:=aE Ao.out π;clear Db Cy;refine hK.out _ _ (⟨θ,Cs⟩) ?_;clear hK K A;intro A;try simp only[tz]
     refine aG.only (i:=11) (by kernel_rfl) rfl (fun K hK=>?_);go_simp;refine hK.out _ _ A (fun ρ=>?_);clear hK K;clear ρ;refine aG.done (by kernel_rfl) ?_;try simp only[tz]
     clear A;clear U π Az θ Cs;have Ec:=zh (fun(k:Nat) (Da:k<(brN x [i] [] z n).length)=>N.next Ev Da);have Dy:=zh (fun h=>R7 (n:=n) (W:=W) (s:=s) (z:=z) Eg Et.out h);have ψ:=zh (K1 x [i] [] z n);have Bv:Hid (∀j,j∈brN x [i] [] z n->j<n):=aD fun j E=>(rN.1 E).1;generalize brN x [i] [] z n=C at*;obtain⟨Bt,η,Ff⟩:=Ab.form';subst Ff;rw[aY C] at Ab|-;have Ea:=zh (Q.on Ao);have Bw:=zh (Ab.mono (show hb+1<=_ from Q.box.blk.lt));obtain⟨m,hm⟩:∃m,m=C.length:=⟨_,rfl⟩
     have ω:=zh hm;rw[<-hm] at Bw ψ|-;clear hm Ab;obtain⟨F,Bg⟩:∃F,F=uK i n s z:=⟨_,rfl⟩
     have Ca:=zh Bg;have Cw:F<=f:=by rw[Bg];exact Dt.out
     clear Bg;go_wp2_with fail;go_loopw [71] (fun Br wr=>∃(k L:Nat) (Dm:Value) (l':List (List Value)),k<=m/\Br=.int .i64 (k:Int)/\Hid (lF wA w hb P M mv n (.slice τ Ak Aj) (.slice ζ μ κ) W s z (.slice Ay (zl s).length Bs) (.slice Ad (zl z).length An) tv L Dm l' wr)/\Hid (OI (hb+1) wr (.slice Bt m η) (zl C))/\Hid (∀t (J:t<C.length),t<k->NoT (aB P M Mod) gen n i W (s++[C[t]]) (z++C.take t))/\Hid (left-1+2^(F-k)<=L+2^F/\l'.length+L<=l.length+left)) (fun Br _=>m-(intOf Br).toNat)
     case atStart=>exact⟨0,left-1,_,_,aZ5 _,rfl,Ea,Bw,aD (fun t _ h=>absurd h (aY5 _)),aD ⟨by rw[Nat.sub_zero];exact Nat.le_refl _,by rw[aZ1,aZ2];omega⟩⟩
     case round=>
       obtain⟨k,L,Dm,l',Da,rfl,d,By,Cl,Ch⟩:=hrel;by_cases Gb:k<m
       . have σ:k<C.length:=by rw[<-ω.out];exact Gb
         have Dz:Hid (m<=17592186044416):=aD (by have:=ψ.out;have:=D.n7;omega);have Aq:Hid (SI wr (.slice Bt m η) (zl C)):=aD (by have h:=By.si (by rw[aY,<-ω.out];exact Dz.out) (fG (n:=n) (by have:=D.n7;omega) Bv);exact h);have Ei:Hid (SI wr (.slice Ay (zl s).length Bs) (zl s)):=aD (d.s.si (by rw[aY];have:=N.short;have:=D.n7;omega) (fG (n:=n) (by have:=D.n7;omega) fun j E=>(N.sin j E).1));have Ez:Hid (SI wr (.slice Ad (zl z).length An) (zl z)):=aD (d.z.si (by rw[aY];exact Cp.out) (fG (n:=n) (by have:=D.n7;omega) N.zlt));obtain⟨Cr,y,rfl,Gw,Hk,Ew⟩:=Aq.elt (k:=k) (by rw[aY];exact σ);have Gv:m<=η:=by
           obtain⟨_,_,e,h⟩:=Aq.out;injection e with _ _ e3;rw[e3,ω.out,<-aY C];exact h.cap
         have Gz:k<=η:=by omega
         have Gy:k<1000:=by have:=ψ.out;have:=D.n7;omega
         obtain⟨j,E⟩:∃j,j=C[k]:=⟨_,rfl⟩
         have Cd:=zh E;have Gi:y=(j:Int):=by rw[<-Ew.out,gJ σ,E];simp[List.getD,σ]
         subst Gi;have Al:=Ec.out k σ;rw[<-E] at Al;clear E;have Ds:=zh Al.1;have Fw:=Al.2;have Ga:j<n:=by rw[Cd.out];exact Bv.out _ (aY6 σ)
         have Bz:Hid (uK i n (s++[j]) (z++C.take k)<=F-k-1):=aD (by rw[Ca.out];omega);have Gt:k+1<=F:=by rw[Ca.out];omega
         clear Al Fw;have Cc:=zh (Fa (F-k-1) (by omega));obtain⟨G,Fz⟩:∃G,G=F-k-1:=⟨_,rfl⟩
         rw[<-Fz] at Cc Bz;have Ft:2^(F-k)=2^G+2^G:=by
           have e:F-k=G+1:=by omega
           rw[e,Nat.pow_succ];omega
         have Gr:=Nat.pow_le_pow_right (show 0<2 by decide) Cw;have Gs:=Nat.one_le_two_pow (n:=G);have Au:=Ch.out;rw[Ft] at Au;have Fx:2^G<L:=by omega
         have Fy:(s++[j]).length<=W:=by rw[aZ1,aZ2];omega
         have Fv:L+l'.length<=5000:=by omega
         have Dq:=zh (bE wr);have Ej:Hid (SI wr (.slice (some Cr) k η) (zl (C.take k))):=aD (by have:=Aq.takev (i:=k) (by omega);rwa[<-V9] at this);have Cb:Hid (hb+1<=wr.heap.size):=aD d.box.blk.lt;have Gx:I64 (j:Int):=I64.of_small (by omega) (by have:=D.n7;omega);have Dv:Hid (∀t,I64 ((zl [j]).getD t 0)):=aD (fG (n:=n) (by have:=D.n7;omega) fun t J=>by rw[List.mem_singleton.1 J];exact Ga);have Ce:Hid (s.length+[j].length<=1000/\z.length+(C.take k).length<=1000):=aD ⟨by have:=N.short;have:=D.n7;simp;omega,by have:=N.zshort;have:=D.n7;have:=ψ.out;rw[aY3];omega⟩;have Ed:=zh (show left-1+(2^G+2^G)<=L+2^F/\l'.length+L<=l.length+left from Au);clear Au;go_upto_region 14 with fail;go_cut [12,13,71] from 71 to 92 (fun Gl Gm Gn wc=>∃(u:Value) (b:Bool) (R:Nat) (ν:Value) (Y:List (List Value)),Gl=u/\Gm=.bool b/\Gn=.int .i64 (k:Int)/\Hid (WA (aB P M Mod) gen n i W (s++[j]) (z++C.take k) (hb+1) wc u b)/\Hid (lF wA w hb P M mv n (.slice τ Ak Aj) (.slice ζ μ κ) W s z (.slice Ay (zl s).length Bs) (.slice Ad (zl z).length An) tv R ν Y wc)/\Hid (OI (hb+1) wc (.slice (some Cr) m η) (zl C))/\Hid (L<=R+2^G/\Y.length+R<=l'.length+L))
         case first=>
           refine aG.start (S:=fun _=>True) (by kernel_rfl) (trivial) (fun A=>?_);change aG _ _ _ _ 16 _ _ _;have Bi:=aH wr;generalize wr.drew=Gp at Bi A|-;have H:=zh Bi;clear Dq;clear Bi;refine tq 0 ?_;refine tq 1 ?_;refine tq 2 ?_;refine tq 5 ?_;refine tq 6 ?_;refine tq 7 ?_;refine tq 8 ?_;try simp only[tz]
           refine aG.only (i:=3) (o:=?op2) (by kernel_rfl) ?Am (fun K hK=>?_)
           case Am=>(conv=>lhs;simp only[tdg,tdh,tdi])
           go_simp;obtain⟨Gq,Fr,Ct,Cu,Cv,V⟩:=bB Gp 3 [.int .i64 (j:Int)];rw[Ct,Cu];replace H:=zh (aA H V);have Cj:Hid (SI Gq (.slice (some ⟨Fr,0,none⟩) 1 1) (zl [j])):=aD (RI.si (xs:=zl [j]) Cv (by simp[zl]) Dv);clear Ct Cu Cv V;refine hK.out _ _ (trivial) ?_;clear hK K A;intro A;try simp only[tz]
           refine aG.only (i:=4) (o:=?op4) (by kernel_rfl) ?ho4 (fun K hK=>?_)
           case ho4=>(conv=>lhs;simp only[tdg,tdh,tdi])
           go_simp;refine(DC _ _ _ s [j] (Ei.below H zr) Cj Ce.1).mono ?_;rintro e Hq ⟨Hn,rfl,Am,V⟩;have Aw:=zh (Am.mono (show hb+1<=_ from aZ6 Cb H.size));replace H:=zh (aA H V);clear Am V Cj;refine hK.out _ _ (trivial) ?_;clear hK K A;intro A;try simp only[tz]
           refine aG.only (i:=9) (o:=?op6) (by kernel_rfl) ?ho6 (fun K hK=>?_)
           case ho6=>(conv=>lhs;simp only[tdg,tdh,tdi])
           go_simp;refine(DC _ _ _ z (C.take k) (Ez.below H zr) (Ej.below H zr) Ce.2).mono ?_;rintro e Hr ⟨Ho,rfl,Dc,Bh⟩;replace Aw:=zh (Aw.below Bh zr);have Ex:=zh (Dc.mono (show hb+1<=_ from aZ6 Cb H.size));replace H:=zh (aA H Bh);clear Dc Bh;refine hK.out _ _ (trivial) ?_;clear hK K A;intro A;try simp only[tz]
           refine aG.only (i:=10) (o:=?op8) (by kernel_rfl) ?ho8 (fun K hK=>?_)
           case ho8=>(conv=>lhs;simp only[tdg,tdh,tdi])
           go_simp;have Aa:=zh (d.on H);have Dr:=zh (By.below H zr);refine(Cc _ (s++[j]) (z++C.take k) _ _ _ l' L Aw Ex Ds Bz Fy Fx Fv Aa.box Aa.bel).mono ?_;rintro e Hs ⟨u,b,R,ν,Y,rfl,De,Dj,Dd,Bk,J,Di⟩;have Ac:=zh De;have T:=zh (Aa.child D.le Dj J Di);have Ap:=zh (Dr.twoT J Aa.box.tree);have Av:=zh (And.intro Dd Bk);clear De Dj Dd Bk J Di;refine hK.out _ _ (trivial) ?_;clear hK K A;intro A;try simp only[tz]
           refine tq 11 ?_;refine tq 12 ?_;refine tq 13 ?_;refine tq 14 ?_;try simp only[tz]
           refine aG.only (i:=15) (by kernel_rfl) rfl (fun K hK=>?_);go_simp;refine hK.out _ _ A (fun ρ=>?_);clear hK K;clear ρ;refine aG.done (by kernel_rfl) ?_;try simp only[tz]
           clear A;go_wp2_with fail;go_meet;exact⟨u,b,R,ν,Y,rfl,rfl,rfl,Ac,T,Ap,Av⟩
         case rest=>
           obtain⟨u,b,R,ν,Y,rfl,rfl,rfl,Ac,T,Ap,Av⟩:=hcut;have Bk:=Ed.out;have Hj:=Av.out;have Hh:=Nat.one_le_two_pow (n:=F);cases b with
           |true=>
             go_wp2_with fail;go_ret2;refine⟨_,true,R,ν,Y,rfl,?_,T.box,by omega,by omega,T.two,T.own⟩;rcases Ac.out with⟨e,_⟩|h
             . cases e
             . exact .inr h
           |false=>
             have El:Hid (∀t (J:t<C.length),t<k+1->NoT (aB P M Mod) gen n i W (s++[C[t]]) (z++C.take t)):=aD fun t J He=>by
               by_cases e:t=k
               . subst e;rcases Ac.out with⟨_,_,h⟩|⟨e,_⟩
                 . rw[Cd.out] at h;exact h
                 . cases e
               . exact Cl.out t J (by omega)
             have Ee:Hid (left-1+2^(F-(k+1))<=R+2^F/\Y.length+R<=l.length+left):=aD (by
               have e:F-(k+1)=G:=by omega
               rw[e];omega)
             go_wp2_with fail;exact⟨⟨k+1,R,ν,Y,by omega,by push_cast;rfl,T,Ap,El,Ee⟩,by simp only[intOf];omega⟩
       . obtain rfl:m=k:=by omega
         have As:=zh (Dy fun t J=>Cl.out t J (by rw[ω.out];exact J));have Hf:=Nat.one_le_two_pow (n:=F-m);have Hg:=Nat.pow_le_pow_right (show 0<2 by decide) Cw;have hq:=Ch.out;go_wp2_with fail;go_ret2;exact⟨_,false,L,_,_,rfl,.inl ⟨rfl,rfl,As.out⟩,d.box,by omega,by omega,d.two,d.own⟩
end Go.Proofs.YtpfhoemohibniaaGreatDoor
