/- Parts. -/
import Derived.Test.YtnpfliklhbkonaaGreatDoorZA26
import Derived.Test.YtnpfliklhbkonaaGreatDoorZA33
set_option maxRecDepth 99999
set_option maxHeartbeats 0
namespace Go.Proofs.YtnpfliklhbkonaaGreatDoor
open Go.Proofs.Tryz
section
open Go.RowKit
def lZ(U:List Nat)(b:Bool)(i:Nat):List Nat:=(List.range i).filter fun j=>U.contains j==b
def ER(U:List Nat)(n:Nat):List Nat:=lZ U false n++lZ U true n
theorem FX(U:List Nat)(b:Bool):lZ U b 0=[]:=rfl
theorem XX{U:List Nat}{b:Bool}{i:Nat}(h:(U.contains i==b)=true):lZ U b (i+1)=lZ U b i++[i]:=by unfold lZ;rw[List.range_succ,List.filter_append];simp only[List.filter_cons,h,if_true,List.filter_nil]
theorem ed{U:List Nat}{b:Bool}{i:Nat}(h:(U.contains i==b)=false):lZ U b (i+1)=lZ U b i:=by unfold lZ;rw[List.range_succ,List.filter_append];simp only[List.filter_cons,h,Bool.false_eq_true,if_false,List.filter_nil,List.append_nil]
theorem yQ(U:List Nat)(b:Bool)(i:Nat):(lZ U b i).length<=i:=by have:=List.length_filter_le (fun j=>U.contains j==b) (List.range i);rwa[List.length_range] at this
theorem PG{U:List Nat}{b:Bool}{n i:Nat}(h:i∈lZ U b n):i<n:=by unfold lZ at h;rw[List.mem_filter,List.mem_range] at h;exact h.1
theorem DJ(U:List Nat)(n:Nat):(ER U n).length<=n+n:=by have A:=yQ U false n;have B:=yQ U true n;unfold ER;rw[aZ1];omega
theorem BJ{U:List Nat}{n i:Nat}(h:i∈ER U n):i<n:=by
 unfold ER at h;rcases List.mem_append.1 h with h|h
 .exact PG h
 .exact PG h
theorem KS{U:List Nat}{n i:Nat}(h:i<n):i∈ER U n:=by
 unfold ER lZ;rw[List.mem_append,List.mem_filter,List.mem_filter,List.mem_range];cases hc:U.contains i
 .exact .inl ⟨h,by simp⟩
 .exact .inr ⟨h,by simp⟩
theorem NF(U:List Nat)(n:Nat):(ER U n).Nodup:=by unfold ER;rw[List.nodup_append];refine⟨(List.nodup_range).filter _,(List.nodup_range).filter _,fun a A b B e=>?_⟩;subst e;unfold lZ at A B;rw[List.mem_filter] at A B;have C:=A.2;have D:=B.2;cases hc:U.contains a<;>rw[hc] at C D<;>simp at C D
theorem OE{ys:LI}{B:List Nat}(h:ys.Perm (zl B)):∃S,ys=zl S/\S.Perm B:=by
 refine⟨ys.map Int.toNat,?_,?_⟩
 .unfold zl;rw[List.map_map];conv=>lhs;rw[<-List.map_id ys]
  refine List.map_congr_left fun x C=>?_;have A:=h.mem_iff.1 C;unfold zl at A;obtain⟨i,_,rfl⟩:=List.mem_map.1 A;simp
 .have A:=h.map Int.toNat
  unfold zl at A;rw[List.map_map] at A;refine A.trans ?_;rw[show(Int.toNat∘fun(i:Nat)=>(i:Int))=id from funext fun i=>by simp,List.map_id]
theorem jy{n:Nat}{S:List Nat}(D:qA (zl S) S)(hn:S.Nodup)(B:∀i,i∈S->i<n):LY n S:=by
 intro k hk;rw[cV] at hk;have C:S k 0∈S:=by rw[aZ4,aZ3 hk];exact aY6 hk
 rw[oV hk];refine⟨om,oA (B _ C),fun E=>?_⟩;have A:=D (k-1) k om hk;rw[oV om,oV hk] at A;rw[oV om];have F:S (k-1) 0≠S k 0:=by rw[aZ4,aZ3 om,aZ4,aZ3 hk];intro e;have:=(List.getElem_inj hn).1 e;omega
 omega
theorem SU{U S T:List Nat}(h:S.Perm T):oN U S=oN U T:=(h.filter _).length_eq
section
variable {O:aQ} {q:Int} (hO:O.Fld q) {n:Nat} {gen:LL} {p:LI}
include hO
theorem jl(hA:gT O q n gen p){order C S:List Nat}(h:GrP O q gen order C)(D:∀i,i<n->i∈order)(G:∀i,i∈order->i<n)(H:order.Nodup)(B:S.Perm C)(A:qA (zl S) S):GL O n gen S:=by
 have hq:jS q gen:=hA.rows.r (oA hO.lt.pos);refine⟨?_,?_,fun i hi=>?_⟩
 .rw[B.length_eq];exact h.full hO hA D
 .exact jy A (B.nodup_iff.2 (h.sub.nodup H)) (fun i hi=>G i (h.sub.subset (B.mem_iff.1 hi)))
 .refine(h.cov i (D i hi)).trans hO fun s A=>?_;rw[lS] at A;obtain⟨t,E,e⟩:=eI.1 (B.mem_iff.2 (aY6 A));have F:ent (dY gen C) s=ent (dY gen S) t:=by
   unfold ent;rw[qD A,qD E,e]
  rw[F];exact aZ.row hO (by rw[lS];exact E) fun j=>(vV hO hq S).r (oA hO.lt.pos) t j
end
theorem AJ(k w:Nat)(S:List Nat):∀(F:List (List Nat)) (U:List Nat),lX k w U (F++[S])=lX k w U F+(w+1+oN (U++F.flatten) S-k)
 |[],U=>by simp[lX]
 |T::F,U=>by simp only[List.cons_append,lX];rw[AJ k w S F (U++T),List.flatten_cons,List.append_assoc];omega
def dD(F:List (List Nat)):LI:=(List.range F.length).map fun j=>((oN (F.take j).flatten (F j []):Nat):Int)
theorem jC(F:List (List Nat)):(dD F).length=F.length:=by simp[dD]
theorem qS{F:List (List Nat)}{j:Nat}(h:j<F.length):(dD F).getD j 0=((oN (F.take j).flatten (F j []):Nat):Int):=by simp[dD,List.getD,h]
theorem xQ(k w:Nat)(F:List (List Nat)):∀m,m<=F.length->sI k w (dD F) m=lX k w [] (F.take m)
 |0,_=>by simp[sI,lX]
 |m+1,h=>by rw[sI,xQ k w F m om,List.take_add_one,aZ3 (by omega:m<F.length)];simp only[Option.toList_some];rw[AJ,qS om,aZ8,List.nil_append,aZ4,aZ3 (by omega:m<F.length),Option.getD_some]
theorem ID(U S:List Nat):oN U S<=S:=List.length_filter_le _ _
def AY(U:List Nat)(n:Nat):Nat:=eO (fun j=>U.contains j) n
theorem ZD(U:List Nat)(n:Nat):AY U n<=n:=GQ _ n
theorem N8{U S:List Nat}{n:Nat}(h:oN U S≠0)(F:∀i,i∈S->i<n):AY U n<AY (U++S) n:=by
 obtain⟨i,hi⟩:∃i,i∈S.filter fun i=>!U.contains i:=by
  cases hc:S.filter (fun i=>!U.contains i) with
  |nil=>exact aB (by unfold oN;rw[hc];rfl) h
  |cons i l=>exact⟨i,List.mem_cons_self⟩
 rw[List.mem_filter] at hi;have E:=F i hi.1;have key:∀m,i<m->AY U m<AY (U++S) m:=by
  intro m
  induction m with
  |zero=>intro h;omega
  |succ m ih=>
   intro G;unfold AY;simp only[eO];have H:eO (fun j=>U.contains j) m<=eO (fun j=>(U++S).contains j) m:=zC fun j _ h=>by simp only[List.contains_iff_mem,List.mem_append] at h|-;exact .inl h
   by_cases e:i=m
   .subst e;have B:U.contains i=false:=by simpa using hi.2
    have C:(U++S).contains i=true:=by simp only[List.contains_iff_mem,List.mem_append];exact .inr hi.1
    rw[iN (by rw[B];exact Bool.false_ne_true),iP C];omega
   .have B:=ih om;unfold AY at B;have C:(if U.contains m=true then 1 else 0)<=(if(U++S).contains m=true then 1 else 0):=by
     by_cases A:U.contains m=true
     .have D:(U++S).contains m=true:=by simp only[List.contains_iff_mem,List.mem_append] at A|-;exact .inl A
      rw[iP A,iP D];exact zr
     .rw[iN A];exact aZ5 _
    omega
 exact key n E
theorem infoStep:(prog.info? 153).map (fun i=>(i.zero,i.size,i.bytes))=some (some (.agg #[(),z0]),2,32):=by kernel_rfl
def YX:Va->Nat
 | .slice _ n _=>n
 |_=>0
theorem ZL(U:List Nat)(i:Nat):((zl U).any fun x=>x==(i:Int))=U.contains i:=by
 unfold zl;rw[List.any_map]
 induction U with
 |nil=>rfl
 |cons a l ih=>
  rw[List.any_cons,ih,List.contains_cons];congr 1;simp only[Function.comp];by_cases e:a=i
  .subst e;simp
  .have A:((a:Int)==(i:Int))=false:=by rw[eA];omega
   have B:(i==a)=false:=by simpa using fun h=>e h.symm
   rw[A,B]
theorem OY{n:Nat}:∀{F:List (List Nat)},(∀S,S∈F->S.length<=n)->F.flatten.length<=F.length*n
 |[],_=>by simp
 |S::F,h=>by have A:=h S List.mem_cons_self;have B:=OY (F:=F) fun T hT=>h T (List.mem_cons_of_mem _ hT);rw[List.flatten_cons,aZ1,List.length_cons,Nat.add_mul];omega
structure FmW(O:aQ)(n:Nat)(gen:LL)(P M:Int)(mv gv:Va)(w0 wr:Wo)(uv ov:Va)(F:List (List Nat))(l:List (List Va)):Prop where
 inf:∀S,S∈F->GL O n gen S
 pos:F.length<=AY F.flatten n
 used:OI w0.heap.size wr uv (zl F.flatten)
 out:RO w0.heap.size 153 2 wr ov l
 len:l.length=F.length
 at_:∀j,j<F.length->∃u,l j []=[u,.int .i64 ((dD F).getD j 0)]/\OI w0.heap.size wr u (zl (F j []))/\∀g,u.ownBlock=some g->uv.ownBlock≠some g/\ov.ownBlock≠some g
 ne:∀g,uv.ownBlock=some g->ov.ownBlock≠some g/\g≠w0.heap.size
 nb:∀g,ov.ownBlock=some g->g≠w0.heap.size
 bel:Below w0.heap.size w0 wr
 cb:iC w0 wr P M mv n gv
section
variable {O:aQ} {n:Nat} {gen:LL} {P M:Int} {mv gv:Va} {w0 wr w1:Wo} {uv ov:Va} {F:List (List Nat)} {l:List (List Va)}
theorem FmW.on(h:FmW O n gen P M mv gv w0 wr uv ov F l)(A:Below wr.heap.size wr w1):FmW O n gen P M mv gv w0 w1 uv ov F l:=by refine⟨h.inf,h.pos,h.used.below A zr,h.out.below A zr,h.len,fun j B=>?_,h.ne,h.nb,h.bel.trans (A.mono h.bel.size),h.cb.on A⟩;obtain⟨u,e,C,D⟩:=h.at_ j B;exact⟨u,e,C.below A zr,D⟩
theorem FmW.next{D C w9:Wo}{o:Obj}{u H v9:Va}{S:List Nat}{r:Nat}(h:FmW O n gen P M mv gv w0 wr uv ov F l)(b:GL O n gen S)(m:r=oN F.flatten S)(δ:r≠0)
 (a:Below wr.heap.size wr D)(p:OI w0.heap.size D u (zl S))(ε:∀g,u.ownBlock=some g->wr.heap.size<=g)
 (w:OI w0.heap.size C H (zl F.flatten++zl S))(g7:D.grownBy C uv.ownBlock)(ζ:H.ownBlock=uv.ownBlock\/H.ownBlock=some D.heap.size)
 (x:RO w0.heap.size 153 2 w9 v9 (l++[[u,(r:aV)]]))(v:(C.alloc o).grownBy w9 ov.ownBlock)(η:v9.ownBlock=ov.ownBlock\/v9.ownBlock=some (C.alloc o).heap.size):
 FmW O n gen P M mv gv w0 w9 H v9 (F++[S]) (l++[[u,(r:aV)]]):=by
 have c:(F++[S]).flatten=F.flatten++S:=by simp
 have hB:w0.heap.size<wr.heap.size:=h.cb.blk.lt;have κ:=a.size;have μ:=g7.size;have θ:(C.alloc o).heap.size=C.heap.size+1:=World.size_alloc _ _;have X:∀g,uv.ownBlock=some g->w0.heap.size<=g/\g<wr.heap.size:=fun g A=>h.used.lt A;have K:∀g,ov.ownBlock=some g->w0.heap.size<=g/\g<wr.heap.size:=fun g A=>h.out.lt A;have L:=h.on a;have Y:∀g,u.ownBlock=some g->wr.heap.size<=g/\g<D.heap.size:=fun g A=>⟨ε g A,(p.lt A).2⟩
 have Q:∀g,H.ownBlock=some g->uv.ownBlock=some g\/g=D.heap.size:=fun g A=>by
  rcases ζ with e|e
  .exact .inl (by rw[<-e];exact A)
  .rw[e] at A;exact .inr (aZ0 A).symm
 have R:∀g,v9.ownBlock=some g->ov.ownBlock=some g\/g=C.heap.size+1:=fun g A=>by
  rcases η with e|e
  .exact .inl (by rw[<-e];exact A)
  .rw[e,θ] at A;exact .inr (aZ0 A).symm
 have J:C.grownBy w9 ov.ownBlock:=bB (aP (aH C o) _) v;have q:∀{y:Va} {xs:LI},OI w0.heap.size D y xs->(∀g,y.ownBlock=some g->uv.ownBlock≠some g/\ov.ownBlock≠some g)->OI w0.heap.size w9 y xs:=fun Z f=>(Z.grown g7 fun g A=>(f g A).1).grown J fun g A=>(f g A).2;have b7:Below w0.heap.size w0 C:=L.bel.grown g7 L.bel.size fun g A=>(X g A).1;refine⟨fun T hT=>?_,?_,?_,x,by simp[h.len],fun j z=>?_,fun g A=>?_,fun g A=>?_,b7.grown J b7.size fun g A=>(K g A).1,?_⟩
 .rcases List.mem_append.1 hT with hT|hT
  .exact h.inf T hT
  .rw[List.mem_singleton.1 hT];exact b
 .rw[c,aZ1,aZ2];have B:=N8 (U:=F.flatten) (S:=S) (n:=n) (by rw[<-m];exact δ) (fun i hi=>b.ris.lt hi);have G:=h.pos;omega
 .rw[c,ZM];exact w.grown J fun g A e=>by
   rcases Q g A with B|B
   .exact(h.ne g B).1 e
   .have:=K g e;omega
 .rw[aZ1,aZ2] at z;have d:∀y:Va,(∀g,y.ownBlock=some g->uv.ownBlock≠some g/\ov.ownBlock≠some g/\g<D.heap.size)->∀g,y.ownBlock=some g->H.ownBlock≠some g/\v9.ownBlock≠some g:=fun y Z g A=>by
   obtain⟨s,t,ι⟩:=Z g A;refine⟨fun e=>?_,fun e=>?_⟩
   .rcases Q g e with B|B
    .exact s B
    .omega
   .rcases R g e with B|B
    .exact t B
    .omega
  by_cases N:j<F.length
  .obtain⟨y,e,k,E⟩:=L.at_ j N;have V:(l++[[u,Value.int .i64 (r:Int)]]).getD j []=l j []:=by simp[List.getD,aY2 (show j<l.length by rw[h.len];exact N)]
   have I:(F++[S]).getD j []=F j []:=by simp[List.getD,aY2 N]
   have W:(dD (F++[S])).getD j 0=(dD F).getD j 0:=by rw[qS (by simp;omega),qS N,I,List.take_append_of_le_length om]
   exact⟨y,by rw[V,W,e],by rw[I];exact q k E,d y fun g A=>⟨(E g A).1,(E g A).2,(k.lt A).2⟩⟩
  .obtain rfl:j=F.length:=om;have V:(l++[[u,Value.int .i64 (r:Int)]]).getD F.length []=[u,Value.int .i64 (r:Int)]:=by simp[List.getD,<-h.len]
   have I:(F++[S]).getD F.length []=S:=by simp[List.getD]
   have W:(dD (F++[S])).getD F.length 0=(r:Int):=by rw[qS sM,I,m,List.take_left' rfl]
   have E:∀g,u.ownBlock=some g->uv.ownBlock≠some g/\ov.ownBlock≠some g:=fun g A=>⟨fun e=>by have:=Y g A;have:=X g e;omega,fun e=>by have:=Y g A;have:=K g e;omega⟩
   exact⟨u,by rw[V,W],by rw[I];exact q p E,d u fun g A=>⟨(E g A).1,(E g A).2,(Y g A).2⟩⟩
 .refine⟨fun e=>?_,fun e=>?_⟩
  .rcases Q g A with B|B
   .rcases R g e with G|G
    .exact(h.ne g B).1 G
    .have:=X g B;omega
   .rcases R g e with G|G
    .have:=K g G;omega
    .omega
  .rcases Q g A with B|B
   .exact(h.ne g B).2 e
   .omega
 .intro e;rcases R g A with B|B
  .exact h.nb g B e
  .omega
 .exact⟨(L.cb.blk.grown g7 fun e=>(h.ne _ e.symm).2 rfl).grown J fun e=>h.nb _ e.symm rfl,b7.grown J b7.size fun g A=>(K g A).1⟩
end
theorem am(w:Wo)(P M:Int)(n:Nat)(mv gv:Va)(Mq:LI)(gen:LL)(p:LI)(Dj:SI w mv Mq)(B:SS w gv gen)(Bf:nE P M Mq n gen p)(Ev:0<gen.length)(Bq:n<=12):
 Calls prog 79 #[.agg #[P,M,mv,n,gv]] w (fun e w'=>∃v F l,e=.returned (.tuple #[v,.int .i64 0])/\0<F.length/\F.length<=n/\(∀S,S∈F->GL (aD P M Mq) n gen S)/\
  l.length=F.length/\RG 2 w' v l/\(∀j,j<F.length->∃u,l j []=[u,.int .i64 ((dD F).getD j 0)]/\SI w' u (zl (F j [])))/\Below w.heap.size w w'):=by
 have κ:=zh (iC.mk' w P M mv n gv);have Cp:=zh Dj;have Ct:=zh B;have Q:=zh Bf;have Cm:=zh Bf.kn;obtain⟨k,hk⟩:=xE gen.length;have Cl:=zh hk;rw[<-hk] at Ev;have Fl:k<=12:=by rw[hk];exact aZ6 Cm.out Bq
 clear Dj B Bf hk;go_enter func79,ntmps79;go_upto_region 1 with fail;generalize w.alloc (.cells #[P,M,mv,n,gv] 27)=w0 at*;obtain⟨y,π,ρ,σ,τ,_,_,_,_,_⟩:=κ.blk.five;go_wp2_with fail;refine(J9 w0 P M n mv gv Mq gen (Cp.below κ.bel zr) Q.fld (fun w' Al=>by have z:=aC κ.bel Al;have:=kG w' P M n mv gv Mq gen (Cp.below z zr) (Ct.below z zr);rwa[Q.out.err] at this)).mono ?_
 rintro e w1 ⟨a,rfl,Dl,Df⟩;have Aw:=zh (κ.on Df);have Dy:Hid (∀Av,Below w.heap.size w Av->Below w1.heap.size w1 Av->GF Av a P M Mq):=aG fun Av _ h=>Dl.out.on h;have ι:Hid (Below w1.heap.size w1 w1):=aG (bE w1);have Cf:Hid (FmW (aD P M Mq) n gen P M mv gv w w1 (.slice none 0 0) (.slice none 0 0) [] []):=aG ⟨fun S h=>by simp at h,aZ5 _,OI.nil _ _,RO.nil _ _ _ _,rfl,fun j Aa=>aB Aa (aY5 _),fun g h=>(by cases h),fun g h=>(by cases h),Aw.bel,Aw.out⟩;clear Dl Df y π ρ σ τ κ Aw;go_wp2_with fail;go_loopw [6,7] (fun ov uv wr=>∃(F:List (List Nat)) (l:List (List Va)) (Bz Ar:OA) (Ca As:Nat),uv=.slice Bz (zl F.flatten).length Ca/\ov=.slice Ar F.length As/\Hid (FmW (aD P M Mq) n gen P M mv gv w wr uv ov F l)/\Hid (Below w1.heap.size w1 wr)/\Hid ((∀g,uv.ownBlock=some g->w1.heap.size<=g)/\∀g,ov.ownBlock=some g->w1.heap.size<=g)) (fun ov _ _=>n+1-YX ov)
 case atStart=>exact⟨[],[],none,none,0,0,rfl,rfl,Cf,ι,aG ⟨fun g h=>(by cases h),fun g h=>(by cases h)⟩⟩
 case round=>
  clear Cf ι;obtain⟨F,l,Bz,Ar,Ca,As,rfl,rfl,o,ι,s⟩:=hrel;have T:Hid ((∀i,i∈F.flatten->i<n)/\F.flatten.length<=144/\F.length<=n):=aG (by have Be:=o.inf;have φ:F.length<=n:=aZ6 o.pos (ZD _ _);have Es:=OY (F:=F) (n:=n) fun S Bg=>(Be S Bg).ris.len;refine⟨fun i hi=>?_,aZ6 Es (aZ6 (Nat.mul_le_mul (aZ6 φ Bq) Bq) dC),φ⟩;obtain⟨S,Bg,ε⟩:=List.mem_flatten.1 hi;exact(Be S Bg).ris.lt ε);obtain⟨U,Bi⟩:=xE F.flatten;have G:=zh Bi;rw[<-Bi] at o T s|-;obtain⟨Cb,Bu⟩:=xE ((zl U).length);obtain⟨Ak,Bl⟩:=xE F.length;rw[<-Bu,<-Bl] at o s|-;have Fi:=zh Bu;have Ci:=zh Bl;clear Bi Bu Bl;obtain⟨Cc,Fb⟩:=xE wr;subst Fb;go_wp2_with fail;obtain⟨w2,Fk,m,V,φ,z⟩:=aR Cc 4 [.bool false,.bool true];rw[m,V];have Ay:=zh (o.on z);have Dr:=zh φ;have Ds:=zh (aC ι z);clear m V φ z o ι;have Cd:Hid (Below w2.heap.size w2 w2):=aG (bE w2);go_loopw [8,25] (fun ov J wr=>∃(t:Nat) (L:List Nat) (A:OA) (c:Nat),t<=2/\J=(t:aV)/\ov=.slice A (zl L).length c/\Hid (L=if t=0 then[] else if t=1 then lZ U false n else ER U n)/\Hid (OI w2.heap.size wr ov (zl L))/\Hid (Below w2.heap.size w2 wr)) (fun _ J _=>2-(intOf J).toNat)
  case atStart=>exact⟨0,[],none,0,om,rfl,rfl,aG rfl,aG (OI.nil _ _),Cd⟩
  case round=>
   clear Cd;obtain⟨t,L,A,c,Ey,rfl,rfl,Y,K,H⟩:=hrel;have C:=zh (Ay.on H);by_cases Ez:t<2
   .obtain⟨b,Al,Di⟩:∃b,[Value.bool false,Value.bool true][t]?=some (.bool b)/\b=decide (t=1):=by
     rcases(by omega:t=0\/t=1) with rfl|rfl
     .exact⟨false,rfl,rfl⟩
     .exact⟨true,rfl,rfl⟩
    have Dv:=zh Di;have Bk:=(Dr.belowS H).cell t;rw[Al] at Bk;obtain⟨y,π,ρ,σ,τ,_,_,_,_,_⟩:=C.cb.blk.five;have Az:Hid (OI w2.heap.size wr (.slice A (zl L).length c) (zl (L++lZ U b 0))):=aG (by rw[FX,List.append_nil];exact K.out);clear Al Di;go_wp2_with fail;clear Bk y π ρ σ τ;rw[show decide ((t:Int)<2)=true from dE om];have Ea:Hid (L.length<=24):=aG (by rw[Y.out];split;simp;split;exact aZ6 (yQ _ _ _) om;exact aZ6 (DJ _ _) om);obtain⟨Do,Bp⟩:=xE ((zl L).length);have Ba:=zh Bp;rw[<-Bp] at K Az|-;clear Bp;go_loopw [8,31] (fun ov J wr=>∃(i:Nat) (A:OA) (c:Nat),i<=n/\J=(i:aV)/\ov=.slice A (zl (L++lZ U b i)).length c/\Hid (OI w2.heap.size wr ov (zl (L++lZ U b i)))/\Hid (Below w2.heap.size w2 wr)) (fun _ J _=>n-(intOf J).toNat)
    case atStart=>exact⟨0,A,c,aZ5 _,rfl,by rw[FX,List.append_nil,Ba.out],Az,H⟩
    case round=>
     clear K Az H C;obtain⟨i,A,c,hi,rfl,rfl,K,H⟩:=hrel;by_cases Bo:i<n
     .have C:=zh (Ay.on H);have ξ:=zh (C.used.si (by rw[<-G.out,cV];have:=T.2.1;omega) (AC (n:=n) om (by rw[<-G.out];exact T.1)));rw[<-G.out] at ξ;go_wp2_with fail;refine(gB wr _ (zl U) (i:Int) ξ).mono ?_;rintro e Dq ⟨rfl,rfl⟩;rw[ZL];obtain⟨cb,δ⟩:=xE (U.contains i);rw[<-δ];have Ce:=zh δ;clear δ;obtain⟨lo,Am⟩:=xE ((zl (L++lZ U b i)).length);have Ec:Hid (lo<=1000):=aG (by rw[Am,cV,aZ1];have:=yQ U b i;have:=Ea.out;omega);have Af:=zh Am;rw[<-Am] at K|-;clear Am;cases hq:cb==b
      .have f:Hid (lZ U b (i+1)=lZ U b i):=aG (ed (by rw[<-Ce.out];exact hq));have Fg:=zh hq;go_wp2_with fail;refine⟨⟨i+1,A,c,om,pC,by rw[f.out,Af.out],by rw[f.out];exact K,H⟩,oI⟩
      .have f : Hid (lZ U b (i + 1) = lZ U b i ++ [i]) := aG (XX (by rw [<- Ce.out]; exact hq));have Ag := zh (K.alloc (.cells #[.int .i64 (i : Int)] 3));have Bb := zh (Blk.new wr 3 [.int .i64 (i : Int)]);have Ax := zh (H.trans ((aH wr (.cells #[.int .i64 (i : Int)] 3)).mono H.size));go_wp2_with (
        at_builtin;refine sH rfl _ _ rfl w2.heap.size (.slice A lo c) (zl (L++lZ U b i)) rfl Ag.out wr.heap.size 1 (i:Int) rfl (Bb.cell 0) (by rw[<-Af.out];have:=Ec.out;omega) Ax.size ?_;intro v9 w9 W ψ;obtain⟨Aj,At,rfl⟩:=W.form';rw[aZ1,aZ2,<-Af.out] at W|-;have Bc:=zh W;have Ae:=zh (Ag.bgrown Ax Ax.size ψ);clear W ψ)
       refine⟨⟨i+1,Aj,At,om,pC,?_,?_,Ae⟩,oI⟩
       .rw[f.out,<-List.append_assoc,I1,aZ1,aZ2,Af.out]
       .rw[f.out,<-List.append_assoc,I1];exact Bc
     .obtain rfl:n=i:=om;have Eb:Hid (L++lZ U b n=if t+1=0 then[] else if t+1=1 then lZ U false n else ER U n):=aG (by
       rw[iN om,Y.out,Dv.out];rcases(by omega:t=0\/t=1) with rfl|rfl
       .rfl
       .rfl)
      go_wp2_with fail;refine⟨⟨t+1,L++lZ U b n,A,c,om,pC,rfl,Eb,K,H⟩,oI⟩
   .obtain rfl:t=2:=om;rw[iN om,iN om] at Y;clear Ey Ez;obtain⟨d,Fc⟩:=xE wr;subst Fc;have C:=zh (Ay.on H);have Ad:=zh (aC Ds H);have Co:=zh (K.si (by rw[cV,Y.out];have:=DJ U n;omega) (AC (n:=n) om (by rw[Y.out];exact fun i hi=>BJ hi)));obtain⟨y,π,ρ,σ,τ,_,_,_,_,_⟩:=C.cb.blk.five;go_wp2_with fail;refine(AL d a P M n mv gv _ Mq gen L (Dy d C.bel Ad) (Ct.below C.bel zr) (fun k hk=>(Q.rr.rows k hk).1) Co (by rw[Y.out];exact fun i hi=>BJ hi) Q.O Q.q (by have:=Cm.out;omega) (by rw[Y.out];have:=DJ U n;omega)).mono ?_;rintro e Ab ⟨D,ω,u,rfl,An,Bj⟩;obtain⟨E,sc,rfl⟩:=An.form';rw[Y.out] at ω;have Bh:D.length=k:=by rw[Cl.out];exact ω.full Q.O Q.rr (fun i hi=>KS hi)
    have Z:=zh Bh;have Dz:=zh ω;have Ed:Hid (∀i,i∈D->i<n):=aG fun i hi=>BJ (ω.sub.subset hi);rw[cV,Bh] at An|-;have Cr:=zh An;have Dw:=zh (C.on Bj);have θ:=zh Bj;clear ω An Bj Bh K Co y π ρ σ τ;go_upto_region 18 with fail;obtain⟨Dq,gx,m,V,Dd,Dg⟩:=aR Ab 153 [.slice E k sc,.int .i64 0];rw[m,V];have Bd:Hid (Blk Dq gx 153 [.slice E k sc,.int .i64 (oN U (D.take 0):Nat)]):=aG Dd;have I:=zh Dg;have Et:Ab.heap.size<=gx:=om;clear m V Dd Dg;obtain⟨x0,x1,_,_⟩:=Bd.two;go_wp2_with fail;clear x0 x1;go_loopw [53] (fun J wr=>∃i:Nat,i<=k/\J=(i:aV)/\Hid (Blk wr gx 153 [.slice E k sc,.int .i64 (oN U (D.take i):Nat)])/\Hid (Below Ab.heap.size Ab wr)) (fun J _=>k-(intOf J).toNat)
    case atStart=>exact⟨0,aZ5 _,rfl,Bd,I⟩
    case round=>
     clear Bd I;obtain⟨i,hi,rfl,N,I⟩:=hrel;have R:=zh (Dw.on I);have Ai:=zh (Cr.below I zr);by_cases Eu:i<k
     .have ξ:=zh (R.used.si (by rw[<-G.out,cV];have:=T.2.1;omega) (AC (n:=n) om (by rw[<-G.out];exact T.1)));rw[<-G.out] at ξ;have ε:i<D.length:=by rw[Z.out];exact Eu
      obtain⟨Ff,y,Da,De⟩:=Ai.si (by rw[cV,Z.out];omega) (AC (n:=n) om Ed);rw[cV,Z.out] at Da;injection Da with m V Cz;obtain⟨Fj,x,rfl,Bk,_,Ep⟩:=De.elt (k:=i) (by rw[cV];exact ε);subst m;obtain⟨η,Bx⟩:=xE (D i 0);have Fe:x=(η:Int):=by rw[<-Ep.out,oV ε,Bx]
      subst Fe;have Ah:Hid (oN U (D.take (i+1))=oN U (D.take i)+(!(U.contains η)).toNat):=aG (by unfold oN;rw[List.take_add_one,aZ3 ε,List.filter_append,aZ1,Bx,aZ4,aZ3 ε];simp only[Option.toList_some,Option.getD_some,List.filter_cons,List.filter_nil];cases U.contains D[i]<;>simp);have Br:oN U (D.take i)<=100:=aZ6 (ID _ _) (by rw[aY3];omega);obtain⟨r,ζ⟩:=xE (oN U (D.take i));rw[<-ζ] at N Ah Br;clear De V Cz Bx ζ;go_wp2_with fail;refine(gB wr _ (zl U) (η:Int) ξ).mono ?_;rintro e Au ⟨rfl,rfl⟩;rw[ZL];obtain⟨x0,x1,Db,Dc⟩:=N.two;obtain⟨cb,δ⟩:=xE (U.contains η);rw[<-δ] at Ah|-;clear δ;cases cb
      .have Eo:=zh (N.set_ 1 (.int .i64 ((r:Int)+1)));have Du:=zh (I.setCell (p:=(gx 1 none)) Et (.int .i64 ((r:Int)+1)));clear N I R Ai;go_wp2_with fail;refine⟨⟨i+1,om,pC,?_,Du⟩,oI⟩;rw[Ah.out];exact Eo
      .go_wp2_with fail;refine⟨⟨i+1,om,pC,?_,I⟩,oI⟩;rw[Ah.out];exact N
     .obtain rfl:k=i:=om;rw[show D.take k=D by rw[<-Z.out,List.take_length]] at N;have Br:oN U D<=k:=by rw[<-Z.out];exact ID _ _
      have Cq:Hid (U=[]->oN U D=k):=aG fun e=>by rw[e,<-Z.out];unfold oN;simp
      obtain⟨r,ζ⟩:=xE (oN U D);have Eh:=zh ζ;rw[<-ζ] at N Br Cq;clear ζ;obtain⟨x0,x1,Db,Dc⟩:=N.two;by_cases Bt:r=0
      .have Dx : Hid (0 < F.length) := aG (Nat.pos_of_ne_zero fun e => by
        have V:F=[]:=eH e;have Cz:=Cq.out (by rw[G.out,V];rfl);omega)
       subst Bt;go_wp2_with fail;go_ret2;refine⟨_,F,l,rfl,Dx.out,T.2.2,R.inf,R.len,R.out.out.rg,fun j Aa=>?_,R.bel⟩;obtain⟨u,e,Ew,_⟩:=R.at_ j Aa;have Bo:=R.inf (F j []) (by rw[aZ4,aZ3 Aa];exact aY6 Aa);exact⟨u,e,Ew.si (by rw[cV,Bo.len,<-Cl.out];omega) (AC (n:=n) om fun i hi=>Bo.ris.lt hi)⟩
      .have Fm:((r:Int)==0)=false:=by rw[eA];omega
       have Ei:=zh Bt;clear Bt;go_wp2_with fail;refine(Y0 wr d.heap.size k sc E (zl D) Ai (by rw[cV,Z.out]) om (aZ6 θ.size I.size)).mono ?_;rintro e Au ⟨ys,rfl,Dk,Dm,Bs,Bm⟩;obtain⟨S,rfl,Aq⟩:=OE Dk;have χ:S.length=k:=by rw[Aq.length_eq,Z.out]
       have Ck:Hid (GL (aD P M Mq) n gen S):=aG (jl Q.O Q.rr Dz (fun i hi=>KS hi) (fun i hi=>BJ hi) (NF U n) Aq (by rw[χ];exact Dm));have Ej:Hid (r=oN F.flatten S):=aG (by rw[SU Aq,<-G.out];exact Eh.out);have Ap:∀g,(Value.slice E k sc).ownBlock=some g->d.heap.size<=g/\g<Ab.heap.size:=fun g B=>Cr.lt B;have Eg:=zh Ap;have Ac:Hid (Below d.heap.size d Au):=aG ((θ.trans (I.mono θ.size)).grown Bm (aZ6 θ.size I.size) fun g B=>(Ap g B).1);have Cw:=zh (N.grown Bm fun e=>by have:=Ap gx e.symm;omega);have μ:=zh (C.on Ac);have Ee:=zh Bs;have Ek:=zh (Bs.si (by rw[cV,χ];omega) (AC (n:=n) om fun i hi=>Ck.ris.lt hi));have Cs:=zh μ.used;rw[<-G.out] at Cs;have Fh:=zh χ;have El:Hid ((zl U).length+(zl S).length<=17592186044416):=aG (by rw[cV,cV,χ,G.out];have:=T.2.1;rw[G.out] at this;omega);clear Dk Dm Bs Bm χ Aq Ap N I R Ai x0 x1 Db Dc;obtain⟨x0,x1,_,_⟩:=Cw.two;go_upto_region 28 with(
        at_builtin;refine kT rfl _ _ rfl w.heap.size (.slice Bz Cb Ca) (zl U) rfl Cs.out (.slice E k sc) (zl S) rfl Ek.out El.out μ.bel.size ?_;intro Fp X Ao Bn Bv;obtain⟨Aj,At,rfl⟩:=Ao.form';rw[aZ1] at Ao Bv|-;have Ef:=zh Ao;have ν:=zh Bn;have Cu:=zh Bv;have En:=zh (Cw.grown Bn fun e=>by have Be:=C.used.lt e.symm;have:=θ.size;omega);clear Ao Bn Bv)
       clear x0 x1;obtain⟨x0,x1,_,_⟩:=En.two;have Bb:=zh (jG X 153 [.slice E k sc,(r:aV)]);have Dh:=aH X (.cells #[.slice E k sc,r] 153);have Dt:Hid (Below w.heap.size w X):=aG (μ.bel.grown ν μ.bel.size fun g B=>(C.used.lt B).1);have Ag:Hid (RO w.heap.size 153 2 (X.alloc (.cells #[.slice E k sc,r] 153)) (.slice Ar Ak As) l):=aG ((μ.out.out.grown ν fun g B e=>(C.ne g e).1 B).alloc _);have Ba:Hid (l.length+1<=100000000):=aG (by rw[C.out.len];have:=T.2.2;omega);have Em:Hid (w.heap.size<=(X.alloc (.cells #[.slice E k sc,r] 153)).heap.size):=aG (aZ6 Dt.size Dh.size);clear Dh;go_wp2_with (
        at_builtin;refine fJ rfl 153 145 2 32 _ underlying145 infoStep rfl dC dC _ _ rfl w.heap.size (.slice Ar Ak As) l rfl Ag.out X.heap.size 1 [.slice E k sc,(r:aV)] rfl rfl Bb.out (by intro u Dn;simp at Dn;rcases Dn with rfl|rfl<;>rfl) Ba.out Em.out ?_;intro v9 w9 W ψ Bw;obtain⟨Cx,Dp,rfl⟩:=W.form';rw[aZ1,aZ2] at W Bw|-;have Bc:=zh W;have Cj:=zh ψ;have Cv:=zh Bw;clear W ψ Bw)
       have f:=zh (C.next Ck Ej Ei Ac (Ee.mono C.bel.size) (fun g B=>(Eg.out g B).1) (by rw[<-G.out];exact Ef.out) ν Cu Bc Cj Cv);have Fa:w1.heap.size<=Au.heap.size:=aZ6 Ad.size Ac.size;have Fo:=ν.size;have Ex:(X.alloc (.cells #[.slice E k sc,r] 153)).heap.size=X.heap.size+1:=World.size_alloc _ _;have Ae:Hid (Below w1.heap.size w1 w9/\(∀g,(Value.slice Aj ((zl U).length+(zl S).length) At).ownBlock=some g->w1.heap.size<=g)/\∀g,(Value.slice Cx (l.length+1) Dp).ownBlock=some g->w1.heap.size<=g):=aG (by
        have Er:Below w1.heap.size w1 Au:=Ad.trans (Ac.mono Ad.size);have b7:=Er.grown ν.out Fa s.1;have Cy:=b7.trans ((aH X (.cells #[.slice E k sc,r] 153)).mono b7.size);refine⟨Cy.grown Cj.out Cy.size s.2,fun g B=>?_,fun g B=>?_⟩
        .rcases Cu.out with e|e
         .exact s.1 g (by rw[<-e];exact B)
         .rw[e] at B;have:=aZ0 B;omega
        .rcases Cv.out with e|e
         .exact s.2 g (by rw[<-e];exact B)
         .rw[e,Ex] at B;have:=aZ0 B;omega)
       refine⟨⟨F++[S],l++[[.slice E k sc,(r:aV)]],Aj,Cx,At,Dp,?_,?_,f,aG Ae.1,aG Ae.2⟩,?_⟩
       .rw[show(F++[S]).flatten=F.flatten++S by simp,ZM,aZ1,G.out]
       .rw[aZ1,C.out.len];rfl
       .rw[C.out.len,<-Ci.out];have:=T.2.2;have:=Ci.out;simp only[YX];omega
