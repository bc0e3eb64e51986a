/- Parts. -/
import Derived.Test.YtnpfliklhbkonaaGreatDoorZA19
import Derived.Test.YtnpfliklhbkonaaGreatDoorZA21
set_option maxRecDepth 99999
set_option maxHeartbeats 0
namespace Go.Proofs.YtnpfliklhbkonaaGreatDoor
open Go.Proofs.Tryz
open Go.RowKit Go.ChangeMaps
def gfN:By:=⟨#[103,102]⟩
def G5:By:=⟨#[104,97,109,109,105,110,103]⟩
def pQ(k:Nat):List By:=[kO,nZ,uQ,zE].getD k []
def sR(k j:Nat):By:=(pQ k).getD j ByteArray.empty
theorem P8:((List.range 4).all fun k=>(List.range 4).all fun i=>(List.range (pQ k).length).all fun j=>(List.range (pQ i).length).all fun A=>!((sR k j).data.toList==(sR i A).data.toList)||(k==i&&j==A))=true:=by decide+kernel
theorem VC:((List.range 4).all fun k=>(List.range (pQ k).length).all fun j=>!((sR k j).data.toList==gfN.data.toList))=true:=by decide+kernel
theorem P7(k:Nat)(hk:k<4)(i:Nat)(hi:i<4)(j:Nat)(F:j<(pQ k).length)(A:Nat)(G:A<(pQ i).length)(h:(sR k j).data.toList=(sR i A).data.toList):k=i/\j=A:=by have C:=List.all_eq_true.1 P8 k (List.mem_range.2 hk);have D:=List.all_eq_true.1 C i (List.mem_range.2 hi);have E:=List.all_eq_true.1 D j (List.mem_range.2 F);have B:=List.all_eq_true.1 E A (List.mem_range.2 G);rw[h,beq_self_eq_true] at B;simpa using B
theorem VB(k:Nat)(hk:k<4)(j:Nat)(C:j<(pQ k).length):(sR k j).data.toList≠gfN.data.toList:=fun h=>by have B:=List.all_eq_true.1 VC k (List.mem_range.2 hk);have A:=List.all_eq_true.1 B j (List.mem_range.2 C);rw[h,beq_self_eq_true] at A;cases A
theorem wY{k i j A:Nat}(hk:k<4)(hi:i<4)(B:j<(pQ k).length)(C:A<(pQ i).length)(h:sR k j=sR i A):k=i/\j=A:=P7 k hk i hi j B A C (by rw[h])
theorem OO{k j:Nat}(hk:k<4)(A:j<(pQ k).length):sR k j≠gfN:=fun h=>VB k hk j A (by rw[h])
theorem wE:sR 0 5=G5/\5<(pQ 0).length:=⟨rfl,dC⟩
def Vis(k:Nat)(seen:Array Nat)(s:By):Prop:=(∃i j,i<k/\j<(pQ i).length/\s=sR i j)\/∃j,j<(pQ k).length/\seen.contains j=true/\s=sR k j
theorem Vis.new{k j:Nat}{seen:Array Nat}(hk:k<4)(C:j<(pQ k).length)(D:seen.contains j=false):¬Vis k seen (sR k j):=by
 rintro (⟨i,E,hi,A,e⟩|⟨E,A,B,e⟩)
 .have:=(wY hk om C A e).1;omega
 .obtain rfl:=(wY hk hk C A e).2;rw[D] at B;cases B
theorem Vis.push{k j:Nat}{seen:Array Nat}{s:By}(E:j<(pQ k).length):Vis k (seen.push j) s↔Vis k seen s\/s=sR k j:=by
 constructor
 .rintro (h|⟨B,C,A,e⟩)
  .exact .inl (.inl h)
  .rw[Array.contains_push] at A;by_cases D:B=j
   .subst D;exact .inr e
   .exact .inl (.inr ⟨B,C,by simpa[D,Ne.symm D] using A,e⟩)
 .rintro ((h|⟨B,C,A,e⟩)|e)
  .exact .inl h
  .exact .inr ⟨B,C,by rw[Array.contains_push,A];simp,e⟩
  .exact .inr ⟨j,E,by rw[Array.contains_push];simp,e⟩
theorem Vis.all{k:Nat}{seen:Array Nat}{s:By}(h:∀j,j<(pQ k).length->seen.contains j=true):Vis k seen s↔Vis (k+1) #[] s:=by
 constructor
 .rintro (⟨i,j,hi,A,e⟩|⟨j,A,_,e⟩)
  .exact .inl ⟨i,j,om,A,e⟩
  .exact .inl ⟨k,j,om,A,e⟩
 .rintro (⟨i,j,hi,A,e⟩|⟨j,_,B,_⟩)
  .by_cases C:i=k
   .subst C;exact .inr ⟨j,A,h j A,e⟩
   .exact .inl ⟨i,j,om,A,e⟩
  .simp at B
def yY(w:Wo)(D B:Nat)(gv:Va)(E:List Va)(V:By->Prop):Prop:=∃C:List (By×Va),gS w D C/\C.Pairwise (fun p q=>p.1≠q.1)/\(∀p∈C,p.1=gfN\/V p.1)/\(gfN,gv)∈C/\
 (V G5->∃A c,(G5,.slice A 1 c)∈C/\RO B 202 3 w (.slice A 1 c) [E])
theorem yY.iff{w:Wo}{A B:Nat}{gv:Va}{C:List Va}{V U:By->Prop}(h:yY w A B gv C V)(e:∀s,V s↔U s):yY w A B gv C U:=by obtain⟨K,D,E,F,G,H⟩:=h;exact⟨K,D,E,fun p I=>(F p I).imp id (e _).1,G,fun J=>H ((e _).2 J)⟩
theorem yY.grown{w w':Wo}{D B:Nat}{gv:Va}{E:List Va}{V:By->Prop}{row:Option Nat}(h:yY w D B gv E V)(F:w.grownBy w' row)(G:∀r,row=some r->r≠D/\∀cs t fr,w.heap[r]?≠some (.cells cs t fr)):yY w' D B gv E V:=by
 obtain⟨R,I,J,K,L,M⟩:=h;refine⟨R,I.grown F (fun e=>(G D e.symm).1 rfl),J,K,L,fun P=>?_⟩;obtain⟨A,c,O,H⟩:=M P;refine⟨A,c,O,H.grown F fun g C e=>?_⟩;rcases H.1.2 with⟨hn,_⟩|⟨U,S,T,Q,_,N,_⟩
 .rw[hn] at C;simp[Value.ownBlock] at C
 .rw[Q] at C;simp[Value.ownBlock] at C;subst C;exact(G _ e).2 _ _ _ N
theorem gS.not_cells{w:Wo}{b:Nat}{l:List (By×Va)}(h:gS w b l):∀cs t fr,w.heap[b]?≠some (.cells cs t fr):=fun cs t fr e=>by unfold gS at h;rw[h] at e;cases e
theorem yY.ins{w w':Wo}{G B k j:Nat}{gv:Va}{I:List Va}{seen:Array Nat}{A:OA}{c:Nat}{y:List Va}(hk:k<4)(D:j<(pQ k).length)(Y:seen.contains j=false){E:List (By×Va)}
 (C:E.Pairwise (fun p q=>p.1≠q.1))(J:∀p∈E,p.1=gfN\/Vis k seen p.1)(O:(gfN,gv)∈E)(P:Vis k seen G5->∃A c,(G5,.slice A 1 c)∈E/\RO B 202 3 w (.slice A 1 c) [I])
 (W:gS w' G (E++[(sR k j,.slice A 1 c)]))(S:∃l,gS w G l)(T:w.grownBy w' (some G))(H:RO B 202 3 w (.slice A 1 c) [y])(b:k=0->j=5->y=I):yY w' G B gv I (Vis k (seen.push j)):=by
 have K:∀{A:OA} {c:Nat} {y:List Va},RO B 202 3 w (.slice A 1 c) [y]->RO B 202 3 w' (.slice A 1 c) [y]:=fun H=>H.grown T fun g F e=>by
  obtain⟨l,V⟩:=S;rcases H.1.2 with⟨hn,_⟩|⟨i,d,f,a,_,U,_⟩
  .rw[hn] at F;simp[Value.ownBlock] at F
  .rw[a] at F;simp[Value.ownBlock] at F;subst F;obtain rfl:=aZ0 e;exact V.not_cells _ _ _ U
 have X:∀p∈E,p.1≠sR k j:=fun p C e=>by
  rcases J p C with h|h
  .exact OO hk D (by rw[<-e,h])
  .rw[e] at h;exact Vis.new hk D Y h
 refine⟨_,W,?_,fun p C=>?_,by simp[O],fun Z=>?_⟩
 .rw[List.pairwise_append];refine⟨C,List.pairwise_singleton _ _,fun p C q hq=>?_⟩;rw[List.mem_singleton] at hq;subst hq;exact X p C
 .rw[List.mem_append,List.mem_singleton] at C;rcases C with C|rfl
  .exact(J p C).imp id fun h=>(Vis.push D).2 (.inl h)
  .exact .inr ((Vis.push D).2 (.inr rfl))
 .rcases(Vis.push D).1 Z with h|h
  .obtain⟨L,c',Q,R⟩:=P h;exact⟨L,c',by simp[Q],K R⟩
  .obtain⟨M,N⟩:=wY om hk wE.2 D (wE.1.trans h);subst M N;obtain rfl:=b rfl rfl;exact⟨A,c,by rw[h];simp,K H⟩
def O4(A r:Nat)(w:Wo):Nat:=match w.heap[A]?,w.heap[r]? with
 |some (.map es _),some (.mapIter _ _ seen _)=>(leftOf es seen).size
 |_,_=>0
theorem bj{A:Array MapEntry}{seen:Array Nat}{e:MapEntry}(F:e∈(leftOf A seen).toList):(leftOf A (seen.push e.born)).size<(leftOf A seen).size:=by
 unfold leftOf at F|-;change (Array.filter (fun x=>!(seen.push e.born).contains x.born) A).toList.length<(Array.filter (fun x=>!seen.contains x.born) A).toList.length;rw[Array.toList_filter] at F;rw[Array.toList_filter,Array.toList_filter];generalize A.toList=l at*;have key:∀l:List MapEntry,(l.filter fun x=>!(seen.push e.born).contains x.born).length<=(l.filter fun x=>!seen.contains x.born).length/\(e∈(l.filter fun x=>!seen.contains x.born)->(l.filter fun x=>!(seen.push e.born).contains x.born).length<(l.filter fun x=>!seen.contains x.born).length):=by
  intro l
  induction l with
  |nil=>exact⟨zr,fun h=>by simp at h⟩
  |cons x l ih=>
   have H:seen.contains x.born=true->(seen.push e.born).contains x.born=true:=fun h=>by rw[Array.contains_push,h];simp
   by_cases D:seen.contains x.born=true
   .have B:=H D;simp only[List.filter_cons,D,B,Bool.not_true,Bool.false_eq_true,if_false];exact ih
   .have G:seen.contains x.born=false:=by simpa using D
    by_cases B:(seen.push e.born).contains x.born=true
    .simp only[List.filter_cons,G,B,Bool.not_true,Bool.not_false,Bool.false_eq_true,if_false,if_true,List.length_cons];exact⟨om,fun _=>om⟩
    .have E:(seen.push e.born).contains x.born=false:=by simpa using B
     simp only[List.filter_cons,G,E,Bool.not_false,if_true,List.length_cons];refine⟨om,fun C=>?_⟩;rw[List.mem_cons] at C;rcases C with rfl|C
     .rw[Array.contains_push] at E;simp at E
     .have:=ih.2 C;omega
 exact(key l).2 F
theorem infoCall:(prog.info? 202).map (fun i=>(i.zero,i.size,i.bytes))=some (some (.agg #[.string ByteArray.empty,.nilFunc,.nilFunc]),3,32):=by kernel_rfl
theorem ZK(w:Wo):(zeroValue 208).run prog w=.ok (():aV) w:=by kernel_rfl
def iD(s:By)(f g:Nat)(lv:Va):List Va:=[.string s,.func (.func f) #[] #[.pointer g],lv]
def rD(w:Wo)(D:Nat):Prop:=∃B:List (By×Va),gS w D B/\B.Pairwise (fun p q=>p.1≠q.1)/\
 (∃A c C E,(gfN,.slice A 2 c)∈B/\RG 3 w (.slice A 2 c) [iD ⟨#[78]⟩ 170 C .nilFunc,iD ⟨#[78,78,76]⟩ 170 E .nilFunc]/\Blk w C 207 [.func (.func 121) #[] #[]])/\
 (∃A c g p f a c',(G5,.slice A 1 c)∈B/\RG 3 w (.slice A 1 c) [iD ⟨#[70,78]⟩ 285 g (.func f a c')]/\Blk w g 257 [.func (.func 283) #[] #[.pointer (some ⟨p,0,none⟩)]]/\Blk w p 255 [.func (.func 181) #[] #[]])
theorem EU{P:Program}{T K E:TypeId}(hT:P.underlying T=some (.map K E)){w:Wo}{b:Nat}{l:List (By×Va)}(h:gS w b l):(Instr.range T (.map (some b))).run P w=.ok (.pointer w.heap.size) (w.alloc (.mapIter (some b) l.length #[] l.length)):=by unfold gS at h;simp only[Instr.range,Sem.run_bind,run_underlying hT,Result.andThen,Go.MapKept.run_getObj_map (P:=P) h];rfl
theorem O5:∀{l:List (By×Va)} {i j:Nat},j<l.length->({key:=.string (l j (ByteArray.empty,.nilFunc)).1,val:=(l j (ByteArray.empty,.nilFunc)).2,born:=i+j}:MapEntry)∈kI l i
 |[],_,_,h=>aB h sM
 |p::l,i,0,_=>by simp[kI]
 |p::l,i,j+1,h=>by
  have:=O5 (l:=l) (i:=i+1) (j:=j) (by simpa using h);rw[kI,List.mem_cons];refine .inr ?_;rw[show i+(j+1)=i+1+j from om];simpa using this
theorem WM{a b c:Wo}{row A:Option Nat}(h:a.grownBy b row)(k:b.grownBy c A)(C:∀j,A=some j->a.heap.size<=j):a.grownBy c row:=
 ⟨k.os.trans h.os,k.tape.trans h.tape,k.output.trans h.output,aZ6 h.size k.size,fun i hi B=>(k.block i (aY1 hi h.size) (fun e=>oA (C i e.symm))).trans (h.block i hi B)⟩
theorem iK.entry{w:Wo}{b:Nat}{ns:List By}{l:List (By×Va)}(h:iK w b ns l){e:MapEntry}(D:e∈kI l 0):∃j s g f a c,j<ns.length/\e={key:=.string (ns j ByteArray.empty),val:=dO s 285 g (.func f a c),born:=j}/\l j (ByteArray.empty,.nilFunc)=(ns j ByteArray.empty,dO s 285 g (.func f a c)):=by
 obtain⟨_,hn,F⟩:=h;obtain⟨j,A,rfl⟩:=C7 D;have E:l j (ByteArray.empty,.nilFunc)∈l:=by rw[aZ4,aZ3 A];exact aY6 A
 obtain⟨s,g,f,a,c,C⟩:=F _ E;have B:(l j (ByteArray.empty,.nilFunc)).1=ns j ByteArray.empty:=by rw[<-hn];simp[List.getD,A]
 refine⟨j,s,g,f,a,c,by rw[<-hn];simpa using A,by rw[B,C,Nat.zero_add],Prod.ext B C⟩
theorem UF(w:Wo):Calls prog 77 #[] w (fun e w'=>∃D,e=.returned (.map (some D))/\w.heap.size<=D/\rD w' D/\Below w.heap.size w w'):=by
 have Hq:= @run_makeMap prog;go_enter func77,ntmps77;go_wp2_with fail;have Az:Hid (gS (w.alloc (.map #[] 0)) w.heap.size []):=aG (heap_alloc_new w _);have Ec:=zh (aH w (.map #[] 0));obtain⟨D,Ep⟩:∃b,b=w.heap.size:=⟨_,rfl⟩
 have At:Hid (w.heap.size<=D):=aG om;generalize w.alloc (.map #[] 0)=x0 at*;rw[<-Ep] at Az|-;clear Ep;refine(xP x0 ⟨#[78]⟩ (.func 121) #[] #[]).mono ?_;rintro e w1 ⟨φ,rfl,Hb,Er,C⟩;have Di:=zh (Az.on C);have Ed:=zh (aC Ec C);have Cw:=zh Er;clear Hb Er C;unfold dO;go_wp2_with fail;refine(xP w1 ⟨#[78,78,76]⟩ (.func 123) #[] #[]).mono ?_;rintro e w2 ⟨Ak,rfl,Hc,Gz,Ap⟩;have Dj:=zh (Di.on Ap);have Ee:=zh (aC Ed Ap);have Cx:=zh (Cw.belowS Ap);clear Hc Gz Ap;unfold dO;have R:=aH w2 (.cells ([iD ⟨#[78]⟩ 170 φ .nilFunc,iD ⟨#[78,78,76]⟩ 170 Ak .nilFunc].flatten).toArray 202);have Ad:=zh (Blk.new w2 202 [iD ⟨#[78]⟩ 170 φ .nilFunc,iD ⟨#[78,78,76]⟩ 170 Ak .nilFunc].flatten);have σ:=zh (Dj.on R);have Ai:=zh (aC Ee R);have Aa:=zh (Cx.belowS R);clear R;simp only[iD,List.flatten_cons,List.flatten_nil,List.cons_append,List.nil_append] at Ad σ Ai Aa;obtain⟨x3,Fi,S,M,Cq⟩:=bP (P:=prog) underlying141 underlying9 σ.out ⟨#[103,102]⟩ (.slice w2.heap.size 2 2) (fun p ν=>by simp at ν);go_upto_region 2 with fail;clear Fi;have Ab:Hid (gS x3 D [(gfN,.slice w2.heap.size 2 2)]):=aG S;have Ef:=zh (Ai.grown M Ai.size (fun k e=>by have:=aZ0 e;have:=At.out;omega));have Ci:∀{k:Nat} {t:TypeId} {cs:List Va} {G:Wo},Blk G k t cs->gS G D []->some k≠some D:=fun hk Cd e=>by obtain rfl:=aZ0 e;exact Cd.not_cells _ _ _ hk
 have Bp:=zh (Ad.grown M (Ci Ad σ));have Cy:=zh (Aa.grown M (Ci Aa σ));clear S M Cq Ad σ Ai Aa Dj Ee Cx Di Ed Cw Az Ec Ci;obtain⟨rg,Fg⟩:∃r,r=w2.heap.size:=⟨_,rfl⟩
 rw[<-Fg] at Ab Bp|-;clear Fg;go_wp2_with fail;refine(G0 x3).mono ?_;rintro e Ho ⟨T,π,rfl,Gw,Ez,⟨Fj,Fk,Fl⟩,C⟩;have Bd:=zh Ez;have Dc:=zh Fl;have Dh:=zh Fk;have Dl:Hid (T≠D):=aG (by have:=Ab.lt;omega);have Ba:=zh (Ab.on C);have Eg:=zh (aC Ef C);have v:=zh (Bp.belowS C);have Cz:=zh (Cy.belowS C);clear Gw Ez Fl Fk C Ab Ef Bp Cy;go_wp2_with fail;refine(EF Ho).mono ?_;rintro e Fp ⟨Y,Aq,rfl,Al,Fa,C⟩;have Bi:=zh Fa;have Dm:Hid (Y≠D):=aG (by have:=Ba.lt;omega);have Be:Hid (iK Fp T kO π):=aG ⟨Bd.1.on C,Bd.2⟩;have Dd:=zh (Dc.on C);have τ:=zh (Ba.on C);have Eh:=zh (aC Eg C);have Ds:=zh (v.belowS C);have W:=zh (Cz.belowS C);clear Al Fa C Ba Eg v Cz Bd Dc;go_wp2_with fail;refine(IA Fp).mono ?_;rintro e Cv ⟨δ,Ct,rfl,Gx,Fb,C⟩;have Bl:=zh Fb;have Dn:Hid (δ≠D):=aG (by have:=τ.lt;omega);have Bf:Hid (iK Cv T kO π):=aG ⟨Be.1.on C,Be.2⟩;have Bj:Hid (iK Cv Y nZ Aq):=aG ⟨Bi.1.on C,Bi.2⟩;have De:=zh (Dd.on C);have Bb:=zh (τ.on C);have Ei:=zh (aC Eh C);have Dt:=zh (Ds.belowS C);have Da:=zh (W.belowS C);clear Gx Fb C τ Eh Ds W Be Bi Dd;go_wp2_with fail;refine(GS Cv).mono ?_;rintro e ι ⟨b4,Fo,rfl,Gy,Fc,C⟩;have Bn:=zh Fc;have Do:Hid (b4≠D):=aG (by have:=Bb.lt;omega);have Bg:Hid (iK ι T kO π):=aG ⟨Bf.1.on C,Bf.2⟩;have Bk:Hid (iK ι Y nZ Aq):=aG ⟨Bj.1.on C,Bj.2⟩;have Bm:Hid (iK ι δ uQ Ct):=aG ⟨Bl.1.on C,Bl.2⟩;have Df:=zh (De.on C);have Dk:=zh (Bb.on C);have Ej:=zh (aC Ei C);have Du:=zh (Dt.belowS C);have Db:=zh (Da.belowS C);clear Gy Fc C Bb Ei Dt Da Bf Bj Bl De;go_upto_region 3 with fail;have C:=aH ι (.cells #[.map (some T),.map (some Y),.map (some δ),.map (some b4)] 209);have Af:=zh (Blk.new ι 209 [.map (some T),.map (some Y),.map (some δ),.map (some b4)]);have Bh:Hid (iK _ T kO π):=aG ⟨Bg.1.on C,Bg.2⟩;have Dp:Hid (iK _ Y nZ Aq):=aG ⟨Bk.1.on C,Bk.2⟩;have Dq:Hid (iK _ δ uQ Ct):=aG ⟨Bm.1.on C,Bm.2⟩;have Dr:Hid (iK _ b4 zE Fo):=aG ⟨Bn.1.on C,Bn.2⟩;have Dg:=zh (Df.on C);have Bc:=zh (Dk.on C);have Ek:=zh (aC Ej C);have Bq:=zh (Du.belowS C);have Av:=zh (Db.belowS C);clear C Dk Ej Du Db Bg Bk Bm Bn Df;generalize ι.alloc (.cells #[.map (some T),.map (some Y),.map (some δ),.map (some b4)] 209)=I at*;obtain⟨bs,Eo⟩:∃b,b=ι.heap.size:=⟨_,rfl⟩
 rw[<-Eo] at Af|-;clear Eo;obtain⟨H,Bz⟩:=xE (fun k=>[T,Y,δ,b4].getD k 0:Nat->Nat);obtain⟨F,Ce⟩:=xE (fun k=>[π,Aq,Ct,Fo].getD k []:Nat->List (By×Va));have Dv:Hid (∀k,k<4->iK I (H k) (pQ k) (F k)/\H k≠D):=aG fun k hk=>by
  rw[Bz,Ce];rcases(by omega:k=0\/k=1\/k=2\/k=3) with rfl|rfl|rfl|rfl
  .exact⟨Bh.out,Dl.out⟩
  .exact⟨Dp.out,Dm.out⟩
  .exact⟨Dq.out,Dn.out⟩
  .exact⟨Dr.out,Do.out⟩
 have Gi:Hid (∀G,I.grownBy G (some D)->∀k,k<4->G.cell? ⟨bs,k,none⟩=some (.map (some (H k)))):=aG fun G M k hk=>by
  have Bx:=Af.grown M (fun e=>by obtain rfl:=aZ0 e;exact Bc.not_cells _ _ _ Af);rw[Bx.cell k,Bz];rcases(by omega:k=0\/k=1\/k=2\/k=3) with rfl|rfl|rfl|rfl<;>rfl
 obtain⟨U,Cu,d,X,Z,rfl,Hd,Hh,Et,Fe⟩:=Dg.out;have Fs:Hid (∀s g f a c,(G5,dO s 285 g (.func f a c))=(F 0).getD 5 (ByteArray.empty,.nilFunc)->iD s 285 g (.func f a c)=iD ⟨#[70,78]⟩ 285 U (.func d X Z)):=aG fun s g f a c h=>by
  obtain⟨j,N,Eu⟩:=eI.1 Dh.out;have hn:=Bh.2.1;have He:j<kO.length:=by rw[<-hn];simpa using N
  have Hf:sR 0 j=G5:=by show kO j ByteArray.empty=_;rw[<-hn];simp[List.getD,N,Eu];rfl
  have ε:=(wY dC dC He wE.2 (Hf.trans wE.1.symm)).2;subst ε;have:(F 0).getD 5 (ByteArray.empty,.nilFunc)=(G5,dO ⟨#[70,78]⟩ 285 U (.func d X Z)):=by rw[Ce];show π 5 _=_;rw[aZ4,aZ3 N,Eu];rfl
  rw[this] at h;have J:=(Prod.mk.inj h).2;unfold dO at J;injection J with J
  have Q:=congrArg Array.toList J;simpa[iD] using Q
 have Aw:=zh Et;have Ax:=zh Fe;have Ag:Hid (yY I D I.heap.size (.slice rg 2 2) (iD ⟨#[70,78]⟩ 285 U (.func d X Z)) (Vis 0 #[])):=aG ⟨_,Bc.out,List.pairwise_singleton _ _,fun p ν=>.inl (by rw[List.mem_singleton] at ν;rw[ν]),by simp,fun Fj=>by
  rcases Fj with⟨i,j,hi,_⟩|⟨j,_,ζ,_⟩
  .omega
  .simp at ζ⟩
 clear Bz Ce Af Bh Dp Dq Dr Dg Bc Dl Dm Dn Do Dh Hd Hh Et Fe;have Br:Hid (∀G,I.grownBy G (some D)->∀k,k<4->iK G (H k) (pQ k) (F k)/\H k≠D):=aG fun G M k hk=>by obtain⟨K,J⟩:=Dv.out k hk;exact⟨⟨K.1.grown M (fun e=>J (aZ0 e)),K.2⟩,J⟩
 have Au:Hid (D<I.heap.size):=aG (by obtain⟨lt,h,_⟩:=Ag.out;exact h.lt);have Fr:Hid (∀G,I.grownBy G (some D)->Blk G rg 202 [.string ⟨#[78]⟩,.func (.func 170) #[] #[.pointer φ],.nilFunc,.string ⟨#[78,78,76]⟩,.func (.func 170) #[] #[.pointer Ak],.nilFunc]/\Blk G φ 207 [.func (.func 121) #[] #[]]/\Blk G U 257 [.func (.func 283) #[] #[.pointer Cu]]/\Blk G Cu 255 [.func (.func 181) #[] #[]]):=aG fun G M=>by
  obtain⟨lt,S,_⟩:=Ag.out;have Ar:∀{k:Nat} {t:TypeId} {cs:List Va},Blk I k t cs->some k≠some D:=fun hk e=>by obtain rfl:=aZ0 e;exact S.not_cells _ _ _ hk
  exact⟨Bq.grown M (Ar Bq),Av.grown M (Ar Av),Aw.grown M (Ar Aw),Ax.grown M (Ar Ax)⟩
 clear Dv Bq Av Aw Ax;go_loopw [17] (fun i wr=>∃k:Nat,k<=4/\i=(k:aV)/\Hid (yY wr D I.heap.size (.slice rg 2 2) (iD ⟨#[70,78]⟩ 285 U (.func d X Z)) (Vis k #[]))/\Hid (I.grownBy wr (some D))) (fun i _=>4-(intOf i).toNat)
 case atStart=>exact⟨0,aZ5 _,rfl,Ag,aG (aP (bE I) (some D))⟩
 case round=>
  clear Ag;obtain⟨k,hk,rfl,y,z⟩:=hrel;by_cases η:k<4
  .have Ha:=Gi.out wr z.out k η;have Fh:=EU (P:=prog) underlying209 (Br wr z k η).1.1;obtain⟨n,hn⟩:=xE ((F k).length);rw[<-hn] at Fh;go_upto_region 6 with fail;have Cp:=heap_alloc_new wr (.mapIter (some (H k)) n #[] n);have Dy:=zh (y.grown (row:=none) (aP (aH wr (.mapIter (some (H k)) n #[] n)) none) (fun r e=>by cases e));have Eb:=zh (WK z (.mapIter (some (H k)) n #[] n));rw[<-hn];generalize wr.alloc (.mapIter (some (H k)) n #[] n)=wA at*;obtain⟨E,Cm⟩:∃r,r=wr.heap.size:=⟨_,rfl⟩
   rw[<-Cm] at Cp|-;have Ae:Hid (I.heap.size<=E):=aG (by rw[Cm];exact z.size);clear Ha Fh y z Cm;have Ew:decide ((k:Int)<4)=true:=dE om;rw[Ew];clear Ew;go_loopw [23] (fun _ G=>Hid (∃seen Aj,G.heap[E]?=some (.mapIter (some (H k)) n seen Aj)/\n<=Aj/\yY G D I.heap.size (.slice rg 2 2) (iD ⟨#[70,78]⟩ 285 U (.func d X Z)) (Vis k seen))/\Hid (I.grownBy G (some D))) (fun _ G=>O4 (H k) E G)
   case atStart=>exact⟨aG ⟨#[],n,Cp,zr,Dy.out⟩,Eb⟩
   case round=>
    clear Dy Eb Cp;obtain⟨Ay,Ah⟩:=hrel;obtain⟨seen,Aj,q,ζ,hT⟩:=Ay.out;obtain⟨κ,El⟩:=Br.out wr Ah.out k η;have y:=zh hT;have Ga:=zh κ;have o:=κ.1;unfold gS at o;have Ca:∀x∈(kI (F k) 0).toArray.toList,x.born<n:=fun x Hj=>by obtain⟨j,N,rfl⟩:=C7 (by simpa using Hj);simpa[hn] using N
    have Gb:Hid (O4 (H k) E wr=(leftOf (kI (F k) 0).toArray seen).size):=aG (by unfold O4;rw[o,q]);rcases Go.run_next_at (P:=prog) wr 0 E (H k) n Aj seen _ _ q o Ca ζ with⟨Bw,μ⟩|⟨e,O,w1,Fm,μ⟩
    .clear Ay q ζ hT κ El o Ca;have Gj : Hid (yY wr D I.heap.size (.slice (some ⟨rg, 0, none⟩) 2 2) (iD ⟨#[70, 78]⟩ 285 U (.func d X Z)) (Vis (k + 1) #[])) := aG (y.iff fun u => Vis.all fun j N => by
      have Cd:=Ga.2.1;rw[<-Cd,aY7] at N;cases Cq:seen.contains j with
      |true=>rfl
      |false=>
       exfalso;have S:({key:=.string ((F k).getD j (ByteArray.empty,.nilFunc)).1,val:=((F k).getD j (ByteArray.empty,.nilFunc)).2,born:=j}:MapEntry)∈kI (F k) 0:=by have:=O5 (i:=0) N;rwa[Nat.zero_add] at this
       have Em:({key:=.string ((F k).getD j (ByteArray.empty,.nilFunc)).1,val:=((F k).getD j (ByteArray.empty,.nilFunc)).2,born:=j}:MapEntry).born=j:=rfl;generalize ({key:=.string ((F k).getD j (ByteArray.empty,.nilFunc)).1,val:=((F k).getD j (ByteArray.empty,.nilFunc)).2,born:=j}:MapEntry)=e0 at S Em;have Bx:e0.born=j:=Em;have K:e0∈(leftOf (kI (F k) 0).toArray seen):=by unfold leftOf;rw[Array.mem_filter];exact⟨by simpa using S,by rw[Bx,Cq];rfl⟩
       have:=Array.size_pos_of_mem K;omega)
     clear Bw;go_wp2_with fail;exact⟨⟨k+1,om,pC,Gj,Ah⟩,oI⟩
    .obtain ⟨j, s, g, f, a, c, N, rfl, Cr⟩ := κ.entry (e := e) (by unfold leftOf at O; rw [Array.toList_filter] at O; simpa using (List.mem_filter.1 O).1);have Ev : seen.contains j = false := by
      unfold leftOf at O;rw[Array.toList_filter] at O;simpa using(List.mem_filter.1 O).2
     have Fu:Hid ((leftOf (kI (F k) 0).toArray (seen.push j)).size<(leftOf (kI (F k) 0).toArray seen).size):=aG (bj O);obtain⟨nm,Ck⟩:∃nm,(pQ k).getD j ByteArray.empty=nm:=⟨_,rfl⟩
     have Ac:Hid (sR k j=nm):=aG Ck;have Cc:({key:=.string ((pQ k).getD j ByteArray.empty),val:=dO s 285 g (.func f a c),born:=j}:MapEntry)∈(kI (F k) 0).toArray.toList:=by unfold leftOf at O;rw[Array.toList_filter] at O;exact(List.mem_filter.1 O).1
     have Ey:((kI (F k) 0).toArray.toList.map (·.born)).Nodup:=by show((kI (F k) 0).map (·.born)).Nodup;rw[FO];exact List.nodup_range'
     rw[Ck] at μ Cc Cr;dsimp only at μ;have Cs:wr.grownBy w1 (some E)/\w1.heap=wr.heap:=by
      rcases Fm with rfl|rfl
      .exact⟨aP (bE _) _,rfl⟩
      .exact⟨aP (aI _) _,rfl⟩
     have Ff:E<w1.heap.size:=by
      rw[Cs.2];rcases Nat.lt_or_ge E wr.heap.size with h|h
      .exact h
      .rw[Array.getElem?_eq_none h] at q;cases q
     obtain⟨L,Ao⟩:=xE (setBlock w1 E (.mapIter (some (H k)) n (seen.push j) (F k).length));rw[<-Ao] at μ;have Co:L.heap[E]?=some (.mapIter (some (H k)) n (seen.push j) n):=by rw[Ao,hn];unfold setBlock;simp[Ff]
     have Am:wr.grownBy L (some E):=bB Cs.1 (by rw[Ao];exact AK _);have En:some (H k)≠some E:=fun e=>by rw[aZ0 e,q] at o;cases o
     have Al:=(Am.block _ κ.1.lt En).trans o;have Cb:=Go.run_entry_at (P:=prog) L E (H k) n seen _ _ _ (by rw[<-hn];exact Co) Al Cc Ey;dsimp only at Cb;have Ea:=zh (WM Ah Am (fun j e=>by have:=aZ0 e;have:=Ae.out;omega));have Dx:=zh (y.grown Am (fun r e=>⟨by have:=aZ0 e;have:=Ae.out;have:=Au.out;omega,by obtain rfl:=aZ0 e;intro cs t fr h;rw[q] at h;cases h⟩));have Ft:Hid (k=0->j=5->iD s 285 g (.func f a c)=iD ⟨#[70,78]⟩ 285 U (.func d X Z)):=aG fun Bu Bv=>by subst Bu Bv;refine Fs.out s g f a c ?_;rw[Cr,<-Ac.out,wE.1]
     have Bo:=zh Co;have ρ:=zh (And.intro N Ev);unfold dO at μ Cb;clear Ay Ah y q ζ hT κ El o Ca Cs Fm Ao Am En Al Cc Ey Ck Cr O Ff N Ev Co;go_upto_region 7 with fail;clear μ;go_upto_region 8 with fail;have ξ:Below L.heap.size L (L.alloc (.cells #[.string s,.func (.func 285) #[] #[.pointer g],.func f a c] 202)):=aH L _;have ψ:=Blk.new L 202 [.string s,.func (.func 285) #[] #[.pointer g],.func f a c];change Blk (L.alloc (.cells #[.string s,.func (.func 285) #[] #[.pointer g],.func f a c] 202)) _ _ _ at ψ;generalize L.alloc (.cells #[.string s,.func (.func 285) #[] #[.pointer g],.func f a c] 202)=V at*;clear Cb;have An:E<L.heap.size:=by
      rcases Nat.lt_or_ge E L.heap.size with h|h
      .exact h
      .have:=Bo.out;rw[Array.getElem?_eq_none h] at this;cases this
     have Dw:Hid (V.heap[E]?=some (.mapIter (some (H k)) n (seen.push j) n)):=aG ((ξ.block E An).trans Bo);have Bt:=zh (bB Ea (aP ξ (some D)));have Bs:=zh (Dx.grown (row:=none) (aP ξ none) (fun r e=>by cases e));have Hk:=ψ.cell 0;have Hl:=ψ.cell 1;have Hm:=ψ.cell 2;simp only[eE,eF] at Hk Hl Hm;have Gn:Hid (I.heap.size<=V.heap.size):=aG Bt.size;have Cj:∀l:List (By×Va),(∀p∈l,p.1=gfN\/Vis k seen p.1)->∀p∈l,p.1≠nm:=fun l Q p ν e=>by
      rcases Q p ν with h|h
      .exact OO η ρ.1 (by rw[Ac.out,<-e,h])
      .rw[e,<-Ac.out] at h;exact Vis.new η ρ.1 ρ.2 h
     have Hp:(Instr.lookup 141 (.map (some D)) (.string nm) false).run prog V=.ok (.slice none 0 0) V:=by obtain⟨lt,K,J,Q,χ,ε⟩:=Bs.out;exact TS (P:=prog) underlying141 underlying9 K nm (Cj lt Q) (ZK V)
     have Gd:=zh Cj;have Gc:=zh (jG V 202 (iD s 285 g (.func f a c)));have Gm:=zh (jZ (w:=V) (B:=I.heap.size) Gn (.cells (iD s 285 g (.func f a c)).toArray 202));have Gf:Hid (∀u∈iD s 285 g (.func f a c),u.oneCell'=true):=aG fun u θ=>by simp only[iD,List.mem_cons,List.not_mem_nil,or_false] at θ;rcases θ with rfl|rfl|rfl<;>rfl
     have R:=aH V (.cells (iD s 285 g (.func f a c)).toArray 202);have Gp:=zh (bB Bt (aP R (some D)));have Gl:=zh (Bs.grown (row:=none) (aP R none) (fun r e=>by cases e));have Gh:Hid _:=aG ((R.block E (aY1 An ξ.size)).trans Dw);have Gg:Hid (E<_):=aG (aY1 An (aZ6 ξ.size R.size));clear ψ ξ Cj R Bs Bt Dw Dx Ea Bo An;go_wp2_with (
      at_builtin;refine fJ rfl 202 208 3 32 _ underlying208 infoCall rfl dC dC _ _ rfl I.heap.size (.slice none 0 0) [] rfl (RO.nil _ _ _ _) V.heap.size 1 (iD s 285 g (.func f a c)) rfl rfl Gc.out Gf.out dC Gm.out ?_;intro Hr As Cl ω _;obtain⟨Fq,Gq,rfl⟩:=Cl.form';change World.grownBy _ _ none at ω;have Dz:=zh (WM Gp ω (fun r e=>by cases e));have Gk:=zh (Gl.grown ω (fun r e=>by cases e));have v:Hid _:=aG ((ω.block E Gg sM).trans Gh);have Ge:=zh Cl;obtain⟨lt,K,J,Q,χ,ε⟩:=Gk.out;have Fv:=zh K;have Fw:=zh J;have Fx:=zh Q;have Fy:=zh χ;have Fz:=zh ε;obtain⟨Hn,Fi,Ex,Es,Hi⟩:=bP (P:=prog) underlying141 underlying9 K nm (.slice Fq 1 Gq) (Gd lt Q);have τ:=zh Ex;have W:=zh Es;clear K J Q χ ε Ex Es Hi Cl ω)
     refine⟨⟨aG ⟨seen.push j,n,?_,zr,?_⟩,aG (bB Dz W)⟩,?_⟩
     .have Cf:E<As.heap.size:=by
       rcases Nat.lt_or_ge E As.heap.size with h|h
       .exact h
       .have:=v.out;rw[Array.getElem?_eq_none h] at this;cases this
      exact(W.block E Cf (fun e=>by have:=aZ0 e;have:=Ae.out;have:=Au.out;omega)).trans v.out
     .have S:=τ.out;rw[<-Ac.out] at S;exact yY.ins η ρ.1 ρ.2 Fw.out Fx.out Fy.out Fz.out S ⟨_,Fv.out⟩ W.out Ge.out Ft.out
     .have Cf:E<As.heap.size:=by
       rcases Nat.lt_or_ge E As.heap.size with h|h
       .exact h
       .have:=v.out;rw[Array.getElem?_eq_none h] at this;cases this
      have K:=(W.block E Cf (fun e=>by have:=aZ0 e;have:=Ae.out;have:=Au.out;omega)).trans v.out;have J:=(Br.out Hn (bB Dz W) k η).1.1;unfold gS at J;rw[Gb.out];unfold O4;rw[K,J];exact Fu.out
  .obtain rfl:k=4:=om;go_wp2_with fail;go_ret;obtain⟨lt,K,J,Q,χ,ε⟩:=y.out;obtain⟨A,c,Gt,Gu⟩:=ε (.inl ⟨0,5,dC,wE.2,wE.1.symm⟩);obtain⟨Bu,Bv,Gr,Gs⟩:=Fr.out wr z.out;refine⟨D,rfl,At.out,⟨lt,K,J,⟨_,_,φ,Ak,χ,⟨_,_,rfl,fun k hk=>⟨_,rfl,fun j u θ=>?_⟩⟩,Bv⟩,⟨A,c,U,Cu,d,X,Z,Gt,Gu.rg,Gr,Gs⟩⟩,Ek.grown z Ek.size (fun k e=>by have:=aZ0 e;have:=At.out;omega)⟩;have Hg:k=0\/k=1:=by simp only[List.length_cons,List.length_nil] at hk;omega
   have ζ:=Bu.cell (k*3+j);have Gv:((rg:aA):Addr).add (k*3+j)=⟨rg,k*3+j,none⟩:=by generalize k*3+j=m;unfold Addr.add;by_cases Bw:m=0<;>simp[Bw]
   rw[Gv,ζ];rcases Hg with rfl|rfl
   .have N:j<3:=(List.getElem?_eq_some_iff.1 θ).1;rcases(by omega:j=0\/j=1\/j=2) with rfl|rfl|rfl<;>exact θ
   .have N:j<3:=(List.getElem?_eq_some_iff.1 θ).1;rcases(by omega:j=0\/j=1\/j=2) with rfl|rfl|rfl<;>exact θ
