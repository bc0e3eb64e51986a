/- Texts of a claim, merged. -/
import Derived.Test.YtpfhoemohibniaaGreatDoorZA18
set_option maxRecDepth 100000
set_option maxHeartbeats 32000000
namespace Go.Proofs.YtpfhoemohibniaaGreatDoor
open Go.RowKit
structure sI(w:World)(kd:Int)(nm:ByteArray)(x:Int)(A:Option Addr)(n c dp sz ln:Nat):Prop where
 form:∀w',Below w.heap.size w w'->Calls Tryz.prog 127 #[.agg #[.int .i64 kd,.string nm,.int .i64 x,.slice none 0 0,.slice A n c]] w' (sG w' true)
 meas:∀w',Below w.heap.size w w'->Calls Tryz.prog 128 #[.agg #[.int .i64 kd,.string nm,.int .i64 x,.slice none 0 0,.slice A n c]] w' (T6 w' (dp:Nat))
 size:∀w',Below w.heap.size w w'->Calls Tryz.prog 129 #[.agg #[.int .i64 kd,.string nm,.int .i64 x,.slice none 0 0,.slice A n c]] w' (iJ w' (sz:Nat))
 wr:yF w kd nm x A n c ln
theorem sI.num(w:World)(x:Nat)(A:x<10):sI w 1 {data:=#[]} (x:Int) none 0 0 1 1 1:=
 ⟨fun w' _=>QY w' x (by omega),fun w' _=>RU w' x (by omega),fun w' _=>TC w' x (by omega),yF.num w x A⟩
theorem sI.mk'{w:World}{nm:ByteArray}{A:Option Addr}{m c:Nat}{I:List (List Value)}(hn:lC nm)(hm:m<=100)(M:RG 5 w (.slice A m c) I)(N:I.length=m)(K P Q F J:Nat->Nat)
   (O:∀k,k<m->∃C D x B n c',I.getD k []=XC C D x B n c'/\sI w C D x B n c' (K k) (P k) (Q k))
   (R:F 0=0)(ds:∀k,k<m->(if F k<K k then K k else F k)=F (k+1))(S:∀k,k<=m->F k<=100000/\K k<=100000)
   (T:J 0=1)(U:∀k,J (k+1)=J k+P k)(sb:∀k,k<=m->J k<=100000/\P k<=100000):sI w 3 nm 0 A m c (F m+1) (J m) (nm.size+1+oS Q m+1):=
 ⟨fun w' E => NA w' nm A m c I hm hn (M.below E zr) N fun k H => by
     obtain⟨C,D,x,B,n,c',G,h⟩:=O k H;exact⟨C,D,x,B,n,c',G,fun w2 L=>h.form w2 (aA E L)⟩,
  fun w' E=>NR w' nm A m c I hm hn (M.below E zr) N F K R ds S fun k H=>by obtain⟨C,D,x,B,n,c',G,h⟩:=O k H;exact⟨C,D,x,B,n,c',G,fun w2 L=>h.meas w2 (aA E L)⟩,
  fun w' E=>O2 w' nm A m c I hm hn (M.below E zr) N J P T U sb fun k H=>by obtain⟨C,D,x,B,n,c',G,h⟩:=O k H;exact⟨C,D,x,B,n,c',G,fun w2 L=>h.size w2 (aA E L)⟩,
  yF.call w nm A m c I Q M N hm fun k H=>by obtain⟨C,D,x,B,n,c',G,h⟩:=O k H;exact⟨C,D,x,B,n,c',G,h.wr⟩⟩
theorem sI.gf{w:World}{cs:List Value}(h:gfX w cs):∃A c,cs=XC 3 lA 0 A 1 c/\sI w 3 lA 0 A 1 c 2 2 5:=by
 obtain⟨A,c,rfl,F,C,D,E⟩:=h;refine⟨A,c,rfl,?_⟩;have:=sI.mk' (w:=w) (nm:=lA) lC.gf (by decide) D C (fun _=>1) (fun _=>1) (fun _=>1) (fun k=>if k=0 then 0 else 1) (fun k=>k+1) (fun k B=>by
  have e:F.getD k []=gB 2:=E k B;exact⟨1,{data:=#[]},(2:Nat),none,0,0,e,sI.num w 2 (by decide)⟩) rfl (fun k B=>by
  obtain rfl:k=0:=by omega
  rfl) (fun k B=>⟨by split<;>omega,by omega⟩) rfl (fun k=>rfl) (fun k B=>⟨by omega,by omega⟩)
 exact this
theorem sI.ham{w:World}{cs:List Value}(h:BD w cs):∃A c,cs=XC 3 eF 0 A 2 c/\sI w 3 eF 0 A 2 c 3 4 17:=by
 obtain⟨A,c,rfl,D,K,L,C⟩:=h;refine⟨A,c,rfl,?_⟩;have I:gfX w (D.getD 0 []):=C 0 (by decide);have J:D.getD 1 []=gB 3:=C 1 (by decide);obtain⟨E,G,H,F⟩:=sI.gf I;have:=sI.mk' (w:=w) (nm:=eF) lC.ham (by decide) L K (fun k=>[2,1].getD k 0) (fun k=>[2,1].getD k 0) (fun k=>[5,1].getD k 0) (fun k=>[0,2,2].getD k 0) (fun k=>if k=0 then 1 else if k=1 then 3 else if k=2 then 4 else 4) (fun k B=>by
  rcases(by omega:k=0\/k=1) with rfl|rfl
  .exact⟨3,lA,0,E,1,G,H,F⟩
  .exact⟨1,{data:=#[]},(3:Nat),none,0,0,J,sI.num w 3 (by decide)⟩) rfl (fun k B=>by
  rcases(by omega:k=0\/k=1) with rfl|rfl<;>rfl) (fun k B=>by
  rcases(by omega:k=0\/k=1\/k=2) with rfl|rfl|rfl<;>decide) rfl (fun k=>by
  rcases(by omega:k=0\/k=1\/2<=k) with rfl|rfl|h
  .rfl
  .rfl
  .have e:([2,1]:List Nat).getD k 0=0:=by rw[aZ4,aY4 (by simpa using h)];rfl
   rw[e,if_neg (by omega),if_neg (by omega),if_neg (by omega)];split
   .omega
   .split
    .omega
    .split<;>rfl) (fun k B=>by
  rcases(by omega:k=0\/k=1\/k=2) with rfl|rfl|rfl<;>decide)
 exact this
theorem MP(w:World)(K:Int)(nm:ByteArray)(x:Int)(A:Option Addr)(n c O P L:Nat)(h:sI w K nm x A n c O P L)(j:O<=32)(l:P<=1024)(k:L<=50000):
  Calls Tryz.prog 74 #[.agg #[.int .i64 K,.string nm,.int .i64 x,.slice none 0 0,.slice A n c]] w (iJ w 0):=by
 have N:=zh h;clear h;have D:=zh (Blk.new w 43 (XC K nm x A n c));have C:=zh (aF w (.cells (XC K nm x A n c).toArray 43));unfold XC at D C;have Z:decide ((32:Int)<(O:Int))=false:=decide_eq_false (by omega);have a:decide (32<O)=false:=decide_eq_false (by omega);have d:decide ((1024:Int)<(P:Int))=false:=decide_eq_false (by omega);have f:decide (1024<P)=false:=decide_eq_false (by omega);have g:decide ((65536:Int)<(L:Int))=false:=decide_eq_false (by omega);have i:decide (65536<L)=false:=decide_eq_false (by omega);go_enter Tryz.func74,Tryz.ntmps74;go_upto_region 1 with fail;generalize w.alloc (.cells #[.int .i64 K,.string nm,.int .i64 x,.slice none 0 0,.slice A n c] 43)=w0 at*;obtain⟨F,G,H,I,J,_,_,_,_,_⟩:=D.five;go_wp2_with fail;refine(N.form w0 C).mono ?_;rintro e w1 ⟨rfl,B⟩;replace D:=zh (D.belowS B);replace C:=zh (aA C B);clear B F G H I J;obtain⟨F,G,H,I,J,_,_,_,_,_⟩:=D.five;go_wp2_with fail;refine(N.meas w1 C).mono ?_;rintro e w2 ⟨rfl,B⟩;replace D:=zh (D.belowS B);replace C:=zh (aA C B);clear B F G H I J;obtain⟨F,G,H,I,J,_,_,_,_,_⟩:=D.five;go_wp2_with fail;refine(N.size w2 C).mono ?_;rintro e E ⟨rfl,B⟩;replace D:=zh (D.belowS B);replace C:=zh (aA C B);clear B F G H I J;have S:=zh C.size;go_upto_region 7 with fail;have Q:Hid (BL E.heap.size E.heap.size 0 (E.alloc (.cells #[.pointer none,.slice none 0 0] 192))):=aD ⟨[],rfl,Lib.fresh_isBuilder _ _ E⟩;have B:=aF E (.cells #[.pointer none,.slice none 0 0] 192);replace D:=zh (D.belowS B);replace C:=zh (aA C B);have M:Hid (w.heap.size<=E.heap.size/\E.heap.size<=(E.alloc (.cells #[.pointer none,.slice none 0 0] 192)).heap.size):=aD ⟨S.out,B.size⟩;clear B;generalize E.alloc (.cells #[.pointer none,.slice none 0 0] 192)=X at*;obtain⟨F,G,H,I,J,_,_,_,_,_⟩:=D.five;obtain⟨b,hb⟩:∃b,b=E.heap.size:=⟨_,rfl⟩
 rw[<-hb] at Q M|-;clear hb S;have R:=zh (N.wr.run X b b 0 C M.1 Q M.2 (by omega));rw[Nat.zero_add] at R;go_wp2_with fail;refine R.mono ?_;rintro e Y ⟨rfl,U,T,_⟩;have V:=zh U;have W:=zh (C.trans (T.mono M.1));clear U T F G H I J;go_wp2_with fail;refine(yK b b L Y V).mono ?_;rintro e m ⟨rfl,rfl⟩;go_wp2_with fail;go_ret;exact⟨rfl,W.out⟩
theorem MQ(w:World)(a b c d f:Value)(h:BD w [a,b,c,d,f]):Calls Tryz.prog 74 #[.agg #[a,b,c,d,f]] w (iJ w 0):=by
 obtain⟨A,B,e,C⟩:=sI.ham h;obtain⟨rfl,rfl,rfl,rfl,rfl⟩:a=.int .i64 3/\b=.string eF/\c=.int .i64 0/\d=.slice none 0 0/\f=.slice A 2 B:=by simpa[XC] using e
 exact MP w 3 eF 0 A 2 B 3 4 17 C (by decide) (by decide) (by decide)
end Go.Proofs.YtpfhoemohibniaaGreatDoor
