/-
Contracts of others and look.
-/
import Derived.Test.YtogcnfhmcpkdcaaGreatRaftM1
import Derived.Test.YtogcnfhmcpkdcaaGreatVoteM
import Derived.Test.YtogcnfhmcpkdcaaGreatRaftLaw
import Derived.Test.YtogcnfhmcpkdcaaGreatLine2
import Derived.Test.YtogcnfhmcpkdcaaGreatOpenO
set_option maxRecDepth 100000
set_option maxHeartbeats 2000000
namespace Go.Proofs.YtogcnfhmcpkdcaaGreat
open Go.RowKit
set_option linter.unusedVariables false
set_option linter.unusedSimpArgs false
theorem mP(p:Nat)(R:aa)(M:ay)(f:FuncId)(hf:∀args w,Sem.run Tryz.prog (callFunc f args) w= .ok (.enter f args) w)(first cap:Array Value)(F:aa->Int->aa)(J:Nat->aa->Prop)(n:Nat)(hn:R.n=n)(hn7:n<=7)(w:World)(h:ao w p R M)
 (h0:J 0 R)(hs:∀i S,i<n->J i S->S.me=R.me/\J (i+1) (if (i:Int)=S.me then S else F S i))(hend:∀S,J n S->S.me=R.me)
 (s:∀(i:Nat),i<n->(i:Int)≠R.me->∀S N W,ao W p S N->ah p M N w W->J i S->Calls Tryz.prog f (first.push (.int .i64 i)++cap) W fun e W'=>e= .returned (.tuple #[])/\∃N',ao W' p (F S i) N'/\ah p N N' W W'):
  Calls Tryz.prog 39 #[.pointer (some ⟨p,0,none⟩), .func (.func f) first cap] w fun e w'=>e= .returned (.tuple #[])/\∃M',ao w' p (R.others F) M'/\ah p M M' w w'/\J n (R.others F):=by
 have c1:w.cell? ⟨p,1,none⟩=some (.int .i64 (n:Int)):=by rw[<-hn];exact h.c rfl
 have I:=Hh s;have X:=Hh h;have HS:=Hh hs;have Z:=Hh h0;have Y:=Hh hn;clear s h hs h0 hn;go_enter Tryz.func39,Tryz.ntmps39
 go_wp2_with fail;obtain⟨z,rfl⟩:∃z:World,z=w:=⟨_,rfl⟩
 go_loopw [9] (fun A wr=>∃(i:Nat) (S:aa) (N:ay),A= .int .i64 i/\i<=n/\ao wr p S N/\ah p M N z wr/\J i S/\R.others F=bI F (n-i) i S) (fun A _=>n-(intOf A).toNat)
 case atStart=>exact⟨0,R,M,rfl,by omega,X.out, .refl _ _ _,Z.out,by rw[aa.others,Y.out];rfl⟩
 case round=>
  obtain⟨i,S,N,rfl,hi,O,L,T,P⟩:=hrel;have d:=Hh O;have y:=Hh L;have H:=Hh T;have U:=Hh P;clear O L T P;by_cases a:i<n
  ·have V:decide ((i:Int)<(n:Int))=true:=by simpa using a
   have c0:wr.cell? ⟨p,0,none⟩=some (.int .i64 S.me):=d.out.c rfl;obtain⟨o,q⟩:=HS.out i S a H.out;have l:bI F (n-i) i S=bI F (n-(i+1)) ((i+1:Nat):Int) (if (i:Int)=S.me then S else F S i):=by
    rw[show n-i=(n-(i+1))+1 by omega,bI]
    norm_cast
   have v:=Hh (U.out.trans l);have x:=Hh q;have G:=Hh o;clear l q o;by_cases b:(i:Int)=S.me
   ·have tm:((i:Int) !=S.me)=false:=by simp[b]
    have g:=Hh (show R.others F=bI F (n-(i+1)) ((i+1:Nat):Int) S by rw[v.out,if_pos b]);have j:=Hh (show J (i+1) S by have t:=x.out;rw[if_pos b]at t;exact t);clear b;go_wp2;go_roundw
    case rel=>exact⟨i+1,S,N,by go_num,a,d.out,y.out,j.out,g.out⟩
    case measure=>simp[intOf];omega
   ·have tm:((i:Int) !=S.me)=true:=by simpa using b
    have g:=Hh (show R.others F=bI F (n-(i+1)) ((i+1:Nat):Int) (F S i) by rw[v.out,if_neg b]);have j:=Hh (show J (i+1) (F S i) by have t:=x.out;rw[if_neg b]at t;exact t);have HC:=Hh (I.out i a (by rw[<-G.out];exact b) S N wr d.out y.out H.out);clear b;go_wp2_with fail;refine HC.out.mono ?_;rintro e w1 ⟨rfl,N',m,k⟩;have D:=Hh m;have C:=Hh (y.out.trans k);clear m k c0;go_wp2;go_roundw
    case rel=>exact⟨i+1,_,N',by go_num,a,D.out,C.out,j.out,g.out⟩
    case measure=>simp[intOf];omega
  ·have V:decide ((i:Int)<(n:Int))=false:=by simpa using a
   have B:i=n:=by omega
   subst B;have r:R.others F=S:=by rw[U.out,Nat.sub_self];rfl
   clear a;go_wp2;go_end0;rw[r];exact⟨rfl,N,d.out,y.out,H.out⟩
structure kB (p:Nat) (me n:Int) (W:World):Prop where
 c0:W.cell? ⟨p,0,none⟩=some (.int .i64 me)
 c1:W.cell? ⟨p,1,none⟩=some (.int .i64 n)
theorem ao.lookS{w:World}{p:Nat}{R:aa}{M:ay}(h:ao w p R M):kB p R.me R.n w:=⟨h.c rfl,h.c rfl⟩
theorem ao.setMat{w:World}{p:Nat}{R:aa}{M:ay}(h:ao w p R M){j:Nat}(a:j<7)(x:Int):ao (w.setCell ⟨p,18+j,none⟩ (iz x)) p { R with mat:=R.mat.set j x } M/\ah p M M w (w.setCell ⟨p,18+j,none⟩ (iz x)):=h.set (18+j) (iz x) (og h.sv a x) ⟨h.sv.v7,by simp[h.sv.m7],h.sv.x7⟩ rfl rfl rfl rfl
theorem ao.setNxt{w:World}{p:Nat}{R:aa}{M:ay}(h:ao w p R M){j:Nat}(a:j<7)(x:Int):ao (w.setCell ⟨p,25+j,none⟩ (iz x)) p { R with nxt:=R.nxt.set j x } M/\ah p M M w (w.setCell ⟨p,25+j,none⟩ (iz x)):=h.set (25+j) (iz x) (oe h.sv a x) ⟨h.sv.v7,h.sv.m7,by simp[h.sv.x7]⟩ rfl rfl rfl rfl
theorem ao.setVotes{w:World}{p:Nat}{R:aa}{M:ay}(h:ao w p R M){j:Nat}(a:j<7)(x:Int):ao (w.setCell ⟨p,11+j,none⟩ (iz x)) p { R with votes:=R.votes.set j x } M/\ah p M M w (w.setCell ⟨p,11+j,none⟩ (iz x)):=h.set (11+j) (iz x) (lR h.sv a x) ⟨by simp[h.sv.v7],h.sv.m7,h.sv.x7⟩ rfl rfl rfl rfl
theorem ao.setCommit{w:World}{p:Nat}{R:aa}{M:ay}(h:ao w p R M)(x:Int):ao (w.setCell ⟨p,8,none⟩ (iz x)) p { R with commit:=x } M/\ah p M M w (w.setCell ⟨p,8,none⟩ (iz x)):=h.set 8 (iz x) (bg (by omega) rfl rfl rfl rfl rfl) (h.sv.cp rfl rfl rfl) rfl rfl rfl rfl
theorem ao.matSl{w:World}{p:Nat}{R:aa}{M:ay}(h:ao w p R M){n:Nat}(h1:1<=n)(hn:n<=7):SlAt w w.heap.size 1 (some ⟨p,18,none⟩) (R.mat.take n).length 7 ((R.mat.take n).map (Value.int .i64)):=by
 have a:(R.mat.take n).length=n:=by rw[List.length_take,h.sv.m7];omega
 refine⟨by simp,by omega,by simp[maxLen],by simp,fun d=>⟨p,18,rfl,h.lt,fun i b=> ?_⟩⟩;rw[List.length_map,a]at b;rw[h.c (dV h.sv (show i<7 by omega))];rw[List.getElem?_map,List.getElem?_take_of_lt (by omega),List.getElem?_eq_getElem (by rw[h.sv.m7];omega)];rw[List.getD_eq_getElem?_getD,List.getElem?_eq_getElem (by rw[h.sv.m7];omega)];rfl
theorem mQ(p:Nat)(R:aa)(M:ay)(hn1:1<=R.n)(hn7:R.n<=7)(hm0:0<=R.me)(hmn:R.me<R.n)(hg:R.line.Good)(w:World)(h:ao w p R M):
  Calls Tryz.prog 52 #[.pointer (some ⟨p,0,none⟩)] w fun e w'=>e= .returned (.tuple #[])/\∃M',ao w' p R.look M'/\ah p M M' w w':=by
 obtain⟨me,D⟩:∃me:Nat,R.me=me:=⟨R.me.toNat,by omega⟩
 obtain⟨n,hn⟩:∃n:Nat,R.n=n:=⟨R.n.toNat,by omega⟩
 have A:me<7:=by omega
 have X:1<=n:=by omega
 have W:n<=7:=by omega
 have hk0:(0:Int)<=(me:Int):=by omega
 have hk1:(me:Int)<7:=by omega
 have hk7:(n:Int)<=7:=by omega
 have HR:=Hh h;have HG:=Hh hg;obtain⟨S,x⟩:∃S:aa,S={ R with mat:=R.mat.set me R.line.last }:=⟨_,rfl⟩
 have HSd:=Hh x;obtain⟨I,hI⟩:∃I,I=cB (S.mat.take n):=⟨_,rfl⟩
 have l:=Hh (show R.look=if R.commit<I/\(bk R.line I).1=R.bt then { S with commit:=I } else S by rw[hI,x];unfold aa.look;rw[show R.me.toNat=me by omega,show R.n.toNat=n by omega])
 have hc:kB p me n w:=by have a:=h.lookS;rw[D,hn]at a;exact a
 have HI:=Hh hI;have HC:=Hh hc;have o:=Hh (show R.me=me/\R.n=n from⟨D,hn⟩);clear h hg x hI D hn hn1 hn7 hm0 hmn hc;go_enter Tryz.func52,Tryz.ntmps52
 go_wp2_with fail;refine fx (S:=kB p me n) ?_;have i:Below w.heap.size w w.drew:=(Below.refl _ _).drew;have T:=Hh (HR.out.below i);have d:kB p me n w.drew:=by have a:=T.out.lookS;rw[o.out.1,o.out.2]at a;exact a
 refine hT 0 6 d ?_;refine hT 1 7 d ?_;refine hT 2 8 d ?_;refine hT 3 9 d ?_;refine hT 4 10 d ?_;refine hT 5 11 d ?_;refine hT 7 13 d ?_;refine hT 8 14 d ?_;clear d;refine bp 6 ?_;go_simp;refine(gn HG.out T.out).mono ?_;rintro e w2 ⟨rfl,m2,G⟩;have r:=Hh (T.out.drawn G);have Y:Below w.heap.size w w2:=by rw[G];exact i.trans ((below_drewN _ m2).mono (Nat.le_refl _))
 have HB2:=Hh Y;have L:kB p me n w2:=by have a:=r.out.lookS;rw[o.out.1,o.out.2]at a;exact a
 refine⟨L,?_⟩;clear G i Y;refine hT 9 15 L ?_;have p2:w2.cell? ⟨p,18+me,none⟩=some (iz (R.mat.getD me 0)):=r.out.c (dV r.out.sv A);have f2:=r.out.f (18+me);refine bp 10 ?_;refine aj 3 (.tmp 15) (.tmp 12) rfl p (18+me) (iz R.line.last) _ rfl rfl rfl (by kernel_rfl) p2 f2 ?_;obtain⟨O,t⟩:∃O,O=w2.setCell ⟨p,18+me,none⟩ (iz R.line.last):=⟨_,rfl⟩
 rw[<-t];obtain⟨s,C⟩:=r.out.setMat A R.line.last;rw[<-t,<-HSd.out]at s;rw[<-t]at C;have HR3:=Hh s;have HT3:=Hh ((ah.ofBelow HB2.out).trans C);have g:=Hh (show S.me=me/\S.n=n/\S.line=R.line/\S.commit=R.commit/\S.bt=R.bt by rw[HSd.out];exact⟨o.out.1,o.out.2,rfl,rfl,rfl⟩);have Z:kB p me n O:=by have a:=s.lookS;rw[g.out.1,g.out.2.1]at a;exact a
 refine⟨Z,dc ?_⟩;clear Z L p2 f2 t s C;go_wp2_with fail;refine fx (S:=kB p me n) ?_;have i:Below O.heap.size O O.drew:=(Below.refl _ _).drew;have z:=Hh (HR3.out.below i);have b:kB p me n O.drew:=by have a:=z.out.lookS;rw[g.out.1,g.out.2.1]at a;exact a
 refine hT 0 17 b ?_;refine hT 1 18 b ?_;refine hT 2 19 b ?_;refine hT 3 20 b ?_;refine hT 4 21 b ?_;refine hT 5 22 b ?_;refine hT 6 23 b ?_;refine aG 7 24 (v:= .slice (some ⟨p,18,none⟩) n 7) rfl rfl (by kernel_rfl) (by kernel_rfl) (by kernel_rfl) (fun _ _ _ h=>h) b (.inl ⟨by rfl,by intro w' x;clear x;go_simp;(try (all_goals rfl))⟩) ?_;simp only[List.set_cons_zero,List.set_cons_succ];clear b;refine bp 8 ?_;go_simp;have B:(S.mat.take n).length=n:=by rw[List.length_take,z.out.sv.m7];omega
 have j:=kH (S.mat.take n) (some ⟨p,18,none⟩) 7 _ (z.out.matSl X W);rw[B,<-HI.out]at j;refine j.mono ?_;rintro e V ⟨rfl,H⟩;have y:=Hh (z.out.below H);have HT5:=Hh (HT3.out.trans (.ofBelow (i.trans H)));have k:kB p me n V:=by have a:=y.out.lookS;rw[g.out.1,g.out.2.1]at a;exact a
 refine⟨k,?_⟩;clear H i B j;refine hT 9 16 k ?_;refine aG 10 26 (v:= .int .i64 I) rfl rfl (by kernel_rfl) (by kernel_rfl) (by kernel_rfl) (fun _ _ _ h=>h) k (.inl ⟨by rfl,by intro w' x;clear x;go_simp;(try (all_goals rfl))⟩) ?_;simp only[List.set_cons_zero,List.set_cons_succ];refine aG 11 27 (v:= .bool (dP (S.mat.take n))) rfl rfl (by kernel_rfl) (by kernel_rfl) (by kernel_rfl) (fun _ _ _ h=>h) k (.inl ⟨by rfl,by intro w' x;clear x;go_simp;(try (all_goals rfl))⟩) ?_;simp only[List.set_cons_zero,List.set_cons_succ];refine hT 12 2 k ?_;refine hT 13 3 k ?_;refine dc ?_;clear k;have c4:V.cell? ⟨p,4,none⟩=some (.pointer (some ⟨M.lb,0,none⟩)):=y.out.c rfl;go_wp2_with fail;have q:=y.out.ln;rw[g.out.2.2.1]at q;refine(dx 0 M.lb R.line HG.out M.la M.lc M.ms I _ q).mono ?_;rintro e w6 ⟨rfl,m6,F⟩;have m:=Hh (y.out.drawn F);have P:=Hh (HT5.out.trans (.ofBelow (show Below V.heap.size V w6 by rw[F];exact below_drewN V m6)));obtain⟨Tm,J⟩:∃Tm,(bk R.line I).1=Tm:=⟨_,rfl⟩
 rw[J];have HTM:=Hh J;have c8:w6.cell? ⟨p,8,none⟩=some (.int .i64 R.commit):=by rw[<-g.out.2.2.2.1];exact m.out.c rfl
 have c2:w6.cell? ⟨p,2,none⟩=some (.int .i64 R.bt):=by rw[<-g.out.2.2.2.2];exact m.out.c rfl
 have f8:=m.out.f 8;clear F J q c4;by_cases N:R.commit<I
 ·have t1:decide (R.commit<I)=true:=by simpa using N
  by_cases U:Tm=R.bt
  ·have t2:(Tm==R.bt)=true:=by simpa using U
   have HF:=Hh (show R.look={ S with commit:=I } by rw[l.out,HTM.out,if_pos ⟨N,U⟩]);clear N U;go_wp2;go_end0;obtain⟨a,h8⟩:=m.out.setCommit I;exact⟨rfl,M,by rw[HF.out];exact a,P.out.trans h8⟩
  ·have t2:(Tm==R.bt)=false:=by simpa using U
   have HF:=Hh (show R.look=S by rw[l.out,HTM.out,if_neg (fun a=>U a.2)]);clear N U;go_wp2;go_end0;exact⟨rfl,M,by rw[HF.out];exact m.out,P.out⟩
 ·have t1:decide (R.commit<I)=false:=by simpa using N
  have HF:=Hh (show R.look=S by rw[l.out,if_neg (fun a=>N a.1)]);clear N;go_wp2;go_end0;exact⟨rfl,M,by rw[HF.out];exact m.out,P.out⟩
end Go.Proofs.YtogcnfhmcpkdcaaGreat
namespace Go.Proofs.YtogcnfhmcpkdcaaGreat
open Go.RowKit
set_option linter.unusedVariables false
set_option linter.unusedSimpArgs false
theorem dj(R:aa)(who:Int):∃y,R.send who={ R with out:=R.out++ [y] }:=by
 unfold aa.send;split
 ·exact⟨_,rfl⟩
 ·exact⟨_,rfl⟩
theorem ch(R:aa):∃m c,R.look={ R with mat:=m,commit:=c }/\m=R.mat.set R.me.toNat R.line.last/\(c=R.commit\/(R.commit<c/\c=cB (m.take R.n.toNat)/\(bk R.line c).1=R.bt)):=by
 unfold aa.look;simp only;split
 ·rename_i h
  exact⟨_,_,rfl,rfl, .inr ⟨h.1,rfl,h.2⟩⟩
 ·exact⟨_,R.commit,rfl,rfl, .inl rfl⟩
theorem fJ{f:aa->Int->aa}(b:∀R i,∃y,f R i={ R with out:=R.out++ [y] }):∀(k:Nat) (i:Int) (R:aa),∃o,bI f k i R={ R with out:=o }/\o.length<=R.out.length+k
 | 0,i,R=>⟨R.out,rfl,by omega⟩
 | k+1,i,R=>by
  unfold bI;by_cases h:i=R.me
  ·rw[if_pos h];obtain⟨o,a,c⟩:=fJ b k (i+1) R;exact⟨o,a,by omega⟩
  ·rw[if_neg h];obtain⟨y,d⟩:=b R i;obtain⟨o,a,c⟩:=fJ b k (i+1) (f R i);rw[d]at a c;rw[d];exact⟨o,a,by simp at c;omega⟩
theorem eG{f:aa->Int->aa}(a:∀R i,∃y,f R i={ R with out:=R.out++ [y] })(R:aa):∃o,R.others f={ R with out:=o }/\o.length<=R.out.length+R.n.toNat:=fJ a _ 0 R
theorem sW{α:Type}(x:α)(l:List α)(i:Nat)(h:i<l.length):(List.replicate i x++l.drop i).set i x=List.replicate (i+1) x++l.drop (i+1):=by
 rw[List.set_append_right _ _ (by simp),List.length_replicate,Nat.sub_self,List.drop_eq_getElem_cons h,List.set_cons_zero,List.replicate_succ']
 simp
theorem wC(x:ae)(hg:x.Good)(it:ar):0<=(x.add it).2/\(x.add it).2<=1099511627776:=by
 unfold ae.add;split
 ·rename_i h
  have a:=h.2;simp[cL]at a;have b:x.last=x.base+(x.l.length:Int):=rfl;have:=hg.b0;simp only;omega
 ·simp
end Go.Proofs.YtogcnfhmcpkdcaaGreat
namespace Go.Proofs.YtogcnfhmcpkdcaaGreat
open Go.RowKit
set_option linter.unusedVariables false
set_option linter.unusedSimpArgs false
theorem xx(w:World)(B:Nat):aM w B none ([]:List UInt8).length 0 []:=aM.zero _ _ _ _ (by simp[maxLen]) (fun _=>rfl)
theorem mT(p:Nat)(R:aa)(M:ay)(hn0:0<=R.n)(hn7:R.n<=7)(hg:R.line.Good)(hx:∀x∈R.nxt,0<=x/\x<=1099511627777)(ho:R.out.length<=999999000)(w:World)(h:ao w p R M):
  Calls Tryz.prog 39 #[.pointer (some ⟨p,0,none⟩), .func (.func 40) #[.pointer (some ⟨p,0,none⟩)] #[]] w fun e w'=>e= .returned (.tuple #[])/\∃M',ao w' p (R.others aa.send) M'/\ah p M M' w w':=by
 obtain⟨n,c⟩:∃n:Nat,R.n=n:=⟨R.n.toNat,by omega⟩
 refine(mP p R M 40 (iR Tryz.func40 (by kernel_rfl) rfl) #[.pointer (some ⟨p,0,none⟩)] #[] aa.send (fun i S=>∃o,S={ R with out:=o }/\o.length<=R.out.length+i) n c (by omega) w h ⟨R.out,rfl,by omega⟩ ?_ ?_ ?_).mono ?_
 ·rintro i S f ⟨o,rfl,d⟩;refine⟨rfl,?_⟩;split
  ·exact⟨o,rfl,by omega⟩
  ·obtain⟨y,a⟩:=dj { R with out:=o } i;rw[a];exact⟨_,rfl,by simp;omega⟩
 ·rintro S ⟨o,rfl, -⟩;rfl
 ·rintro i f-S N W b k ⟨o,rfl,d⟩;exact mO p { R with out:=o } N i (by omega) hg hx (by simp only;omega) W b
 ·rintro e w' ⟨rfl,M',j,g, -⟩;exact⟨rfl,M',j,g⟩
theorem ao.setRole{w:World}{p:Nat}{R:aa}{M:ay}(h:ao w p R M)(x:Int):ao (w.setCell ⟨p,6,none⟩ (iz x)) p { R with role:=x } M/\ah p M M w (w.setCell ⟨p,6,none⟩ (iz x)):=h.set 6 (iz x) (bg (by omega) rfl rfl rfl rfl rfl) (h.sv.cp rfl rfl rfl) rfl rfl rfl rfl
theorem ao.setLead{w:World}{p:Nat}{R:aa}{M:ay}(h:ao w p R M)(x:Int):ao (w.setCell ⟨p,7,none⟩ (iz x)) p { R with lead:=x } M/\ah p M M w (w.setCell ⟨p,7,none⟩ (iz x)):=h.set 7 (iz x) (bg (by omega) rfl rfl rfl rfl rfl) (h.sv.cp rfl rfl rfl) rfl rfl rfl rfl
theorem ao.setTicks{w:World}{p:Nat}{R:aa}{M:ay}(h:ao w p R M)(x:Int):ao (w.setCell ⟨p,10,none⟩ (iz x)) p { R with ticks:=x } M/\ah p M M w (w.setCell ⟨p,10,none⟩ (iz x)):=h.set 10 (iz x) (bg (by omega) rfl rfl rfl rfl rfl) (h.sv.cp rfl rfl rfl) rfl rfl rfl rfl
structure sS (p lb:Nat) (t:Int) (W:World):Prop where
 c4:W.cell? ⟨p,4,none⟩=some (.pointer (some ⟨lb,0,none⟩))
 c2:W.cell? ⟨p,2,none⟩=some (.int .i64 t)
theorem ao.addR{w:World}{p:Nat}{R:aa}{M:ay}(h:ao w p R M):sS p M.lb R.bt w:=⟨h.c rfl,h.c rfl⟩
theorem ve(p:Nat)(R:aa)(M:ay)(hn1:1<=R.n)(hn7:R.n<=7)(hm0:0<=R.me)(hmn:R.me<R.n)(hg:R.line.Good)(hnw:R.news.length<=999990000)(ho:R.out.length<=999999000)(w:World)(h:ao w p R M):
  Calls Tryz.prog 103 #[.pointer (some ⟨p,0,none⟩)] w fun e w'=>e= .returned (.tuple #[])/\∃M',ao w' p R.goLead M'/\ah p M M' w w':=by
 obtain⟨W1,U⟩:∃W1,W1=((w.setCell ⟨p,6,none⟩ (iz 2)).setCell ⟨p,7,none⟩ (iz R.me)).setCell ⟨p,10,none⟩ (iz 0):=⟨_,rfl⟩
 obtain⟨R1,W⟩:∃R1:aa,R1={ R with role:=2,lead:=R.me,ticks:=0 }:=⟨_,rfl⟩
 obtain⟨a1,b1⟩:=h.setRole 2;obtain⟨a2,b2⟩:=a1.setLead R.me;obtain⟨a3,b3⟩:=a2.setTicks 0;have HA3:=Hh (show ao W1 p R1 M by rw[U,W];exact a3);have z:=Hh (show ah p M M w W1 by rw[U];exact(b1.trans b2).trans b3);have c0:w.cell? ⟨p,0,none⟩=some (.int .i64 R.me):=h.c rfl;have c6:w.cell? ⟨p,6,none⟩=some (.int .i64 R.role):=h.c rfl;have c7:w.cell? ⟨p,7,none⟩=some (.int .i64 R.lead):=h.c rfl;have c10:w.cell? ⟨p,10,none⟩=some (.int .i64 R.ticks):=h.c rfl;have f6:=h.f 6;have f7:=h.f 7;have f10:=h.f 10;obtain⟨L,hL⟩:∃L,L=R.line.last+1:=⟨_,rfl⟩
 have hLb:0<=L/\L<=1099511627777:=by have y:R.line.last=R.line.base+(R.line.l.length:Int):=rfl;have:=hg.b0;have:=hg.n2;omega
 have wL:IntKind.i64.wrap L=L:=IntWalk.i64_in _ (by omega);have HL:=Hh hL;have HG:=Hh hg;have Z:=Hh W;have HW1:=Hh U;have k:=Hh h.sv;have Y:R1.line=R.line:=by rw[W]
 have HLN:=Hh Y;clear h a1 a2 a3 b1 b2 b3 hg hL W U Y;go_enter Tryz.func103,Tryz.ntmps103
 go_wp2_with fail;rw[<-HW1.out];clear c0 c6 c7 c10 f6 f7 f10;obtain⟨wo,rfl⟩:∃wo:World,wo=w:=⟨_,rfl⟩
 go_loopw [17] (fun iv wr=>∃(i:Nat) (S:aa),iv= .int .i64 i/\i<=7/\ao wr p S M/\ah p M M wo wr/\S={ R1 with nxt:=List.replicate i L++R.nxt.drop i,mat:=List.replicate i 0++R.mat.drop i }) (fun iv _=>7-(intOf iv).toNat)
 case atStart=>exact⟨0,R1,rfl,by omega,HA3.out,z.out,by rw[Z.out];simp⟩
 case round=>
  obtain⟨i,S,rfl,hi,hr,ht,hS⟩:=hrel;have HRS:=Hh hr;have HT:=Hh ht;have HSd:=Hh hS;have HSL:=Hh (show S.line=R.line by rw[hS];exact HLN.out);clear hr ht hS;by_cases s:i<7
  ·have ti:decide ((i:Int)<7)=true:=by simp;omega
   have hk0:(0:Int)<=(i:Int):=by omega
   have hk1:(i:Int)<7:=by omega
   go_wp2_with fail;refine fx (S:=PZ p) ?_;have q:Below wr.heap.size wr wr.drew:=(Below.refl _ _).drew;have r:=Hh (HRS.out.below q);have b:PZ p wr.drew:=⟨r.out.lt⟩
   refine hT 0 20 b ?_;refine hT 1 21 b ?_;refine hT 2 22 b ?_;refine hT 3 23 b ?_;refine hT 4 24 b ?_;refine hT 7 27 b ?_;refine hT 11 30 b ?_;refine hT 8 28 b ?_;refine hT 12 31 b ?_;clear b;refine bp 5 ?_;go_simp;refine(gn (by rw[HSL.out];exact HG.out) r.out).mono ?_;rintro e w2 ⟨rfl,m2,hm2⟩;rw[HSL.out];have m:=Hh (r.out.drawn hm2);have z:=Hh (HT.out.trans (.ofBelow (show Below wr.heap.size wr w2 by rw[hm2];exact q.trans ((below_drewN _ m2).mono (Nat.le_refl _)))));have j:PZ p w2:=⟨m.out.lt⟩
   refine⟨j,?_⟩;clear hm2 q;refine aG 6 26 (v:= .int .i64 L) rfl rfl (by kernel_rfl) (by kernel_rfl) (by kernel_rfl) (fun _ _ _ h=>h) j (.inl ⟨by rfl,by intro w' hS;clear hS;have hLL:=HL.out;go_simp;(try (rw[<-HL.out]));(try simp only[wL]);(try (all_goals rfl))⟩) ?_;simp only[List.set_cons_zero,List.set_cons_succ];refine hT 9 29 j ?_;obtain⟨a4,b4⟩:=m.out.setNxt s L;have p2:w2.cell? ⟨p,25+i,none⟩=some (iz (S.nxt.getD i 0)):=m.out.c (dU m.out.sv s);have f2:=m.out.f (25+i);refine bp 10 ?_;refine aj 3 (.tmp 29) (.tmp 26) rfl p (25+i) (iz L) _ rfl rfl rfl (by kernel_rfl) p2 f2 ?_;obtain⟨W4,hW4⟩:∃W4,W4=w2.setCell ⟨p,25+i,none⟩ (iz L):=⟨_,rfl⟩
   rw[<-hW4]at a4 b4 ⊢;have A:=Hh a4;have HT4:=Hh (z.out.trans b4);have hS4:PZ p W4:=⟨a4.lt⟩
   refine⟨hS4,?_⟩;clear j p2 f2 hW4 a4 b4;refine hT 13 32 hS4 ?_;obtain⟨a5,b5⟩:=A.out.setMat s 0;have p2:W4.cell? ⟨p,18+i,none⟩=some (iz (S.mat.getD i 0)):=A.out.c (dV (M:=M) A.out.sv s);have f2:=A.out.f (18+i);refine bp 14 ?_;refine aj 3 (.tmp 32) _ rfl p (18+i) (iz 0) _ rfl rfl rfl (by kernel_rfl) p2 f2 ?_;obtain⟨W5,hW5⟩:∃W5,W5=W4.setCell ⟨p,18+i,none⟩ (iz 0):=⟨_,rfl⟩
   rw[<-hW5]at a5 b5 ⊢;have J:=Hh a5;have I:=Hh (HT4.out.trans b5);have hS5:PZ p W5:=⟨a5.lt⟩
   refine⟨hS5,dc ?_⟩;have HN:=Hh (show({ S with nxt:=S.nxt.set i L,mat:=S.mat.set i 0 }:aa)={ R1 with nxt:=List.replicate (i+1) L++R.nxt.drop (i+1),mat:=List.replicate (i+1) 0++R.mat.drop (i+1) } by rw[HSd.out];simp only;rw[sW _ _ _ (by have:=k.out.x7;have:=k.out.m7;omega),sW _ _ _ (by have:=k.out.x7;have:=k.out.m7;omega)])
   clear hS4 hS5 p2 f2 hW5 a5 b5;go_wp2;go_roundw
   case rel=>exact⟨i+1,_,by go_num,s,J.out,I.out,HN.out⟩
   case measure=>simp[intOf];omega
  ·have ti:decide ((i:Int)<7)=false:=by simp;omega
   have hie:i=7:=by omega
   subst hie;have b:S=R.lead0:=by rw[HSd.out,Z.out,List.drop_eq_nil_of_le (by have:=k.out.x7;have:=k.out.m7;omega),List.drop_eq_nil_of_le (by have:=k.out.x7;have:=k.out.m7;omega),List.append_nil,List.append_nil,HL.out];rfl
   subst b;clear s;go_wp2_with fail;refine fx (S:=sS p M.lb R.bt) ?_;have q:Below wr.heap.size wr wr.drew:=(Below.refl _ _).drew;have r:=Hh (HRS.out.below q);have b:sS p M.lb R.bt wr.drew:=r.out.addR;refine hT 0 34 b ?_;refine hT 4 38 b ?_;refine hT 1 35 b ?_;refine hT 5 39 b ?_;refine hT 2 36 b ?_;refine hT 6 40 b ?_;refine hT 3 37 b ?_;refine hT 7 41 b ?_;refine hT 8 42 b ?_;refine aG 9 43 (v:= .agg #[.int .i64 R.bt, .slice none 0 0]) rfl rfl (by kernel_rfl) (by kernel_rfl) (by kernel_rfl) (fun _ _ _ h=>h) b (.inl ⟨by rfl,by intro w' hS;clear hS;go_simp;(try (all_goals rfl))⟩) ?_;simp only[List.set_cons_zero,List.set_cons_succ];clear b;refine bp 10 ?_;go_simp;refine(mj 0 M.lb R.line HG.out M.la M.lc M.ms R.bt none 0 [] _ r.out.ln (xx _ _) (Nat.zero_le _)).mono ?_;rintro e w2 ⟨rfl,hl2⟩;obtain⟨at_,T⟩:∃a,(R.line.add (R.bt,[])).2=a:=⟨_,rfl⟩
   rw[T];obtain⟨la,lc,ms,G,ht3⟩:=r.out.lined hl2;obtain⟨o,t⟩:∃o:aa,o={ R.lead0 with line:=(R.line.add (R.bt,[])).1 }:=⟨_,rfl⟩
   rw[<-t]at G;obtain⟨M3,hM3⟩:∃M3:ay,M3={ M with la:=la,lc:=lc,ms:=ms }:=⟨_,rfl⟩
   rw[<-hM3]at G ht3;have m:=Hh G;have z:=Hh (HT.out.trans ((ah.ofBelow q).trans ht3));have j:sS p M.lb R.bt w2:=by have h9:=G.addR;rw[hM3,t]at h9;exact h9
   refine⟨j,?_⟩;refine hT 11 3 j ?_;refine dc ?_;have H:=wC R.line HG.out (R.bt,[]);rw[T]at H;have HGA:=Hh (show o.line.Good by rw[t];exact HG.out.add _);have X:=Hh (show R.lead1=if 0<at_ then o.noteItems at_ else o by rw[t,<-T];rfl)
   have d:=Hh (show o.news=R.news/\o.out=R.out/\o.n=R.n/\o.me=R.me/\o.nxt=List.replicate 7 (R.line.last+1) by rw[t];exact⟨rfl,rfl,rfl,rfl,rfl⟩);clear j q hl2 G ht3 T t hM3;have O:=Hh (show ∀(V:World) (N:ay),ao V p R.lead1 N->ah p M N wo V->Calls Tryz.prog 52 #[.pointer (some ⟨p,0,none⟩)] V fun e w'=>e= .returned (.tuple #[])/\∃M',ao w' p R.lead1.look M'/\ah p M M' wo w' from fun V N hv htv=>by
    have y:R.lead1.n=R.n/\R.lead1.me=R.me/\R.lead1.line=o.line:=by
     rw[X.out];split
     ·exact⟨d.out.2.2.1,d.out.2.2.2.1,rfl⟩
     ·exact⟨d.out.2.2.1,d.out.2.2.2.1,rfl⟩
    exact(mQ p R.lead1 N (by rw[y.1];exact hn1) (by rw[y.1];exact hn7) (by rw[y.2.1];exact hm0) (by rw[y.1,y.2.1];exact hmn) (by rw[y.2.2];exact HGA.out) V hv).mono fun e w' ⟨h2,M',h3,h4⟩=>⟨h2,M',h3,htv.trans h4⟩)
   have P:=Hh (show ∀(V:World) (N:ay),ao V p R.lead1.look N->ah p M N wo V->Calls Tryz.prog 39 #[.pointer (some ⟨p,0,none⟩), .func (.func 40) #[.pointer (some ⟨p,0,none⟩)] #[]] V fun e w'=>e= .returned (.tuple #[])/\∃M',ao w' p R.goLead M'/\ah p M M' wo w' from fun V N hv htv=>by
    obtain⟨m9,c9,hl9, -, -⟩:=ch R.lead1;have y:R.lead1.look.n=R.n/\R.lead1.look.line=o.line/\R.lead1.look.nxt=o.nxt/\R.lead1.look.out=R.out:=by
     rw[hl9];show R.lead1.n=_/\R.lead1.line=_/\R.lead1.nxt=_/\R.lead1.out=_;rw[X.out];split
     ·exact⟨d.out.2.2.1,rfl,rfl,d.out.2.1⟩
     ·exact⟨d.out.2.2.1,rfl,rfl,d.out.2.1⟩
    refine(mT p R.lead1.look N (by rw[y.1];omega) (by rw[y.1];exact hn7) (by rw[y.2.1];exact HGA.out) (fun x hx=> ?_) (by rw[y.2.2.2];exact ho) V hv).mono fun e w' ⟨h2,M',h3,h4⟩=>⟨h2,M',h3,htv.trans h4⟩
    rw[y.2.2.1,d.out.2.2.2.2,<-HL.out]at hx;obtain⟨-,rfl⟩:=List.mem_replicate.1 hx;exact hLb)
   by_cases g:0<at_
   ·have t1:decide (0<at_)=true:=by simpa using g
    have HL2:=Hh (show R.lead1=o.noteItems at_ by rw[X.out,if_pos g]);have HNI:=Hh (fW p o M3 at_ H.1 H.2 HGA.out (by rw[d.out.1];omega) _ m.out);clear g H;go_wp2_with fail;refine HNI.out.mono ?_;rintro e w4 ⟨rfl,N4,hr4,ht4⟩;rw[<-HL2.out]at hr4;have A:=Hh hr4;have HT4:=Hh (z.out.trans ht4);clear hr4 ht4;go_wp2_with fail;refine(O.out _ _ A.out HT4.out).mono ?_;rintro e w5 ⟨rfl,N5,F,C⟩;have J:=Hh F;have I:=Hh C;clear F C;go_wp2_with fail;refine(P.out _ _ J.out I.out).mono ?_;rintro e w6 ⟨rfl,N6,D,B⟩;have HR6:=Hh D;have HT6:=Hh B;clear D B;go_wp2;go_end0;exact⟨rfl,N6,HR6.out,HT6.out⟩
   ·have t1:decide (0<at_)=false:=by simpa using g
    have HL2:=Hh (show R.lead1=o by rw[X.out,if_neg g]);clear g H;go_wp2_with fail;refine(O.out _ _ (by rw[HL2.out];exact m.out) z.out).mono ?_;rintro e w5 ⟨rfl,N5,F,C⟩;have J:=Hh F;have I:=Hh C;clear F C;go_wp2_with fail;refine(P.out _ _ J.out I.out).mono ?_;rintro e w6 ⟨rfl,N6,D,B⟩;have HR6:=Hh D;have HT6:=Hh B;clear D B;go_wp2;go_end0;exact⟨rfl,N6,HR6.out,HT6.out⟩
end Go.Proofs.YtogcnfhmcpkdcaaGreat
namespace Go.Proofs.YtogcnfhmcpkdcaaGreat
open Go.RowKit
set_option linter.unusedVariables false
set_option linter.unusedSimpArgs false
theorem sV:∀(l:List Int),(∀x∈l,0<=x/\x<=1)->0<=ef l/\ef l<=(l.length:Int)
 | [],_=>by simp[ef]
 | x::l,h=>by have c:=sV l (fun y a=>h y (by simp[a]));have b:=h x (by simp);simp only[ef,List.length_cons];omega
theorem tU(l:List Int)(i:Nat)(h:i<l.length):ef (l.take (i+1))=ef (l.take i)+l.getD i 0:=by
 induction l generalizing i with
 | nil=>simp at h
 | cons x l ih=>
  cases i with
  | zero=>simp[ef]
  | succ i=>have:=ih i (by simpa using h);simp only[List.take_succ_cons,ef,this,List.getD_cons_succ];omega
theorem ye(a g f e d c b:Int)(w:World):Sem.run Tryz.prog (Instr.index 82 (.agg #[iz a,iz g,iz f,iz e,iz d,iz c,iz b]) (.int .i64 0)) w= .ok (iz a) w:=by kernel_rfl
theorem yd(g a f e d c b:Int)(w:World):Sem.run Tryz.prog (Instr.index 82 (.agg #[iz g,iz a,iz f,iz e,iz d,iz c,iz b]) (.int .i64 1)) w= .ok (iz a) w:=by kernel_rfl
theorem yc(g f a e d c b:Int)(w:World):Sem.run Tryz.prog (Instr.index 82 (.agg #[iz g,iz f,iz a,iz e,iz d,iz c,iz b]) (.int .i64 2)) w= .ok (iz a) w:=by kernel_rfl
theorem yb(g f e a d c b:Int)(w:World):Sem.run Tryz.prog (Instr.index 82 (.agg #[iz g,iz f,iz e,iz a,iz d,iz c,iz b]) (.int .i64 3)) w= .ok (iz a) w:=by kernel_rfl
theorem ya(g f e d a c b:Int)(w:World):Sem.run Tryz.prog (Instr.index 82 (.agg #[iz g,iz f,iz e,iz d,iz a,iz c,iz b]) (.int .i64 4)) w= .ok (iz a) w:=by kernel_rfl
theorem y9(g f e d c a b:Int)(w:World):Sem.run Tryz.prog (Instr.index 82 (.agg #[iz g,iz f,iz e,iz d,iz c,iz a,iz b]) (.int .i64 5)) w= .ok (iz a) w:=by kernel_rfl
theorem y8(g f e d c b a:Int)(w:World):Sem.run Tryz.prog (Instr.index 82 (.agg #[iz g,iz f,iz e,iz d,iz c,iz b,iz a]) (.int .i64 6)) w= .ok (iz a) w:=by kernel_rfl
theorem oK(p:Nat)(R:aa)(M:ay)(who:Nat)(hw:who<7)(hn1:1<=R.n)(hn7:R.n<=7)(hm0:0<=R.me)(hmn:R.me<R.n)(hg:R.line.Good)(hv:∀x∈R.votes,0<=x/\x<=1)(hnw:R.news.length<=999990000)(ho:R.out.length<=999999000)(w:World)(h:ao w p R M):
  Calls Tryz.prog 72 #[.pointer (some ⟨p,0,none⟩), .int .i64 who] w fun e w'=>e= .returned (.tuple #[])/\∃M',ao w' p (R.count who) M'/\ah p M M' w w':=by
 obtain⟨S,N⟩:∃S:aa,S={ R with votes:=R.votes.set who 1 }:=⟨_,rfl⟩
 obtain⟨O,Y⟩:=h.setVotes hw 1;rw[<-N]at O;obtain⟨V,hV⟩:∃V,V=w.setCell ⟨p,11+who,none⟩ (iz 1):=⟨_,rfl⟩
 rw[<-hV]at O Y;have hk0:(0:Int)<=(who:Int):=by omega
 have hk1:(who:Int)<7:=by omega
 have p2:w.cell? ⟨p,11+who,none⟩=some (iz (R.votes.getD who 0)):=h.c (bC h.sv hw);have f2:=h.f (11+who);have P:=Hh (show ∀x∈S.votes,0<=x/\x<=1 from fun x a=>by
  rw[N]at a;rcases List.mem_or_eq_of_mem_set a with b | rfl
  ·exact hv x b
  ·omega)
 have j:=Hh (show S.n=R.n/\S.me=R.me/\S.line=R.line/\S.news=R.news/\S.out=R.out by rw[N];exact⟨rfl,rfl,rfl,rfl,rfl⟩);have D:=Hh (show R.count who=if bD R.n<=ef S.votes then S.goLead else S by rw[N];unfold aa.count;rw[Int.toNat_natCast])
 have HS:=Hh O;have HT:=Hh Y;have HG:=Hh hg;have HV:=Hh hV;have h7:=O.sv.v7;clear h O Y N hV hv hg;obtain⟨A,z,y,v,t,r,q,d⟩:=xI h7;have g:=Hh d;have d0:V.cell? ⟨p,11,none⟩=some (iz A):=by have b:=HS.out.c (bC (M:=M) HS.out.sv (show 0<7 by omega));rw[d]at b;exact b
 have d1:V.cell? ⟨p,12,none⟩=some (iz z):=by have b:=HS.out.c (bC (M:=M) HS.out.sv (show 1<7 by omega));rw[d]at b;exact b
 have d2:V.cell? ⟨p,13,none⟩=some (iz y):=by have b:=HS.out.c (bC (M:=M) HS.out.sv (show 2<7 by omega));rw[d]at b;exact b
 have d3:V.cell? ⟨p,14,none⟩=some (iz v):=by have b:=HS.out.c (bC (M:=M) HS.out.sv (show 3<7 by omega));rw[d]at b;exact b
 have d4:V.cell? ⟨p,15,none⟩=some (iz t):=by have b:=HS.out.c (bC (M:=M) HS.out.sv (show 4<7 by omega));rw[d]at b;exact b
 have d5:V.cell? ⟨p,16,none⟩=some (iz r):=by have b:=HS.out.c (bC (M:=M) HS.out.sv (show 5<7 by omega));rw[d]at b;exact b
 have d6:V.cell? ⟨p,17,none⟩=some (iz q):=by have b:=HS.out.c (bC (M:=M) HS.out.sv (show 6<7 by omega));rw[d]at b;exact b
 rw[HV.out]at d0 d1 d2 d3 d4 d5 d6;clear d h7;go_enter Tryz.func72,Tryz.ntmps72
 go_wp2_with fail;rw[<-HV.out];clear p2 f2 d0 d1 d2 d3 d4 d5 d6;obtain⟨U,rfl⟩:∃U:World,U=V:=⟨_,rfl⟩
 go_loopw [4,16] (fun sv W wr=>∃(i:Nat),W= .int .i64 i/\sv= .int .i64 (ef (S.votes.take i))/\i<=7/\wr=U) (fun _ W _=>7-(intOf W).toNat)
 case atStart=>exact⟨0,rfl,rfl,by omega,rfl⟩
 case round=>
  obtain⟨i,rfl,rfl,hi,rfl⟩:=hrel;by_cases G:i<7
  ·have ti:decide ((i:Int)<7)=true:=by simp;omega
   have F:=tU S.votes i (by rw[g.out];exact G);have B:=sV (S.votes.take i) (fun x a=>P.out x (List.mem_of_mem_take a));rw[List.length_take]at B;obtain⟨s,I⟩:∃s,s=ef (S.votes.take i):=⟨_,rfl⟩
   rw[<-I]at F B ⊢;have l:=Hh F;have a2:s<=7:=by omega
   have hs0:=B.1;have k:=Hh (show 0<=S.votes.getD i 0/\S.votes.getD i 0<=1 from by
    have hl:i<S.votes.length:=by rw[g.out];exact G
    rw[List.getD_eq_getElem?_getD,List.getElem?_eq_getElem hl];exact P.out _ (List.getElem_mem hl))
   clear F B I;rcases (show i=0\/i=1\/i=2\/i=3\/i=4\/i=5\/i=6 by omega) with rfl | rfl | rfl | rfl | rfl | rfl | rfl
   ·have a:S.votes.getD 0 0=A:=by rw[g.out];rfl
    have H:IntKind.i64.wrap (s+A)=s+A:=IntWalk.i64_in _ (by have:=k.out;rw[a]at this;omega);have o:=Hh a;have m:=ye A z y v t r q;clear a;go_wp2;go_roundw
    case rel=>exact⟨1,by go_num,by rw[l.out,o.out],by omega,trivial⟩
    case measure=>simp[intOf]
   ·have a:S.votes.getD 1 0=z:=by rw[g.out];rfl
    have H:IntKind.i64.wrap (s+z)=s+z:=IntWalk.i64_in _ (by have:=k.out;rw[a]at this;omega);have o:=Hh a;have m:=yd A z y v t r q;clear a;go_wp2;go_roundw
    case rel=>exact⟨2,by go_num,by rw[l.out,o.out],by omega,trivial⟩
    case measure=>simp[intOf]
   ·have a:S.votes.getD 2 0=y:=by rw[g.out];rfl
    have H:IntKind.i64.wrap (s+y)=s+y:=IntWalk.i64_in _ (by have:=k.out;rw[a]at this;omega);have o:=Hh a;have m:=yc A z y v t r q;clear a;go_wp2;go_roundw
    case rel=>exact⟨3,by go_num,by rw[l.out,o.out],by omega,trivial⟩
    case measure=>simp[intOf]
   ·have a:S.votes.getD 3 0=v:=by rw[g.out];rfl
    have H:IntKind.i64.wrap (s+v)=s+v:=IntWalk.i64_in _ (by have:=k.out;rw[a]at this;omega);have o:=Hh a;have m:=yb A z y v t r q;clear a;go_wp2;go_roundw
    case rel=>exact⟨4,by go_num,by rw[l.out,o.out],by omega,trivial⟩
    case measure=>simp[intOf]
   ·have a:S.votes.getD 4 0=t:=by rw[g.out];rfl
    have H:IntKind.i64.wrap (s+t)=s+t:=IntWalk.i64_in _ (by have:=k.out;rw[a]at this;omega);have o:=Hh a;have m:=ya A z y v t r q;clear a;go_wp2;go_roundw
    case rel=>exact⟨5,by go_num,by rw[l.out,o.out],by omega,trivial⟩
    case measure=>simp[intOf]
   ·have a:S.votes.getD 5 0=r:=by rw[g.out];rfl
    have H:IntKind.i64.wrap (s+r)=s+r:=IntWalk.i64_in _ (by have:=k.out;rw[a]at this;omega);have o:=Hh a;have m:=y9 A z y v t r q;clear a;go_wp2;go_roundw
    case rel=>exact⟨6,by go_num,by rw[l.out,o.out],by omega,trivial⟩
    case measure=>simp[intOf]
   ·have a:S.votes.getD 6 0=q:=by rw[g.out];rfl
    have H:IntKind.i64.wrap (s+q)=s+q:=IntWalk.i64_in _ (by have:=k.out;rw[a]at this;omega);have o:=Hh a;have m:=y8 A z y v t r q;clear a;go_wp2;go_roundw
    case rel=>exact⟨7,by go_num,by rw[l.out,o.out],by omega,trivial⟩
    case measure=>simp[intOf]
  ·have ti:decide ((i:Int)<7)=false:=by simp;omega
   have X:i=7:=by omega
   subst X;have C:S.votes.take 7=S.votes:=List.take_of_length_le (by have:=HS.out.sv.v7;omega);rw[C];obtain⟨s,I⟩:∃s,ef S.votes=s:=⟨_,rfl⟩
   rw[I];have T:=Hh I;have c1:wr.cell? ⟨p,1,none⟩=some (.int .i64 R.n):=by rw[<-j.out.1];exact HS.out.c rfl
   clear G C I;go_wp2_with fail;refine(cj R.n _).mono ?_;rintro e w1 ⟨rfl,rfl⟩;by_cases he:bD R.n<=s
   ·have t1:decide (bD R.n<=s)=true:=by simpa using he
    have HC:=Hh (show R.count who=S.goLead by rw[D.out,T.out,if_pos he]);clear he c1;go_wp2_with fail;refine(ve p S M (by rw[j.out.1];exact hn1) (by rw[j.out.1];exact hn7) (by rw[j.out.2.1];exact hm0) (by rw[j.out.1,j.out.2.1];exact hmn) (by rw[j.out.2.2.1];exact HG.out) (by rw[j.out.2.2.2.1];exact hnw) (by rw[j.out.2.2.2.2];exact ho) _ HS.out).mono ?_;rintro e w2 ⟨rfl,M',L,J⟩;have a0:=Hh L;have Z:=Hh (HT.out.trans J);clear L J;go_wp2;go_end0;exact⟨rfl,M',by rw[HC.out];exact a0.out,Z.out⟩
   ·have t1:decide (bD R.n<=s)=false:=by simpa using he
    have HC:=Hh (show R.count who=S by rw[D.out,T.out,if_neg he]);clear he c1;go_wp2;go_end0;exact⟨rfl,M,by rw[HC.out];exact HS.out,HT.out⟩
end Go.Proofs.YtogcnfhmcpkdcaaGreat
