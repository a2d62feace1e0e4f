/-
An eye in memory: the cell that holds what is left, and what a reading leaves as it was. No program in sight.
-/
import Derived.Test.YtogcnfhmcpkdcaaGreatNumM
import Derived.Test.YtogcnfhmcpkdcaaGreatRows
import Derived.Test.YtogcnfhmcpkdcaaGreatShelf
import Derived.Laws.Tables
import Derived.WalkKit
import Derived.WalkLawsBesides
import Derived.Lib.Hide
import Derived.Lib.SliceRun
import Derived.Deep.QuietTactic
import Derived.BigQuiet
import Derived.Deep.DeepMust
import Derived.Deep.DeepFit
namespace Go.Proofs.YtogcnfhmcpkdcaaGreat
open Go.RowKit
set_option linter.unusedVariables false
def bF(w:World)(q:Nat)(l:List UInt8):Prop:=q<w.heap.size/\∃a n c,w.cell? ⟨q,0,none⟩=some (.slice a n c)/\w.frozen? ⟨q,0,none⟩=false/\aM w q a n c l
structure fV (q:Nat) (w w':World):Prop where
 os:w'.os=w.os
 tape:w'.tape=w.tape
 output:w'.output=w.output
 size:w.heap.size<=w'.heap.size
 block:∀k,k<w.heap.size->k≠q->w'.heap[k]? =w.heap[k]?
 cell:∀o e,0<o->w'.cell? ⟨q,o,e⟩=w.cell? ⟨q,o,e⟩
theorem fV.refl(q:Nat)(w:World):fV q w w:=⟨rfl,rfl,rfl,Nat.le_refl _,fun _ _ _=>rfl,fun _ _ _=>rfl⟩
theorem fV.trans{q:Nat}{a b c:World}(h:fV q a b)(k:fV q b c):fV q a c:=⟨k.os.trans h.os,k.tape.trans h.tape,k.output.trans h.output,Nat.le_trans h.size k.size,fun i g d=>(k.block i (Nat.lt_of_lt_of_le g h.size) d).trans (h.block i g d),fun o e f=>(k.cell o e f).trans (h.cell o e f)⟩
theorem fV.ofBelow{q:Nat}{w w':World}(a:q<w.heap.size)(h:Below w.heap.size w w'):fV q w w':=⟨h.os,h.tape,h.output,h.size,fun k b _=>h.block k b,fun o e _=>h.cell (p:=⟨q,o,e⟩) a⟩
theorem fV.andBelow{q:Nat}{w w1 b:World}(h:fV q w w1)(hq:q<w.heap.size)(k:Below w.heap.size w1 b):fV q w b:=⟨k.os.trans h.os,k.tape.trans h.tape,k.output.trans h.output,Nat.le_trans h.size k.size,fun i c a=>(k.block i c).trans (h.block i c a),fun o e d=>(k.cell (p:=⟨q,o,e⟩) hq).trans (h.cell o e d)⟩
theorem fV.setCell(w:World)(q:Nat)(v:Value):fV q w (w.setCell ⟨q,0,none⟩ v):=⟨rfl,rfl,rfl,by simp,fun k _ a=>Below.heap_setCell w _ v k a,fun o e c=>World.cell?_setCell_other _ _ _ _ (by intro b;injection b with e3 e4;omega)⟩
theorem ex{B g:Nat}(w:World)(cs:Array Value)(hg:B<=g):Below B w (w.setRow g cs):=⟨rfl,rfl,rfl,by simp,fun k a=>setRow_other _ _ _ _ (by omega)⟩
theorem bF.keep{w w':World}{q:Nat}{l:List UInt8}(h:bF w q l)(hb:Below (q+1) w w'):bF w' q l:=by obtain⟨b,a,n,c,f,e,d⟩:=h;exact⟨Nat.lt_of_lt_of_le b hb.size,a,n,c,by rw[hb.cell (p:=⟨q,0,none⟩) (by show q<q+1;omega)];exact f,by rw[hb.frozen (p:=⟨q,0,none⟩) (by show q<q+1;omega)];exact e,d.below hb (by omega)⟩
theorem bF.below{w w':World}{q:Nat}{l:List UInt8}(h:bF w q l)(hb:Below w.heap.size w w'):bF w' q l:=by obtain⟨b,a,n,c,f,e,d⟩:=h;exact⟨Nat.lt_of_lt_of_le b hb.size,a,n,c,by rw[hb.cell (p:=⟨q,0,none⟩) b];exact f,by rw[hb.frozen (p:=⟨q,0,none⟩) b];exact e,d.below hb (Nat.le_of_lt b)⟩
theorem bF.setCell{w:World}{q:Nat}{l r:List UInt8}(h:bF w q l){a:Option Addr}{n c:Nat}(d:aM w q a n c r):bF (w.setCell ⟨q,0,none⟩ (.slice a n c)) q r:=by obtain⟨e,a',g,j,b,f,i⟩:=h;exact⟨by simpa using e,a,n,c,World.cell?_setCell_same _ _ _ b,by simpa using f,d.setCell b _⟩
end Go.Proofs.YtogcnfhmcpkdcaaGreat
namespace Go.Proofs.YtogcnfhmcpkdcaaGreat
open Go.RowKit
theorem pI:(Tryz.prog.info? 5).map (fun i=>(i.zero,i.size,i.bytes))=some (some (.int .u8 0),1,1):=by kernel_rfl
abbrev bK (x:Int):Ending:= .panicked [{ v:= .iface 149 (.agg #[.int .i64 x]),recovered:=false }]
set_option maxHeartbeats 2000000 in
set_option maxRecDepth 100000 in
theorem nI(l:List UInt8)(a:Option Addr)(n c:Nat)(w:World)(h:aM w w.heap.size a n c l):
  Calls Tryz.prog 55 #[.slice a n c] w fun e w'=>∃a' c',e= .returned (.slice a' n c')/\aM w' w'.heap.size a' n c' l/\Below w.heap.size w w'/\w'.ownsRow w.heap.size 5 1 (.slice a' n c') n (l.map bv):=by
 have J:∀(w:World) (a:Option Addr) (n c v c':Nat),(binOp .eql 27 (.slice a n c) (.slice none v c')).run Tryz.prog w= .ok (.bool a.isNone) w:=fun w a n c v c'=>Lib.run_eql_slice_nil w _ _ a n c v c' Tryz.underlying27
 obtain⟨q,O,p,g,r,s⟩:=h;have N:=p;unfold maxLen at N;cases a with
 | none=>
  have F:=g rfl;subst F;have C:n=0:=by omega
  subst C;go_enter Tryz.func55,Tryz.ntmps55
  go_wp2;go_ret;have P:l= []:=List.eq_nil_of_length_eq_zero q;subst P;exact⟨none,0,rfl,aM.zero _ _ _ _ (by simp[maxLen]) (fun _=>rfl),Below.refl _ _,⟨rfl, .inl ⟨rfl,rfl⟩⟩⟩
 | some ad=>
  have f:∀j u,(l.map bv)[j]? =some u->w.cell? (ad.add j)=some u:=by
   intro j u t;have D:j<n:=by have:=(List.getElem?_eq_some_iff.1 t).1;simp at this;omega
   obtain⟨b,o,e,U,T⟩:=s (by omega);simp at e;subst e;rw[Addr.add_lit,T j D,<-t];simp[List.getElem?_map,List.getD,List.getElem?_eq_getElem (show j<l.length by omega)]
  have A:Aside (∀j u,(l.map bv)[j]? =some u->w.cell? (ad.add j)=some u):=f;clear f s;obtain⟨L,S,B,z,y⟩:=info_parts pI;go_enter Tryz.func55,Tryz.ntmps55
  go_wp2_with (at_builtin;refine wpList_append_own _ rfl _ _ 27 rfl w.heap.size 5 L (.int .u8 0) 1 1 Tryz.underlying27 S B z y rfl (by decide) _ _ _ rfl (World.ownsRow_made w #[] 0 (Nat.le_refl _) (Nat.zero_le _) rfl) ad n c (l.map bv) rfl ?qc1 ?qc2 ?qc3 ?qc4 ?qc5 ?qc6 ?_)
  case qc1=>simp;omega
  case qc2=>intro j u t;exact Lib.cell?_alloc_some _ (A.out j u t)
  case qc3=>intro u M;obtain⟨x,_,rfl⟩:=List.mem_map.1 M;rfl
  case qc4=>unfold maxLen;omega
  case qc5=>omega
  case qc6=>simp
  intro I H m i g;go_wp2;go_ret;have d:H.ownsRow w.heap.size 5 1 I n (l.map bv):=by simpa using m
  obtain⟨a',c',rfl,G⟩:=dG d r;exact⟨a',c',rfl,G,((Below.refl _ w).alloc (Nat.le_refl _) _).grown i (by simp) (by intro k R;simp[Value.ownBlock]at R;omega),d⟩
theorem dY(p:Value)(x:Int)(hx:x≠0)(w:World):
  Calls Tryz.prog 97 #[p, .int .i64 x] w fun e w'=>e=bK x/\w=w':=by
 have a:(x !=0)=true:=by simpa using hx
 go_enter Tryz.func97,Tryz.ntmps97
 go_wp2;exact⟨rfl,rfl,rfl⟩
def tO(q k:Nat)(l:List UInt8)(w:World)(e:Ending)(w':World):Prop:=fV q w w'/\
   (l.length<k->e=bK 2)/\
   (k<=l.length->∃a,e= .returned (.slice a k k)/\aM w' q a k k (l.take k)/\bF w' q (l.drop k))
theorem mp(q k:Nat)(l:List UInt8)(w:World)(h:bF w q l):
  Calls Tryz.prog 116 #[.pointer (some ⟨q,0,none⟩), .int .i64 k] w fun e w'=>tO q k l w e w':=by
 have he:=h;obtain⟨M,a,n,c,A,L,g⟩:=h;have N:=g.hlen;have D:=g.hle;have HS:=Hh g;have HE:=Hh he;clear g he;by_cases O:k<=n
 ·have I:decide ((n:Int)<k)=false:=by simp;omega
  have y:∀(v:Value) (x i:Option Addr) (m c2:Nat),v= .slice i k k->aM w q i k k (l.take k)->aM w q x m c2 (l.drop k)->
    tO q k l w (.returned v) (w.setCell ⟨q,0,none⟩ (.slice x m c2)):=by
   intro v x i m c2 z s r;exact⟨fV.setCell _ _ _,fun C=>by omega,fun _=>⟨i,by rw[z],s.setCell A _,HE.out.setCell r⟩⟩
  have j:=Hh y;clear y;cases a with
  | none=>
   have t:=HS.out.hnil rfl;subst t;have p:n=0:=by omega
   subst p;have f:k=0:=by omega
   subst f;go_enter Tryz.func116,Tryz.ntmps116
   go_wp2;go_ret;refine j.out _ _ _ _ _ rfl (HS.out.take (Nat.le_refl _)) (by simpa using HS.out)
  | some ad=>
   have B:=HS.out.hmax;by_cases H:n=0
   ·subst H;have f:k=0:=by omega
    subst f;have d:l= []:=List.eq_nil_of_length_eq_zero HS.out.hlen;subst d;go_enter Tryz.func116,Tryz.ntmps116
    go_wp2
    all_goals go_ret
    all_goals exact j.out _ _ _ _ _ rfl (aM.zero _ _ _ _ (by simp[maxLen]) (fun e=>by simp at e)) (aM.zero _ _ _ _ (by omega) (fun e=>by simp at e))
   ·obtain⟨b,o,e,_,_⟩:=HS.out.hat (by omega);simp at e;subst e;go_enter Tryz.func116,Tryz.ntmps116
    go_wp2
    ·rename_i G
     go_ret;have F:k=n:=by omega
     have d:l.drop k= []:=by simp;omega
     refine j.out _ _ _ _ _ rfl (HS.out.take (by omega)) ?_;rw[d,show n-k=0 by omega];exact aM.zero _ _ _ _ (by omega) (fun e=>by simp at e)
    ·go_ret;exact j.out _ _ _ _ _ rfl (HS.out.take (by omega)) (HS.out.drop (by omega))
 ·have I:decide ((n:Int)<k)=true:=by simp;omega
  go_enter Tryz.func116,Tryz.ntmps116
  go_wp2_with fail;refine(dY _ 2 (by decide) _).mono ?_;rintro e J ⟨rfl,rfl⟩;go_wp2;exact⟨rfl,fV.refl _ _,fun _=>rfl,fun P=>by omega⟩
end Go.Proofs.YtogcnfhmcpkdcaaGreat
