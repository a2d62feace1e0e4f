/-
Walks of a group: what the walk of collect wants of the group's memory. No walk.
-/
import Derived.Test.YtogcnfhmcpkdcaaGreatGrC
import Derived.Test.YtogcnfhmcpkdcaaGreatLetPt
namespace Go.Proofs.YtogcnfhmcpkdcaaGreat
open Go.RowKit
set_option linter.unusedVariables false
set_option linter.unusedSimpArgs false
section
variable {w0 w w' w1 : World} {B g c : Nat} {G : ac} {M : bG} {i : Nat}
theorem cS.store{a:Option Addr}{k:Nat}{l:List UInt8}(h:cS w a k l){b j:Nat}{v:Value}{cs:Array Value}{T:TypeId}{fr:Nat×Nat}(d:w.heap[b]? =some (.cells cs T fr))(hT:(T:Nat)≠5):cS (w.setCell ⟨b,j,none⟩ v) a k l:=
 OwnBs.grown (T:=5) h (fun x g f i c=>Below.heap_setCell _ _ _ x (fun e=>by have e:x=b:=e;rw[e]at c;exact hT (aB d c))) (by simp)
structure yA (g b1 n cap:Nat) (W:World):Prop where
 s:g<W.heap.size
 c1:W.cell? ⟨g,1,none⟩=some (.slice (some ⟨b1,0,none⟩) n cap)
theorem yA.below{a n cap:Nat}(h:yA g a n cap w)(hb:Below w.heap.size w w'):yA g a n cap w':=⟨Nat.lt_of_lt_of_le h.s hb.size,(hb.cell (p:=⟨g,1,none⟩) h.s).trans h.c1⟩
structure z7 (g b3 n cap sb so x0 x1:Nat) (W:World):Prop where
 s:g<W.heap.size
 c3:W.cell? ⟨g,3,none⟩=some (.slice (some ⟨b3,0,none⟩) n cap)
 k0:W.cell? ⟨sb,so,none⟩=some (.int .u8 x0)
 k1:W.cell? ⟨sb,so+1,none⟩=some (.int .u8 x1)
theorem aA.rowAt(h:aA w B g c G M){j:Nat}(a:j<8)(hz:rT j=1){k:Nat}(l:k<bR G M j):∃b,M.ra j=some ⟨b,0,none⟩/\w.cell? ⟨g,j,none⟩=some (.slice (some ⟨b,0,none⟩) (bR G M j) (M.rc j))/\w.cell? ⟨b,k,none⟩=(cu G M j)[k]? /\w.frozen? ⟨b,k,none⟩=false/\∃cs,w.heap[b]? =some (.cells cs (rowT j) (0,0)):=by obtain⟨b,d,i,f,m⟩:=h.at_ a (j:=k) (by rw[hz];omega);obtain⟨cur,e⟩:=au (h.rows j a) (k:=b) (by rw[d];rfl);refine⟨b,d,?_,i,f,cur,e⟩;rw[h.cl a,<-d];rfl
theorem nB:(Tryz.prog.info? 27).map (·.size)=some 1:=by kernel_rfl
theorem infoInt1:(Tryz.prog.info? 3).map (·.size)=some 1:=by kernel_rfl
structure eD (w:World) (oa:Option Addr) (on oc:Nat) (ps:List cz):Prop where
 ro:w.ownsRow 0 102 9 (.slice oa on oc) on (ps.flatMap cz.cells)
 ms:∀m∈ps,m.At w
 ln:ps.length=on
theorem eD.fr{c:Option Addr}{on oc:Nat}{ps:List cz}(h:eD w c on oc ps)(hs:w.heap.size<=w'.heap.size)(hk:∀(k:Nat) (cs:Array Value) (T:TypeId) (fr:Nat×Nat),w.heap[k]? =some (.cells cs T fr)->(T:Nat)=102\/(T:Nat)=40\/(T:Nat)=5->w'.heap[k]? =w.heap[k]?):eD w' c on oc ps:=
 ⟨aE h.ro fun k a=>(by
  rw[al]at a;obtain⟨cur,b⟩:=au h.ro a;exact hk k _ _ _ b (.inl rfl)),fun m d=>(h.ms m d).kept (fun k a=>(by
  obtain⟨cur,b⟩:=au (h.ms m d).own.own a;exact hk k _ _ _ b (.inr (.inl rfl)))) (fun k cs fr _ b=>hk k _ _ _ b (.inr (.inr rfl))) hs,h.ln⟩
theorem eD.below{a:Option Addr}{on oc:Nat}{ps:List cz}(h:eD w a on oc ps)(hb:Below w.heap.size w w'):eD w' a on oc ps:=h.fr hb.size fun k c T fr b _=>hb.block k (Array.getElem?_eq_some_iff.1 b).1
theorem fC:(67:Nat)≠102/\(67:Nat)≠40/\(67:Nat)≠5/\(99:Nat)≠102/\(99:Nat)≠40/\(99:Nat)≠5/\(84:Nat)≠102/\(84:Nat)≠40/\(84:Nat)≠5:=by decide
theorem eD.store{d:Option Addr}{on oc:Nat}{ps:List cz}(h:eD w d on oc ps){b j:Nat}{v:Value}{cs:Array Value}{T:TypeId}{fr:Nat×Nat}(g:w.heap[b]? =some (.cells cs T fr))(h1:(T:Nat)≠102)(h2:(T:Nat)≠40)(h3:(T:Nat)≠5):eD (w.setCell ⟨b,j,none⟩ v) d on oc ps:=
 h.fr (by simp) fun k l m i f a=>Below.heap_setCell _ _ _ k (fun e=>by
  have e:k=b:=e;rw[e]at f;have c:=aB g f;rcases a with a | a | a
  ·exact h1 (c.trans a)
  ·exact h2 (c.trans a)
  ·exact h3 (c.trans a))
theorem eD.mail(h:aA w B g c G M){oa:Option Addr}{on oc:Nat}{ps:List cz}(o:eD w oa on oc ps)(hf:lP g M (fun x=>x= .g\/x= .row 4) w w'):eD w' oa on oc ps:=
 o.fr hf.size fun k r T fr d a=>hf.block k (Array.getElem?_eq_some_iff.1 d).1 (fun x f p=>by
  obtain⟨n,m,t3,l,j,i, -⟩:=fC;rcases p with rfl | rfl
  ·have e:k=g:=f;rw[e]at d;have b:=aB h.row d;rcases a with a | a | a
   ·exact n (b.trans a)
   ·exact m (b.trans a)
   ·exact t3 (b.trans a)
  ·obtain⟨cur,q⟩:=au (h.rows 4 (by omega)) (k:=k) f.2;have b:=aB q d;rcases a with a | a | a
   ·exact l (b.trans a)
   ·exact j (b.trans a)
   ·exact i (b.trans a))
theorem oM:∀(ps:List cz) (k:Nat) (m:cz),ps[k]? =some m->∀j,j<9->(ps.flatMap cz.cells)[k*9+j]? =m.cells[j]?
 | [],k,m,h=>by simp at h
 | x::ps,0,m,h=>by
  simp at h;subst h;intro j a;rw[List.flatMap_cons,List.getElem?_append_left (by show 0*9+j<9;omega)]
  congr 1;omega
 | x::ps,k+1,m,h=>by
  intro j a;rw[List.flatMap_cons,List.getElem?_append_right (by show 9<=(k+1)*9+j;omega)];have b:=oM ps k m (by simpa using h) j a;rw[<-b]
  congr 1
  show(k+1)*9+j-9=_;omega
theorem eD.cells{f:Option Addr}{on oc:Nat}{ps:List cz}(h:eD w f on oc ps){k:Nat}{m:cz}(c:ps[k]? =some m):∃ob,f=some ⟨ob,0,none⟩/\ob<w.heap.size/\∀j,j<9->w.cell? ⟨ob,k*9+j,none⟩=m.cells[j]? :=by
 have i:=(List.getElem?_eq_some_iff.1 c).1;have d:=h.ln;rcases h.ro.2 with⟨a,e⟩ | ⟨ob,o,cur,a,e,n, -⟩
 ·have g:=h.ro.1;rw[e]at g;have p:(ps.flatMap cz.cells).length=ps.length*9:=by
   clear h c i d a e g
   induction ps with
   | nil=>rfl
   | cons x ps ih=>rw[List.flatMap_cons,List.length_append,ih,List.length_cons];show 9+ps.length*9=_;omega
  omega
 ·injection a with a;have b:=h.ro;rw[a]at b;refine⟨ob,a,(Array.getElem?_eq_some_iff.1 n).1,fun j l=> ?_⟩;rw[b.cellAt (k*9+j) (by omega)];exact oM ps k m c j l
theorem gI(i:Nat)(y:dg):∀(l:List dg) (bag:List fO),bu i bag (l++ [y])=if (bu i bag l).length<2000 then bu i bag l++ [((i:Int),y.1,cG y.2)] else bu i bag l
 | [],bag=>rfl
 | x::l,bag=>by show bu i (if bag.length<2000 then _ else bag) (l++ [y])=_;rw[gI i y l];rfl
theorem kr:(Tryz.prog.info? 99).map (fun i=>(i.zero,i.size,i.bytes))=some (some (.agg #[.int .i64 0, .int .i64 0, .slice none 0 0]),3,40):=by kernel_rfl
theorem gL:(Tryz.prog.info? 64).map (·.size)=some 1:=by kernel_rfl
structure yu (g b0 n cap ob o:Nat) (t:Int) (W:World):Prop where
 s:g<W.heap.size
 r:W.cell? ⟨g,8,none⟩=some (.bool true)
 o:W.cell? ⟨ob,o,none⟩=some (.int .i64 t)
 c0:W.cell? ⟨g,0,none⟩=some (.slice (some ⟨b0,0,none⟩) n cap)
theorem yu.below{b n cap a o:Nat}{t:Int}(h:yu g b n cap a o t w)(hb:Below w.heap.size w w'):yu g b n cap a o t w':=⟨Nat.lt_of_lt_of_le h.s hb.size,(hb.cell (p:=⟨g,8,none⟩) h.s).trans h.r,(hb.cell (p:=⟨a,o,none⟩) (cI h.o)).trans h.o,(hb.cell (p:=⟨g,0,none⟩) h.s).trans h.c0⟩
theorem aA.grewFr(h:aA w B g c G M){j:Nat}(d:j<8)(hg:w.grownBy w1 (aY G M j).ownBlock)(k:Nat)(v:Value):lP g M (fun x=>x= .g\/x= .row j) w (w1.setCell ⟨g,k,none⟩ v):=
 ⟨hg.os,hg.tape,hg.output,by simpa using hg.size,fun b f a=>by
  have i:b≠g:=fun e=>a .g e (.inl rfl)
  exact(Below.heap_setCell _ _ _ b i).trans (hg.block b f (fun e=>a (.row j) ⟨d,by unfold aY at e;rw[al]at e;exact e.symm⟩ (.inr rfl)))⟩
structure xO (g ob o:Nat) (t:Int) (W:World):Prop where
 s:g<W.heap.size
 o:W.cell? ⟨ob,o,none⟩=some (.int .i64 t)
theorem xO.below{a o:Nat}{t:Int}(h:xO g a o t w)(hb:Below w.heap.size w w'):xO g a o t w':=⟨Nat.lt_of_lt_of_le h.s hb.size,(hb.cell (p:=⟨a,o,none⟩) (cI h.o)).trans h.o⟩
structure wO (g ib:Nat) (t:Int) (a:Option Addr) (n c:Nat) (W:World):Prop where
 s:g<W.heap.size
 c0:W.cell? ⟨ib,0,none⟩=some (.int .i64 t)
 c1:W.cell? ⟨ib,1,none⟩=some (.slice a n c)
theorem wO.of{b:Nat}{t:Int}{a:Option Addr}{n k:Nat}(hs:g<w.heap.size)(hr:w.heap[b]? =some (.cells #[.int .i64 t, .slice a n k] 40 (0,0))):wO g b t a n k w:=⟨hs,by rw[cell_of_row _ _ 0 _ _ _ hr];rfl,by rw[cell_of_row _ _ 1 _ _ _ hr];rfl⟩
theorem uy:(Tryz.prog.info? 63).map (·.size)=some 1:=by kernel_rfl
structure yt (g nb n cap:Nat) (W:World):Prop where
 s:g<W.heap.size
 c2:W.cell? ⟨g,2,none⟩=some (.slice (some ⟨nb,0,none⟩) n cap)
theorem ah.besides{p:Nat}{N f:ay}{b h wc g:World}(h1:Below b.heap.size b h)(h2:ah p N f h wc){o:Option Nat}(a:wc.grownBy g o)(ho:∀k,o=some k->b.heap.size<=k)(hN:∀k,f.own p k->N.own p k):ah p N f b g:=by have l:=h1.size;have j:=h2.size;have i:=a.size;refine⟨a.os.trans (h2.os.trans h1.os),a.tape.trans (h2.tape.trans h1.tape),a.output.trans (h2.output.trans h1.output),by omega,fun k d c=> ?_,fun k d=> .inl (hN k d)⟩;exact(a.block k (by omega) (fun e=>by have:=ho k e.symm;omega)).trans ((h2.block k (by omega) c).trans (h1.block k d))
end
end Go.Proofs.YtogcnfhmcpkdcaaGreat
