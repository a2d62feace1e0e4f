/-
Small facts on lists and numbers. No program in sight.
-/
import Derived.Below
import Derived.WalkKit
import Derived.WalkLawsBesides
import Derived.Lib.Hide
import Derived.Sort.OwnSortedInts
namespace Go.Proofs.YtogcnfhmcpkdcaaGreat
theorem lW{α:Type}{P:List α->Prop}(h0:P [])(h1:∀l x,P l->P (l++ [x]))(l:List α):P l:=by
 have h:∀n (l:List α),l.length=n->P l:=by
  intro n
  induction n with
  | zero=>intro l a;rw[List.eq_nil_of_length_eq_zero a];exact h0
  | succ n ih=>
   intro l a;rcases List.eq_nil_or_concat l with rfl | ⟨m,x,rfl⟩
   ·exact h0
   ·simp at a ⊢;exact h1 m x (ih m a)
 exact h l.length l rfl
open Go.RowKit
theorem Hh{p:Prop}(h:p):RowKit.Hid p:=h
theorem wY{k:IntKind}{a b:Int}(h:a=b):Ending.returned (.int k a)= .returned (.int k b):=by rw[h]
theorem bY{a b:Bool}(h:a=b):Ending.returned (.bool a)= .returned (.bool b):=by rw[h]
structure SlAt (w:World) (B size:Nat) (a:Option Addr) (n c:Nat) (xs:List Value):Prop where
 hlen:xs.length=n*size
 hle:n<=c
 hmax:c<=maxLen
 hnil:a=none->c=0
 hat:0<xs.length->∃b o,a=some ⟨b,o,none⟩/\b<B/\∀i,i<xs.length->w.cell? ⟨b,o+i,none⟩=xs[i]?
theorem SlAt.mono{w:World}{B f d:Nat}{a:Option Addr}{n c:Nat}{xs:List Value}(h:SlAt w B d a n c xs)(hB:B<=f):SlAt w f d a n c xs:=⟨h.hlen,h.hle,h.hmax,h.hnil,fun g=>let ⟨b,o,e,hb,hc⟩:=h.hat g;⟨b,o,e,Nat.lt_of_lt_of_le hb hB,hc⟩⟩
theorem SlAt.below{w w':World}{B f d:Nat}{a:Option Addr}{n c:Nat}{xs:List Value}(h:SlAt w B d a n c xs)(hb:Below f w w')(hB:B<=f):SlAt w' B d a n c xs:=⟨h.hlen,h.hle,h.hmax,h.hnil,fun g=>let ⟨b,o,e,hl,hc⟩:=h.hat g;⟨b,o,e,hl,fun i j=>(hb.cell (p:=⟨b,o+i,none⟩) (Nat.lt_of_lt_of_le hl hB)).trans (hc i j)⟩⟩
theorem SlAt.ofOwns{w:World}{base e b n:Nat}{v:Value}{xs:List Value}(h:w.ownsRow base e b v n xs):∃a c,v= .slice a n c/\SlAt w w.heap.size b a n c xs:=by
 rcases h.2 with⟨rfl,rfl⟩ | ⟨g,f,cur,rfl,r,k,m,o,q,l⟩
 ·exact⟨none,0,rfl,by simpa using h.1,Nat.le_refl _,by simp[maxLen],fun _=>rfl,fun j=>by have:=h.1;simp at this;simp[this]at j⟩
 ·refine⟨_,f,rfl,h.1,m,o,fun e=>by simp at e,fun j=>⟨g,0,rfl,(Array.getElem?_eq_some_iff.1 k).1,fun i p=> ?_⟩⟩;have d:i<n*b:=by rw[<-h.1];exact p
  rw[Nat.zero_add];simp only[World.cell?,k];rw[<-l,List.getElem?_take_of_lt d]
  simp
theorem rC{w w':World}{g B:Nat}(h:w.grownBy w' (some g))(hB:B<=g)(hs:B<=w.heap.size):Below B w w':=(Below.refl B w).grown h hs (fun k e=>by cases e;exact hB)
end Go.Proofs.YtogcnfhmcpkdcaaGreat
