/-
What a group collects of a replica: what lasts, letters, what is handed out, who leads. No walk.
-/
import Derived.Test.YtogcnfhmcpkdcaaGreatGrU
import Derived.Test.YtogcnfhmcpkdcaaGreatLetPl
namespace Go.Proofs.YtogcnfhmcpkdcaaGreat
open Go.RowKit
set_option linter.unusedVariables false
set_option linter.unusedSimpArgs false
section
variable {G : ac} {i : Nat}
def ac.noted(G:ac)(i:Nat)(R:aa):ac:={ G with rs:=G.rs.set i { R with news:= [] },nt:=G.nt.set i ((G.nt.getD i [])++R.news) }
def ac.seenTo(G:ac)(i:Nat)(R:aa)(A:Nat):ac:={ G with rs:=G.rs.set i { R with applied:=A },ats:=G.ats.set i A,seen:=G.seen++(List.range (A-G.seen.length)).map (fun(m:Nat)=>R.item ((G.seen.length+m+1:Nat):Int)),wh:=G.wh++List.replicate (A-G.seen.length) G.term }
theorem vu(l:List aa)(t:Int):t<=fj l t:=by
 induction l generalizing t with
 | nil=>exact Int.le_refl _
 | cons x l ih=>have a:=ih (max t x.bt);show t<=fj l (max t x.bt);omega
theorem oT{l:List aa}{t:Int}{R:aa}(h:R∈l):R.bt<=fj l t:=by
 induction l generalizing t with
 | nil=>cases h
 | cons x l ih=>
  rcases List.mem_cons.1 h with e | e
  ·subst e;have a:=vu l (max t R.bt);show R.bt<=fj l (max t R.bt);omega
  ·exact ih e
theorem gd{α:Type}{l:List α}{i:Nat}{x:α}(h:l[i]? =some x):l.set i x=l:=by obtain⟨a,b⟩:=List.getElem?_eq_some_iff.1 h;rw[<-b];exact List.set_getElem_self a
theorem pw{R:aa}{A:Nat}(a:G.rs[i]? =some R)(hA:R.applied=A)(ha:G.ats[i]? =some R.applied)(hs:A<=G.seen.length):G.seenTo i R A=G:=by
 unfold ac.seenTo;have b:({ R with applied:=(A:Int) }:aa)=R:=by rw[<-hA]
 rw[b,gd a,<-hA,gd ha,show A-G.seen.length=0 by omega]
 simp
theorem qL{l a:List aa}(h:l.map (·.bt)=a.map (·.bt))(t:Int):fj l t=fj a t:=by
 induction l generalizing a t with
 | nil=>
  cases a with
  | nil=>rfl
  | cons y a=>simp at h
 | cons x l ih=>
  cases a with
  | nil=>simp at h
  | cons y a=>simp at h;show fj l (max t x.bt)=fj a (max t y.bt);rw[h.1];exact ih h.2 _
theorem uV{R R':aa}(a:G.rs[i]? =some R)(hb:R'.bt=R.bt)(G':ac)(hG:G'.rs=G.rs.set i R'):G'.term=G.term:=by unfold ac.term;rw[hG];exact qL (kg (fun R:aa=>R.bt) a hb) 0
def ac.oneMore(G:ac)(i:Nat)(R:aa)(A:Nat):ac:={ G.seenTo i R A with rs:=(G.seenTo i R A).rs.set i { R with applied:=(A:Int)+1 },ats:=(G.seenTo i R A).ats.set i ((A:Int)+1) }
theorem qD{R:aa}{A:Nat}(h:A<G.seen.length):G.oneMore i R A=G.seenTo i R (A+1):=by
 unfold ac.oneMore ac.seenTo;simp only[List.set_set,show A-G.seen.length=0 by omega,show A+1-G.seen.length=0 by omega]
 congr 1
theorem qE{R:aa}{A:Nat}(h:G.seen.length<=A):{ G.oneMore i R A with seen:=(G.oneMore i R A).seen++ [R.item ((A:Int)+1)],wh:=(G.oneMore i R A).wh++ [G.term] }=G.seenTo i R (A+1):=by
 unfold ac.oneMore ac.seenTo;have e:A+1-G.seen.length=(A-G.seen.length)+1:=by omega
 simp only[List.set_set,e,List.range_succ,List.map_append,List.replicate_succ',List.append_assoc,List.map_cons,List.map_nil];have a:G.seen.length+(A-G.seen.length)+1=A+1:=by omega
 rw[a]
 congr 1
def lS(s:List UInt8):Int:=((s.getD 0 0).toNat*256+(s.getD 1 0).toNat:Nat)
def bu(i:Nat):List fO->List dg->List fO
 | bag,[]=>bag
 | bag,y::l=>bu i (if bag.length<2000 then bag++ [((i:Int),y.1,cG y.2)] else bag) l
def ac.jumpd(G:ac)(i:Nat)(R:aa):ac:=if R.jumped=true then { G with rs:=G.rs.set i R.jump.1,hd:=G.hd.set i R.head,nt:=G.nt.set i [],ats:=G.ats.set i (lS R.state) } else G
def ac.coll(G:ac)(i:Nat)(R:aa):ac:=
 let R1:aa:={ R.jump.1 with news:= [],out:= [] }
 let G1:=(G.jumpd i R).noted i R.jump.1
 let G2:ac:={ G1 with bag:=bu i G1.bag R.out,rs:=G1.rs.set i R1 }
 let G3:=G2.seenTo i R1 R.commit.toNat
 if R.role=2 then G3.led1 R.bt i else G3
theorem kq(R:aa):R.jump.1={ R with jumped:=false,news:=if R.jumped=true then[] else R.news }:=by
 unfold aa.jump;cases h:R.jumped with
 | true=>rw[if_pos rfl,if_pos rfl]
 | false=>rw[if_neg (by simp),if_neg (by simp),<-h]
structure Cw (G:ac) (i n:Nat) (R:aa):Prop where
 hR:G.rs[i]? =some R
 rl:G.rs.length=n
 ok:R.Ok
 r:G.right=true
 j:R.jumped=true->R.state.length=2
 pt:R.line.put.length<=900000
 at_ :(G.jumpd i R).ats[i]? =some R.applied
 out:∀y∈R.out,aO y.2=true/\0<=y.1/\y.1<n/\y.1≠i
 ol:R.out.length<=1000
 nl:(G.nt.getD i []).length<=10000000000
 nw:R.news.length<=10000000
 il:i<G.nt.length
 hl:i<G.hd.length
 ap:R.applied<=G.seen.length
 sl:G.seen.length<=10000
 cm:R.commit<=10000
 wl:G.wh.length=G.seen.length
 ag:∀(k:Nat) (x:ar),G.seen[k]? =some x->R.applied<=k->(k:Int)<R.commit->R.item ((k+1:Nat):Int)=x
 ll:G.led.length<=1000000
 ps:G.rs.length<=7
 led:R.role=2->∀x∈G.led,x.1=R.bt->x.2=i
 seen:R.role=2->∀(k:Nat) (x:ar) (t:Int),G.seen[k]? =some x->G.wh[k]? =some t->t<R.bt->R.line.base<(k:Int)+1->(k:Int)+1<=R.line.last/\R.item ((k:Int)+1)=x
 bl:G.bag.length<=2000
end
end Go.Proofs.YtogcnfhmcpkdcaaGreat
