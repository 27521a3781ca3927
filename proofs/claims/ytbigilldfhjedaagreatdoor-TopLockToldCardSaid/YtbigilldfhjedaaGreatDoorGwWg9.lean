/- Laws of the walk. Condition: each theorem says its own. -/
import Derived.Test.YtbigilldfhjedaaGreatDoorGwWg1
import Derived.Test.YtbigilldfhjedaaGreatDoorGwCj7
import Derived.Conc.WgWords
import Derived.Conc.WgGenN
import Derived.Conc.WgGenDone
import Derived.Conc.WgGenWait
import Derived.Test.YtbigilldfhjedaaGreatDoorGwFacts2
import Derived.Test.YtbigilldfhjedaaGreatDoorGwCj21
set_option linter.unusedVariables false
set_option linter.unusedSimpArgs false
set_option linter.unusedSectionVars false
open Array renaming getElem?_eq_some_iff→Ea,getElem?_setIfInBounds_ne→Eb,append_empty→Eg,getElem?_eq_getElem→Ei,getElem?_push→Ej
open Go.Gw.Reach renaming step→Ec
open Option renaming getD_some→Ed
open List renaming mem_append→Ee
open Nat renaming le_refl→Ef,eq_zero_or_pos→Eh,zero_le→Ek
section
set_option linter.unusedVariables false
namespace Go.Gw
open Go Go.Conc
open Go.ConcR (KK wgBlock WgAt stA smA rd wr mk)
def BS.rg:BS->Rg
 | .X | .S=>.reg
 | .F | .E | .Q=>.fin
 | .Z=>.acq
 | _=>.un
def BS.deaf:BS->Nat
 | .K | .Q | .Z=>0
 | _=>1
def BS.ok (NA idx m cnt:Nat) (bl:Bool):BS->Prop
 | .K | .R=>2 * m+2 * NA+1<=idx
 | .Cs v=>v≠0/\2 * m<=idx/\(v≠cnt->2 * m+2 * NA+1<=idx)
 | .S=>2 * m+(if bl then 0 else 1)<=idx
 | _=>2 * m<=idx
section
variable {P:Program} {Sh:Loc->Prop} {ty:TypeId} {Wg C N:Nat} {et:TypeId} {cs0:Array Value} {Fs:Nat->Prop} {Ws:World} {pd:Nat} {rg:Rg} {bl:Bool} {d0:Nat} {Z:Nat->Prop} {orig:Nat->Option Obj}
variable {O:List (Nat×(Value->World->Prop))} {gm:Goroutine} {w:World} {vs:Nat->Option View} {st st':Nat->Ph} {slot:Nat->Nat} {ph:Nat->Value->World->Prop} {A:List Nat} {τ:List Tr} {cs:Array Value} {Q:Nat->Addr->Prop}
variable {gs:Array Goroutine} {W W':World} {t:Trace} {n:Nat} {S:Goroutine->World->Prop}

theorem BS.ok_some {NA idx0 m0 cnt0:Nat} {bl0:Bool} {s:BS} (m cnt:Nat) (bl:Bool) (h:s.ok NA idx0 m0 cnt0 bl0):∃ idx,s.ok NA idx m cnt bl:=by
 refine ⟨2 * m+2 * NA+1,?_⟩;cases s<;>simp only [BS.ok] at h ⊢<;>first | omega | grind | (refine ⟨h.1,by omega,fun _=>by omega⟩)
theorem MW.running {An:Goroutine->Prop} {gE:Goroutine} (hA:∀ g,An g->g.status=.running) (hE:gE.status=.running) {m:Nat} {s:BS} {g:Goroutine} (h:MW P ty Wg An gE m s g):g.status=.running:=by
 have key:(s=.Z/\g=gE)\/(s=.R/\An g)->g.status=.running:=fun h=>by
  rcases h with h | h
  ·rw [h.2];exact hE
  ·exact hA g h.2
 cases m with
 | zero=>exact key h
 | succ m =>
  rcases h with h | h
  ·exact key h
  ·exact h.1
theorem CfgG.someone (h:CfgG P Sh ty Wg C N et cs0 Fs Ws pd .reg true d0 Z orig O gm w vs st slot ph A τ cs Q gs W t):∃ (i:Nat) (gi:Goroutine),gs[i]?=some gi/\gi.status=.running:=by
 have key:∀ i∈A,(st i).pre=true\/(st i).late=true->∃ (i:Nat) (gi:Goroutine),gs[i]?=some gi/\gi.status=.running:=fun i hi hne=>by
  obtain ⟨hi0,his⟩:=(h.act i).1 hi;obtain ⟨y,hy⟩:=Option.isSome_iff_exists.1 his;have hlt:=(h.pg.seen i y hy).1;obtain ⟨r,_,hr⟩:=h.oth i _ hi0 (Ei hlt);rw [hy] at hr;refine ⟨i,_,Ei hlt,?_⟩;cases hst:st i with
  | quit=>rw [hst] at hne;trivial
  | gone=>rw [hst] at hne;trivial
  | priv=>rw [hst] at hr;exact hr.2.running
  | lib s=>rw [hst] at hr;obtain ⟨⟨m,_,hl,_⟩,_⟩:=hr;exact hl.running
 obtain ⟨_,hh⟩:=h.grp;rcases hh with ⟨k1,_⟩ | ⟨_,i,hi,k2,_⟩ | ⟨_,k2,_⟩
 ·grind [List.countP_pos_iff]
 ·exact key i hi (.inr (by rcases k2 with ⟨k2 | k2,_⟩ | ⟨k2,_⟩<;>rw [k2]<;>rfl))
 ·cases k2

theorem QYz {An:Goroutine->Prop} {gE:Goroutine} (hN:N+1 < 2147483647) (hSh:∀ (l:Loc) (ad:Addr),AtL l ad->Sh l->ad.block < Ws.heap.size/\¬ Fs ad.block) (hgA:∀ g,An g->g.status=.running) (hE:gE.status=.running) {NA:Nat} (hA:∀ g,An g->MW P ty Wg An gE NA .L g)
    (hS:∀ w1 w' cs,Rel w w1->FullG C N Ws.heap.size cs0 O w1 w' cs->S gE (thaw Z orig (J1 C cs et w'))) :
    ∀ τ idx m s g bl,MW P ty Wg An gE m s g->(bl=true->s=.S)->∀ w1,Rel w w1->∀ vs st ph slot A cs Q gs W sl t,BS.ok NA idx m (A.countP fun i=>(st i).pre) bl s ->
      CfgG P Sh ty Wg C N et cs0 Fs Ws 0 s.rg bl s.deaf Z orig O g w1 vs st slot ph A τ cs Q gs W t->Reach P (Fin0 P (ShG Sh Wg) S Fs Ws) gs W sl t:=by
  intro τ
  induction Qhb τ with
  | intro τ _ ih1 =>
    intro idx
    induction idx using Nat.strongRecOn with
    | ind idx ih2 =>
      intro m s g bl hm hbs w1 hr vs st ph slot A cs Q gs W sl t hok h
      -- at the loop's head
      by_cases hAt:s=.R/\An g
      · obtain ⟨rfl,hAg⟩:=hAt;have hbl:bl=false:=by simp_all
        subst hbl;simp only [BS.ok] at hok;exact ih2 (2 * NA) (by omega) NA .L g false (hA g hAg) (fun e=>by cases e) w1 hr vs st ph slot A cs Q gs W sl t (by simp [BS.ok]) h
      by_cases hZt:s=.Z/\g=gE
      · obtain ⟨rfl,rfl⟩:=hZt;have hbl:bl=false:=by simp_all
        subst hbl;exact Reach.here (h.join hSh fun w' cs hf=>hS _ w' cs hr hf)
      have hnAt:¬ ((s=.Z/\g=gE)\/(s=.R/\An g)):=fun e=>e.elim hZt hAt
      cases m with
      | zero=>trivial
      | succ m =>
        obtain ⟨hrun,hm1⟩:=hm.resolve_left hnAt;have hsome:∃ (i:Nat) (gi:Goroutine),gs[i]?=some gi/\gi.status=.running:=by
          cases bl with
          | false=>exact ⟨0,g,h.g0,hrun⟩
          | true=>have:=hbs rfl;subst this;exact h.someone
        obtain ⟨i,gi,d,sl',hgi,hrg,hst,h'⟩:=h.pick hsome sl;have hr2:=hr.trans (J0 w1 d);by_cases hi0:i=0
        · subst hi0;have hbl:bl=false:=by
            cases bl with
            | false=>rfl
            | true=>rw [h'.g0] at hgi;grind [Yj]
          subst hbl;have hlive:=h'.grp.live;have hin:0 < gs.size:=(Ea.1 h'.g0).1;have hc:=h'.cnt
          have go : ∀ {g' : Goroutine} {W' : World} {es : Array Event} {s' : BS} {m' : Nat} {bl' : Bool} (idx' : Nat), idx' < idx -> stepG P true g (W.at d) = .go (Yj bl' g') W' es -> MW P ty Wg An gE m' s' g' -> (bl' = true -> s' = .S /\ g'.offers = none) -> PG Sh (stA Wg) C Q (fun j => (st j).lim) (Qcz vs d) gs.size W' (t ++ MemOp.ofEvents 0 g.frame.fn g.frame.place es) ->
              (W'.tape=(W.at d).tape/\W'.os=(W.at d).os/\W'.output=(W.at d).output/\W'.heap.size=(W.at d).heap.size)->(∀ b,b≠Wg->W'.heap[b]?=(W.at d).heap[b]?)->GrpOk ty Wg s'.rg 0 bl' st A W'->deafBehind s.deaf es=s'.deaf->BS.ok NA idx' m' (A.countP fun i=>(st i).pre) bl' s'->Reach P (Fin0 P (ShG Sh Wg) S Fs Ws) gs W sl t:=by
            intro g' W' es s' m' bl' idx' hlt hs hm' hb' hpg hW hblk hgrp hd hok';obtain ⟨ops,gs',h1,h2⟩:=h'.mlib (bl':=bl') sl' hs (hm'.running hgA hE) (fun e=>(hb' e).2) hpg hW hblk hgrp
            grind [Ec]
          have same:∀ {s':BS},s'.rg=s.rg->GrpOk ty Wg s'.rg 0 false st A (W.at d):=fun e=>by rw [e];exact h'.grp
          rcases hm1 with hm1 | hm1
          · obtain ⟨g',hs,hm'⟩:=hm1 _ hlive;refine go (s':=s) (bl':=false) (idx - 1) ?_ hs hm' (fun e=>by cases e) (by rw [Qnf,Eg];exact h'.pg) ⟨rfl,rfl,rfl,rfl⟩ (fun _ _=>rfl) h'.grp rfl ?_
            · cases s<;>simp only [BS.ok] at hok<;>first | omega | (simp at hok;omega)
            · cases s<;>simp only [BS.ok] at hok ⊢<;>first | omega | (simp at hok ⊢;omega) | exact ⟨hok.1,by omega,fun hv=>by have:=hok.2.2 hv;omega⟩
          · cases s with
            | K =>
              obtain ⟨g',hs,hm'⟩:=hm1;simp only [BS.ok] at hok;exact go (s':=.R) (bl':=false) (idx - 1) (by omega) (hs _ hlive) hm' (fun e=>by cases e) (h'.pg.mark hin rfl trivial (by simp)) ⟨rfl,rfl,rfl,rfl⟩ (fun _ _=>rfl) (same rfl) rfl (by grind [BS.ok])
            | L =>
              obtain ⟨k1,k2,k3⟩:=h'.grp;have k1:WgAt ty Wg (W.at d) (((A.countP (fun i=>(st i).pre):Nat):Int) * KK) 0:=by omega
              obtain ⟨g',hs,hz,hnz⟩:=hm1 (A.countP fun i=>(st i).pre) (by omega);simp only [BS.ok] at hok;have hpg:=h'.pg.atom1 (fn:=g.frame.fn) (pos:=g.frame.place) hin (by rw [h'.dm];trivial) (a:=stA Wg) rfl false;by_cases hv:A.countP (fun i=>(st i).pre)=0
              · exact go (s':=.E) (bl':=false) (idx - 1) (by omega) (hs _ k1) (hz hv) (fun e=>by cases e) hpg ⟨rfl,rfl,rfl,rfl⟩ (fun _ _=>rfl) ⟨rfl,hv,by simp_all,rfl,k2⟩ (Qdx _ (.inl rfl)) (by grind [BS.ok])
              · exact go (s':=.Cs (A.countP fun i=>(st i).pre)) (bl':=false) (idx - 1) (by omega) (hs _ k1) (hnz hv) (fun e=>by cases e) hpg ⟨rfl,rfl,rfl,rfl⟩ (fun _ _=>rfl) (same rfl) (Qdx _ (.inl rfl)) ⟨hv,by omega,fun e=>absurd rfl e⟩
            | Cs v =>
              obtain ⟨k1,k2,k3⟩:=h'.grp;have k1:WgAt ty Wg (W.at d) (((A.countP (fun i=>(st i).pre):Nat):Int) * KK) 0:=by omega
              obtain ⟨⟨g1,hs1,hm2⟩,hmiss⟩:=hm1;simp only [BS.ok] at hok;by_cases hv:v=A.countP fun i=>(st i).pre
              · have hpos:0 < A.countP (fun i=>(st i).pre):=by omega
                subst hv;exact go (s':=.X) (bl':=false) (idx - 1) (by omega) (hs1 _ k1) hm2 (fun e=>by cases e) ((h'.pg.atom2 hin (by rw [h'.dm];exact Nat.zero_lt_one) rfl).set (.inl rfl) _) ⟨rfl,rfl,rfl,Qav⟩ (fun b hb=>Qbp b hb) ⟨rfl,.inl ⟨hpos,k1.setSt _,k2⟩⟩ (Qdx _ (.inr (.inr rfl))) (by grind [BS.ok])
              · have:=hok.2.2 hv;obtain ⟨g2,hs2,hm3⟩:=hmiss (A.countP fun i=>(st i).pre) (Ne.symm hv) (by omega);exact go (s':=.R) (bl':=false) (idx - 1) (by omega) (hs2 _ k1) hm3 (fun e=>by cases e) (h'.pg.atom1 hin (by rw [h'.dm];exact Nat.zero_lt_one) rfl false) ⟨rfl,rfl,rfl,rfl⟩ (fun _ _=>rfl) (same rfl) (Qdx _ (.inl rfl)) (by grind [BS.ok])
            | R=>grind
            | X =>
              obtain ⟨g',hs,hm'⟩:=hm1;simp only [BS.ok] at hok;exact go (s':=.S) (bl':=false) (idx - 1) (by omega) (hs _ hlive) hm' (fun e=>by cases e) (h'.pg.said0 hin rfl).2 ⟨rfl,rfl,rfl,rfl⟩ (fun _ _=>rfl) (same rfl) rfl (by grind [BS.ok])
            | S =>
              obtain ⟨ho,hwait,g',hs,hm'⟩:=hm1;simp [BS.ok] at hok;obtain ⟨k0,hh⟩:=h'.grp;have hblock:(∃ st',WgAt ty Wg (W.at d) st' 0)->Reach P (Fin0 P (ShG Sh Wg) S Fs Ws) gs W sl t:=fun ⟨st0,hw⟩ =>
                go (s':=.S) (bl':=true) (m':=m+1) (idx - 1) (by omega) (hwait _ st0 hw) hm (fun _=>⟨rfl,ho⟩) (by rw [Qnf,Eg];exact h'.pg) ⟨rfl,rfl,rfl,rfl⟩ (fun _ _=>rfl) ⟨rfl,by
                  rcases hh with k | k | ⟨_,_,k,_⟩
                  · exact .inl k
                  · simp_all
                  · have:=(hw.unique k).2;cases this⟩ rfl (by grind [BS.ok])
              rcases hh with ⟨_,k2,_⟩ | ⟨_,i,_,k2,_⟩ | ⟨k1,_,k2,k3⟩
              · grind
              · grind
              · exact go (s':=.F) (bl':=false) (idx - 1) (by omega) (hs _ k2) hm' (fun e=>by cases e) ((h'.pg.sem hin rfl).set (.inl rfl) _) ⟨rfl,rfl,rfl,Qav⟩ (fun b hb=>Qbp b hb) ⟨rfl,k1,k2.setSm 0,rfl,k3⟩ (Qxx _ _) (by grind [BS.ok])
            | F =>
              obtain ⟨g',hs,hm'⟩:=hm1;simp only [BS.ok] at hok;exact go (s':=.E) (bl':=false) (idx - 1) (by omega) (hs _ h'.grp.2.2.1) hm' (fun e=>by cases e) (h'.pg.atom1 hin (by rw [h'.dm];trivial) rfl false) ⟨rfl,rfl,rfl,rfl⟩ (fun _ _=>rfl) (same rfl) (Qdx _ (.inl rfl)) (by grind [BS.ok])
            | E =>
              obtain ⟨g',hs,hm'⟩:=hm1;simp only [BS.ok] at hok;exact go (s':=.Q) (bl':=false) (idx - 1) (by omega) (hs _ hlive) hm' (fun e=>by cases e) (h'.pg.mark hin rfl trivial (by simp)) ⟨rfl,rfl,rfl,rfl⟩ (fun _ _=>rfl) (same rfl) rfl (by grind [BS.ok])
            | Q =>
              obtain ⟨g',hs,hm'⟩:=hm1;simp only [BS.ok] at hok;obtain ⟨ops,gs',h1,h2⟩:=h'.acquire (hs _ hlive) (hm'.running hgA hE) sl';exact Ec (hst.trans h1) (ih2 (idx - 1) (by omega) m .Z g' false hm' (fun e=>by cases e) _ hr2 _ _ _ _ _ _ _ _ _ _ _ (by grind [BS.ok]) h2)
            | Z=>grind
        · obtain ⟨ops,gs',W',vs',st',τ',cs',bl',w',h1,h2,h3,h4,h5⟩:=h'.other hN (Ek _) hgi hi0 hrg sl';obtain ⟨idx',hok'⟩:=BS.ok_some (s:=s) (idx0:=idx) (m0:=m+1) (cnt0:=A.countP fun i=>(st i).pre) (bl0:=bl) (m+1) (A.countP fun i=>(st' i).pre) bl' hok;exact Ec (hst.trans h1) (ih1 τ' h2 idx' (m+1) s g bl' hm (fun e=>hbs (h4 e)) w' (hr2.trans h3) _ _ _ _ _ _ _ _ _ _ _ hok' h5)
end
end Go.Gw

end
section
set_option linter.unusedVariables false
namespace Go.Gw
open Go Go.Conc
open Go.ConcR (KK wgBlock WgAt stA smA rd wr mk)
open Go.ConcN (sumTo)

inductive QW (P:Program) (ty:TypeId) (Wg C N Low:Nat) (et:TypeId) (cs0:Array Value) (S:Goroutine->World->Prop):Nat->(Nat->Prop)->(Nat->Option Obj)->List (Nat×(Value->World->Prop))->Goroutine->World->Prop
  | step {pd : Nat} {Z : Nat -> Prop} {orig : Nat -> Option Obj} {O : List (Nat × (Value -> World -> Prop))} {g : Goroutine} {w : World} (nx : World -> Goroutine × World) : g.status = .running -> (∀ w1, Rel w w1 -> JV P true Z g w1 (nx w1).1 (nx w1).2) ->
      (∀ w1,Rel w w1->QW P ty Wg C N Low et cs0 S pd Z orig O (nx w1).1 (nx w1).2)->QW P ty Wg C N Low et cs0 S pd Z orig O g w
  | add {Z:Nat->Prop} {orig:Nat->Option Obj} {O:List (Nat×(Value->World->Prop))} {g:Goroutine} {w:World} (gE:Goroutine) (m:Nat):g.status=.running->MA P ty Wg gE m .K g->(∀ w1,Rel w w1->QW P ty Wg C N Low et cs0 S 1 Z orig O gE w1)->QW P ty Wg C N Low et cs0 S 0 Z orig O g w
  | fork {Z : Nat -> Prop} {orig : Nat -> Option Obj} {O : List (Nat × (Value -> World -> Prop))} {g : Goroutine} {w : World} (g' child : Goroutine) (K : Nat -> Prop) (k : Nat) (φ : Value -> World -> Prop) : g.status = .running -> (∀ W, stepG P true g W = .spawn g' child W #[]) ->
      k < N->(∀ p∈O,p.1≠k)->(∀ w1,Rel w w1->Rows K w1)->(∀ w1,Rel w w1->Wlk (Jw P fun b=>Z b\/K b) (fun g w=>∃ m,Qdo P ty Wg C k φ m g w) child (hid (fun b=>Z b\/K b) (frz K w1))) ->
      (∀ w1,Rel w w1->QW P ty Wg C N Low et cs0 S 0 (fun b=>Z b\/K b) (Qbl Z K w1 orig) (O++[(k,φ)]) g' (frz K w1))->QW P ty Wg C N Low et cs0 S 1 Z orig O g w
  | wait {Z : Nat -> Prop} {orig : Nat -> Option Obj} {O : List (Nat × (Value -> World -> Prop))} {g : Goroutine} {w : World} (An : Goroutine -> Prop) (gE : Goroutine) (m NA : Nat) : g.status = .running -> (∀ g, An g -> g.status = .running) -> gE.status = .running -> MW P ty Wg An gE m .K g -> (∀ g, An g -> MW P ty Wg An gE NA .L g) ->
      (∀ w1 w' cs,Rel w w1->FullG C N Low cs0 O w1 w' cs->S gE (thaw Z orig (J1 C cs et w')))->QW P ty Wg C N Low et cs0 S 0 Z orig O g w
theorem QW.running {P:Program} {ty:TypeId} {Wg C N Low:Nat} {et:TypeId} {cs0:Array Value} {S:Goroutine->World->Prop} {pd:Nat} {Z:Nat->Prop} {orig:Nat->Option Obj} {O:List (Nat×(Value->World->Prop))} {g:Goroutine} {w:World} (h:QW P ty Wg C N Low et cs0 S pd Z orig O g w):g.status=.running:=by
 cases h<;>assumption
section
variable {P:Program} {Sh:Loc->Prop} {ty:TypeId} {Wg C N:Nat} {et:TypeId} {cs0:Array Value} {Fs:Nat->Prop} {Ws:World} {pd:Nat} {rg:Rg} {bl:Bool} {d0:Nat} {Z:Nat->Prop} {orig:Nat->Option Obj}
variable {O:List (Nat×(Value->World->Prop))} {gm:Goroutine} {w:World} {vs:Nat->Option View} {st st':Nat->Ph} {slot:Nat->Nat} {ph:Nat->Value->World->Prop} {A:List Nat} {τ:List Tr} {cs:Array Value} {Q:Nat->Addr->Prop}
variable {gs:Array Goroutine} {W W':World} {t:Trace} {n:Nat} {S:Goroutine->World->Prop}

open Classical in
theorem CfgG.fork (h:CfgG P Sh ty Wg C N et cs0 Fs Ws 1 .un false 0 Z orig O gm w vs st slot ph A τ cs Q gs W t) {g' child:Goroutine} {K:Nat->Prop} {k:Nat} {φ:Value->World->Prop} (hst:∀ W,stepG P true gm W=.spawn g' child W #[]) (hk:k < N) (hkO:∀ p∈O,p.1≠k) (hC:Rows K w)
    (hw:Wlk (Jw P fun b=>Z b\/K b) (fun g w=>∃ m,Qdo P ty Wg C k φ m g w) child (hid (fun b=>Z b\/K b) (Gw.frz K w))) (hr:g'.status=.running) (sl:Option (Nat×Nat)) :
    ∃ (ops:Trace) (gs':Array Goroutine) (vs':Nat->Option View) (st':Nat->Ph) (slot':Nat->Nat) (ph':Nat->Value->World->Prop) (A':List Nat) (τ':List Tr) (Q':Nat->Addr->Prop),runT P (crowd gs W sl) 0=(.next (crowd gs' W sl),ops) /\
      CfgG P Sh ty Wg C N et cs0 Fs Ws 0 .un false 0 (fun b=>Z b\/K b) (Qbl Z K w orig) (O++[(k,φ)]) g' (Gw.frz K w) vs' st' slot' ph' A' τ' cs Q' gs' W (t++ops):=by
  obtain ⟨F,h0,hF⟩:=h.main;have hs0:=(h.pg.seen 0 _ h0).2;have hlt:0 < gs.size:=(Ea.1 h.g0).1;obtain ⟨τc,hτc⟩:=WT.of (fun _ _ _ h=>h.1) hw;have hCF:∀ b,K b->F b:=fun b hb=>Classical.byContradiction fun hn=>by
    obtain ⟨cs,e,fz,h1⟩:=hC b hb;rw [hs0.agr.hid b hn (Ea.1 h1).1] at h1;cases h1
  have hrun:=runT_crowd_spawn (P:=P) (sl:=sl) (i:=0) h.g0 (show stepG P (0 == 0) (Yj false gm) W=_ from hst W);have hslk:∀ i∈A,slot i≠k:=fun i hi e=>hkO (slot i,ph i) (by rw [h.posts];grind) e
  have hpi:=h.pg.fork (D:=fun ad=>ad=⟨C,k,none⟩) h0 h.m0 h.dm hCF hC (fun ad e=>by subst e;exact h.q0 _ rfl fun i hi e=>hslk i hi (by cases e;rfl)) gm.frame.fn child.frame.fn gm.frame.place gm.frame.place
  have et1 : t ++ ((MemOp.ofEvents 0 (Yj false gm).frame.fn (Yj false gm).frame.place #[]).push { g := 0, fn := (Yj false gm).frame.fn, pos := (Yj false gm).frame.place, act := .go gs.size } |>.push { g := gs.size, fn := child.frame.fn, pos := (Yj false gm).frame.place, act := .start }) =
      t++#[{ g:=0,fn:=gm.frame.fn,pos:=gm.frame.place,act:=.go gs.size }]++#[{ g:=gs.size,fn:=child.frame.fn,pos:=gm.frame.place,act:=.start }]:=by
    rfl
  have hAn:gs.size∉A:=fun hm=>by
    obtain ⟨_,h2⟩:=(h.act _).1 hm;cases hv:vs gs.size with
    | none=>simp_all
    | some x=>have:=(h.pg.seen _ x hv).1;omega
  have hdeaf:∀ j,Deaf (t++#[{ g:=0,fn:=gm.frame.fn,pos:=gm.frame.place,act:=.go gs.size }]++#[{ g:=gs.size,fn:=child.frame.fn,pos:=gm.frame.place,act:=.start }]) j=Deaf t j:=fun j=>by grind [Qqr,Qqn,Qks]
  have hsz:((gs.setIfInBounds 0 g').push child).size=gs.size+1:=by simp
  have hlim:(fun i=>((if i=gs.size then Ph.priv else st i):Ph).lim)=fun j=>if j=gs.size then Lv.no else (st j).lim:=funext fun j=>by
    grind [Ph.lim]
  refine ⟨_,_,(fun j=>if j=0 then some ⟨F,fun b=>Z b\/K b,Gw.frz K w⟩ else if j=gs.size then some ⟨fun b=>Z b\/K b,fun b=>Z b\/K b,hid (fun b=>Z b\/K b) (Gw.frz K w)⟩ else vs j),(fun i=>if i=gs.size then .priv else st i),(fun j=>if j=gs.size then k else slot j),(fun j=>if j=gs.size then φ else ph j),A++[gs.size],τ++[τc],
    (fun j ad=>if j=0 then Q 0 ad/\¬ ad=⟨C,k,none⟩ else if j=gs.size then ad=⟨C,k,none⟩ else Q j ad),hrun,?_⟩
  rw [et1];have hnA:∀ i∈A,i≠gs.size:=fun i hi e=>hAn (e▸hi)
  have hA0:∀ i∈A,i≠0:=fun i hi=>((h.act i).1 hi).1
  have hmapk:A.map (fun j=>if j=gs.size then k else slot j)=A.map slot:=List.map_congr_left fun a ha=>by grind
  refine ⟨by simp_all,⟨F,by simp,hF⟩,by rw [if_neg (by omega)];exact h.m0,by rw [hdeaf];exact h.dm,?_,hr,fun e=>(by cases e),by simp [h.len],?_,fun j=>?_,?_,?_,fun i hi=>?_,fun j gj hj hgj=>?_,fun i hi=>?_,fun ad had hno=>?_,h.row,h.rsz,fun l hl=>?_,fun b hb=>?_,fun j y hy b hb=>?_,h.size,h.keep,h.same,h.wgs,h.cF,?_⟩
  · rw [Ej,if_neg (by simp;omega)];simp [hlt,Yj]
  · refine List.nodup_append.2 ⟨h.nod,by simp,fun a ha b hb e=>?_⟩;simp_all
  · rw [Ee,h.act j]
    grind
  · rw [List.map_append];congr 1
    · rw [h.posts];simp_all
    · simp
  · rw [List.map_append,hmapk];refine List.nodup_append.2 ⟨h.sln,by simp,fun a ha b hb e=>?_⟩
    grind
  · rcases Ee.1 hi with hi | hi
    · rw [if_neg (hnA i hi)];exact h.slN i hi
    simp_all
  · rw [hdeaf];rw [Ej] at hgj;by_cases hjn:j=gs.size
    · subst hjn;rw [if_pos (by simp)] at hgj;cases hgj;refine ⟨τc,by rw [<-h.len];simp,?_⟩;simp only [if_neg hj,if_pos rfl];exact ⟨h.pg.above _ (Ef _),hτc⟩
    · rw [if_neg (by grind),Eb (Ne.symm hj)] at hgj;obtain ⟨r,h1,h2⟩:=h.oth j gj hj hgj
      grind
  · rcases Ee.1 hi with hi | hi
    · simp only [if_neg (hA0 i hi),if_neg (hnA i hi)];exact h.q i hi
    grind
  · simp only [if_true];refine ⟨h.q0 ad had fun i hi e=>?_,fun e=>?_⟩
    · grind
    grind
  · refine h.rold l fun i hi=>?_
    grind
  · unfold Qbl;by_cases hz:Z b
    · rw [if_pos hz];exact h.orig b hz
    · rw [if_neg hz];have hKb:=hb.resolve_left hz;exact hs0.agr.own b (hCF b hKb) hz
  · by_cases hj:j=0
    · rw [if_pos hj] at hy;cases hy;exact h.bas 0 _ h0 b hb
    · rw [if_neg hj] at hy;by_cases hjn:j=gs.size
      · rw [if_pos hjn] at hy;cases hy;exact h.bas 0 _ h0 b (hb.elim (hs0.agr.zf b) (hCF b))
      · rw [if_neg hjn] at hy;exact h.bas j y hy b hb
  · obtain ⟨k1,k2,k3⟩:=h.grp;have e1:(A++[gs.size]).countP (fun i=>((if i=gs.size then Ph.priv else st i):Ph).pre)=A.countP (fun i=>(st i).pre)+1:=by
      simp_all [Ph.pre,Ph.priv,Ph,List.countP_congr,List.countP_append]
    refine ⟨by simp_all,fun i hi=>?_,rfl⟩;dsimp only;rcases Ee.1 hi with hi | hi
    · simp_all
    · have:i=gs.size:=by grind
      rw [if_pos this];rfl

theorem QLs (hN:N+1 < 2147483647) (hSh:∀ (l:Loc) (ad:Addr),AtL l ad->Sh l->ad.block < Ws.heap.size/\¬ Fs ad.block) (h:QW P ty Wg C N Ws.heap.size et cs0 S pd Z orig O gm w) :
  pd<=1->∀ w1,Rel w w1->∀ τ vs st slot ph A cs Q gs W sl t,CfgG P Sh ty Wg C N et cs0 Fs Ws pd .un false 0 Z orig O gm w1 vs st slot ph A τ cs Q gs W t->Reach P (Fin0 P (ShG Sh Wg) S Fs Ws) gs W sl t:=by
 induction h with
 | @step pd Z orig O g w nx hrun hv hn ih =>
  intro hpd w1 hr τ;revert w1
  induction Qhb τ with
  | intro τ _ ih2 =>
   intro w1 hr vs st slot ph A cs Q gs W sl t h;obtain ⟨i,gi,d,sl',hgi,hrg,hst,h'⟩:=h.pick ⟨0,g,h.g0,hrun⟩ sl;have hr2:=hr.trans (J0 w1 d);by_cases hi0:i=0
   ·subst hi0;obtain ⟨ops,gs',W',vs',h1,h2⟩:=h'.own (hv _ hr2) (hn _ hr2).running sl'
    grind [Ec,Rel.refl]
   ·obtain ⟨ops,gs',W',vs',st',τ',cs',bl',w',h1,h2,h3,h4,h5⟩:=h'.other hN hpd hgi hi0 hrg sl';have hbl:bl'=false:=by simp_all
    subst hbl;exact Ec (hst.trans h1) (ih2 τ' h2 w' (hr2.trans h3) _ _ _ _ _ _ _ _ _ _ _ h5)
 | @add Z orig O g w gE m hrun hm hn ih =>
  intro _ w1 hr τ vs st slot ph A cs Q gs W sl t h;exact QGe hN (hn w (Rel.refl w)).running (fun w2 hr2 τ vs st ph slot A cs Q gs W sl t h2=>ih w2 hr2 (Ef _) w2 (Rel.refl _) τ vs st slot ph A cs Q gs W sl t h2) m .K g hm τ w1 hr vs st ph slot A cs Q gs W sl t h
 | @fork Z orig O g w g' child K k φ hrun hsp hk hkO hC hw hn ih =>
  intro _ w1 hr τ;revert w1
  induction Qhb τ with
  | intro τ _ ih2 =>
   intro w1 hr vs st slot ph A cs Q gs W sl t h;obtain ⟨i,gi,d,sl',hgi,hrg,hst,h'⟩:=h.pick ⟨0,g,h.g0,hrun⟩ sl;have hr2:=hr.trans (J0 w1 d);by_cases hi0:i=0
   ·subst hi0;obtain ⟨ops,gs',vs',st',slot',ph',A',τ',Q',h1,h2⟩:=h'.fork hsp hk hkO (hC _ hr2) (hw _ hr2) (hn _ hr2).running sl';exact Ec (hst.trans h1) (ih _ hr2 (Ek _) _ (Rel.refl _) τ' vs' st' slot' ph' A' cs Q' gs' _ sl' _ h2)
   ·obtain ⟨ops,gs',W',vs',st',τ',cs',bl',w',h1,h2,h3,h4,h5⟩:=h'.other hN (Ef _) hgi hi0 hrg sl';have hbl:bl'=false:=by simp_all
    subst hbl;exact Ec (hst.trans h1) (ih2 τ' h2 w' (hr2.trans h3) _ _ _ _ _ _ _ _ _ _ _ h5)
 | @wait Z orig O g w An gE m NA hrun hgA hE hm hA hS =>
  intro _ w1 hr τ vs st slot ph A cs Q gs W sl t h;exact QYz hN hSh hgA hE hA hS τ (2 * m+2 * NA+1) m .K g false hm (fun e=>by cases e) w1 hr vs st ph slot A cs Q gs W sl t (by simp [BS.ok]) h
end
end Go.Gw

end
section
set_option linter.unusedVariables false
namespace Go.Gw
open Go Go.Conc
open Go.ConcR (KK wgBlock WgAt stA smA rd wr mk)
open Go.ConcN (sumTo)
def Ju (C:Nat) (w:World):World:={ w with heap:=w.heap.setIfInBounds C YM }
theorem Qlk {C b:Nat} {w:World} (h:b≠C):(Ju C w).heap[b]?=w.heap[b]?:=Eb (Ne.symm h)
theorem Qyu {C:Nat} {w:World} (h:C < w.heap.size):(Ju C w).heap[C]?=some YM:=by simp [Ju,h]
theorem Qyv {C:Nat} {w:World}:(Ju C w).heap.size=w.heap.size:=by simp [Ju]
section
variable {P:Program} {Sh:Loc->Prop} {F F':Nat->Prop} {w w':World} {gs:Array Goroutine} {W W' W2:World} {t:Trace} {q:Nat->Nat} {g g':Goroutine} {S:Goroutine->World->Prop} {ty et:TypeId} {C:Nat} {cs0:Array Value}

theorem MI.grp (h:MI P Sh F w gs W t q) (h0:gs[0]?=some g) (hr:g'.status=.running) (hC:w.heap[C]?=some (.cells cs0 et (0,0))) :
    CfgG P Sh ty W.heap.size C cs0.size et cs0 F W 0 .un false 0 (fun _=>False) (fun _=>none) [] g' (Ju C { w with heap:=w.heap.push YM }) (fun i=>if i=0 then some ⟨fun b=>F b/\b≠C,fun _=>False,Ju C { w with heap:=w.heap.push YM }⟩ else none)
      (fun _=>.priv) (fun _=>0) (fun _ _ _=>True) [] ((List.range gs.size).map fun i=>nt (q i)) cs0 (fun j ad=>j=0/\ad.block=C) (gs.setIfInBounds 0 g') { W with heap:=W.heap.push (wgBlock ty 0 0) } t:=by
  have hlt:0 < gs.size:=(Ea.1 h0).1;have hCl:C < w.heap.size:=(Ea.1 hC).1;have hFC:F C:=Classical.byContradiction fun hn=>by rw [h.agr.hid C hn hCl] at hC;cases hC
  have hCW:C < W.heap.size:=h.bnd C hFC;have hrow:W.heap[C]?=some (.cells cs0 et (0,0)):=by rw [h.agr.own C hFC (fun e=>e)];exact hC
  have hpush:∀ b,b < W.heap.size->(W.heap.push (wgBlock ty 0 0))[b]?=W.heap[b]?:=fun b hb=>by grind
  have hsz:(Ju C { w with heap:=w.heap.push YM }).heap.size=w.heap.size+1:=by rw [Qyv];simp
  have hget:∀ b,b≠C->b < w.heap.size->(Ju C { w with heap:=w.heap.push YM }).heap[b]?=w.heap[b]?:=fun b hb hl=>by
    rw [Qlk hb]
    grind
  have hagr:Agr (fun b=>F b/\b≠C) (fun _=>False) (Ju C { w with heap:=w.heap.push YM }) { W with heap:=W.heap.push (wgBlock ty 0 0) }:=by
    refine ⟨h.agr.tape,h.agr.drawn,h.agr.os,h.agr.output,by rw [hsz];simp [h.agr.size],fun b hb hz=>?_,fun b _ h=>h.elim,fun b hb hlt=>?_,fun b h=>h.elim⟩
    · have:=h.bnd b hb.1;rw [hget b hb.2 (by rw [<-h.agr.size];exact this)];show (W.heap.push _)[b]?=_;rw [hpush b this];exact h.agr.own b hb.1 hz
    · by_cases hbC:b=C
      · grind [Qyu]
      · rw [hsz] at hlt;rcases Nat.lt_or_ge b w.heap.size with h1 | h1
        · rw [hget b hbC h1];exact h.agr.hid b (fun e=>hb ⟨e,hbC⟩) h1
        · rw [Qlk hbC]
          grind
  have hown:∀ e a ad,touchAt t e=some a->AtL a.loc ad->F ad.block->Knows t 0 e:=fun e a ad ha hl hF=>by
    rcases h.past.known e a ha hl.mem with h1 | h1
    · exact h1
    · exact absurd h1.1 (h.shun _ ad hl hF)
  have hlow:∀ {e a ad},touchAt t e=some a->AtL a.loc ad->ad.block < W.heap.size:=fun {e a ad} ha hl=>by
    obtain ⟨op,ho,hop⟩:=touch_of ha;have:=h.past.seen op (mem_of_getElem? ho);obtain ⟨g,fn,pos,act⟩:=op;cases act with
    | access ev =>
      simp only [MemAct.touch?] at hop;cases hop;simp only [MemAct.low] at this;simp only at hl;generalize ev.loc=l at this hl;cases hl<;>exact this
    | mark m =>
      cases m<;>simp only [MemAct.touch?] at hop<;>first | (cases hop;done) | (cases hop;simp only at hl;cases hl;exact this)
    | _=>trivial
  have hnov:NoView (Ju C { w with heap:=w.heap.push YM }):=fun b a u e=>by
    by_cases hbC:b=C
    · subst hbC;rw [Qyu (by simp;omega)] at e;cases e
    · rw [Qlk hbC] at e;exact (h.nov.rel (QCg w)) b a u e
  refine ⟨⟨fun i x hx=>?_,fun i j x y hij hx hy=>?_,h.past.clean,fun e a ha hm=>?_,fun e a ad ha hl hb=>?_,fun e a ad ha hl hb i hq=>?_,fun i j ad hij hi hj=>hij (hi.1.trans hj.1.symm),fun i ad hq=>by grind,fun e g hge hne hc=>.inl (h.past.over e g hge hne hc),fun j hj=>h.lv.above j (by grind),fun op hop=>?_,fun op hop=>?_,fun i x x0 hx hx0 b hb=>?_,by simp [stA],by simp;omega,by simp [stA];omega⟩,
    ⟨_,rfl,fun b hb hbC=>⟨hb,hbC⟩⟩,rfl,h.past.hears,by simp [hlt,Yj],hr,fun e=>(by cases e),by simp,List.nodup_nil,fun i=>?_,rfl,List.nodup_nil,fun i hi=>(by cases hi),fun i gi hi hgi=>?_,fun i hi=>(by cases hi),fun ad had _=>⟨rfl,had⟩,?_,rfl,fun _ _=>rfl,fun b h=>h.elim,fun i x hx b hb=>?_,by simp,fun b hb _=>hpush b hb,⟨rfl,rfl,rfl⟩,Ef _,hFC,?_⟩
  · by_cases hi:i=0
    · subst hi;rw [if_pos rfl] at hx;cases hx;refine ⟨by grind,hagr,hnov,fun b hb=>by have:=h.bnd b hb.1;simp;omega,fun b hb hF=>?_,fun e a ad ha hl hF _=>hown e a ad ha hl hF.1,fun e a ad ha hl hz=>hz.elim⟩;rcases hb with rfl | rfl
      · have:=h.bnd _ hF.1;simp [stA] at this
      omega
    simp_all
  · simp_all
  · rcases h.past.known e a ha hm with h1 | h1
    · grind
    simp_all
  · grind [stA]
  · have:=hown e a ad ha hl (hb▸hFC);rw [hq.1];exact this
  · exact MemAct.low_mono (by simp) (h.past.seen op hop)
  · intro e;have:=h.past.seen op hop
    grind [MemAct.low,stA]
  · grind
  · simp
  · rw [Eb (Ne.symm hi)] at hgi;have hlti:=(Ea.1 hgi).1;refine ⟨nt (q i),by simp [hlti],?_⟩;rw [if_neg hi];exact ⟨q i,rfl,h.lv.old i gi (by omega) hgi⟩
  · simp_all
  · grind
  · refine ⟨?_,fun i hi=>(by cases hi),rfl⟩;show (W.heap.push (wgBlock ty 0 0))[W.heap.size]?=_;simp

theorem QLr (hrun:g.status=.running) (hC:w.heap[C]?=some (.cells cs0 et (0,0))) (hN:cs0.size+1 < 2147483647) (gn:Nat->Goroutine) (hst:∀ W,stepG P true g W=.go (gn W.heap.size) { W with heap:=W.heap.push (wgBlock ty 0 0) } #[])
  (hQW:∀ Wg w1,Rel w w1->w.heap.size<=Wg->Wg < w1.heap.size->QW P ty Wg C cs0.size Wg et cs0 S 0 (fun _=>False) (fun _=>none) [] (gn Wg) (Ju C w1)) :
  ∀ w1,Rel w w1->(Jm P).Ph g w1 S:=by
 intro w1 hr Sh F gs W sl t q h h0;have hCr:∀ w1,Rel w w1->w1.heap[C]?=some (.cells cs0 et (0,0)):=fun w1 hr=>by rw [hr.block C (Ea.1 hC).1];exact hC
 have key:∀ N w1,Rel w w1->∀ gs W sl t q,sumTo gs.size q<=N->MI P Sh F w1 gs W t q->gs[0]?=some g->Reach P (fun gs' W' t'=>∃ Sh',Fin0 P Sh' S F W gs' W' t') gs W sl t:=by
  intro N;have fin:∀ w1,Rel w w1->∀ gs W sl t q,MI P Sh F w1 gs W t q->gs[0]?=some g->∀ (d:Nat) (sl':Option (Nat×Nat)),stepT P (crowd gs W sl)=runT P (crowd gs (W.at d) sl') 0->Reach P (fun gs' W' t'=>∃ Sh',Fin0 P Sh' S F W gs' W' t') gs W sl t:=by
   intro w1 hr gs W sl t q h h0 d sl' hst';have h':=h.at d;have hr2:=hr.trans (J0 w1 d);have hs1:=hr2.size;have hs2:=h'.agr.size;have hQ:=hQW (W.at d).heap.size { w1.at d with heap:=(w1.at d).heap.push YM } (hr2.trans (QCg _)) (by omega) (by simp;omega);have hgr:(gn (W.at d).heap.size).status=.running:=hQ.running;have hrun':=runT_crowd_go (P:=P) (sl:=sl') (i:=0) h0 (show stepG P (0 == 0) g (W.at d)=_ from hst (W.at d));rw [h'.woken h0 hrun,QSo] at hrun';have hc:=h'.grp (ty:=ty) (g':=gn (W.at d).heap.size) h0 hgr (hCr _ hr2);refine Ec (hst'.trans hrun') ?_;simp only [Eg];exact (QLs hN (fun l ad hl hs=>⟨h'.shlt l ad hl hs,fun hF=>h'.shun l ad hl hF hs⟩) hQ (Ek _) _ (Rel.refl _) _ _ _ _ _ _ _ _ _ _ _ _ hc).mono fun gs2 W2 t2 h5=>⟨_,h5.back (Went.at F W d)⟩
  induction N with
  | zero =>
   intro w1 hr gs W sl t q hN h h0;obtain ⟨i,gi,d,sl',hi,hri,hst'⟩:=crowd_pick (P:=P) (w:=W) (sl:=sl) (h.awake h0 hrun) ⟨0,g,h0,hrun⟩;by_cases hi0:i=0
   ·grind
   ·obtain ⟨ops,gs',q',h1,h2,h3,h4⟩:=(h.at d).slip h0 hrun hi hi0 hri sl';omega
  | succ N ihN =>
   intro w1 hr gs W sl t q hN h h0;obtain ⟨i,gi,d,sl',hi,hri,hst'⟩:=crowd_pick (P:=P) (w:=W) (sl:=sl) (h.awake h0 hrun) ⟨0,g,h0,hrun⟩;by_cases hi0:i=0
   ·grind
   ·obtain ⟨ops,gs',q',h1,h2,h3,h4⟩:=(h.at d).slip h0 hrun hi hi0 hri sl';exact Ec (hst'.trans h1) ((ihN _ (hr.trans (J0 w1 d)) gs' (W.at d) sl' _ q' (by omega) h4 h2).mono fun gs2 W2 t2 ⟨Sh',h5⟩=>⟨Sh',h5.back (Went.at F W d)⟩)
 exact key _ w1 hr gs W sl t q (Ef _) h h0
theorem QW.of {Wg N Low:Nat} {Z:Nat->Prop} {orig:Nat->Option Obj} {pd:Nat} {O:List (Nat×(Value->World->Prop))} (h:Wlk (Jp P Z) (fun g w=>QW P ty Wg C N Low et cs0 S pd Z orig O g w) g w):QW P ty Wg C N Low et cs0 S pd Z orig O g w:=by
 induction h with
 | stop h=>exact h _ (Rel.refl _)
 | step nx hs h1 h2 ih=>exact .step nx hs h1 ih
 | phase S' hs h1 h2 ih=>exact (h1 _ (Rel.refl _)).elim
end
end Go.Gw

end
section
set_option linter.unusedVariables false
namespace Go.Gw
open Go Go.Conc Go.Conc.Lib
open Go.ConcR (KK wgBlock WgAt stA smA rd wr mk DC0)
section
variable {P:Program} {ty:TypeId} {Wg:Nat}
theorem Qnl:∀ {n d:Nat} {g:Goroutine},QuitsD P n d g->QuitsD P (n+1) d g
 | 0,_,_,h=>.inl h
 | n+1,_,_,h=>h.elim .inl fun ⟨hs,g',es,hm,hst,hq⟩=>.inr ⟨hs,g',es,hm,hst,Qnl hq⟩
theorem LW.mono1:∀ {m:Nat} {s:Stg} {g:Goroutine},LW P ty Wg m s g->LW P ty Wg (m+1) s g
 | 0,_,_,h=>h.elim
 | m+1,s,g,⟨hr,h⟩=>by
  refine ⟨hr,h.imp (fun h W hW=>?_) fun h=>?_⟩
  ·obtain ⟨g',h1,h2⟩:=h W hW;exact ⟨g',h1,LW.mono1 h2⟩
  ·cases s with
   | A=>obtain ⟨g',h1,h2⟩:=h;exact ⟨g',h1,LW.mono1 h2⟩
   | B=>obtain ⟨g',h1,h2⟩:=h;exact ⟨g',h1,LW.mono1 h2⟩
   | C =>
    intro v wt h1 h2;obtain ⟨g',h3,h4,h5⟩:=h v wt h1 h2;exact ⟨g',h3,fun hc=>LW.mono1 (h4 hc),fun hc=>Qnl (h5 hc)⟩
   | D2=>obtain ⟨g',h1,h2⟩:=h;exact ⟨g',h1,LW.mono1 h2⟩
   | D3=>obtain ⟨g',h1,h2⟩:=h;exact ⟨g',h1,LW.mono1 h2⟩
   | D4=>obtain ⟨h0,g',h1,h2⟩:=h;exact ⟨h0,g',h1,Qnl h2⟩
theorem MA.mono1 {gE:Goroutine}:∀ {m:Nat} {s:AS} {g:Goroutine},MA P ty Wg gE m s g->MA P ty Wg gE (m+1) s g
 | 0,_,_,h=>.inl h
 | m+1,s,g,h=>by
  refine h.imp id fun ⟨hr,h⟩=>⟨hr,h.imp (fun h W hW=>?_) fun h=>?_⟩
  ·obtain ⟨g',h1,h2⟩:=h W hW;exact ⟨g',h1,MA.mono1 h2⟩
  ·cases s with
   | K=>obtain ⟨g',h1,h2⟩:=h;exact ⟨g',h1,MA.mono1 h2⟩
   | P1 =>
    intro v hv;obtain ⟨g',h1,h2⟩:=h v hv;exact ⟨g',h1,MA.mono1 h2⟩
   | P2=>exact h.imp (fun ⟨g',h1,h2⟩=>⟨g',h1,MA.mono1 h2⟩) fun ⟨g',h1,h2⟩=>⟨g',h1,MA.mono1 h2⟩
   | E=>exact h
theorem MW.mono1 {An:Goroutine->Prop} {gE:Goroutine}:∀ {m:Nat} {s:BS} {g:Goroutine},MW P ty Wg An gE m s g->MW P ty Wg An gE (m+1) s g
 | 0,_,_,h=>.inl h
 | m+1,s,g,h=>by
  refine h.imp id fun ⟨hr,h⟩=>⟨hr,h.imp (fun h W hW=>?_) fun h=>?_⟩
  ·obtain ⟨g',h1,h2⟩:=h W hW;exact ⟨g',h1,MW.mono1 h2⟩
  ·cases s with
   | K=>obtain ⟨g',h1,h2⟩:=h;exact ⟨g',h1,MW.mono1 h2⟩
   | L =>
    intro v hv;obtain ⟨g',h1,h2,h3⟩:=h v hv;exact ⟨g',h1,fun e=>MW.mono1 (h2 e),fun e=>MW.mono1 (h3 e)⟩
   | Cs v =>
    obtain ⟨⟨g1,h1,h2⟩,h3⟩:=h;refine ⟨⟨g1,h1,MW.mono1 h2⟩,fun u hu1 hu2=>?_⟩;obtain ⟨g2,h4,h5⟩:=h3 u hu1 hu2;exact ⟨g2,h4,MW.mono1 h5⟩
   | R=>exact h
   | X=>obtain ⟨g',h1,h2⟩:=h;exact ⟨g',h1,MW.mono1 h2⟩
   | S=>obtain ⟨h0,h1,g',h2,h3⟩:=h;exact ⟨h0,h1,g',h2,MW.mono1 h3⟩
   | F=>obtain ⟨g',h1,h2⟩:=h;exact ⟨g',h1,MW.mono1 h2⟩
   | E=>obtain ⟨g',h1,h2⟩:=h;exact ⟨g',h1,MW.mono1 h2⟩
   | Q=>obtain ⟨g',h1,h2⟩:=h;exact ⟨g',h1,MW.mono1 h2⟩
   | Z=>exact h
def RL (ty:TypeId) (Wg:Nat) (w w1:World):Prop:=Live ty Wg w->Live ty Wg w1
theorem rl {w w1:World} (h:Live ty Wg w) (r:RL ty Wg w w1):Live ty Wg w1:=r h
theorem Live.cell0 {w:World} (h:Live ty Wg w):∃ v,w.cell? ⟨Wg,0,none⟩=some v:=let ⟨_,_,x⟩:=h;⟨_,x.cellSt⟩
theorem Live.cell1 {w:World} (h:Live ty Wg w):∃ v,w.cell? ⟨Wg,1,none⟩=some v:=let ⟨_,_,x⟩:=h;⟨_,x.cellSm⟩
theorem YN (ty:TypeId) (Wg:Nat):∃ w,Live ty Wg w:=by
 refine ⟨{ (default:World) with heap:=(Array.replicate Wg YM).push (wgBlock ty 0 0) },0,0,?_⟩;unfold WgAt
 grind
theorem LW.goes {s:Stg} {m:Nat}:∀ {n:Nat} {g:Goroutine} {w:World},Live ty Wg w->Goes P false (RL ty Wg) DC0 (fun g _=>LW P ty Wg m s g) n g w->LW P ty Wg (m+n) s g
 | 0,g,w,hL,h=>h w fun h=>h
 | n+1,g,w,hL,h=>by
  rcases h with h | ⟨hr,h⟩
  ·exact (LW.goes (n:=n) hL (Goes.stop h)).mono1
  ·refine ⟨hr,.inl fun W hW=>?_⟩;have:=h W fun _=>hW
   cases hs:stepG P false g W with
   | go g' w' es =>
    rw [hs] at this;simp only [goes_go] at this;obtain ⟨⟨rfl,rfl⟩,h2⟩:=this;exact ⟨g',rfl,LW.goes hW h2⟩
   | _=>rw [hs] at this;exact this.elim
theorem MA.goes {gE:Goroutine} {s:AS} {m:Nat}:∀ {n:Nat} {g:Goroutine} {w:World},Live ty Wg w->Goes P true (RL ty Wg) DC0 (fun g _=>MA P ty Wg gE m s g) n g w->MA P ty Wg gE (m+n) s g
 | 0,g,w,hL,h=>h w fun h=>h
 | n+1,g,w,hL,h=>by
  rcases h with h | ⟨hr,h⟩
  ·exact (MA.goes (n:=n) hL (Goes.stop h)).mono1
  ·refine .inr ⟨hr,.inl fun W hW=>?_⟩;have:=h W fun _=>hW
   cases hs:stepG P true g W with
   | go g' w' es =>
    rw [hs] at this;simp only [goes_go] at this;obtain ⟨⟨rfl,rfl⟩,h2⟩:=this;exact ⟨g',rfl,MA.goes hW h2⟩
   | _=>rw [hs] at this;exact this.elim
theorem MW.goes {An:Goroutine->Prop} {gE:Goroutine} {s:BS} {m:Nat}:∀ {n:Nat} {g:Goroutine} {w:World},Live ty Wg w->Goes P true (RL ty Wg) DC0 (fun g _=>MW P ty Wg An gE m s g) n g w->MW P ty Wg An gE (m+n) s g
 | 0,g,w,hL,h=>h w fun h=>h
 | n+1,g,w,hL,h=>by
  rcases h with h | ⟨hr,h⟩
  ·exact (MW.goes (n:=n) hL (Goes.stop h)).mono1
  ·refine .inr ⟨hr,.inl fun W hW=>?_⟩;have:=h W fun _=>hW
   cases hs:stepG P true g W with
   | go g' w' es =>
    rw [hs] at this;simp only [goes_go] at this;obtain ⟨⟨rfl,rfl⟩,h2⟩:=this;exact ⟨g',rfl,MW.goes hW h2⟩
   | _=>rw [hs] at this;exact this.elim

variable {m:Nat} {g g':Goroutine}
theorem LW.relA (hs:g.status=.running) (h:∀ W,Live ty Wg W->stepG P false g W=.go g' W #[Go.ConcR.mk (.releaseMerge (stA Wg))]) (k:LW P ty Wg m .B g'):LW P ty Wg (m+1) .A g:=⟨hs,.inr ⟨g',h,k⟩⟩
theorem LW.disB (hs:g.status=.running) (h:∀ W,Live ty Wg W->stepG P false g W=.go g' W #[Go.ConcR.mk .disable]) (k:LW P ty Wg m .C g'):LW P ty Wg (m+1) .B g:=⟨hs,.inr ⟨g',h,k⟩⟩
theorem LW.d2 (hs:g.status=.running) (h:∀ W,WgAt ty Wg W 1 0->stepG P false g W=.go g' W #[rd (stA Wg)]) (k:LW P ty Wg m .D3 g'):LW P ty Wg (m+1) .D2 g:=⟨hs,.inr ⟨g',h,k⟩⟩
theorem LW.d3 (hs:g.status=.running) (h:∀ W,WgAt ty Wg W 1 0->stepG P false g W=.go g' (W.setCell (stA Wg) (.int .u64 0)) #[wr (stA Wg)]) (k:LW P ty Wg m .D4 g'):LW P ty Wg (m+1) .D3 g:=⟨hs,.inr ⟨g',h,k⟩⟩
theorem LW.d4 (hs:g.status=.running) (hm:mayWake P g=true) (h:∀ W,WgAt ty Wg W 0 0->stepG P false g W=.go g' (W.setCell (smA Wg) (.int .u32 1)) (semEvents (smA Wg))) (k:QuitsD P m 1 g'):LW P ty Wg (m+1) .D4 g:=⟨hs,.inr ⟨hm,g',h,k⟩⟩
end
end Go.Gw

end
section
set_option linter.unusedVariables false
set_option linter.unusedSimpArgs false
namespace Go.Gw
open Go Go.Conc Go.RowKit Go.Conc.Lib Go.ConcR.Gen Go.ConcN
open Go.ConcR (KK wgBlock WgAt stA smA rd wr DC0)
structure Pk (p:Prop):Prop where
 out:p
theorem Qiw {P:Program} {q d:Nat} {g:Goroutine}:∀ k:Nat,QuitsD P q d g->QuitsD P (q+k) d g
 | 0,h=>h
 | k+1,h=>Qnl (Qiw k h)
theorem LW.addC {P:Program} {ty:TypeId} {Wg m:Nat} {g:Goroutine} (hs:g.status=.running) (h:∀ v wt:Nat,wt<=1->v < 2147483647->∃ g',(∀ W,WgAt ty Wg W (((v+1:Nat):Int) * KK+(wt:Int)) 0->stepG P false g W=.go g' (W.setCell (stA Wg) (.int .u64 ((v:Int) * KK+(wt:Int)))) #[rd (stA Wg),wr (stA Wg)]) /\
  ((v=0/\wt=1)->LW P ty Wg m .D2 g')/\(¬ (v=0/\wt=1)->QuitsD P m 1 g')):LW P ty Wg (m+1) .C g:=⟨hs,.inr h⟩
set_option maxRecDepth 100000 in
set_option maxHeartbeats 8000000 in
theorem QOv {P:Program} {L:WgLink} (H:WgLib P L) {Wg:Nat} {b₀:Frame} {a₀:Act} {ops₀:Array Oper} {i₀:Nat} {rest₀:List Nat} {k₀:List Item} {cs:List Frame} {qt:Nat} (hT:QuitsD P qt 0 (G (b₀.at (a₀.put ((ops₀[i₀]?).bind (·.dst)) (.tuple #[])) (.inRegion ops₀ rest₀::k₀)) cs)) :
  LW P L.tWg Wg (qt+1000) .A (G ((base L.add).at ⟨#[.pointer (some ⟨Wg,0,none⟩),.int .i64 (-1),undef,undef,undef,undef,undef,undef,undef,undef,undef,undef,undef,undef,undef,undef,undef,undef,undef,undef,undef,undef,undef,undef,undef,undef,undef,undef,undef,undef,undef,undef,undef,undef,undef,undef,undef,undef,undef,undef,undef,undef,undef,undef,undef,undef,undef,undef,undef,undef,undef,undef,undef,undef,undef,undef,undef,undef,undef,undef,undef,undef,undef,undef,undef,undef,undef,undef,undef,undef,undef,undef,undef,undef,undef,undef,undef,undef,undef,undef,undef,undef,undef,undef,undef,undef,undef,undef,undef,undef,undef,undef,undef,undef,undef,undef,undef,undef,undef,undef,undef,undef,undef,undef,undef,undef,undef,undef,undef,undef,undef,undef,undef,undef,undef,undef,undef],[]⟩ [.code (ConcR.Gen.body_add L)]) (b₀.at a₀ (.inRegion ops₀ (i₀::rest₀)::k₀)::cs)):=by
 lib_facts
 simp only [ConcR.Gen.body_add,addFn,Ed];obtain ⟨w,hK⟩:=YN L.tWg Wg;refine LW.goes (m:=qt+987) (n:=13) hK ?_
 u_c stepG_seq rl hK
 u_cond true rl hK
 u_c stepG_seq rl hK
 u_c stepG_seq rl hK
 u_reg rl hK
 u_op rl hK
 u_op rl hK
 u_c stepG_region_end rl hK
 u_cond true rl hK
 u_reg rl hK
 u_op rl hK
 u_conv H.underlying_tWgP H.room_tWg (Live.cell0 hK).choose_spec rl hK
 refine Goes.stop (fun w₁ h₁=>?_);clear h₁ hK w w₁;refine LW.relA rfl (fun W hW=>stepG_markAt .releaseMerge (by simp) rfl rfl (by k_ne) rfl H.f_relMerge (x_relMerge_n L) (x_relMerge_b L) (x_relMerge_x L) (x_relMerge_f L) (by simp [Act.eval,stA])) ?_
 walk_nrm
 obtain ⟨w,hK⟩:=YN L.tWg Wg;refine LW.goes (m:=qt+982) (n:=4) hK ?_
 u_c stepG_region_end rl hK
 u_c stepG_seq rl hK
 u_reg rl hK
 refine Goes.stop (fun w₁ h₁=>?_);clear h₁ hK w w₁;refine LW.disB rfl (fun W hW=>stepG_mark0 .disable (by simp) rfl rfl (by k_ne) rfl H.f_disable (x_disable_n L) (x_disable_b L) (x_disable_x L) (x_disable_f L)) ?_
 walk_nrm
 obtain ⟨w,hK⟩:=YN L.tWg Wg;refine LW.goes (m:=qt+946) (n:=35) hK ?_
 u_c stepG_region_end rl hK
 u_reg rl hK
 u_defer rl hK
 u_c stepG_region_end rl hK
 u_c stepG_seq rl hK
 u_reg rl hK
 u_op rl hK
 u_c stepG_region_end rl hK
 u_c stepG_seq rl hK
 u_c stepG_seq rl hK
 u_reg rl hK
 u_bub rl hK
 u_c stepG_region_end rl hK
 u_cond false rl hK
 u_c stepG_skip rl hK
 u_c stepG_seq rl hK
 u_reg rl hK
 u_op rl hK
 u_op rl hK
 u_op rl hK
 u_op rl hK
 u_op rl hK
 u_op rl hK
 u_call H.f_uAdd (nm_uAdd L) uAddFn rl hK
 u_c stepG_seq rl hK
 u_reg rl hK
 u_op rl hK
 u_c stepG_region_end rl hK
 u_c stepG_seq rl hK
 u_reg rl hK
 u_op rl hK
 u_op rl hK
 u_op rl hK
 u_op rl hK
 refine Goes.stop (fun w₁ h₁=>?_);clear h₁ hK w w₁;refine LW.addC rfl fun v wt hwt hv=>?_;rcases Eh v with rfl | hvp<;>(obtain rfl | rfl:wt=0\/wt=1:=by omega)
 ·skip
  have e0:IntKind.u64.wrap (KK+18446744069414584320)=0:=by decide
  have k0:∀ {W:World},WgAt L.tWg Wg W (((0+1:Nat):Int) * KK+((0:Nat):Int)) 0->WgAt L.tWg Wg W KK 0:=fun hw=>by grind
  refine ⟨_,fun W hw=>(stepG_add_atomic (v:=KK) rfl rfl (by k_ne) rfl H.f_addU64 (x_addU64_n L) (x_addU64_b L) (x_addU64_x L) .u64 (x_addU64_f L) rfl rfl (WgAt.cellSt (k0 hw)) (WgAt.thaw (k0 hw) 0)).trans (by rw [e0];rfl),fun h=>absurd h.2 (by decide),fun _=>?_⟩
  walk_nrm
  refine QuitsD.value ?_ rfl rfl (by k_ne) (fun _=>?_) (fun _=>?_) ?_
  rotate_left
  ·go_simp
   try w_num
   rfl
  ·rfl
  walk_nrm
  q_c stepG_region_end
  q_c stepG_ret'
  q_leave1 H.f_uAdd
  refine QuitsD.value ?_ rfl rfl (by k_ne) (fun _=>?_) (fun _=>?_) ?_
  rotate_left
  ·go_simp
   try w_num
   rfl
  ·rfl
  walk_nrm
  q_c stepG_region_end
  q_c stepG_seq
  q_c stepG_seq
  q_reg
  refine QuitsD.value ?_ rfl rfl (by k_ne) (fun _=>?_) (fun _=>?_) ?_
  rotate_left
  ·go_simp
   try w_num
   rfl
  ·rfl
  walk_nrm
  refine QuitsD.value ?_ rfl rfl (by k_ne) (fun _=>?_) (fun _=>?_) ?_
  rotate_left
  ·go_simp
   try w_num
   rfl
  ·rfl
  walk_nrm
  refine QuitsD.value ?_ rfl rfl (by k_ne) (fun _=>?_) (fun _=>?_) ?_
  rotate_left
  ·go_simp
   try w_num
   rfl
  ·rfl
  walk_nrm
  refine QuitsD.value ?_ rfl rfl (by k_ne) (fun _=>?_) (fun _=>?_) ?_
  rotate_left
  ·go_simp
   try w_num
   rfl
  ·rfl
  walk_nrm
  q_skip
  q_skip
  refine QuitsD.value ?_ rfl rfl (by k_ne) (fun _=>?_) (fun _=>?_) ?_
  rotate_left
  ·go_simp
   try w_num
   rfl
  ·rfl
  walk_nrm
  q_c stepG_region_end
  q_cond false
  q_c stepG_skip
  q_c stepG_seq
  q_reg
  refine QuitsD.value ?_ rfl rfl (by k_ne) (fun _=>?_) (fun _=>?_) ?_
  rotate_left
  ·go_simp
   try w_num
   rfl
  ·rfl
  walk_nrm
  refine QuitsD.value ?_ rfl rfl (by k_ne) (fun _=>?_) (fun _=>?_) ?_
  rotate_left
  ·go_simp
   try w_num
   rfl
  ·rfl
  walk_nrm
  refine QuitsD.value ?_ rfl rfl (by k_ne) (fun _=>?_) (fun _=>?_) ?_
  rotate_left
  ·go_simp
   try w_num
   rfl
  ·simp [go_sem, *]
  walk_nrm
  refine QuitsD.value ?_ rfl rfl (by k_ne) (fun _=>?_) (fun _=>?_) ?_
  rotate_left
  ·go_simp
   try w_num
   rfl
  ·rfl
  walk_nrm
  q_c stepG_region_end
  q_c stepG_seq
  q_reg
  refine QuitsD.value ?_ rfl rfl (by k_ne) (fun _=>?_) (fun _=>?_) ?_
  rotate_left
  ·go_simp
   try w_num
   rfl
  ·rfl
  walk_nrm
  refine QuitsD.value ?_ rfl rfl (by k_ne) (fun _=>?_) (fun _=>?_) ?_
  rotate_left
  ·go_simp
   try w_num
   rfl
  ·rfl
  walk_nrm
  refine QuitsD.value ?_ rfl rfl (by k_ne) (fun _=>?_) (fun _=>?_) ?_
  rotate_left
  ·go_simp
   try w_num
   rfl
  ·simp [go_sem, *]
  walk_nrm
  refine QuitsD.value ?_ rfl rfl (by k_ne) (fun _=>?_) (fun _=>?_) ?_
  rotate_left
  ·go_simp
   try w_num
   rfl
  ·rfl
  walk_nrm
  q_c stepG_region_end
  q_c stepG_seq
  q_c stepG_seq
  q_reg
  refine QuitsD.value ?_ rfl rfl (by k_ne) (fun _=>?_) (fun _=>?_) ?_
  rotate_left
  ·go_simp
   try w_num
   rfl
  ·rfl
  walk_nrm
  refine QuitsD.value ?_ rfl rfl (by k_ne) (fun _=>?_) (fun _=>?_) ?_
  rotate_left
  ·go_simp
   try w_num
   rfl
  ·rfl
  walk_nrm
  refine QuitsD.value ?_ rfl rfl (by k_ne) (fun _=>?_) (fun _=>?_) ?_
  rotate_left
  ·go_simp
   try w_num
   rfl
  ·rfl
  walk_nrm
  refine QuitsD.value ?_ rfl rfl (by k_ne) (fun _=>?_) (fun _=>?_) ?_
  rotate_left
  ·go_simp
   try w_num
   rfl
  ·rfl
  walk_nrm
  refine QuitsD.value ?_ rfl rfl (by k_ne) (fun _=>?_) (fun _=>?_) ?_
  rotate_left
  ·go_simp
   try w_num
   rfl
  ·rfl
  walk_nrm
  q_skip
  q_skip
  q_skip
  q_skip
  refine QuitsD.value ?_ rfl rfl (by k_ne) (fun _=>?_) (fun _=>?_) ?_
  rotate_left
  ·go_simp
   try w_num
   rfl
  ·rfl
  walk_nrm
  q_c stepG_region_end
  q_cond false
  q_c stepG_skip
  q_c stepG_seq
  q_c stepG_seq
  q_reg
  refine QuitsD.value ?_ rfl rfl (by k_ne) (fun _=>?_) (fun _=>?_) ?_
  rotate_left
  ·go_simp
   try w_num
   rfl
  ·rfl
  walk_nrm
  refine QuitsD.value ?_ rfl rfl (by k_ne) (fun _=>?_) (fun _=>?_) ?_
  rotate_left
  ·go_simp
   try w_num
   rfl
  ·rfl
  walk_nrm
  q_c stepG_region_end
  q_cond false
  q_c stepG_skip
  q_c stepG_seq
  q_c stepG_seq
  q_reg
  refine QuitsD.value ?_ rfl rfl (by k_ne) (fun _=>?_) (fun _=>?_) ?_
  rotate_left
  ·go_simp
   try w_num
   rfl
  ·rfl
  walk_nrm
  refine QuitsD.value ?_ rfl rfl (by k_ne) (fun _=>?_) (fun _=>?_) ?_
  rotate_left
  ·go_simp
   try w_num
   rfl
  ·rfl
  walk_nrm
  refine QuitsD.value ?_ rfl rfl (by k_ne) (fun _=>?_) (fun _=>?_) ?_
  rotate_left
  ·go_simp
   try w_num
   rfl
  ·rfl
  walk_nrm
  q_skip
  q_skip
  refine QuitsD.value ?_ rfl rfl (by k_ne) (fun _=>?_) (fun _=>?_) ?_
  rotate_left
  ·go_simp
   try w_num
   rfl
  ·rfl
  walk_nrm
  refine QuitsD.value ?_ rfl rfl (by k_ne) (fun _=>?_) (fun _=>?_) ?_
  rotate_left
  ·go_simp
   try w_num
   rfl
  ·rfl
  walk_nrm
  q_skip
  q_skip
  q_skip
  q_skip
  refine QuitsD.value ?_ rfl rfl (by k_ne) (fun _=>?_) (fun _=>?_) ?_
  rotate_left
  ·go_simp
   try w_num
   rfl
  ·rfl
  walk_nrm
  q_c stepG_region_end
  q_cond false
  q_c stepG_skip
  q_c stepG_seq
  q_c stepG_seq
  q_reg
  refine QuitsD.value ?_ rfl rfl (by k_ne) (fun _=>?_) (fun _=>?_) ?_
  rotate_left
  ·go_simp
   try w_num
   rfl
  ·rfl
  walk_nrm
  refine QuitsD.value ?_ rfl rfl (by k_ne) (fun _=>?_) (fun _=>?_) ?_
  rotate_left
  ·go_simp
   try w_num
   rfl
  ·rfl
  walk_nrm
  refine QuitsD.value ?_ rfl rfl (by k_ne) (fun _=>?_) (fun _=>?_) ?_
  rotate_left
  ·go_simp
   try w_num
   rfl
  ·rfl
  walk_nrm
  refine QuitsD.value ?_ rfl rfl (by k_ne) (fun _=>?_) (fun _=>?_) ?_
  rotate_left
  ·go_simp
   try w_num
   rfl
  ·rfl
  walk_nrm
  refine QuitsD.value ?_ rfl rfl (by k_ne) (fun _=>?_) (fun _=>?_) ?_
  rotate_left
  ·go_simp
   try w_num
   rfl
  ·rfl
  walk_nrm
  refine QuitsD.value ?_ rfl rfl (by k_ne) (fun _=>?_) (fun _=>?_) ?_
  rotate_left
  ·go_simp
   try w_num
   rfl
  ·rfl
  walk_nrm
  q_c stepG_region_end
  q_cond true
  q_c stepG_ret'
  q_enable
  q_leave0 H.f_add
  exact Qiw 856 hT
 ·skip
  have e0:IntKind.u64.wrap (KK+1+18446744069414584320)=1:=by decide
  have k0:∀ {W:World},WgAt L.tWg Wg W (((0+1:Nat):Int) * KK+((1:Nat):Int)) 0->WgAt L.tWg Wg W (KK+1) 0:=fun hw=>by grind
  refine ⟨_,fun W hw=>(stepG_add_atomic (v:=KK+1) rfl rfl (by k_ne) rfl H.f_addU64 (x_addU64_n L) (x_addU64_b L) (x_addU64_x L) .u64 (x_addU64_f L) rfl rfl (WgAt.cellSt (k0 hw)) (WgAt.thaw (k0 hw) 0)).trans (by rw [e0];rfl),fun _=>?_,fun h=>absurd ⟨rfl,rfl⟩ h⟩
  walk_nrm
  obtain ⟨w,hK⟩:=YN L.tWg Wg;refine LW.goes (m:=qt+841) (n:=104) hK ?_
  u_op rl hK
  u_c stepG_region_end rl hK
  u_c stepG_ret' rl hK
  u_leave1 H.f_uAdd rl hK
  u_op rl hK
  u_c stepG_region_end rl hK
  u_c stepG_seq rl hK
  u_c stepG_seq rl hK
  u_reg rl hK
  u_op rl hK
  u_op rl hK
  u_op rl hK
  u_op rl hK
  u_skip rl hK
  u_skip rl hK
  u_op rl hK
  u_c stepG_region_end rl hK
  u_cond false rl hK
  u_c stepG_skip rl hK
  u_c stepG_seq rl hK
  u_reg rl hK
  u_op rl hK
  u_op rl hK
  u_op rl hK
  u_op rl hK
  u_c stepG_region_end rl hK
  u_c stepG_seq rl hK
  u_reg rl hK
  u_op rl hK
  u_op rl hK
  u_op rl hK
  u_op rl hK
  u_c stepG_region_end rl hK
  u_c stepG_seq rl hK
  u_c stepG_seq rl hK
  u_reg rl hK
  u_op rl hK
  u_op rl hK
  u_op rl hK
  u_op rl hK
  u_op rl hK
  u_skip rl hK
  u_skip rl hK
  u_skip rl hK
  u_skip rl hK
  u_op rl hK
  u_c stepG_region_end rl hK
  u_cond false rl hK
  u_c stepG_skip rl hK
  u_c stepG_seq rl hK
  u_c stepG_seq rl hK
  u_reg rl hK
  u_op rl hK
  u_op rl hK
  u_c stepG_region_end rl hK
  u_cond false rl hK
  u_c stepG_skip rl hK
  u_c stepG_seq rl hK
  u_c stepG_seq rl hK
  u_reg rl hK
  u_op rl hK
  u_op rl hK
  u_op rl hK
  u_op rl hK
  u_op rl hK
  u_op rl hK
  u_op rl hK
  u_skip rl hK
  u_skip rl hK
  u_skip rl hK
  u_skip rl hK
  u_op rl hK
  u_c stepG_region_end rl hK
  u_cond false rl hK
  u_c stepG_skip rl hK
  u_c stepG_seq rl hK
  u_c stepG_seq rl hK
  u_reg rl hK
  u_op rl hK
  u_op rl hK
  u_op rl hK
  u_op rl hK
  u_op rl hK
  u_op rl hK
  u_c stepG_region_end rl hK
  u_cond false rl hK
  u_c stepG_skip rl hK
  u_c stepG_seq rl hK
  u_c stepG_seq rl hK
  u_reg rl hK
  u_op rl hK
  u_op rl hK
  u_op rl hK
  u_call H.f_uLoad (nm_uLoad L) uLoadFn rl hK
  u_c stepG_seq rl hK
  u_reg rl hK
  u_op rl hK
  u_c stepG_region_end rl hK
  u_c stepG_seq rl hK
  u_reg rl hK
  u_op rl hK
  u_op rl hK
  u_op rl hK
  refine Goes.stop (fun w₁ h₁=>?_);clear h₁ hK w w₁;refine LW.d2 rfl (fun W hw=>stepG_load_atomic (v:=1) rfl rfl (by k_ne) rfl H.f_loadU64 (x_loadU64_n L) (x_loadU64_b L) (x_loadU64_x L) .u64 (x_loadU64_f L) rfl (WgAt.cellSt hw)) ?_
  walk_nrm
  obtain ⟨w,hK⟩:=YN L.tWg Wg;refine LW.goes (m:=qt+819) (n:=21) hK ?_
  u_op rl hK
  u_c stepG_region_end rl hK
  u_c stepG_ret' rl hK
  u_leave1 H.f_uLoad rl hK
  u_op rl hK
  u_op rl hK
  u_c stepG_region_end rl hK
  u_cond false rl hK
  u_c stepG_skip rl hK
  u_c stepG_seq rl hK
  u_reg rl hK
  u_op rl hK
  u_op rl hK
  u_op rl hK
  u_call H.f_uStore (nm_uStore L) uStoreFn rl hK
  u_reg rl hK
  u_op rl hK
  u_op rl hK
  u_op rl hK
  u_op rl hK
  refine Goes.stop (fun w₁ h₁=>?_);clear h₁ hK w w₁;refine LW.d3 rfl (fun W hw=>stepG_store_atomic rfl rfl (by k_ne) rfl H.f_storeU64 (x_storeU64_n L) (x_storeU64_b L) (x_storeU64_x L) (x_storeU64_f L) rfl rfl (WgAt.cellSt hw) (WgAt.thaw hw 0)) ?_
  walk_nrm
  obtain ⟨w,hK⟩:=YN L.tWg Wg;refine LW.goes (m:=qt+790) (n:=28) hK ?_
  u_c stepG_region_end rl hK
  u_c stepG_end rl hK
  u_leave0 H.f_uStore rl hK
  u_c stepG_region_end rl hK
  u_c stepG_seq rl hK
  u_c stepG_seq rl hK
  u_reg rl hK
  u_op rl hK
  u_c stepG_region_end rl hK
  u_cond false rl hK
  u_c stepG_skip rl hK
  u_c stepG_block rl hK
  u_c stepG_loop rl hK
  u_c stepG_seq rl hK
  u_c stepG_seq rl hK
  u_reg rl hK
  u_op rl hK
  u_op rl hK
  u_c stepG_region_end rl hK
  u_cond true rl hK
  u_c stepG_skip rl hK
  u_c stepG_seq rl hK
  u_c stepG_block rl hK
  u_reg rl hK
  u_op rl hK
  u_op rl hK
  u_op rl hK
  refine Goes.stop (fun w₁ h₁=>?_);clear h₁ hK w w₁;refine LW.d4 rfl (mayWake_entry rfl rfl H.f_semrelease (x_semrelease_b L)) (fun W hw=>(stepG_semrelease rfl rfl (by k_ne) rfl H.f_semrelease (x_semrelease_n L) (x_semrelease_b L) (x_semrelease_x L) (x_semrelease_f L) (by simp [Act.eval,smA]) (WgAt.cellSm hw) (WgAt.thaw hw 1)).trans (by rfl)) ?_
  walk_nrm
  q_c stepG_region_end
  q_c stepG_inBlock
  q_reg
  refine QuitsD.value ?_ rfl rfl (by k_ne) (fun _=>?_) (fun _=>?_) ?_
  rotate_left
  ·go_simp
   try w_num
   rfl
  ·rfl
  walk_nrm
  refine QuitsD.value ?_ rfl rfl (by k_ne) (fun _=>?_) (fun _=>?_) ?_
  rotate_left
  ·go_simp
   try w_num
   rfl
  ·rfl
  walk_nrm
  refine QuitsD.value ?_ rfl rfl (by k_ne) (fun _=>?_) (fun _=>?_) ?_
  rotate_left
  ·go_simp
   try w_num
   rfl
  ·rfl
  walk_nrm
  q_c stepG_region_end
  q_c stepG_inLoop
  q_c stepG_seq
  q_c stepG_seq
  q_reg
  refine QuitsD.value ?_ rfl rfl (by k_ne) (fun _=>?_) (fun _=>?_) ?_
  rotate_left
  ·go_simp
   try w_num
   rfl
  ·rfl
  walk_nrm
  refine QuitsD.value ?_ rfl rfl (by k_ne) (fun _=>?_) (fun _=>?_) ?_
  rotate_left
  ·go_simp
   try w_num
   rfl
  ·rfl
  walk_nrm
  q_c stepG_region_end
  q_cond false
  q_exit
  q_c stepG_end
  q_enable
  q_leave0 H.f_add
  exact Qiw 770 hT
 ·skip
  have k0:∀ {W:World},WgAt L.tWg Wg W (((v+1:Nat):Int) * KK+((0:Nat):Int)) 0->WgAt L.tWg Wg W (((v:Nat)+1) * KK+0) 0:=fun hw=>by grind
  obtain ⟨V,hV⟩:∃ V:Int,V=(v:Int):=⟨_,rfl⟩;obtain ⟨S,hS⟩:∃ S:Int,S=V * KK+0:=⟨_,rfl⟩;have z:(v:Int) * KK+((0:Nat):Int)=S:=by simp_all
  have e0:IntKind.u64.wrap (((v:Nat)+1) * KK+0+18446744069414584320)=S:=by rw [IntKind.wrap_u64,hS,hV];simp only [KK];omega
  rw [z];clear z;have a1:S / 4294967296=V:=by grind [KK]
  have b1:bits .and .u64 S 2147483648=0:=by rw [hS,hV];have:=st_flag v 0 (by omega) (by omega);trivial
  have b2:bits .and .u64 S 2147483647=0:=by rw [hS,hV];have:=st_waiters v 0 (by omega) (by omega);trivial
  have a2:0<=S/\S < 9223372036854775808:=by omega
  clear hS;have c1:IntKind.i32.wrap V=V:=by rw [IntKind.wrap_i32];omega
  have q3:decide (V < 0)=false:=decide_eq_false (by omega);have q4:decide (0 < V)=true:=decide_eq_true (by omega);have q5:(V == 0)=false:=by simp;omega
  have q6:decide (V=0)=false:=decide_eq_false (by omega);have q7:(V == -1)=false:=by simp;omega
  have q8:decide (V=-1)=false:=decide_eq_false (by omega);refine ⟨_,fun W hw=>(stepG_add_atomic (v:=((v:Nat)+1) * KK+0) rfl rfl (by k_ne) rfl H.f_addU64 (x_addU64_n L) (x_addU64_b L) (x_addU64_x L) .u64 (x_addU64_f L) rfl rfl (WgAt.cellSt (k0 hw)) (WgAt.thaw (k0 hw) 0)).trans (by rw [e0];rfl),fun h=>absurd h.1 (by omega),fun _=>?_⟩;clear hV e0 k0
  walk_nrm
  refine QuitsD.value ?_ rfl rfl (by k_ne) (fun _=>?_) (fun _=>?_) ?_
  rotate_left
  ·go_simp
   try w_num
   rfl
  ·rfl
  walk_nrm
  q_c stepG_region_end
  q_c stepG_ret'
  q_leave1 H.f_uAdd
  refine QuitsD.value ?_ rfl rfl (by k_ne) (fun _=>?_) (fun _=>?_) ?_
  rotate_left
  ·go_simp
   try w_num
   rfl
  ·rfl
  walk_nrm
  q_c stepG_region_end
  q_c stepG_seq
  q_c stepG_seq
  q_reg
  refine QuitsD.value ?_ rfl rfl (by k_ne) (fun _=>?_) (fun _=>?_) ?_
  rotate_left
  ·go_simp
   try w_num
   rfl
  ·rfl
  walk_nrm
  refine QuitsD.value ?_ rfl rfl (by k_ne) (fun _=>?_) (fun _=>?_) ?_
  rotate_left
  ·go_simp
   try w_num
   rfl
  ·rfl
  walk_nrm
  refine QuitsD.value ?_ rfl rfl (by k_ne) (fun _=>?_) (fun _=>?_) ?_
  rotate_left
  ·go_simp
   try w_num
   rfl
  ·rfl
  walk_nrm
  refine QuitsD.value ?_ rfl rfl (by k_ne) (fun _=>?_) (fun _=>?_) ?_
  rotate_left
  ·go_simp
   try w_num
   rfl
  ·rfl
  walk_nrm
  q_skip
  q_skip
  refine QuitsD.value ?_ rfl rfl (by k_ne) (fun _=>?_) (fun _=>?_) ?_
  rotate_left
  ·go_simp
   try w_num
   rfl
  ·rfl
  walk_nrm
  q_c stepG_region_end
  q_cond false
  q_c stepG_skip
  q_c stepG_seq
  q_reg
  refine QuitsD.value ?_ rfl rfl (by k_ne) (fun _=>?_) (fun _=>?_) ?_
  rotate_left
  ·go_simp
   try w_num
   rfl
  ·rfl
  walk_nrm
  refine QuitsD.value ?_ rfl rfl (by k_ne) (fun _=>?_) (fun _=>?_) ?_
  rotate_left
  ·go_simp
   try w_num
   rfl
  ·rfl
  walk_nrm
  refine QuitsD.value ?_ rfl rfl (by k_ne) (fun _=>?_) (fun _=>?_) ?_
  rotate_left
  ·go_simp
   try w_num
   rfl
  ·simp [go_sem, *]
  walk_nrm
  refine QuitsD.value ?_ rfl rfl (by k_ne) (fun _=>?_) (fun _=>?_) ?_
  rotate_left
  ·go_simp
   try w_num
   rfl
  ·rfl
  walk_nrm
  q_c stepG_region_end
  q_c stepG_seq
  q_reg
  refine QuitsD.value ?_ rfl rfl (by k_ne) (fun _=>?_) (fun _=>?_) ?_
  rotate_left
  ·go_simp
   try w_num
   rfl
  ·rfl
  walk_nrm
  refine QuitsD.value ?_ rfl rfl (by k_ne) (fun _=>?_) (fun _=>?_) ?_
  rotate_left
  ·go_simp
   try w_num
   rfl
  ·rfl
  walk_nrm
  refine QuitsD.value ?_ rfl rfl (by k_ne) (fun _=>?_) (fun _=>?_) ?_
  rotate_left
  ·go_simp
   try w_num
   rfl
  ·simp [go_sem, *]
  walk_nrm
  refine QuitsD.value ?_ rfl rfl (by k_ne) (fun _=>?_) (fun _=>?_) ?_
  rotate_left
  ·go_simp
   try w_num
   rfl
  ·rfl
  walk_nrm
  q_c stepG_region_end
  q_c stepG_seq
  q_c stepG_seq
  q_reg
  refine QuitsD.value ?_ rfl rfl (by k_ne) (fun _=>?_) (fun _=>?_) ?_
  rotate_left
  ·go_simp
   try w_num
   rfl
  ·rfl
  walk_nrm
  refine QuitsD.value ?_ rfl rfl (by k_ne) (fun _=>?_) (fun _=>?_) ?_
  rotate_left
  ·go_simp
   try w_num
   rfl
  ·rfl
  walk_nrm
  refine QuitsD.value ?_ rfl rfl (by k_ne) (fun _=>?_) (fun _=>?_) ?_
  rotate_left
  ·go_simp
   try w_num
   rfl
  ·rfl
  walk_nrm
  refine QuitsD.value ?_ rfl rfl (by k_ne) (fun _=>?_) (fun _=>?_) ?_
  rotate_left
  ·go_simp
   try w_num
   rfl
  ·rfl
  walk_nrm
  refine QuitsD.value ?_ rfl rfl (by k_ne) (fun _=>?_) (fun _=>?_) ?_
  rotate_left
  ·go_simp
   try w_num
   rfl
  ·rfl
  walk_nrm
  q_skip
  q_skip
  q_skip
  q_skip
  refine QuitsD.value ?_ rfl rfl (by k_ne) (fun _=>?_) (fun _=>?_) ?_
  rotate_left
  ·go_simp
   try w_num
   rfl
  ·rfl
  walk_nrm
  q_c stepG_region_end
  q_cond false
  q_c stepG_skip
  q_c stepG_seq
  q_c stepG_seq
  q_reg
  refine QuitsD.value ?_ rfl rfl (by k_ne) (fun _=>?_) (fun _=>?_) ?_
  rotate_left
  ·go_simp
   try w_num
   rfl
  ·rfl
  walk_nrm
  refine QuitsD.value ?_ rfl rfl (by k_ne) (fun _=>?_) (fun _=>?_) ?_
  rotate_left
  ·go_simp
   try w_num
   rfl
  ·rfl
  walk_nrm
  q_c stepG_region_end
  q_cond false
  q_c stepG_skip
  q_c stepG_seq
  q_c stepG_seq
  q_reg
  refine QuitsD.value ?_ rfl rfl (by k_ne) (fun _=>?_) (fun _=>?_) ?_
  rotate_left
  ·go_simp
   try w_num
   rfl
  ·rfl
  walk_nrm
  refine QuitsD.value ?_ rfl rfl (by k_ne) (fun _=>?_) (fun _=>?_) ?_
  rotate_left
  ·go_simp
   try w_num
   rfl
  ·rfl
  walk_nrm
  refine QuitsD.value ?_ rfl rfl (by k_ne) (fun _=>?_) (fun _=>?_) ?_
  rotate_left
  ·go_simp
   try w_num
   rfl
  ·rfl
  walk_nrm
  q_skip
  q_skip
  refine QuitsD.value ?_ rfl rfl (by k_ne) (fun _=>?_) (fun _=>?_) ?_
  rotate_left
  ·go_simp
   try w_num
   rfl
  ·rfl
  walk_nrm
  refine QuitsD.value ?_ rfl rfl (by k_ne) (fun _=>?_) (fun _=>?_) ?_
  rotate_left
  ·go_simp
   try w_num
   rfl
  ·rfl
  walk_nrm
  q_skip
  q_skip
  q_skip
  q_skip
  refine QuitsD.value ?_ rfl rfl (by k_ne) (fun _=>?_) (fun _=>?_) ?_
  rotate_left
  ·go_simp
   try w_num
   rfl
  ·rfl
  walk_nrm
  q_c stepG_region_end
  q_cond false
  q_c stepG_skip
  q_c stepG_seq
  q_c stepG_seq
  q_reg
  refine QuitsD.value ?_ rfl rfl (by k_ne) (fun _=>?_) (fun _=>?_) ?_
  rotate_left
  ·go_simp
   try w_num
   rfl
  ·rfl
  walk_nrm
  refine QuitsD.value ?_ rfl rfl (by k_ne) (fun _=>?_) (fun _=>?_) ?_
  rotate_left
  ·go_simp
   try w_num
   rfl
  ·rfl
  walk_nrm
  refine QuitsD.value ?_ rfl rfl (by k_ne) (fun _=>?_) (fun _=>?_) ?_
  rotate_left
  ·go_simp
   try w_num
   rfl
  ·rfl
  walk_nrm
  q_skip
  q_skip
  refine QuitsD.value ?_ rfl rfl (by k_ne) (fun _=>?_) (fun _=>?_) ?_
  rotate_left
  ·go_simp
   try w_num
   rfl
  ·rfl
  walk_nrm
  q_c stepG_region_end
  q_cond true
  q_c stepG_ret'
  q_enable
  q_leave0 H.f_add
  exact Qiw 856 hT
 ·skip
  have k0:∀ {W:World},WgAt L.tWg Wg W (((v+1:Nat):Int) * KK+((1:Nat):Int)) 0->WgAt L.tWg Wg W (((v:Nat)+1) * KK+1) 0:=fun hw=>by grind
  obtain ⟨V,hV⟩:∃ V:Int,V=(v:Int):=⟨_,rfl⟩;obtain ⟨S,hS⟩:∃ S:Int,S=V * KK+1:=⟨_,rfl⟩;have z:(v:Int) * KK+((1:Nat):Int)=S:=by simp_all
  have e0:IntKind.u64.wrap (((v:Nat)+1) * KK+1+18446744069414584320)=S:=by rw [IntKind.wrap_u64,hS,hV];simp only [KK];omega
  rw [z];clear z;have a1:S / 4294967296=V:=by grind [KK]
  have b1:bits .and .u64 S 2147483648=0:=by rw [hS,hV];have:=st_flag v 1 (by omega) (by omega);trivial
  have b2:bits .and .u64 S 2147483647=1:=by rw [hS,hV];have:=st_waiters v 1 (by omega) (by omega);trivial
  have a2:0<=S/\S < 9223372036854775808:=by omega
  clear hS;have c1:IntKind.i32.wrap V=V:=by rw [IntKind.wrap_i32];omega
  have q3:decide (V < 0)=false:=decide_eq_false (by omega);have q4:decide (0 < V)=true:=decide_eq_true (by omega);have q5:(V == 0)=false:=by simp;omega
  have q6:decide (V=0)=false:=decide_eq_false (by omega);have q7:(V == -1)=false:=by simp;omega
  have q8:decide (V=-1)=false:=decide_eq_false (by omega);refine ⟨_,fun W hw=>(stepG_add_atomic (v:=((v:Nat)+1) * KK+1) rfl rfl (by k_ne) rfl H.f_addU64 (x_addU64_n L) (x_addU64_b L) (x_addU64_x L) .u64 (x_addU64_f L) rfl rfl (WgAt.cellSt (k0 hw)) (WgAt.thaw (k0 hw) 0)).trans (by rw [e0];rfl),fun h=>absurd h.1 (by omega),fun _=>?_⟩;clear hV e0 k0
  walk_nrm
  refine QuitsD.value ?_ rfl rfl (by k_ne) (fun _=>?_) (fun _=>?_) ?_
  rotate_left
  ·go_simp
   try w_num
   rfl
  ·rfl
  walk_nrm
  q_c stepG_region_end
  q_c stepG_ret'
  q_leave1 H.f_uAdd
  refine QuitsD.value ?_ rfl rfl (by k_ne) (fun _=>?_) (fun _=>?_) ?_
  rotate_left
  ·go_simp
   try w_num
   rfl
  ·rfl
  walk_nrm
  q_c stepG_region_end
  q_c stepG_seq
  q_c stepG_seq
  q_reg
  refine QuitsD.value ?_ rfl rfl (by k_ne) (fun _=>?_) (fun _=>?_) ?_
  rotate_left
  ·go_simp
   try w_num
   rfl
  ·rfl
  walk_nrm
  refine QuitsD.value ?_ rfl rfl (by k_ne) (fun _=>?_) (fun _=>?_) ?_
  rotate_left
  ·go_simp
   try w_num
   rfl
  ·rfl
  walk_nrm
  refine QuitsD.value ?_ rfl rfl (by k_ne) (fun _=>?_) (fun _=>?_) ?_
  rotate_left
  ·go_simp
   try w_num
   rfl
  ·rfl
  walk_nrm
  refine QuitsD.value ?_ rfl rfl (by k_ne) (fun _=>?_) (fun _=>?_) ?_
  rotate_left
  ·go_simp
   try w_num
   rfl
  ·rfl
  walk_nrm
  q_skip
  q_skip
  refine QuitsD.value ?_ rfl rfl (by k_ne) (fun _=>?_) (fun _=>?_) ?_
  rotate_left
  ·go_simp
   try w_num
   rfl
  ·rfl
  walk_nrm
  q_c stepG_region_end
  q_cond false
  q_c stepG_skip
  q_c stepG_seq
  q_reg
  refine QuitsD.value ?_ rfl rfl (by k_ne) (fun _=>?_) (fun _=>?_) ?_
  rotate_left
  ·go_simp
   try w_num
   rfl
  ·rfl
  walk_nrm
  refine QuitsD.value ?_ rfl rfl (by k_ne) (fun _=>?_) (fun _=>?_) ?_
  rotate_left
  ·go_simp
   try w_num
   rfl
  ·rfl
  walk_nrm
  refine QuitsD.value ?_ rfl rfl (by k_ne) (fun _=>?_) (fun _=>?_) ?_
  rotate_left
  ·go_simp
   try w_num
   rfl
  ·simp [go_sem, *]
  walk_nrm
  refine QuitsD.value ?_ rfl rfl (by k_ne) (fun _=>?_) (fun _=>?_) ?_
  rotate_left
  ·go_simp
   try w_num
   rfl
  ·rfl
  walk_nrm
  q_c stepG_region_end
  q_c stepG_seq
  q_reg
  refine QuitsD.value ?_ rfl rfl (by k_ne) (fun _=>?_) (fun _=>?_) ?_
  rotate_left
  ·go_simp
   try w_num
   rfl
  ·rfl
  walk_nrm
  refine QuitsD.value ?_ rfl rfl (by k_ne) (fun _=>?_) (fun _=>?_) ?_
  rotate_left
  ·go_simp
   try w_num
   rfl
  ·rfl
  walk_nrm
  refine QuitsD.value ?_ rfl rfl (by k_ne) (fun _=>?_) (fun _=>?_) ?_
  rotate_left
  ·go_simp
   try w_num
   rfl
  ·simp [go_sem, *]
  walk_nrm
  refine QuitsD.value ?_ rfl rfl (by k_ne) (fun _=>?_) (fun _=>?_) ?_
  rotate_left
  ·go_simp
   try w_num
   rfl
  ·rfl
  walk_nrm
  q_c stepG_region_end
  q_c stepG_seq
  q_c stepG_seq
  q_reg
  refine QuitsD.value ?_ rfl rfl (by k_ne) (fun _=>?_) (fun _=>?_) ?_
  rotate_left
  ·go_simp
   try w_num
   rfl
  ·rfl
  walk_nrm
  refine QuitsD.value ?_ rfl rfl (by k_ne) (fun _=>?_) (fun _=>?_) ?_
  rotate_left
  ·go_simp
   try w_num
   rfl
  ·rfl
  walk_nrm
  refine QuitsD.value ?_ rfl rfl (by k_ne) (fun _=>?_) (fun _=>?_) ?_
  rotate_left
  ·go_simp
   try w_num
   rfl
  ·rfl
  walk_nrm
  refine QuitsD.value ?_ rfl rfl (by k_ne) (fun _=>?_) (fun _=>?_) ?_
  rotate_left
  ·go_simp
   try w_num
   rfl
  ·rfl
  walk_nrm
  refine QuitsD.value ?_ rfl rfl (by k_ne) (fun _=>?_) (fun _=>?_) ?_
  rotate_left
  ·go_simp
   try w_num
   rfl
  ·rfl
  walk_nrm
  q_skip
  q_skip
  q_skip
  q_skip
  refine QuitsD.value ?_ rfl rfl (by k_ne) (fun _=>?_) (fun _=>?_) ?_
  rotate_left
  ·go_simp
   try w_num
   rfl
  ·rfl
  walk_nrm
  q_c stepG_region_end
  q_cond false
  q_c stepG_skip
  q_c stepG_seq
  q_c stepG_seq
  q_reg
  refine QuitsD.value ?_ rfl rfl (by k_ne) (fun _=>?_) (fun _=>?_) ?_
  rotate_left
  ·go_simp
   try w_num
   rfl
  ·rfl
  walk_nrm
  refine QuitsD.value ?_ rfl rfl (by k_ne) (fun _=>?_) (fun _=>?_) ?_
  rotate_left
  ·go_simp
   try w_num
   rfl
  ·rfl
  walk_nrm
  q_c stepG_region_end
  q_cond false
  q_c stepG_skip
  q_c stepG_seq
  q_c stepG_seq
  q_reg
  refine QuitsD.value ?_ rfl rfl (by k_ne) (fun _=>?_) (fun _=>?_) ?_
  rotate_left
  ·go_simp
   try w_num
   rfl
  ·rfl
  walk_nrm
  refine QuitsD.value ?_ rfl rfl (by k_ne) (fun _=>?_) (fun _=>?_) ?_
  rotate_left
  ·go_simp
   try w_num
   rfl
  ·rfl
  walk_nrm
  refine QuitsD.value ?_ rfl rfl (by k_ne) (fun _=>?_) (fun _=>?_) ?_
  rotate_left
  ·go_simp
   try w_num
   rfl
  ·rfl
  walk_nrm
  refine QuitsD.value ?_ rfl rfl (by k_ne) (fun _=>?_) (fun _=>?_) ?_
  rotate_left
  ·go_simp
   try w_num
   rfl
  ·rfl
  walk_nrm
  refine QuitsD.value ?_ rfl rfl (by k_ne) (fun _=>?_) (fun _=>?_) ?_
  rotate_left
  ·go_simp
   try w_num
   rfl
  ·rfl
  walk_nrm
  refine QuitsD.value ?_ rfl rfl (by k_ne) (fun _=>?_) (fun _=>?_) ?_
  rotate_left
  ·go_simp
   try w_num
   rfl
  ·rfl
  walk_nrm
  refine QuitsD.value ?_ rfl rfl (by k_ne) (fun _=>?_) (fun _=>?_) ?_
  rotate_left
  ·go_simp
   try w_num
   rfl
  ·rfl
  walk_nrm
  q_skip
  q_skip
  q_skip
  q_skip
  refine QuitsD.value ?_ rfl rfl (by k_ne) (fun _=>?_) (fun _=>?_) ?_
  rotate_left
  ·go_simp
   try w_num
   rfl
  ·rfl
  walk_nrm
  q_c stepG_region_end
  q_cond false
  q_c stepG_skip
  q_c stepG_seq
  q_c stepG_seq
  q_reg
  refine QuitsD.value ?_ rfl rfl (by k_ne) (fun _=>?_) (fun _=>?_) ?_
  rotate_left
  ·go_simp
   try w_num
   rfl
  ·rfl
  walk_nrm
  refine QuitsD.value ?_ rfl rfl (by k_ne) (fun _=>?_) (fun _=>?_) ?_
  rotate_left
  ·go_simp
   try w_num
   rfl
  ·rfl
  walk_nrm
  refine QuitsD.value ?_ rfl rfl (by k_ne) (fun _=>?_) (fun _=>?_) ?_
  rotate_left
  ·go_simp
   try w_num
   rfl
  ·rfl
  walk_nrm
  q_skip
  q_skip
  refine QuitsD.value ?_ rfl rfl (by k_ne) (fun _=>?_) (fun _=>?_) ?_
  rotate_left
  ·go_simp
   try w_num
   rfl
  ·rfl
  walk_nrm
  q_c stepG_region_end
  q_cond true
  q_c stepG_ret'
  q_enable
  q_leave0 H.f_add
  exact Qiw 856 hT
set_option maxRecDepth 100000 in
set_option maxHeartbeats 8000000 in
theorem QOw {P:Program} {L:WgLink} (H:WgLib P L) {Wg:Nat} {c:Frame} {cs:List Frame} {qt:Nat} (hcm:c.mode=.returning) (hT:QuitsD P qt 0 (G c cs)) :
  LW P L.tWg Wg (qt+1013) .A (G ((baseD L.done).at ⟨#[.pointer (some ⟨Wg,0,none⟩),undef,undef,undef],[]⟩ [.code (ConcR.Gen.body_done L)]) (c::cs)):=by
 lib_facts
 obtain ⟨w,hK⟩:=YN L.tWg Wg;have hA:=@QOv P L H Wg;simp only [ConcR.Gen.body_done,ConcR.Gen.body_add,doneFn,addFn,Ed] at hA ⊢;refine LW.goes (m:=qt+1003) (n:=10) hK ?_
 u_reg rl hK
 u_op rl hK
 u_in rl hK
 refine goes_call rfl rfl (by k_ne) rfl H.f_add (nm_add L) rfl ⟨by u_nil,?_⟩
 walk_nrmf addFn
 refine Goes.stop (fun w₁ h₁=>?_);refine hA (qt:=qt+3) ?_
 q_c stepG_region_end
 q_c stepG_end
 exact QuitsD.leaveD rfl rfl H.f_done rfl hcm hT
end Go.Gw

end
section
set_option linter.unusedVariables false
set_option linter.unusedSimpArgs false
namespace Go.Gw
open Go Go.Conc Go.RowKit Go.Conc.Lib Go.ConcR.Gen Go.ConcN
open Go.ConcR (KK wgBlock WgAt stA smA rd wr DC0)
theorem MA.kd {P:Program} {ty:TypeId} {Wg m:Nat} {g g' gE:Goroutine} (hs:g.status=.running) (h:∀ W,Live ty Wg W->stepG P true g W=.go g' W #[Go.ConcR.mk .disable]) (k:MA P ty Wg gE m .P1 g'):MA P ty Wg gE (m+1) .K g:=.inr ⟨hs,.inr ⟨g',h,k⟩⟩
theorem MA.p1 {P:Program} {ty:TypeId} {Wg m:Nat} {g gE:Goroutine} (hs:g.status=.running) (h:∀ v:Nat,v < 2147483647->∃ g',(∀ W,WgAt ty Wg W ((v:Int) * KK) 0->stepG P true g W=.go g' (W.setCell (stA Wg) (.int .u64 (((v+1:Nat):Int) * KK))) #[rd (stA Wg),wr (stA Wg)])/\MA P ty Wg gE m .P2 g'):MA P ty Wg gE (m+1) .P1 g:=.inr ⟨hs,.inr h⟩
theorem MA.rd {P:Program} {ty:TypeId} {Wg m:Nat} {g g' gE:Goroutine} (hs:g.status=.running) (h:∀ W,Live ty Wg W->stepG P true g W=.go g' W #[Go.ConcR.mk (.read (smA Wg))]) (k:MA P ty Wg gE m .P2 g'):MA P ty Wg gE (m+1) .P2 g:=.inr ⟨hs,.inr (.inl ⟨g',h,k⟩)⟩
theorem MA.en {P:Program} {ty:TypeId} {Wg m:Nat} {g g' gE:Goroutine} (hs:g.status=.running) (h:∀ W,Live ty Wg W->stepG P true g W=.go g' W #[Go.ConcR.mk .enable]) (k:MA P ty Wg gE m .E g'):MA P ty Wg gE (m+1) .P2 g:=.inr ⟨hs,.inr (.inr ⟨g',h,k⟩)⟩
theorem MA.e {P:Program} {ty:TypeId} {Wg m:Nat} {g gE:Goroutine} (h:g=gE):MA P ty Wg gE m .E g:=by cases m with | zero=>trivial | succ m=>exact .inl ⟨rfl,h⟩
section
variable {P:Program} {ty:TypeId} {Wg m:Nat} {An:Goroutine->Prop} {g g' gE:Goroutine}
theorem MW.kd (hs:g.status=.running) (h:∀ W,Live ty Wg W->stepG P true g W=.go g' W #[Go.ConcR.mk .disable]) (k:MW P ty Wg An gE m .R g'):MW P ty Wg An gE (m+1) .K g:=.inr ⟨hs,.inr ⟨g',h,k⟩⟩
theorem MW.r (h:An g):MW P ty Wg An gE m .R g:=by cases m with | zero=>exact .inr ⟨rfl,h⟩ | succ m=>exact .inl (.inr ⟨rfl,h⟩)
theorem MW.z (h:g=gE):MW P ty Wg An gE m .Z g:=by cases m with | zero=>exact .inl ⟨rfl,h⟩ | succ m=>exact .inl (.inl ⟨rfl,h⟩)
theorem MW.ld (hs:g.status=.running) (h:∀ v:Nat,v < 2147483648->∃ g',(∀ W,WgAt ty Wg W ((v:Int) * KK) 0->stepG P true g W=.go g' W #[Go.ConcR.rd (stA Wg)])/\(v=0->MW P ty Wg An gE m .E g')/\(v≠0->MW P ty Wg An gE m (.Cs v) g')):MW P ty Wg An gE (m+1) .L g:=.inr ⟨hs,.inr h⟩
theorem MW.cs {v:Nat} (hs:g.status=.running) (h:(∃ g',(∀ W,WgAt ty Wg W ((v:Int) * KK) 0->stepG P true g W=.go g' (W.setCell (stA Wg) (.int .u64 ((v:Int) * KK+1))) #[Go.ConcR.rd (stA Wg),Go.ConcR.wr (stA Wg)])/\MW P ty Wg An gE m .X g') /\
  ∀ u:Nat,u≠v->u < 2147483648->∃ g',(∀ W,WgAt ty Wg W ((u:Int) * KK) 0->stepG P true g W=.go g' W #[Go.ConcR.rd (stA Wg)])/\MW P ty Wg An gE m .R g'):MW P ty Wg An gE (m+1) (.Cs v) g:=.inr ⟨hs,.inr h⟩
theorem MW.x (hs:g.status=.running) (h:∀ W,Live ty Wg W->stepG P true g W=.go g' W #[Go.ConcR.mk (.write (smA Wg))]) (k:MW P ty Wg An gE m .S g'):MW P ty Wg An gE (m+1) .X g:=.inr ⟨hs,.inr ⟨g',h,k⟩⟩
theorem MW.s (hs:g.status=.running) (ho:g.offers=none) (hb:∀ W st,WgAt ty Wg W st 0->stepG P true g W=.go { g with status:=.blocked } W #[]) (h:∀ W,WgAt ty Wg W 0 1->stepG P true g W=.go g' (W.setCell (smA Wg) (.int .u32 0)) (semEvents (smA Wg))) (k:MW P ty Wg An gE m .F g'):MW P ty Wg An gE (m+1) .S g:=.inr ⟨hs,.inr ⟨ho,hb,g',h,k⟩⟩
theorem MW.f (hs:g.status=.running) (h:∀ W,WgAt ty Wg W 0 0->stepG P true g W=.go g' W #[Go.ConcR.rd (stA Wg)]) (k:MW P ty Wg An gE m .E g'):MW P ty Wg An gE (m+1) .F g:=.inr ⟨hs,.inr ⟨g',h,k⟩⟩
theorem MW.en (hs:g.status=.running) (h:∀ W,Live ty Wg W->stepG P true g W=.go g' W #[Go.ConcR.mk .enable]) (k:MW P ty Wg An gE m .Q g'):MW P ty Wg An gE (m+1) .E g:=.inr ⟨hs,.inr ⟨g',h,k⟩⟩
theorem MW.ac (hs:g.status=.running) (h:∀ W,Live ty Wg W->stepG P true g W=.go g' W #[Go.ConcR.mk (.acquire (stA Wg))]) (k:MW P ty Wg An gE m .Z g'):MW P ty Wg An gE (m+1) .Q g:=.inr ⟨hs,.inr ⟨g',h,k⟩⟩
end
set_option maxRecDepth 100000 in
set_option maxHeartbeats 8000000 in
theorem QOy {P:Program} {L:WgLink} (H:WgLib P L) {Wg:Nat} {b₀:Frame} {a₀:Act} {ops₀:Array Oper} {i₀:Nat} {rest₀:List Nat} {k₀:List Item} {cs:List Frame} :
  MA P L.tWg Wg (G (b₀.at (a₀.put ((ops₀[i₀]?).bind (·.dst)) (.tuple #[])) (.inRegion ops₀ rest₀::k₀)) cs) 1000 .K (G ((base L.add).at ⟨#[.pointer (some ⟨Wg,0,none⟩),.int .i64 1,undef,undef,undef,undef,undef,undef,undef,undef,undef,undef,undef,undef,undef,undef,undef,undef,undef,undef,undef,undef,undef,undef,undef,undef,undef,undef,undef,undef,undef,undef,undef,undef,undef,undef,undef,undef,undef,undef,undef,undef,undef,undef,undef,undef,undef,undef,undef,undef,undef,undef,undef,undef,undef,undef,undef,undef,undef,undef,undef,undef,undef,undef,undef,undef,undef,undef,undef,undef,undef,undef,undef,undef,undef,undef,undef,undef,undef,undef,undef,undef,undef,undef,undef,undef,undef,undef,undef,undef,undef,undef,undef,undef,undef,undef,undef,undef,undef,undef,undef,undef,undef,undef,undef,undef,undef,undef,undef,undef,undef,undef,undef,undef,undef,undef,undef],[]⟩ [.code (ConcR.Gen.body_add L)]) (b₀.at a₀ (.inRegion ops₀ (i₀::rest₀)::k₀)::cs)):=by
 lib_facts
 simp only [ConcR.Gen.body_add,addFn,Ed];obtain ⟨w,hK⟩:=YN L.tWg Wg;refine MA.goes (m:=987) (n:=13) hK ?_
 u_c stepG_seq rl hK
 u_cond true rl hK
 u_c stepG_seq rl hK
 u_c stepG_seq rl hK
 u_reg rl hK
 u_op rl hK
 u_op rl hK
 u_c stepG_region_end rl hK
 u_cond false rl hK
 u_c stepG_skip rl hK
 u_c stepG_seq rl hK
 u_reg rl hK
 refine Goes.stop (fun w₁ h₁=>?_);clear h₁ hK w w₁;refine MA.kd rfl (fun W hW=>stepG_mark0 .disable (by simp) rfl rfl (by k_ne) rfl H.f_disable (x_disable_n L) (x_disable_b L) (x_disable_x L) (x_disable_f L)) ?_
 walk_nrm
 obtain ⟨w,hK⟩:=YN L.tWg Wg;refine MA.goes (m:=951) (n:=35) hK ?_
 u_c stepG_region_end rl hK
 u_reg rl hK
 u_defer rl hK
 u_c stepG_region_end rl hK
 u_c stepG_seq rl hK
 u_reg rl hK
 u_op rl hK
 u_c stepG_region_end rl hK
 u_c stepG_seq rl hK
 u_c stepG_seq rl hK
 u_reg rl hK
 u_bub rl hK
 u_c stepG_region_end rl hK
 u_cond false rl hK
 u_c stepG_skip rl hK
 u_c stepG_seq rl hK
 u_reg rl hK
 u_op rl hK
 u_op rl hK
 u_op rl hK
 u_op rl hK
 u_op rl hK
 u_op rl hK
 u_call H.f_uAdd (nm_uAdd L) uAddFn rl hK
 u_c stepG_seq rl hK
 u_reg rl hK
 u_op rl hK
 u_c stepG_region_end rl hK
 u_c stepG_seq rl hK
 u_reg rl hK
 u_op rl hK
 u_op rl hK
 u_op rl hK
 u_op rl hK
 refine Goes.stop (fun w₁ h₁=>?_);clear h₁ hK w w₁;refine MA.p1 rfl fun v hv=>?_;rcases Eh v with rfl | hvp
 ·skip
  have e0:IntKind.u64.wrap (0+4294967296)=KK:=by decide
  have k0:∀ {W:World},WgAt L.tWg Wg W (((0:Nat):Int) * KK) 0->WgAt L.tWg Wg W 0 0:=fun hw=>by grind
  have z:(((0+1:Nat):Int)) * KK=KK:=by simp
  rw [z];refine ⟨_,fun W hw=>(stepG_add_atomic (v:=0) rfl rfl (by k_ne) rfl H.f_addU64 (x_addU64_n L) (x_addU64_b L) (x_addU64_x L) .u64 (x_addU64_f L) rfl rfl (WgAt.cellSt (k0 hw)) (WgAt.thaw (k0 hw) 0)).trans (by rw [e0];rfl),?_⟩;simp only [KK]
  walk_nrm
  obtain ⟨w,hK⟩:=YN L.tWg Wg;refine MA.goes (m:=896) (n:=54) hK ?_
  u_op rl hK
  u_c stepG_region_end rl hK
  u_c stepG_ret' rl hK
  u_leave1 H.f_uAdd rl hK
  u_op rl hK
  u_c stepG_region_end rl hK
  u_c stepG_seq rl hK
  u_c stepG_seq rl hK
  u_reg rl hK
  u_op rl hK
  u_op rl hK
  u_op rl hK
  u_op rl hK
  u_skip rl hK
  u_skip rl hK
  u_op rl hK
  u_c stepG_region_end rl hK
  u_cond false rl hK
  u_c stepG_skip rl hK
  u_c stepG_seq rl hK
  u_reg rl hK
  u_op rl hK
  u_op rl hK
  u_op rl hK
  u_op rl hK
  u_c stepG_region_end rl hK
  u_c stepG_seq rl hK
  u_reg rl hK
  u_op rl hK
  u_op rl hK
  u_op rl hK
  u_op rl hK
  u_c stepG_region_end rl hK
  u_c stepG_seq rl hK
  u_c stepG_seq rl hK
  u_reg rl hK
  u_op rl hK
  u_op rl hK
  u_op rl hK
  u_op rl hK
  u_op rl hK
  u_op rl hK
  u_op rl hK
  u_op rl hK
  u_op rl hK
  u_op rl hK
  u_c stepG_region_end rl hK
  u_cond true rl hK
  u_reg rl hK
  u_op rl hK
  u_op rl hK
  u_op rl hK
  u_conv H.underlying_tPU32 H.room_tU32 (Live.cell1 hK).choose_spec rl hK
  refine Goes.stop (fun w₁ h₁=>?_);clear h₁ hK w w₁;refine MA.rd rfl (fun W hW=>stepG_markAt .read (by simp) rfl rfl (by k_ne) rfl H.f_raceRead (x_raceRead_n L) (x_raceRead_b L) (x_raceRead_x L) (x_raceRead_f L) (ad:=⟨Wg,1,none⟩) (by simp [Act.eval])) ?_
  walk_nrm
  obtain ⟨w,hK⟩:=YN L.tWg Wg;refine MA.goes (m:=855) (n:=40) hK ?_
  u_c stepG_region_end rl hK
  u_c stepG_seq rl hK
  u_c stepG_seq rl hK
  u_reg rl hK
  u_op rl hK
  u_op rl hK
  u_c stepG_region_end rl hK
  u_cond false rl hK
  u_c stepG_skip rl hK
  u_c stepG_seq rl hK
  u_c stepG_seq rl hK
  u_reg rl hK
  u_op rl hK
  u_op rl hK
  u_op rl hK
  u_skip rl hK
  u_skip rl hK
  u_op rl hK
  u_op rl hK
  u_skip rl hK
  u_skip rl hK
  u_skip rl hK
  u_skip rl hK
  u_op rl hK
  u_c stepG_region_end rl hK
  u_cond false rl hK
  u_c stepG_skip rl hK
  u_c stepG_seq rl hK
  u_c stepG_seq rl hK
  u_reg rl hK
  u_op rl hK
  u_op rl hK
  u_op rl hK
  u_skip rl hK
  u_skip rl hK
  u_op rl hK
  u_c stepG_region_end rl hK
  u_cond true rl hK
  u_c stepG_ret' rl hK
  refine Goes.stop (fun w₁ h₁=>?_);clear h₁ hK w w₁;refine MA.en rfl (fun W hW=>stepG_unwind_entry (v:=.tuple #[]) (evs:=#[Go.ConcR.mk .enable]) rfl H.f_enable (x_enable_n L) (x_enable_b L) (x_enable_x L) (x_enable_f L) (by rfl) (by rfl) (by simp [Go.ConcR.mk])) ?_;obtain ⟨w,hK⟩:=YN L.tWg Wg;refine MA.goes (m:=852) (n:=2) hK ?_
  u_leave0 H.f_add rl hK
  grind [MA.e,Goes.stop]
 ·skip
  obtain ⟨V,hV⟩:∃ V:Int,V=(v:Int)+1:=⟨_,rfl⟩;obtain ⟨S,hS⟩:∃ S:Int,S=V * KK:=⟨_,rfl⟩;have k0:∀ {W:World},WgAt L.tWg Wg W ((v:Int) * KK) 0->WgAt L.tWg Wg W ((v:Int) * KK) 0:=fun hw=>hw
  have e0:IntKind.u64.wrap ((v:Int) * KK+4294967296)=S:=by rw [IntKind.wrap_u64,hS,hV];simp only [KK];omega
  have z:(((v+1:Nat):Int)) * KK=S:=by simp_all
  rw [z];clear z;have a1:S / 4294967296=V:=by grind [KK]
  have b1:bits .and .u64 S 2147483648=0:=by rw [hS,hV];have:=st_flag (v+1) 0 (by omega) (by omega);grind [KK]
  have b2:bits .and .u64 S 2147483647=0:=by rw [hS,hV];have:=st_waiters (v+1) 0 (by omega) (by omega);grind [KK]
  have a2:0<=S/\S < 9223372036854775808:=by omega
  clear hS;have c1:IntKind.i32.wrap V=V:=by rw [IntKind.wrap_i32];omega
  have q1:(V == 1)=false:=by simp;omega
  have q2:decide (V=1)=false:=by simp;omega
  have q3:decide (V < 0)=false:=decide_eq_false (by omega);have q4:decide (0 < V)=true:=decide_eq_true (by omega);have q5:(V == 0)=false:=by simp;omega
  have q6:decide (V=0)=false:=decide_eq_false (by omega);have q7:(V == -1)=false:=by simp;omega
  have q8:decide (V=-1)=false:=decide_eq_false (by omega);refine ⟨_,fun W hw=>(stepG_add_atomic (v:=(v:Int) * KK) rfl rfl (by k_ne) rfl H.f_addU64 (x_addU64_n L) (x_addU64_b L) (x_addU64_x L) .u64 (x_addU64_f L) rfl rfl (WgAt.cellSt (k0 hw)) (WgAt.thaw (k0 hw) 0)).trans (by rw [e0];rfl),?_⟩;clear hV e0 k0
  walk_nrm
  obtain ⟨w,hK⟩:=YN L.tWg Wg;refine MA.goes (m:=862) (n:=88) hK ?_
  u_op rl hK
  u_c stepG_region_end rl hK
  u_c stepG_ret' rl hK
  u_leave1 H.f_uAdd rl hK
  u_op rl hK
  u_c stepG_region_end rl hK
  u_c stepG_seq rl hK
  u_c stepG_seq rl hK
  u_reg rl hK
  u_op rl hK
  u_op rl hK
  u_op rl hK
  u_op rl hK
  u_skip rl hK
  u_skip rl hK
  u_op rl hK
  u_c stepG_region_end rl hK
  u_cond false rl hK
  u_c stepG_skip rl hK
  u_c stepG_seq rl hK
  u_reg rl hK
  u_op rl hK
  u_op rl hK
  u_op rl hK
  u_op rl hK
  u_c stepG_region_end rl hK
  u_c stepG_seq rl hK
  u_reg rl hK
  u_op rl hK
  u_op rl hK
  u_op rl hK
  u_op rl hK
  u_c stepG_region_end rl hK
  u_c stepG_seq rl hK
  u_c stepG_seq rl hK
  u_reg rl hK
  u_op rl hK
  u_op rl hK
  u_op rl hK
  u_op rl hK
  u_op rl hK
  u_op rl hK
  u_op rl hK
  u_op rl hK
  u_op rl hK
  u_op rl hK
  u_c stepG_region_end rl hK
  u_cond false rl hK
  u_c stepG_skip rl hK
  u_c stepG_seq rl hK
  u_c stepG_seq rl hK
  u_reg rl hK
  u_op rl hK
  u_op rl hK
  u_c stepG_region_end rl hK
  u_cond false rl hK
  u_c stepG_skip rl hK
  u_c stepG_seq rl hK
  u_c stepG_seq rl hK
  u_reg rl hK
  u_op rl hK
  u_op rl hK
  u_op rl hK
  u_skip rl hK
  u_skip rl hK
  u_op rl hK
  u_op rl hK
  u_skip rl hK
  u_skip rl hK
  u_skip rl hK
  u_skip rl hK
  u_op rl hK
  u_c stepG_region_end rl hK
  u_cond false rl hK
  u_c stepG_skip rl hK
  u_c stepG_seq rl hK
  u_c stepG_seq rl hK
  u_reg rl hK
  u_op rl hK
  u_op rl hK
  u_op rl hK
  u_skip rl hK
  u_skip rl hK
  u_op rl hK
  u_c stepG_region_end rl hK
  u_cond true rl hK
  u_c stepG_ret' rl hK
  refine Goes.stop (fun w₁ h₁=>?_);clear h₁ hK w w₁;refine MA.en rfl (fun W hW=>stepG_unwind_entry (v:=.tuple #[]) (evs:=#[Go.ConcR.mk .enable]) rfl H.f_enable (x_enable_n L) (x_enable_b L) (x_enable_x L) (x_enable_f L) (by rfl) (by rfl) (by simp [Go.ConcR.mk])) ?_;obtain ⟨w,hK⟩:=YN L.tWg Wg;refine MA.goes (m:=859) (n:=2) hK ?_
  u_leave0 H.f_add rl hK
  grind [MA.e,Goes.stop]
def AnW (L:WgLink) (Wg:Nat) (cs:List Frame) (g:Goroutine):Prop:=∃ T:Array Value,g=G ((base L.wait).at ⟨T,[]⟩ [.code (ConcR.Gen.L7 L),.inLoop (ConcR.Gen.L7 L),.inBlock 0]) cs/\T.size=84/\T[0]?=some (.pointer (some ⟨Wg,0,none⟩))
set_option maxRecDepth 100000 in
set_option maxHeartbeats 8000000 in
theorem QPl {P:Program} {L:WgLink} (H:WgLib P L) {Wg:Nat} {b₀:Frame} {a₀:Act} {ops₀:Array Oper} {i₀:Nat} {rest₀:List Nat} {k₀:List Item} {cs:List Frame} {gE:Goroutine}:MW P L.tWg Wg (AnW L Wg (b₀.at a₀ (.inRegion ops₀ (i₀::rest₀)::k₀)::cs)) gE 1000 .K (G ((base L.wait).at ⟨#[.pointer (some ⟨Wg,0,none⟩),undef,undef,undef,undef,undef,undef,undef,undef,undef,undef,undef,undef,undef,undef,undef,undef,undef,undef,undef,undef,undef,undef,undef,undef,undef,undef,undef,undef,undef,undef,undef,undef,undef,undef,undef,undef,undef,undef,undef,undef,undef,undef,undef,undef,undef,undef,undef,undef,undef,undef,undef,undef,undef,undef,undef,undef,undef,undef,undef,undef,undef,undef,undef,undef,undef,undef,undef,undef,undef,undef,undef,undef,undef,undef,undef,undef,undef,undef,undef,undef,undef,undef,undef],[]⟩ [.code (ConcR.Gen.body_wait L)]) (b₀.at a₀ (.inRegion ops₀ (i₀::rest₀)::k₀)::cs)):=by
 lib_facts
 simp only [ConcR.Gen.body_wait,waitFn,Ed];obtain ⟨w,hK⟩:=YN L.tWg Wg;refine MW.goes (m:=996) (n:=4) hK ?_
 u_c stepG_seq rl hK
 u_cond true rl hK
 u_reg rl hK
 refine Goes.stop (fun w₁ h₁=>?_);clear h₁ hK w w₁;refine MW.kd rfl (fun W hW=>stepG_mark0 .disable (by simp) rfl rfl (by k_ne) rfl H.f_disable (x_disable_n L) (x_disable_b L) (x_disable_x L) (x_disable_f L)) ?_
 walk_nrm
 obtain ⟨w,hK⟩:=YN L.tWg Wg;refine MW.goes (m:=991) (n:=4) hK ?_
 u_c stepG_region_end rl hK
 u_c stepG_block rl hK
 u_c stepG_loop rl hK
 refine Goes.stop (fun w₁ h₁=>?_);clear h₁ hK w w₁;exact MW.r ⟨_,rfl,by simp,by simp⟩
set_option maxRecDepth 100000 in
set_option maxHeartbeats 8000000 in
theorem QPk {P:Program} {L:WgLink} (H:WgLib P L) {Wg:Nat} {b₀:Frame} {a₀:Act} {ops₀:Array Oper} {i₀:Nat} {rest₀:List Nat} {k₀:List Item} {cs:List Frame} (g:Goroutine) (hA:AnW L Wg (b₀.at a₀ (.inRegion ops₀ (i₀::rest₀)::k₀)::cs) g):MW P L.tWg Wg (AnW L Wg (b₀.at a₀ (.inRegion ops₀ (i₀::rest₀)::k₀)::cs)) (G (b₀.at (a₀.put ((ops₀[i₀]?).bind (·.dst)) (.tuple #[])) (.inRegion ops₀ rest₀::k₀)) cs) 1000 .L g:=by
 lib_facts
 obtain ⟨T,rfl,hT84,t0⟩:=hA;obtain ⟨v0,v1,v2,v3,v4,v5,v6,v7,v8,v9,v10,v11,v12,v13,v14,v15,v16,v17,v18,v19,v20,v21,v22,v23,v24,v25,v26,v27,v28,v29,v30,v31,v32,v33,v34,v35,v36,v37,v38,v39,v40,v41,v42,v43,v44,v45,v46,v47,v48,v49,v50,v51,v52,v53,v54,v55,v56,v57,v58,v59,v60,v61,v62,v63,v64,v65,v66,v67,v68,v69,v70,v71,v72,v73,v74,v75,v76,v77,v78,v79,v80,v81,v82,v83,rfl⟩:=ConcR.Gen.array84 T hT84;simp only [List.getElem?_toArray,List.getElem?_cons_zero,Option.some.injEq] at t0;subst t0;simp only [ConcR.Gen.L7,ConcR.Gen.body_wait,waitFn,Ed];obtain ⟨w,hK⟩:=YN L.tWg Wg;refine MW.goes (m:=983) (n:=17) hK ?_
 u_c stepG_block rl hK
 u_c stepG_seq rl hK
 u_reg rl hK
 u_op rl hK
 u_op rl hK
 u_op rl hK
 u_call H.f_uLoad (nm_uLoad L) uLoadFn rl hK
 u_c stepG_seq rl hK
 u_reg rl hK
 u_op rl hK
 u_c stepG_region_end rl hK
 u_c stepG_seq rl hK
 u_reg rl hK
 u_op rl hK
 u_op rl hK
 u_op rl hK
 refine Goes.stop (fun w₁ h₁=>?_);clear h₁ hK w w₁;refine MW.ld rfl fun v hv=>?_;rcases Eh v with rfl | hvp
 ·skip
  have k0:∀ {W:World},WgAt L.tWg Wg W (((0:Nat):Int) * KK) 0->WgAt L.tWg Wg W 0 0:=fun hw=>by grind
  refine ⟨_,fun W hw=>stepG_load_atomic (v:=0) rfl rfl (by k_ne) rfl H.f_loadU64 (x_loadU64_n L) (x_loadU64_b L) (x_loadU64_x L) .u64 (x_loadU64_f L) rfl (WgAt.cellSt (k0 hw)),fun _=>?_,fun h=>absurd rfl h⟩
  walk_nrm
  obtain ⟨w,hK⟩:=YN L.tWg Wg;refine MW.goes (m:=950) (n:=32) hK ?_
  u_op rl hK
  u_c stepG_region_end rl hK
  u_c stepG_ret' rl hK
  u_leave1 H.f_uLoad rl hK
  u_op rl hK
  u_c stepG_region_end rl hK
  u_c stepG_seq rl hK
  u_reg rl hK
  u_op rl hK
  u_op rl hK
  u_op rl hK
  u_op rl hK
  u_c stepG_region_end rl hK
  u_c stepG_seq rl hK
  u_reg rl hK
  u_op rl hK
  u_op rl hK
  u_op rl hK
  u_op rl hK
  u_c stepG_region_end rl hK
  u_c stepG_seq rl hK
  u_c stepG_seq rl hK
  u_reg rl hK
  u_op rl hK
  u_op rl hK
  u_c stepG_region_end rl hK
  u_cond true rl hK
  u_c stepG_seq rl hK
  u_cond true rl hK
  u_c stepG_seq rl hK
  u_reg rl hK
  refine Goes.stop (fun w₁ h₁=>?_);clear h₁ hK w w₁;refine MW.en rfl (fun W hW=>stepG_mark0 .enable (by simp) rfl rfl (by k_ne) rfl H.f_enable (x_enable_n L) (x_enable_b L) (x_enable_x L) (x_enable_f L)) ?_
  walk_nrm
  obtain ⟨w,hK⟩:=YN L.tWg Wg;refine MW.goes (m:=944) (n:=5) hK ?_
  u_c stepG_region_end rl hK
  u_reg rl hK
  u_op rl hK
  u_conv H.underlying_tWgP H.room_tWg (Live.cell0 hK).choose_spec rl hK
  refine Goes.stop (fun w₁ h₁=>?_);clear h₁ hK w w₁;refine MW.ac rfl (fun W hW=>stepG_markAt .acquire (by simp) rfl rfl (by k_ne) rfl H.f_acquire (x_acquire_n L) (x_acquire_b L) (x_acquire_x L) (x_acquire_f L) (by simp [Act.eval,stA])) ?_
  walk_nrm
  obtain ⟨w,hK⟩:=YN L.tWg Wg;refine MW.goes (m:=922) (n:=21) hK ?_
  u_c stepG_region_end rl hK
  u_c stepG_seq rl hK
  u_c stepG_seq rl hK
  u_reg rl hK
  u_op rl hK
  u_op rl hK
  u_op rl hK
  u_op rl hK
  u_op rl hK
  u_op rl hK
  u_op rl hK
  u_op rl hK
  u_skip rl hK
  u_skip rl hK
  u_op rl hK
  u_c stepG_region_end rl hK
  u_cond false rl hK
  u_c stepG_skip rl hK
  u_c stepG_ret' rl hK
  u_leave0 H.f_wait rl hK
  grind [MW.z,Goes.stop]
 ·skip
  obtain ⟨V,hV⟩:∃ V:Int,V=(v:Int):=⟨_,rfl⟩;obtain ⟨S,hS⟩:∃ S:Int,S=V * KK:=⟨_,rfl⟩;have k0:∀ {W:World},WgAt L.tWg Wg W ((v:Int) * KK) 0->WgAt L.tWg Wg W S 0:=fun hw=>by simp_all
  have w1:IntKind.u64.wrap (S+1)=S+1:=by grind [KK,IntKind.wrap_u64]
  have zS:Pk ((v:Int) * KK=S):=⟨by rw [hS,hV]⟩;have hS0:Pk (S=V * KK):=⟨hS⟩;have hV0:Pk (V=(v:Int)):=⟨hV⟩;have a1:S / 4294967296=V:=by grind [KK]
  have b1:bits .and .u64 S 2147483648=0:=by rw [hS,hV];have:=st_flag v 0 (by omega) (by omega);grind [KK]
  have b2:bits .and .u64 S 2147483647=0:=by rw [hS,hV];have:=st_waiters v 0 (by omega) (by omega);grind [KK]
  have a2:0<=S/\S < 9223372036854775808:=by omega
  clear hS;have c1:IntKind.i32.wrap V=V:=by rw [IntKind.wrap_i32];omega
  have q3:decide (V < 0)=false:=decide_eq_false (by omega);have q4:decide (0 < V)=true:=decide_eq_true (by omega);have q5:(V == 0)=false:=by simp;omega
  have q6:decide (V=0)=false:=decide_eq_false (by omega);have q7:(V == -1)=false:=by simp;omega
  have q8:decide (V=-1)=false:=decide_eq_false (by omega);refine ⟨_,fun W hw=>stepG_load_atomic (v:=S) rfl rfl (by k_ne) rfl H.f_loadU64 (x_loadU64_n L) (x_loadU64_b L) (x_loadU64_x L) .u64 (x_loadU64_f L) rfl (WgAt.cellSt (k0 hw)),fun h0=>absurd h0 (by omega),fun _=>?_⟩;clear hV
  walk_nrm
  obtain ⟨w,hK⟩:=YN L.tWg Wg;refine MW.goes (m:=933) (n:=49) hK ?_
  u_op rl hK
  u_c stepG_region_end rl hK
  u_c stepG_ret' rl hK
  u_leave1 H.f_uLoad rl hK
  u_op rl hK
  u_c stepG_region_end rl hK
  u_c stepG_seq rl hK
  u_reg rl hK
  u_op rl hK
  u_op rl hK
  u_op rl hK
  u_op rl hK
  u_c stepG_region_end rl hK
  u_c stepG_seq rl hK
  u_reg rl hK
  u_op rl hK
  u_op rl hK
  u_op rl hK
  u_op rl hK
  u_c stepG_region_end rl hK
  u_c stepG_seq rl hK
  u_c stepG_seq rl hK
  u_reg rl hK
  u_op rl hK
  u_op rl hK
  u_c stepG_region_end rl hK
  u_cond false rl hK
  u_c stepG_skip rl hK
  u_c stepG_seq rl hK
  u_reg rl hK
  u_op rl hK
  u_op rl hK
  u_op rl hK
  u_op rl hK
  u_op rl hK
  u_op rl hK
  u_call H.f_uCas (nm_uCas L) uCasFn rl hK
  u_c stepG_seq rl hK
  u_reg rl hK
  u_op rl hK
  u_c stepG_region_end rl hK
  u_c stepG_seq rl hK
  u_reg rl hK
  u_op rl hK
  u_op rl hK
  u_op rl hK
  u_op rl hK
  u_op rl hK
  refine Goes.stop (fun w₁ h₁=>?_);clear h₁ hK w w₁;refine MW.cs rfl ⟨?_,fun u hu hu2=>?_⟩
  ·skip
   refine ⟨_,fun W hw=>(stepG_cas_hit (v:=S) (n:=S+1) rfl rfl (by k_ne) rfl H.f_casU64 (x_casU64_n L) (x_casU64_b L) (x_casU64_x L) .u64 (x_casU64_f L) rfl rfl rfl (WgAt.cellSt (k0 hw)) (WgAt.thaw (k0 hw) 0)).trans (by rw [zS.out];rfl),?_⟩;clear hV0 zS hS0 k0
   walk_nrm
   obtain ⟨w,hK⟩:=YN L.tWg Wg;refine MW.goes (m:=911) (n:=21) hK ?_
   u_op rl hK
   u_c stepG_region_end rl hK
   u_c stepG_ret' rl hK
   u_leave1 H.f_uCas rl hK
   u_c stepG_region_end rl hK
   u_cond true rl hK
   u_c stepG_seq rl hK
   u_c stepG_seq rl hK
   u_reg rl hK
   u_op rl hK
   u_op rl hK
   u_op rl hK
   u_op rl hK
   u_c stepG_region_end rl hK
   u_cond true rl hK
   u_reg rl hK
   u_op rl hK
   u_op rl hK
   u_op rl hK
   u_conv H.underlying_tPU32 H.room_tU32 (Live.cell1 hK).choose_spec rl hK
   refine Goes.stop (fun w₁ h₁=>?_);clear h₁ hK w w₁;refine MW.x rfl (fun W hW=>stepG_markAt .write (by simp) rfl rfl (by k_ne) rfl H.f_raceWrite (x_raceWrite_n L) (x_raceWrite_b L) (x_raceWrite_x L) (x_raceWrite_f L) (ad:=⟨Wg,1,none⟩) (by simp [Act.eval])) ?_
   walk_nrm
   obtain ⟨w,hK⟩:=YN L.tWg Wg;refine MW.goes (m:=886) (n:=24) hK ?_
   u_c stepG_region_end rl hK
   u_c stepG_seq rl hK
   u_reg rl hK
   u_op rl hK
   u_c stepG_region_end rl hK
   u_c stepG_seq rl hK
   u_c stepG_seq rl hK
   u_reg rl hK
   u_op rl hK
   u_op rl hK
   u_op rl hK
   u_op rl hK
   u_skip rl hK
   u_op rl hK
   u_c stepG_region_end rl hK
   u_cond false rl hK
   u_c stepG_skip rl hK
   u_c stepG_seq rl hK
   u_reg rl hK
   u_op rl hK
   u_op rl hK
   u_op rl hK
   u_op rl hK
   refine Goes.stop (fun w₁ h₁=>?_);clear h₁ hK w w₁;refine MW.s rfl rfl (fun W st hw=>stepG_semacquire_wait rfl rfl rfl H.f_semacquire (x_semacquire_n L) (x_semacquire_b L) (x_semacquire_x L) (x_semacquire_f L) (by simp [Act.eval,smA]) (WgAt.cellSm hw)) (fun W hw=>(stepG_semacquire (n:=1) rfl rfl (by k_ne) rfl H.f_semacquire (x_semacquire_n L) (x_semacquire_b L) (x_semacquire_x L) (x_semacquire_f L) (by simp [Act.eval,smA]) (WgAt.cellSm hw) (by decide) (WgAt.thaw hw 1)).trans (by rfl)) ?_
   walk_nrm
   obtain ⟨w,hK⟩:=YN L.tWg Wg;refine MW.goes (m:=868) (n:=17) hK ?_
   u_c stepG_region_end rl hK
   u_c stepG_seq rl hK
   u_reg rl hK
   u_op rl hK
   u_op rl hK
   u_op rl hK
   u_call H.f_uLoad (nm_uLoad L) uLoadFn rl hK
   u_c stepG_seq rl hK
   u_reg rl hK
   u_op rl hK
   u_c stepG_region_end rl hK
   u_c stepG_seq rl hK
   u_reg rl hK
   u_op rl hK
   u_op rl hK
   u_op rl hK
   refine Goes.stop (fun w₁ h₁=>?_);clear h₁ hK w w₁;refine MW.f rfl (fun W hw=>stepG_load_atomic (v:=0) rfl rfl (by k_ne) rfl H.f_loadU64 (x_loadU64_n L) (x_loadU64_b L) (x_loadU64_x L) .u64 (x_loadU64_f L) rfl (WgAt.cellSt hw)) ?_
   walk_nrm
   obtain ⟨w,hK⟩:=YN L.tWg Wg;refine MW.goes (m:=855) (n:=12) hK ?_
   u_op rl hK
   u_c stepG_region_end rl hK
   u_c stepG_ret' rl hK
   u_leave1 H.f_uLoad rl hK
   u_op rl hK
   u_op rl hK
   u_c stepG_region_end rl hK
   u_c stepG_seq rl hK
   u_cond true rl hK
   u_c stepG_seq rl hK
   u_reg rl hK
   refine Goes.stop (fun w₁ h₁=>?_);clear h₁ hK w w₁;refine MW.en rfl (fun W hW=>stepG_mark0 .enable (by simp) rfl rfl (by k_ne) rfl H.f_enable (x_enable_n L) (x_enable_b L) (x_enable_x L) (x_enable_f L)) ?_
   walk_nrm
   obtain ⟨w,hK⟩:=YN L.tWg Wg;refine MW.goes (m:=849) (n:=5) hK ?_
   u_c stepG_region_end rl hK
   u_reg rl hK
   u_op rl hK
   u_conv H.underlying_tWgP H.room_tWg (Live.cell0 hK).choose_spec rl hK
   refine Goes.stop (fun w₁ h₁=>?_);clear h₁ hK w w₁;refine MW.ac rfl (fun W hW=>stepG_markAt .acquire (by simp) rfl rfl (by k_ne) rfl H.f_acquire (x_acquire_n L) (x_acquire_b L) (x_acquire_x L) (x_acquire_f L) (by simp [Act.eval,stA])) ?_
   walk_nrm
   obtain ⟨w,hK⟩:=YN L.tWg Wg;refine MW.goes (m:=837) (n:=11) hK ?_
   u_c stepG_region_end rl hK
   u_c stepG_seq rl hK
   u_c stepG_seq rl hK
   u_reg rl hK
   u_op rl hK
   u_c stepG_region_end rl hK
   u_cond false rl hK
   u_c stepG_skip rl hK
   u_c stepG_ret' rl hK
   u_leave0 H.f_wait rl hK
   grind [MW.z,Goes.stop]
  ·skip
   refine ⟨_,fun W hw=>stepG_cas_miss (v:=(u:Int) * KK) (old:=S) (n:=S+1) rfl rfl (by k_ne) rfl H.f_casU64 (x_casU64_n L) (x_casU64_b L) (x_casU64_x L) .u64 (x_casU64_f L) rfl rfl rfl (WgAt.cellSt hw) (WgAt.thaw hw 0) (by rw [hS0.out,hV0.out];simp only [KK];omega),?_⟩;clear hV0 zS hS0 k0
   walk_nrm
   obtain ⟨w,hK⟩:=YN L.tWg Wg;refine MW.goes (m:=922) (n:=10) hK ?_
   u_op rl hK
   u_c stepG_region_end rl hK
   u_c stepG_ret' rl hK
   u_leave1 H.f_uCas rl hK
   u_c stepG_region_end rl hK
   u_cond false rl hK
   u_c stepG_skip rl hK
   u_c stepG_inBlock rl hK
   u_c stepG_inLoop rl hK
   refine Goes.stop (fun w₁ h₁=>?_);clear h₁ hK w w₁;exact MW.r ⟨_,rfl,by simp,by simp⟩
end Go.Gw

end
section
set_option maxRecDepth 100000
set_option maxHeartbeats 8000000
namespace Go.Gw
open Go Go.Proofs
abbrev lkLink:Go.Conc.Lib.WgLink:={ add:=113,done:=115,wait:=117,relMerge:=161,disable:=162,enable:=163,inBubble:=164,associate:=165,fatal:=166,uOr:=167,uAdd:=168,raceRead:=169,uLoad:=170,uStore:=171,disassociate:=172,semrelease:=173,acquire:=175,isAssociated:=176,uCas:=177,raceWrite:=178,semacquire:=179,orU64:=204,addU64:=205,loadU64:=206,storeU64:=207,casU64:=209,tWgP:=223,tUP:=193,tAssoc:=225,tWg:=187,tAU:=184,tU64:=182,tUint:=173,tU32:=185,tPU32:=229,tPAU:=262,tPU64:=264,tNoCopy:=179,tANoCopy:=180,tAlign64:=181 }
theorem lkLib:Go.Conc.Lib.WgLib Tryz.prog lkLink:=⟨Tryz.func113,Tryz.func115,Tryz.func117,Tryz.func161,Tryz.func162,Tryz.func163,Tryz.func164,Tryz.func165,Tryz.func166,Tryz.func167,Tryz.func168,Tryz.func169,Tryz.func170,Tryz.func171,Tryz.func172,Tryz.func173,Tryz.func175,Tryz.func176,Tryz.func177,Tryz.func178,Tryz.func179,Tryz.func204,Tryz.func205,Tryz.func206,Tryz.func207,Tryz.func209,Tryz.underlying223,Tryz.runUnderlying223,Tryz.sizeOf223,Tryz.isAgg223,Tryz.zeroValue223,Tryz.underlying193,Tryz.runUnderlying193,Tryz.sizeOf193,Tryz.isAgg193,Tryz.zeroValue193,Tryz.underlying225,Tryz.runUnderlying225,Tryz.sizeOf225,Tryz.isAgg225,Tryz.zeroValue225,Tryz.underlying187,Tryz.runUnderlying187,Tryz.sizeOf187,Tryz.isAgg187,Tryz.zeroValue187,Tryz.underlying184,Tryz.runUnderlying184,Tryz.sizeOf184,Tryz.isAgg184,Tryz.zeroValue184,Tryz.underlying182,Tryz.runUnderlying182,Tryz.sizeOf182,Tryz.isAgg182,Tryz.zeroValue182,Tryz.underlying173,Tryz.runUnderlying173,Tryz.sizeOf173,Tryz.isAgg173,Tryz.zeroValue173,Tryz.underlying185,Tryz.runUnderlying185,Tryz.sizeOf185,Tryz.isAgg185,Tryz.zeroValue185,Tryz.underlying229,Tryz.runUnderlying229,Tryz.sizeOf229,Tryz.isAgg229,Tryz.zeroValue229,Tryz.underlying262,Tryz.runUnderlying262,Tryz.sizeOf262,Tryz.isAgg262,Tryz.zeroValue262,Tryz.underlying264,Tryz.runUnderlying264,Tryz.sizeOf264,Tryz.isAgg264,Tryz.zeroValue264,Tryz.underlying0,Tryz.runUnderlying0,Tryz.sizeOf0,Tryz.isAgg0,Tryz.zeroValue0,Tryz.underlying3,Tryz.runUnderlying3,Tryz.sizeOf3,Tryz.isAgg3,Tryz.zeroValue3,Tryz.underlying4,Tryz.runUnderlying4,Tryz.sizeOf4,Tryz.isAgg4,Tryz.zeroValue4,Tryz.underlying9,Tryz.runUnderlying9,Tryz.sizeOf9,Tryz.isAgg9,Tryz.zeroValue9,Tryz.underlying20,Tryz.runUnderlying20,Tryz.sizeOf20,Tryz.isAgg20,Tryz.zeroValue20,Tryz.underlying21,Tryz.runUnderlying21,Tryz.sizeOf21,Tryz.isAgg21,Tryz.zeroValue21,(by kernel_rfl),(by kernel_rfl)⟩
end Go.Gw

end
section
set_option linter.unusedVariables false
set_option linter.unusedSectionVars false
namespace Go.Gw
open Go Go.Conc
def wD (ds:List Deferred) (a:Act):Act:=⟨a.tmps,ds⟩
section
variable {P:Program} {J:Jd P} {ds:List Deferred} {a:Act} {w:World}
theorem Qvz:(wD ds a).eval=a.eval:=by
 rfl
theorem Qpd (d:Option Nat) (v:Value):(wD ds a).put d v=wD ds (a.put d v):=by
 cases d<;>rfl
theorem QYn {o:Oper} {K K':Act->World->Prop} (hK:∀ a w,K a w->K' (wD ds a) w) {r:Result Next} (h:upJ J o a K r):upJ J o (wD ds a) K' r:=by
 cases r with
 | halt x w'=>exact h
 | ok x w' =>
  cases x<;>first
   | exact h
   | (show K' _ _;rw [Qpd];exact hK _ _ h)
   | (intro c cs Stop hs;refine h c cs Stop fun v w'' h'=>hs v w'' ?_;grind [Qpd,wD])
theorem QSr {ops:Array Oper} {i:Nat} {K K':Act->World->Prop} (hK:∀ a w,K a w->K' (wD ds a) w) (h:Zz J ops i K a w):Zz J ops i K' (wD ds a) w:=by
 unfold Zz at *
 split
 ·simp_all
 ·rename_i o ho;rw [ho] at h;simp only at h;rw [Qvz];show if Region.wanted o (yielded ops a.tmps) then _ else _
  split
  ·rename_i hw;rw [if_pos hw] at h;refine ⟨h.1,h.2.imp (fun ⟨v,h1,h2⟩=>⟨v,h1,?_⟩) fun h1 w1 r=>QYn hK (h1 w1 r)⟩
   grind [Qpd]
  simp_all [if_neg,Qpd]
end
section
variable {P:Program} [JD P] {n:Nat} {ρ:Env} {w:World} {ds:List Deferred}
theorem Qwu {ops:Array Oper} {S:World->Prop} {Kt:Array Bool->Act->World->Prop}:∀ (fuel:Nat) (listed:Array Bool) (a:Act) (w:World),Qdu P ops S Kt fuel listed a w ->
  Qdu P ops S (fun l a' w=>∃ a,a'=wD ds a/\Kt l a w) fuel listed (wD ds a) w
 | 0,listed,a,w,h=>⟨a,rfl,h⟩
 | fuel+1,listed,a,w,h=>⟨h.1,fun i hi=>QSr (fun a w h'=>⟨h'.1,Qwu fuel _ a w h'.2⟩) (h.2 i hi)⟩
theorem QZc {id:Nat} {ops:List Oper} {j:Nat} (S:World->World->Prop) (hm:P.follows .mixedOrders=true) (body:List (Nat×Bool)) (hok:Qyb ops.toArray j body [j]=true) (hS:∀ w,S w w) {Kt:Env->World->Prop}
  {b:Frame} {k:List Item} {cs:List Frame} {Stop:Goroutine->World->Prop} (hb:b.kind≠.early)
  (h:TS P n ops (S { w with drawn:=w.drawn+1 }) Kt body ρ { w with drawn:=w.drawn+1 }) (hF:∀ ρ' w',Kt ρ' w'->Wlk (JD.j (P:=P)) Stop (G (b.at (wD ds (act n ρ')) (.inRegion ops.toArray [j]::k)) cs) w') :
  Wlk (JD.j (P:=P)) Stop (G (b.at (wD ds (act n ρ)) (.code (.region id ops.toArray true)::k)) cs) w:=by
 simp only [Qyb,Bool.and_eq_true] at hok;obtain ⟨⟨⟨⟨⟨hsel,hw⟩,hle⟩,hbl⟩,ht⟩,hbody⟩:=hok;have hbl:body.length=j:=by simp_all
 have ht:j+1=ops.toArray.size:=by simp_all
 have hle:j<=ops.toArray.size:=by omega
 have h1:=TS.toBK hsel hw body (Array.replicate ops.toArray.size false) ρ _ (by simp) (Closed.none _ _) (by grind [Qvu]) hbody (hS _) h;refine .by rfl fun w1 r=>⟨_,_,QEx,?_⟩
 simp only [Region.schedule,hm,Bool.true_or,if_true];have h2:=QGl (Kt:=fun l a' w=>∃ a,a'=wD ds a/\∃ ρ,a=act n ρ/\Qgl ops.toArray [j] l=true/\Kt ρ w) (Kf:=fun a w=>∃ ρ,a=wD ds (act n ρ)/\Kt ρ w) (fun listed a w ⟨a0,ha0,ρ,ha,hok,h⟩=>⟨hok,ρ,by rw [ha0,ha],h⟩) hb (fun a' w' ⟨ρ',ha,h⟩=>by subst ha;exact hF ρ' w' h) body.length (w1.tape w1.drawn (.order b.fn id)) _ _ _ (Qwu _ _ _ _ h1);rw [hbl,ht] at h2;exact h2.rely ⟨r.os,r.tape,r.output,r.size,r.block,r.fresh⟩
end
section
variable {P:Program} {main:Bool} {b:Frame} {a:Act} {k:List Item} {cs:List Frame} {w:World}
theorem QUp {T:TypeId} {ad:Addr} {q:Option Addr} {m c:Nat} {u:Value} {es:Array Event} (hT:Xi P T 1) (hc:w.cell? ad=some u) (hf:w.frozen? ad=false) :
  (Instr.storeAt T (.pointer (some ad)) (.slice q m c)).runT P w es=(.ok () (w.setCell ad (.slice q m c)),es.push ⟨.cell ad,true,false⟩):=by
 unfold Instr.storeAt Instr.sureAddr;simp only [pure_bind];unfold storeVar;refine (Xb (Qje hT)).trans ?_;have h0:ad.add 0=ad:=by rfl
 have e1:(store ad (.slice q m c)).runT P w es=(.ok () (w.setCell ad (.slice q m c)),es.push ⟨.cell ad,true,false⟩):=by
  show (Sem.store .plain ad (.slice q m c) (.pure ())).runT P w es=_
  grind [Sem.runT]
 trivial
theorem QWg {ops:Array Oper} {i:Nat} {rest:List Nat} {o:Oper} {T:TypeId} {x y:Operand} {ad:Addr} {v u:Value} (ho:ops[i]?=some o) (hw:Region.wanted o (yielded ops a.tmps)=true) (hk:b.kind≠.early)
  (hop:o.op=.store T x y) (hdst:o.dst=none) (hT:Xi P T 1) (hx:a.eval x=.pointer (some ad)) (hy:a.eval y=v) (hv:∃ q m c,v=.slice q m c) (hq:(P.funcs[b.fn]?).any (·.norace)=false) (hc:w.cell? ad=some u) (hf:w.frozen? ad=false) :
  stepG P main (G (b.at a (.inRegion ops (i::rest)::k)) cs) w=.go (G (b.at a (.inRegion ops rest::k)) cs) (w.setCell ad v) #[⟨.cell ad,true,false⟩]:=by
 obtain ⟨q,m,c,rfl⟩:=hv;have h2:(execOp a.eval o).runT P w #[]=(.ok .skip (w.setCell ad (.slice q m c)),#[⟨.cell ad,true,false⟩]):=by
  have e0:execOp a.eval o=(Instr.storeAt T (.pointer (some ad)) (.slice q m c) >>= fun _=>Pure.pure Next.skip):=by grind [execOp]
  rw [e0];exact (Xb (QUp hT hc hf)).trans rfl
 rw [Sem.runT_eq] at h2;have hr:(execOp a.eval o).run P w=.ok .skip (w.setCell ad (.slice q m c)):=congrArg Prod.fst h2;have he:(execOp a.eval o).events P w #[]=#[⟨.cell ad,true,false⟩]:=congrArg Prod.snd h2;have hfin:(b.at a (.inRegion ops (i::rest)::k)).finish undef=b.at a (.inRegion ops rest::k):=by grind [Act.put,Frame.finish_at]
 have hk':(b.kind == CallKind.early)=false:=by grind
 have hsn:seen P b.fn #[⟨.cell ad,true,false⟩]=#[⟨.cell ad,true,false⟩]:=by
  grind [seen]
 rw [stepG_oper ho hw,<-hfin];simp_all [stepG.apply,G,Frame.at,GStep.after]
end
end Go.Gw

end
