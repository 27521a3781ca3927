/- The law FeedOutages in plain words. No condition. -/
import Derived.Test.YtbplgfhjpeeieaaGwFed37
set_option linter.unusedVariables false
set_option linter.unusedSimpArgs false
set_option linter.unusedSectionVars false
set_option maxRecDepth 4096
namespace Go.Gw
open Go
theorem Qkz {n : FeedNet} (h1 : n.Stations.length < 1000000) (h2 : n.Sections.length < 1000000) (h3 : n.Trains.length < 1000000) (h4 : ∀ t ∈ n.Trains,t.Steps.length < 1000000) : Qgu n n = some true:=by
  unfold Qgu
  have k0 : loop (Qgq n n) 0 = some (.inr ()) :=
    Zu (step:=Qgq n n) (o:=.inr ()) (fun k=>(k : Int)) n.Stations.length (fun k hk=>by
      unfold Qgq
      simp only [XK hk,cond_true,Xy hk,Qv,decide_true,Bool.not_true,cond_false]
      rw [XN k (by omega)]) (by unfold Qgq; simp only [XL,cond_false])
  have k1 : loop (Qgr n n) 0 = some (.inr ()) :=
    Zu (step:=Qgr n n) (o:=.inr ()) (fun k=>(k : Int)) n.Sections.length (fun k hk=>by
      unfold Qgr
      simp only [XK hk,cond_true,Xy hk,Qv,decide_true,Bool.not_true,cond_false]
      rw [XN k (by omega)]) (by unfold Qgr; simp only [XL,cond_false])
  have k2 : ∀ st : List FeedStep,st.length < 1000000 → loop (Qgs st st) 0 = some (.inr ()):=fun st hst =>
    Zu (step:=Qgs st st) (o:=.inr ()) (fun k=>(k : Int)) st.length (fun k hk=>by
      unfold Qgs
      simp only [XK hk,cond_true,Xy hk,Qv,decide_true,Bool.not_true,cond_false]
      rw [XN k (by omega)]) (by unfold Qgs; simp only [XL,cond_false])
  have k3 : loop (Qgt n n) 0 = some (.inr ()) :=
    Zu (step:=Qgt n n) (o:=.inr ()) (fun k=>(k : Int)) n.Trains.length (fun k hk=>by
      unfold Qgt
      simp only [XK hk,cond_true,Xy hk,Qv,decide_true,Bool.not_true,Bool.or_false,cond_false]
      rw [k2 _ (h4 _ (List.getElem_mem hk)),Qv]
      simp only [jn0]
      rw [XN k (by omega)]) (by unfold Qgt; simp only [XL,cond_false])
  simp only [decide_true,Bool.not_true,Bool.or_false,cond_false]
  rw [k0,Qv]
  simp only [jn0]
  rw [k1,Qv]
  simp only [jn0]
  rw [k3]
  rfl
theorem QRa {o : List Int} {l : List FeedSection} (h : ZT o l = none) : ∀ s ∈ l,Qci (YB o s) = false:=fun s hs=>by
  obtain ⟨k,hk,rfl⟩:=List.mem_iff_getElem.1 hs
  unfold ZT at h
  rw [List.findSome?_eq_none_iff] at h
  have:=h k (List.mem_range.2 hk)
  unfold JJ at this
  rw [List.getElem?_eq_getElem hk,Option.getD_some] at this
  cases hq : Qci (YB o l[k]) with
  | false=>rfl
  | true=>rw [hq] at this; cases this
theorem QLk {n : FeedNet} (h : NetOk n) {o : List Int} (hs : ZT o n.Sections = none) : NetOk (Zy n o):=by
  refine ⟨h.st0,h.st6,?_,?_,h.tr6,h.lim,?_,?_⟩
  · show 0 < (n.Sections.map (YB o)).length
    rw [List.length_map]; exact h.se0
  · show (n.Sections.map (YB o)).length ≤ 10
    rw [List.length_map]; exact h.se10
  · intro s hm
    obtain ⟨t,ht,rfl⟩:=List.mem_map.1 (show s ∈ n.Sections.map (YB o) from hm)
    exact (Qzv o (h.sec _ ht)).2 (QRa hs _ ht)
  · intro t ht
    show JM t (n.Sections.map (YB o)).length = 0
    rw [List.length_map]; exact h.tr _ ht
theorem Qxn {n : FeedNet} {l : List FeedDeparture} (h : Rt n l) {o : List Int} (hs : ZT o n.Sections = none) : Rt (Zy n o) l:=by
  refine ⟨QLk h.ne hs,h.tr,h.l6,fun d hd=>?_⟩
  obtain ⟨a,b⟩:=h.ru d hd
  refine ⟨?_,b⟩
  show ZH (n.Sections.map (YB o)).length (Xg n d)
  rw [List.length_map]; exact a
theorem Qzl (n : FeedNet) (o : List Int) : Xg (Zy n o) = Xg n:=rfl
def Qcq (n : FeedNet) (l : List FeedDeparture) (k : Nat) : Option Nat:=match ZT [(k : Int)] n.Sections with | some _=>some k | none=>if (ovR (Zy n [(k : Int)]) (l.map (Xg n))).isSome = true then some k else none
def JY (n : FeedNet) (l : List FeedDeparture) : Option Nat:=(List.range n.Stations.length).findSome? (Qcq n l)
theorem QFu {n : FeedNet} (h : NetS n) (l : List FeedDeparture) : Qiw n l = some (if YR n l ≠ 0 then (0,YR n l) else match JY n l with | some k=>((k : Int),0) | none=>(0,12)):=by
  unfold Qiw
  rw [QNu h,Qv]
  by_cases hb : YR n l = 0
  · have hR:=Qzj h hb
    simp only [hb,ne_eq,not_true_eq_false,if_false,if_true,decide_true,Bool.not_true,cond_false]
    have hst:=h.st
    have key:=J7 (step:=Qfk n (⟨n⟩,l.map (Xg n),0)) (fun k=>(k : Int)) n.Stations.length (Qcq n l) (fun k=>((k : Int),(0 : Int))) () (fun k hk=>by
      unfold Qfk Qcq
      simp only [XK hk,cond_true]
      rw [show feed_net.mk (FeedNet.mk n.Stations n.Sections n.Trains) = feed_net.mk n from rfl,Qth h _ (by simp),Qv]
      cases hsh : ZT [(k : Int)] n.Sections with
      | some a=>rfl
      | none =>
        have hw:=Qxn hR hsh
        have hru:=Qkx hw
        rw [Qzl] at hru
        simp only [Bool.not_true,cond_false]
        rw [show feed_net.mk (FeedNet.mk (Zy n [(k : Int)]).Stations (Zy n [(k : Int)]).Sections (Zy n [(k : Int)]).Trains) = feed_net.mk (Zy n [(k : Int)]) from rfl,QFl hw.ne (by rw [List.length_map]; have:=hR.l6; omega) hru,Qv,Qyt,XN k (by omega)]
        cases (ovR (Zy n [(k : Int)]) (l.map (Xg n))).isSome <;> rfl) (by
      unfold Qfk
      simp only [XL,cond_false])
    have key : loop (Qfk n (⟨n⟩,l.map (Xg n),0)) 0 = _:=key
    rw [key,Qv]
    unfold JY
    cases (List.range n.Stations.length).findSome? (Qcq n l) <;> rfl
  · simp [hb]
theorem QOg {n : FeedNet} {k : Nat} (hk : k < n.Stations.length) : Jl n [(k : Int)] = match ZT [(k : Int)] n.Sections with | some _=>(FeedNet.mk [] [] [],23) | none=>(Zy n [(k : Int)],0):=by
  have : Qbj n [(k : Int)] = none:=by
    unfold Qbj
    rw [List.findSome?_eq_none_iff]
    intro j hj
    have : j = 0:=by have:=List.mem_range.1 hj; simp at this; omega
    subst this
    unfold Qea J5 Qbl
    rw [if_pos rfl,show ([(k : Int)])[0]?.getD 0 = (k : Int) from rfl,if_pos (show (0 : Int) ≤ (k : Int) ∧ (k : Int) ≤ (n.Stations.length : Int) - 1 by omega),if_neg (by simp),if_pos (by omega)]
  unfold Jl
  rw [this]
  cases ZT [(k : Int)] n.Sections <;> rfl
theorem QPo {n : FeedNet} (h : NetS n) {l : List FeedDeparture} (hR : Rt n l) : Qgm n l = some (match JY n l with | some k=>((k : Int),true) | none=>(0,false)):=by
  unfold Qgm
  have hst:=h.st
  have key:=J7 (step:=Qgl l n) (fun k=>(k : Int)) n.Stations.length (Qcq n l) (fun k=>((k : Int),true)) () (fun k hk=>by
    unfold Qgl Qcq
    simp only [XK hk,cond_true]
    rw [Qyx h hR.ne.sec _ (by simp),Qv,QOg hk]
    cases hsh : ZT [(k : Int)] n.Sections with
    | some a=>rfl
    | none =>
      have hw:=Qxn hR hsh
      simp only [decide_true,Bool.not_true,cond_false]
      rw [show FeedNet.mk (Zy n [(k : Int)]).Stations (Zy n [(k : Int)]).Sections (Zy n [(k : Int)]).Trains = Zy n [(k : Int)] from rfl,QPg hw,Qv,Qyt,XN k (by omega)]
      rw [Qzl]
      cases (ovR (Zy n [(k : Int)]) (l.map (Xg n))).isSome <;> rfl) (by
    unfold Qgl
    simp only [XL,cond_false])
  have key : loop (Qgl l n) 0 = _:=key
  rw [key,Qv]
  unfold JY
  cases (List.range n.Stations.length).findSome? (Qcq n l) <;> rfl
theorem QOh {n : FeedNet} (h : NetS n) (o : List Int) : Qgu (Jl n o).1 (Jl n o).1 = some true:=by
  have h1:=h.st
  have h2:=h.se
  have h3:=h.tr
  unfold Jl
  cases Qbj n o with
  | some e=>exact Qkz (by simp) (by simp) (by simp) (by simp)
  | none =>
    cases ZT o n.Sections with
    | some a=>exact Qkz (by simp) (by simp) (by simp) (by simp)
    | none=>exact Qkz (by show n.Stations.length < _; omega) (by show (n.Sections.map (YB o)).length < _; rw [List.length_map]; omega) (by show n.Trains.length < _; omega) (fun t ht=>by have:=(h.tn t ht).2; omega)
theorem QCk (n : FeedNet) (l : List FeedDeparture) (o : List Int) : Qpd n l o = some true:=by
  unfold Qpd
  rw [QDc,Qv]
  simp only [Bool.not_true,cond_false]
  rw [QKa,Qv]
  cases hf : Qga n with
  | false=>rfl
  | true =>
    simp only [Bool.not_true,Bool.not_false,cond_true]
    rw [QQz,Qv]
    cases hs : Qha l with
    | false=>rfl
    | true =>
      simp only [Bool.not_true,Bool.or_false,Bool.false_or]
      by_cases h8 : (8 : Int) < (o.length : Int)
      · rw [decide_eq_true h8]; rfl
      · rw [decide_eq_false h8]
        have h:=QJz hf
        have hl:=QQy hs
        simp only [cond_false]
        rw [Qsv h]
        simp only [Qv]
        unfold Qmr
        rw [QCz (by simp; omega),Qv,Qv,List.nil_append,QFj h o (by omega),Qv,QEc l (by omega),Qv,QFu h,Qv,QPd h,Qv]
        have fin : (Option.bind (Qgi n l) fun r345=>(bif (!decide (r345 = 0)) then some ((decide ((if YR n l ≠ 0 then (0,YR n l) else match JY n l with | some k=>((k : Int),(0 : Int)) | none=>(0,12)).2 = r345)) && (decide ((if YR n l ≠ 0 then (0,YR n l) else match JY n l with | some k=>((k : Int),(0 : Int)) | none=>(0,12)).1 = 0))) else (Option.bind (Qgm n l) fun r356=>(bif r356.2 then some ((decide ((if YR n l ≠ 0 then (0,YR n l) else match JY n l with | some k=>((k : Int),(0 : Int)) | none=>(0,12)).2 = 0)) && (decide ((if YR n l ≠ 0 then (0,YR n l) else match JY n l with | some k=>((k : Int),(0 : Int)) | none=>(0,12)).1 = r356.1))) else some ((decide ((if YR n l ≠ 0 then (0,YR n l) else match JY n l with | some k=>((k : Int),(0 : Int)) | none=>(0,12)).2 = 12)) && (decide ((if YR n l ≠ 0 then (0,YR n l) else match JY n l with | some k=>((k : Int),(0 : Int)) | none=>(0,12)).1 = 0))))))) = some true:=by
          rw [QOx h,Qv]
          by_cases hb : YR n l = 0
          · have hR:=Qzj h hb
            rw [QPo h hR]
            simp only [hb,ne_eq,not_true_eq_false,if_false,decide_true,Bool.not_true,cond_false,Qv]
            cases JY n l <;> simp
          · simp [hb]
        by_cases h0 : (Zg n).2 = 0
        · simp only [h0,ne_eq,not_true_eq_false,if_false,decide_true,cond_true]
          rw [Qyx h (Qjr h0).sec o (by omega)]
          simp only [Qv,decide_true,Bool.not_true,Bool.not_false,cond_true]
          rw [show FeedNet.mk (Jl n o).1.Stations (Jl n o).1.Sections (Jl n o).1.Trains = (Jl n o).1 from rfl,QOh h,Qv]
          simp only [Bool.not_true,Bool.or_false,cond_false]
          exact fin
        · simp only [h0,ne_eq,not_false_eq_true,if_true,decide_false,cond_false,Qv,decide_true,Bool.not_true,Bool.not_false,cond_true]
          rw [Qkz (n:=FeedNet.mk [] [] []) (by simp) (by simp) (by simp) (by simp),Qv]
          simp only [Bool.not_true,Bool.or_false,cond_false]
          exact fin
end Go.Gw
