/- Joined: Llm, Lln, Llo, Rlp. -/
import Derived.Test.YtncbjgblcofddaaGreatDoorQnf
/- lll: what the state holds (plain part of run). -/
